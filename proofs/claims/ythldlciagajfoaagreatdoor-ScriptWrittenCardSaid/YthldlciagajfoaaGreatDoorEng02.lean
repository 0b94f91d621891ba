/- What the seat's proofs lean on, part 2: the executor over abstract values, its soundness, and what the program's functions answer (Eng13, Eng14, Eng15, Eng16, Eng17, Eng18, Eng19). -/
import Derived.Test.YthldlciagajfoaaGreatDoorEng01
import Derived.RangeFuncCalls
import Derived.OrdersIn
set_option linter.all false
set_option linter.unusedVariables false
set_option linter.unusedSimpArgs false
set_option maxRecDepth 100000
namespace Go.Eng
open Go
section
variable {P:Program} {tt:TT} {p:PQ} {σ:List Nat} {s:St} {a:Act} {w:World} {ro:Option Nat} {n:Nat} {o:Oper} {Q:Exit→Act→World→Prop} {next:Act→World→Prop} {K:AV→Heap→Prop}
theorem callsIn_of {f:FuncId} {args:Array Value} {R:Ending→World→Prop} (h:Calls P f args w R):CallsIn (Fr ro) n P f args w R:=by
 have h1:CallsIn Fence.wide n P f args w R:=callsIn_wide.2 h
 cases ro with
 |none=>exact h1
 |some l=>exact CallsIn.inRound l h1
theorem enter_run {g:FuncId} {args:Array Value} (h:Ent P g):(callFunc g args).run P w=.ok (.enter g args) w:=by
 obtain ⟨fn,h1,h2,h3⟩:=h
 have h3': ¬fn.name= "runtime.NumGoroutine" :=by simpa using h3
 have h2': ¬fn.body=none:=fun e=>by rw[e] at h2;simp at h2
 simp[callFunc,h1,h2',h3']
theorem tri_up (hR:Rel p σ s a w) (hN:Nx p σ w K o a next) {g:FuncId} {as_:List AV} {vs:Array Value} (h1:vs.size=as_.length)
  (h2: ∀(i:Nat) (x:AV) (v:Value),as_[i]? =some x→vs[i]? =some v→VRel p σ w x v) (hT:Tri P g as_ s.H K)
  (hr:(execOp a.eval o).run P w=(callFunc g vs).run P w):o.uponIn (Fr ro) n P a next Q ((execOp a.eval o).run P w):=by
 rw[Tri_eq] at hT
 obtain ⟨he,hT⟩:=hT
 rw[hr,enter_run he]
 refine⟨fun h=>by simp[Fr,Fence.wide] at h,callsIn_of ((hT p σ w vs hR.heap h1 h2).mono ?_)⟩
 rintro e w' ⟨v,x,p',σ',H',rfl,hex,hm,hH,hv,hk⟩
 exact hN v x w' p' σ' H' hex hm hv hH hk
theorem append_get {α:Type} (xs ys:Array α) (i:Nat):(xs++ys)[i]? =if i<xs.size then xs[i]? else ys[i-xs.size]? :=by
 by_cases h:i<xs.size
 ·rw[if_pos h,Array.getElem?_append_left h]
 ·rw[if_neg h,Array.getElem?_append_right (by omega)]
theorem append_getL {α:Type} (xs ys:List α) (i:Nat):(xs++ys)[i]? =if i<xs.length then xs[i]? else ys[i-xs.length]? :=by
 by_cases h:i<xs.length
 ·rw[if_pos h,List.getElem?_append_left h]
 ·rw[if_neg h,List.getElem?_append_right (by omega)]
theorem rel_append {xs ys:List AV} {us vs:Array Value} (h1:us.size=xs.length) (h2: ∀(i:Nat) (x:AV) (v:Value),xs[i]? =some x→us[i]? =some v→VRel p σ w x v)
  (h3:vs.size=ys.length) (h4: ∀(i:Nat) (x:AV) (v:Value),ys[i]? =some x→vs[i]? =some v→VRel p σ w x v):
  (us++vs).size=(xs++ys).length∧ ∀(i:Nat) (x:AV) (v:Value),(xs++ys)[i]? =some x→(us++vs)[i]? =some v→VRel p σ w x v:=by
 refine⟨by simp[h1,h3],fun i x v hx hv=>?_⟩
 rw[append_getL] at hx
 rw[append_get,h1] at hv
 split at hx
 ·rename_i h;rw[if_pos h] at hv;exact h2 i x v hx hv
 ·rename_i h;rw[if_neg h] at hv;exact h4 _ x v hx hv
theorem roundIn_any {l:Nat} {f:FuncId} {tmps:Array Value} {assign body:Code} {R:Ending→World→Prop} (h:RoundIn Fence.wide 0 P l f tmps assign body w R):RoundIn (Fr ro) n P l f tmps assign body w R:=
 ⟨trivial,fun c cs _=>h.2 c cs (room_wide _)⟩
theorem yield_up (hR:Rel p σ s a w) (hN:Nx p σ w K o a next) {l:Nat} {as_:List AV} {vs:Array Value} (h1:vs.size=as_.length)
  (h2: ∀(i:Nat) (x:AV) (v:Value),as_[i]? =some x→vs[i]? =some v→VRel p σ w x v) (hT:YieldK P l as_ s.H K)
  (hr:(execOp a.eval o).run P w=(Instr.yield l vs).run P w):o.uponIn (Fr ro) n P a next Q ((execOp a.eval o).run P w):=by
 simp only[YieldK_eq] at hT
 obtain ⟨i,Y,k,x,g1,rfl,g3,g4,rfl,g6,g7,g8⟩:=hT
 obtain ⟨r,b1,b2,b3,b4⟩:=hR.heap.blk i _ g1
 obtain ⟨rfl,hI⟩:=b4
 obtain ⟨f,tmps,assign,body,hrun,hround⟩:=g3 k x vs p σ w hI g6 ⟨h1,h2⟩ hR.heap.lt b2 b3
 rw[hr,hrun]
 refine⟨fun h=>by simp[Fr,Fence.wide] at h,roundIn_any (hround.mono ?_)⟩
 rintro e w' ⟨b,rfl,c1,c2,c3,c4⟩
 have hlt:=hR.heap.lt
 have hex:Ext p w (grow p w w') w':=⟨fun _ h=>h,fun _ h=>.inl h,fun _ h=>.inl h,fun _ h=>.inl h,fun b h=>h.imp id fun h hu=>by have:=hlt b hu;omega,fun b hb hf=>c3 b (hlt b hb) hf (fun e=>b2 (e▸hb)),c4⟩
 have hset: ∀nb:Blk,BRel (grow p w w') σ w' nb Y.l→HRel (grow p w w') σ (s.H.set i (some nb)) w':=fun nb hnb=>by
  have old: ∀(j:Nat) (q:Blk),(s.H.set i (some nb))[j]? =some (some q)→(j=i∧q=nb)∨(j≠i∧s.H[j]? =some (some q)):=fun j q hq=>by
   by_cases hj:j=i
   ·subst hj
    rw[List.getElem?_set_self (List.getElem?_eq_some_iff.1 g1).1] at hq
    simp at hq
    exact .inl ⟨rfl,hq.symm⟩
   ·rw[List.getElem?_set_ne (fun e=>hj e.symm)] at hq
    exact .inr ⟨hj,hq⟩
  have some_old: ∀(j:Nat) (q:Blk),(s.H.set i (some nb))[j]? =some (some q)→ ∃q',s.H[j]? =some (some q'):=fun j q hq=>(old j q hq).elim (fun h=>h.1▸⟨_,g1⟩) fun h=>⟨q,h.2⟩
  refine⟨by simp[hR.heap.len],fun b hb=>hb.elim (fun h=>Nat.lt_of_lt_of_le (hlt b h) c4.1) fun h=>h.2.1,fun j q hq=>?_,fun j j2 r q q2 hq hq2 hr hr2=>?_,hR.heap.gl.ext hex⟩
  ·rcases old j q hq with ⟨rfl,rfl⟩|⟨hj,hq'⟩
   ·exact⟨Y.l,b1,fun hu=>hu.elim b2 fun h=>by omega,Nat.lt_of_lt_of_le b3 c4.1,hnb⟩
   ·obtain ⟨r,d1,d2,d3,d4⟩:=hR.heap.blk j q hq'
    have hne:r≠Y.l:=fun e=>hj (hR.heap.inj j i r q _ hq' g1 d1 (e▸b1))
    refine⟨r,d1,fun hu=>hu.elim d2 fun h=>by omega,Nat.lt_of_lt_of_le d3 c4.1,d4.mono hex (fun _ _ h=>h) (c3 r d3 (fun h=>d2 (p.fu r h)) hne) fun hy=>?_⟩
    have:=noYx_get g4 hq' (by simpa using hj)
    rw[this] at hy
    simp at hy
  ·obtain ⟨q',e1⟩:=some_old j q hq
   obtain ⟨q2',e2⟩:=some_old j2 q2 hq2
   exact hR.heap.inj j j2 r q' q2' e1 e2 hr hr2
 cases b with
 |true=>exact hN (.bool true) _ w' _ σ _ hex (.refl σ) (.bool true) (hset (.yl Y (k+1)) ⟨rfl,c1 rfl⟩) g7
 |false=>exact hN (.bool false) _ w' _ σ _ hex (.refl σ) (.bool false) (hset (.yz Y) ⟨rfl,c2 rfl⟩) g8
theorem snd_call (hT:TTok P tt) (hR:Rel p σ s a w) (hN:Nx p σ w K o a next) {c:Call} (hop:o.op=.call c) (hK:callK P tt c (get s.ρ) s.H K):
  o.uponIn (Fr ro) n P a next Q ((execOp a.eval o).run P w):=by
 obtain ⟨ha1,ha2⟩:=args_rel hR c.args
 unfold callK at hK
 split at hK
 ·rename_i f hc
  have hf:=evalO_rel hR f
  split at hK
  ·rename_i g hb
   rw[hb] at hf
   generalize hv:a.eval f=v at hf
   cases hf with
   |fn _=>
   rw[forceL_eq] at hK
   refine tri_up hR hN ha1 ha2 hK ?_
   simp[execOp,hop,resolve,hc,hv,Deferred.ofValue,invoke]
  ·rename_i fn fs cs hb
   rw[hb] at hf
   generalize hv:a.eval f=v at hf
   cases hf with
   |clos _ _ _ fs' cs' h1 h2 h3 h4=>
   split at hK
   ·rename_i g
    rw[forceL_eq] at hK
    obtain ⟨q1,q2⟩:=rel_append h1 h3 ha1 ha2
    obtain ⟨r1,r2⟩:=rel_append q1 q2 h2 h4
    refine tri_up hR hN r1 r2 hK ?_
    simp[execOp,hop,resolve,hc,hv,Deferred.ofValue,invoke]
   ·rename_i l
    split at hK
    ·rw[forceL_eq] at hK
     have e1:fs'= #[]:=Array.size_eq_zero_iff.1 h1
     have e2:cs'= #[]:=Array.size_eq_zero_iff.1 h2
     subst e1 e2
     refine yield_up hR hN ha1 ha2 hK ?_
     simp[execOp,hop,resolve,hc,hv,Deferred.ofValue,invoke]
    ·exact hK.elim
   ·exact hK.elim
  ·exact hK.elim
 ·rename_i b hc
  have hrun: ∀{S:Sem Value},(∀ cs,builtin b c.argTypes o.type cs (c.args.map a.eval)=(do pure (.value (← S))))→ ∀{r w'},S.run P w=.ok r w'→
    (execOp a.eval o).run P w=.ok (.value r) w':=fun {S} h {r w'} hr=>by
   simp only[execOp,hop,resolve,hc,Sem.run_bind,Sem.run_pure,Result.andThen_ok,invoke]
   rw[h]
   simp[hr]
  split at hK
  ·
   split at hK
   ·rename_i t ts x r ht hm
    obtain ⟨v,hv1,hv2⟩:=arg_at hR hm
    have ht0:c.argTypes[0]? =some t:=by rw[← Array.getElem?_toList,ht];rfl
    split at hK
    ·rename_i ti hti
     obtain ⟨rr,z,e1,e2,e3⟩:=len_run (ts:= #[]) (ty:=o.type) hT hti hv2 ht0 hv1 hK
     exact up_pure hR hN (hrun (fun _=>rfl) e1) e2 e3
    ·exact hK.elim
   ·exact hK.elim
  ·
   split at hK
   ·rename_i x r hm
    obtain ⟨v,hv1,hv2⟩:=arg_at hR hm
    have hl:(c.args.map a.eval).toList=v::(c.args.map a.eval).toList.tail:=by
     cases h:(c.args.map a.eval).toList with
     |nil=>rw[← Array.getElem?_toList,h] at hv1;simp at hv1
     |cons y t=>rw[← Array.getElem?_toList,h] at hv1;simp at hv1;simp[hv1]
    obtain ⟨rr,z,e1,e2,e3⟩:=mm_run (P:=P) false r x v (c.args.map a.eval).toList.tail _ hv2 (by
      have:=ha1
      rw[hm] at this
      simp at this⊢
      omega) (fun i y u hy hu=>ha2 (i+1) y u (by rw[hm];simpa using hy) (by rw[← Array.getElem?_toList,hl];simpa using hu)) hK
    refine up_pure hR hN (hrun (S:=Builtin.min_ c.argTypes o.type (c.args.map a.eval)) (fun _=>rfl) ?_) e2 e3
    unfold Builtin.min_
    rw[hl]
    simpa using e1
   ·exact hK.elim
  ·
   split at hK
   ·rename_i x r hm
    obtain ⟨v,hv1,hv2⟩:=arg_at hR hm
    have hl:(c.args.map a.eval).toList=v::(c.args.map a.eval).toList.tail:=by
     cases h:(c.args.map a.eval).toList with
     |nil=>rw[← Array.getElem?_toList,h] at hv1;simp at hv1
     |cons y t=>rw[← Array.getElem?_toList,h] at hv1;simp at hv1;simp[hv1]
    obtain ⟨rr,z,e1,e2,e3⟩:=mm_run (P:=P) true r x v (c.args.map a.eval).toList.tail _ hv2 (by
      have:=ha1
      rw[hm] at this
      simp at this⊢
      omega) (fun i y u hy hu=>ha2 (i+1) y u (by rw[hm];simpa using hy) (by rw[← Array.getElem?_toList,hl];simpa using hu)) hK
    refine up_pure hR hN (hrun (S:=Builtin.max_ c.argTypes o.type (c.args.map a.eval)) (fun _=>rfl) ?_) e2 e3
    unfold Builtin.max_
    rw[hl]
    simpa using e1
   ·exact hK.elim
  ·
   split at hK
   ·rename_i t u ts x y r ht hm
    obtain ⟨v,hv1,hv2⟩:=arg_at hR hm
    obtain ⟨v',hv3,hv4⟩:=arg_at1 hR hm
    have ht0:c.argTypes[0]? =some t:=by rw[← Array.getElem?_toList,ht];rfl
    have ht1:c.argTypes[1]? =some u:=by rw[← Array.getElem?_toList,ht];rfl
    split at hK
    ·rename_i ti ui hti hui
     split at hK
     ·rename_i e e2 hk1 hk2
      split at hK
      ·rename_i ei hei
       rcases Ch_e hK with hK|hK
       ·obtain ⟨rr,z,w',σ',H',e1,e2,e3,e4,e5,e6⟩:=app_run (ty:=o.type) hT hR.heap hti hk1 hui (.inl ⟨_,hk2⟩) hei hv2 hv4 ht0 ht1 hv1 hv3 hK
        exact up_val (hrun (fun _=>rfl) e1) (hN _ _ _ p σ' H' e2 e3 e4 e5 e6)
       ·obtain ⟨rr,z,w',p',e1,e2,e3,e4,e5⟩:=appD_run (ty:=o.type) hT hR.heap hti hk1 hui (.inl ⟨_,hk2⟩) hei hv2 hv4 ht0 ht1 hv1 hv3 hK
        exact up_val (hrun (fun _=>rfl) e1) (hN _ _ _ p' σ s.H e2 (.refl σ) e3 e4 e5)
      ·exact hK.elim
     ·rename_i e hk1 hk2
      split at hK
      ·rename_i ei hei
       obtain ⟨rr,z,w',σ',H',e1,e2,e3,e4,e5,e6⟩:=appS_run (ty:=o.type) hT hR.heap hti hk1 hui (.inr hk2) hei hv2 hv4 ht0 ht1 hv1 hv3 hK
       exact up_val (hrun (fun _=>rfl) e1) (hN _ _ _ p σ' H' e2 e3 e4 e5 e6)
      ·exact hK.elim
     ·exact hK.elim
    ·exact hK.elim
   ·exact hK.elim
  ·
   split at hK
   ·rename_i t ts x r ht hm
    obtain ⟨v,hv1,hv2⟩:=arg_at hR hm
    have ht0:c.argTypes[0]? =some t:=by rw[← Array.getElem?_toList,ht];rfl
    split at hK
    ·rename_i ti hti
     split at hK
     ·rename_i e hk
      have hund:=und_slice hT hti hk
      split at hK
      ·cases hv2
       exact up_pure hR hN (hrun (S:=Builtin.clear_ c.argTypes o.type (c.args.map a.eval)) (fun _=>rfl) (r:=.tuple #[]) (by simp[Builtin.clear_,ht0,hv1,run_under hund])) (.any _) hK
      ·cases hv2
       exact up_pure hR hN (hrun (S:=Builtin.clear_ c.argTypes o.type (c.args.map a.eval)) (fun _=>rfl) (r:=.tuple #[]) (by cases ‹Option Addr› <;> simp[Builtin.clear_,ht0,hv1,run_under hund])) (.any _) hK
      ·split at hK
       ·rename_i ei hei
        split at hK
        ·rename_i cs hcs
         simp only[Br] at hK
         split at hK
         ·rename_i hsz
          have hsz:=Nat.eq_of_beq_eq_true hsz
          simp only[NeedK_eq] at hK
          obtain ⟨hle,hK⟩:=hK
          rw[setK_eq] at hK
          obtain ⟨w',e1,e2,e3⟩:=clear_run (ty:=o.type) hT hR.heap hti hk hei hv2 ht0 hv1 hcs hsz hle
          exact up_val (hrun (fun _=>rfl) e1) (hN _ .any _ p σ _ e2 (.refl σ) (.any _) e3 hK)
         ·exact hK.elim
        ·exact hK.elim
       ·exact hK.elim
      ·exact hK.elim
     ·exact hK.elim
    ·exact hK.elim
   ·exact hK.elim
  ·
   split at hK
   ·rename_i t ts m k r ht hm
    obtain ⟨v,hv1,hv2⟩:=arg_at hR hm
    obtain ⟨v',hv3,hv4⟩:=arg_at1 hR hm
    have ht0:c.argTypes[0]? =some t:=by rw[← Array.getElem?_toList,ht];rfl
    split at hK
    ·rename_i ti hti
     split at hK
     ·rename_i kt et hk
      split at hK
      ·exact hK.elim
      rename_i ki hki
      split at hK
      ·exact hK.elim
      rename_i hki2
      split at hK
      ·rename_i b
       cases hv2 with
       |mp _ r0 hr0=>
       split at hK
       ·exact hK.elim
       rename_i ks vs hmo
       split at hK
       ·rename_i nn
        cases hv4
        rw[setK_eq] at hK
        obtain ⟨w',e1,e2,e3⟩:=del_run (ty:=o.type) hR.heap hmo hr0 (map_und hT hti hk) (key_int hT hki hki2) nn ht0 hv1 hv3
        exact up_val (hrun (fun _=>rfl) e1) (hN _ .any _ p σ _ e2 (.refl σ) (.any _) e3 hK)
       ·exact hK.elim
      ·exact hK.elim
     ·exact hK.elim
    ·exact hK.elim
   ·exact hK.elim
  ·
   split at hK
   ·rename_i t ts x r ht hm
    obtain ⟨v,hv1,hv2⟩:=arg_at hR hm
    have ht0:c.argTypes[0]? =some t:=by rw[← Array.getElem?_toList,ht];rfl
    split at hK
    ·rename_i ti hti
     split at hK
     ·rename_i e hk
      have hund:=und_slice hT hti hk
      split at hK
      ·cases hv2
       exact up_pure hR hN (hrun (S:=Builtin.cap_ c.argTypes o.type (c.args.map a.eval)) (fun _=>rfl) (r:=.int .i64 0) (by simp[Builtin.cap_,ht0,hv1,run_under hund];rfl)) (.int _ _) hK
      ·exact hK.elim
     ·exact hK.elim
    ·exact hK.elim
   ·exact hK.elim
  ·exact hK.elim
 ·exact hK.elim
theorem opK_sound (hT:TTok P tt) (hR:Rel p σ s a w) (hN:Nx p σ w K o a next) (hK:opK P tt o.op (get s.ρ) s.H K):
  o.uponIn (Fr ro) n P a next Q ((o.semAt (Fr ro).round a.eval).run P w):=by
 have hsem:(∀ c,o.op≠.defer c)→Oper.semAt (Fr ro).round a.eval o=execOp a.eval o:=Oper.semAt_eq _ _ _
 cases hop:o.op <;> rw[hop] at hK <;> (try (exact hK.elim)) <;> (rw [hsem (by rw[hop];simp)])
 ·exact snd_move hR hN (.inl hop) hK
 ·exact snd_move hR hN (.inr hop) hK
 ·exact snd_pick hR hN hop hK
 ·exact snd_alloc hT hR hN hop hK
 ·exact snd_box hR hN hop hK
 ·exact snd_build hT hR hN hop hK
 ·exact snd_buildSlice hT hR hN hop hK
 ·exact snd_mapUpd hT hR hN (.inr hop) hK
 ·exact snd_load hT hR hN hop hK
 ·exact snd_store hT hR hN hop hK
 ·exact snd_nilCheck hR hN hop hK
 ·exact snd_bin hT hR hN hop hK
 ·exact snd_un hR hN hop hK
 ·exact snd_conv hT hR hN hop hK
 ·exact snd_func hR hN hop hK
 ·exact snd_makeMap hT hR hN hop hK
 ·exact snd_slice hT hR hN hop hK
 ·exact snd_fieldAddr hT hR hN hop hK
 ·exact snd_field hT hR hN hop hK
 ·exact snd_indexAddr hT hR hN hop hK
 ·exact snd_index hT hR hN hop hK
 ·exact snd_lookup hT hR hN hop hK
 ·exact snd_mapUpd hT hR hN (.inl hop) hK
 ·exact snd_range hT hR hN hop hK
 ·exact snd_next hR hN hop hK
 ·exact snd_extract hR hN hop hK
 ·exact snd_call hT hR hN hop hK
end
end Go.Eng
namespace Go.Eng
open Go
def putK (s:St) (dst:Option Tmp) (v:AV) (H':Heap) (K:St→Prop):Prop:=
 match s with
 |⟨ρ,n,_,m,df⟩=>match dst with
  |none=>K ⟨ρ,n,H',m,df⟩
  |some d=>match Nat.blt d n with
   |true=>K ⟨(d,v)::ρ,n,H',m,df⟩
   |false=>False
def stepI (P:Program) (tt:TT) (ops:Array Oper) (i:Nat) (ih:St→(St→Prop)→Prop) (s:St) (K:St→Prop):Prop:=
 match s with
 |⟨ρ,n,H,m,df⟩=>match ops[i]? with
   |none=>False
   |some o=>match o.guard with
    |none=>opK P tt o.op (get ρ) H fun v H'=>putK ⟨ρ,n,H,m,df⟩ o.dst v H' fun s'=>ih s' K
    |some (j,want)=>match (ops[j]?).bind (·.dst) with
     |none=>False
     |some t=>match get ρ t with
      |.d (.bool b)=>match want with
       |true=>Br b (opK P tt o.op (get ((t,.d (.bool true))::ρ)) H fun v H'=>putK ⟨(t,.d (.bool true))::ρ,n,H,m,df⟩ o.dst v H' fun s'=>ih s' K)
         (putK ⟨(t,.d (.bool false))::ρ,n,H,m,df⟩ o.dst (.tup []) H fun s'=>ih s' K)
       |false=>Br b (putK ⟨(t,.d (.bool true))::ρ,n,H,m,df⟩ o.dst (.tup []) H fun s'=>ih s' K)
         (opK P tt o.op (get ((t,.d (.bool false))::ρ)) H fun v H'=>putK ⟨(t,.d (.bool false))::ρ,n,H,m,df⟩ o.dst v H' fun s'=>ih s' K)
      |.tup vs=>match vs with
       |[]=>putK ⟨ρ,n,H,m,df⟩ o.dst (.tup []) H fun s'=>ih s' K
       |_=>False
      |_=>False
def nilKI (s:St) (K:St→Prop):Prop:=match s with|⟨ρ,n,H,m,df⟩=>K ⟨ρ,n,H,m,df⟩
def awpIdx (P:Program) (tt:TT) (ops:Array Oper) (l:List Nat):St→(St→Prop)→Prop:=
 @List.rec Nat (fun _=>St→(St→Prop)→Prop) nilKI (fun i _ ih=>stepI P tt ops i ih) l
theorem awpIdx_nil (P:Program) (tt:TT) (ops:Array Oper) (s:St) (K:St→Prop):awpIdx P tt ops [] s K=K s:=rfl
theorem awpIdx_cons (P:Program) (tt:TT) (ops:Array Oper) (i:Nat) (r:List Nat) (s:St) (K:St→Prop):awpIdx P tt ops (i::r) s K=stepI P tt ops i (awpIdx P tt ops r) s K:=rfl
inductive AEx where
 |normal|exit (id:Nat)|goto (l:Nat)|ret
def exR:AEx→Exit
 |.normal=>.normal
 |.exit i=>.exit i
 |.goto l=>.goto l
 |.ret=>.ret
def Post (p:PQ) (w:World) (σ:List Nat) (s:St) (Q:AEx→St→Prop):Exit→Act→World→Prop:=
 fun e a' w'=> ∃ae p' σ' s',e=exR ae∧Ext p w p' w'∧(∀ i,i<s.m→σ'[i]? =σ[i]?)∧Rel p' σ' s' a' w'∧s'.m=s.m∧s'.n=s.n∧Q ae s'
structure W (P:Program) (ro:Option Nat) (c:Code) (Q:AEx→St→Prop) (s:St):Prop where
 out:
 ∀(p:PQ) (σ:List Nat) (a:Act) (w:World),Rel p σ s a w→c.wpIn (Fr ro) 0 P (Post p w σ s Q) a w
theorem W_eq (P:Program) (ro:Option Nat) (c:Code) (Q:AEx→St→Prop) (s:St):W P ro c Q s=(∀ (p:PQ) (σ:List Nat) (a:Act) (w:World),Rel p σ s a w→c.wpIn (Fr ro) 0 P (Post p w σ s Q) a w):=propext ⟨fun h=>h.out,fun h=>⟨h⟩⟩
noncomputable def idxs (l:List Oper):Nat→List Nat:=@List.rec Oper (fun _=>Nat→List Nat) (fun _=>[]) (fun _ _ ih i=>i::ih (i+1)) l
theorem idxs_cons (a:Oper) (t:List Oper) (i:Nat):idxs (a::t) i=i::idxs t (i+1):=rfl
theorem idxs_range (l:List Oper): ∀i,idxs l i=List.range' i l.length:=by
 induction l with
 |nil=>intro i;rfl
 |cons a t ih=>intro i;rw[idxs_cons,ih,List.length_cons,List.range'_succ]
theorem idxs_eq (ops:Array Oper):idxs ops.toList 0=List.range ops.size:=by
 rw[idxs_range,List.range_eq_range'];simp
def seqQ (F:(AEx→St→Prop)→St→Prop) (Q:AEx→St→Prop) (e:AEx) (s':St):Prop:=
 match e with
 |.normal=>F Q s'
 |.exit i=>Q (.exit i) s'
 |.goto l=>Q (.goto l) s'
 |.ret=>Q .ret s'
def blkQ (id:Nat) (Q:AEx→St→Prop) (e:AEx) (s':St):Prop:=
 match e with
 |.normal=>Q .normal s'
 |.exit i=>match Nat.beq i id with
  |true=>Q .normal s'
  |false=>Q (.exit i) s'
 |.goto l=>Q (.goto l) s'
 |.ret=>Q .ret s'
def isDf (o:Op):Bool:=match o with|.defer _=>true|_=>false
def hasDf:List Oper→Bool
 |[]=>false
 |o::t=>match isDf o.op with
  |true=>true
  |false=>hasDf t
def awp (P:Program) (tt:TT) (ro:Option Nat) (c:Code) (Q:AEx→St→Prop) (s:St):Prop:=
 match c with
 |.skip=>Q .normal s
 |.region id ops draw=>match draw with
  |false=>match hasDf ops.toList with
   |false=>awpIdx P tt ops (idxs ops.toList 0) s (Q .normal)
   |true=>W P ro (.region id ops false) Q s
  |true=>W P ro (.region id ops true) Q s
 |.seq a b=>awp P tt ro a (seqQ (fun Q' s'=>awp P tt ro b Q' s') Q) s
 |.cond c a b=>match evalO (get s.ρ) c with
  |.d (.bool t)=>Br t (awp P tt ro a Q s) (awp P tt ro b Q s)
  |_=>False
 |.block id c=>awp P tt ro c (blkQ id Q) s
 |.loop c=>W P ro (.loop c) Q s
 |.rangeFunc f ps a b=>W P ro (.rangeFunc f ps a b) Q s
 |.exit i=>Q (.exit i) s
 |.scope c=>W P ro (.scope c) Q s
 |.label _=>Q .normal s
 |.goto l=>Q (.goto l) s
 |.ret=>Q .ret s
 |.refuse _=>False
section
variable {P:Program} {tt:TT} {p:PQ} {σ:List Nat} {s:St} {a:Act} {w:World} {ro:Option Nat} {n:Nat}
theorem DRel.mono {σ σ':List Nat} (h:Mono σ σ'): ∀(df:List DF) (ds:List Deferred),DRel σ df ds→DRel σ' df ds:=by
 intro df
 induction df with
 |nil=>intro ds hd;cases ds <;> simp_all [DRel]
 |cons b t ih=>
  intro ds hd
  cases ds with
  |nil=>cases b <;> simp[DRel] at hd
  |cons d ds=>
   cases b with
   |mk b=>
    obtain ⟨⟨r,h1,h2⟩,h3⟩:=hd
    exact⟨⟨r,h _ _ h1,h2⟩,ih _ h3⟩
   |fn g caps=>
    obtain ⟨⟨cs,h1,h2,h4⟩,h3⟩:=hd
    refine⟨⟨cs,h1,h2,fun i x v hx hv=>?_⟩,ih _ h3⟩
    obtain ⟨r,g1,g2⟩:=h4 i x v hx hv
    exact⟨r,h _ _ g1,g2⟩
theorem mono_m {σ σ':List Nat} (h:Mono σ σ') {H:Heap} {w:World} {p:PQ} (hH:HRel p σ H w) {m:Nat} (hm:m≤H.length): ∀i,i<m→σ'[i]? =σ[i]? :=fun i hi=>by
 have hlt:i<σ.length:=by rw[hH.len];omega
 have:σ[i]? =some (σ[i]'hlt):=List.getElem?_eq_getElem hlt
 rw[this]
 exact h i _ this
theorem put_rel (hR:Rel p σ s a w) {p':PQ} {σ':List Nat} {w':World} {H':Heap} (he:Ext p w p' w') (hm:Mono σ σ') {x:AV} {v:Value} (hv:VRel p' σ' w' x v) (hH:HRel p' σ' H' w')
  {dst:Option Tmp} {K:St→Prop} (hK:putK s dst x H' K): ∃s',Rel p' σ' s' (a.put dst v) w'∧s'.m=s.m∧s'.n=s.n∧K s':=by
 have hm':s.m≤H'.length:=by
  have h1:s.H.length≤H'.length:=by
   rw[← hR.heap.len,←hH.len]
   rcases Nat.lt_or_ge σ'.length σ.length with h|h
   ·exfalso
    have:σ[σ'.length]? =some (σ[σ'.length]'h):=List.getElem?_eq_getElem h
    have:=(List.getElem?_eq_some_iff.1 (hm _ _ this)).1
    omega
   ·exact h
  exact Nat.le_trans hR.m h1
 obtain ⟨ρ,n0,H0,m0,df0⟩:=s
 unfold putK at hK
 simp only at hK
 split at hK
 ·refine⟨⟨ρ,n0,H',m0,df0⟩,⟨hR.size,DRel.mono hm _ _ hR.df,fun t=>(hR.env t).mono he hm,hH,hm'⟩,rfl,rfl,hK⟩
 ·rename_i d
  split at hK
  ·rename_i hd
   have hd:d<n0:=by simpa [Nat.blt_eq] using hd
   refine⟨⟨(d,x)::ρ,n0,H',m0,df0⟩,⟨by simp[Act.put,hR.size],DRel.mono hm _ _ hR.df,fun t=>?_,hH,hm'⟩,rfl,rfl,hK⟩
   simp only[get,Act.put]
   by_cases ht:d=t
   ·subst ht
    have:Nat.beq d d=true:=Nat.beq_refl d
    rw[this]
    simp only[cond_true]
    have hlt:d<a.tmps.size:=by rw[hR.size];exact hd
    rw[Array.getD_eq_getD_getElem?,Array.getElem?_setIfInBounds,if_pos rfl,if_pos hlt]
    exact hv
   ·have:Nat.beq d t=false:=by
     cases h:Nat.beq d t with
     |false=>rfl
     |true=>exact absurd (Nat.eq_of_beq_eq_true h) ht
    rw[this]
    simp only[cond_false]
    have hg:(a.tmps.setIfInBounds d v).getD t undef=a.tmps.getD t undef:=by
     rw[Array.getD_eq_getD_getElem?,Array.getElem?_setIfInBounds,if_neg ht,←Array.getD_eq_getD_getElem?]
    rw[hg]
    exact(hR.env t).mono he hm
  ·exact hK.elim
theorem undRel {p:PQ} {σ:List Nat} {w:World}:VRel p σ w (.tup []) undef:=.tup [] #[] rfl (fun i x v h=>by simp at h)
theorem undVal {p:PQ} {σ:List Nat} {w:World} {v:Value} (h:VRel p σ w (.tup []) v): ∀b,v≠.bool b:=by
 intro b e
 subst e
 cases h
theorem idx_sound (hT:TTok P tt) (ops:Array Oper) {K:St→Prop} {Q:Exit→Act→World→Prop} (l:List Nat): ∀(s:St) (p:PQ) (σ:List Nat) (a:Act) (w:World),Rel p σ s a w→awpIdx P tt ops l s K→
  (∀ (s':St) (p':PQ) (σ':List Nat) (a':Act) (w':World),Ext p w p' w'→Mono σ σ'→Rel p' σ' s' a' w'→s'.m=s.m→s'.n=s.n→K s'→Q .normal a' w')→wpOpsIn (Fr ro) n P ops Q l a w:=by
 induction l with
 |nil=>intro s p σ a w hR hK hQ;rw[awpIdx_nil] at hK;exact hQ s p σ a w (.refl p w) (.refl σ) hR rfl rfl hK
 |cons i r ih=>
  intro s0 p σ a w hR hK hQ
  rw[awpIdx_cons] at hK
  unfold stepI at hK
  simp only at hK
  split at hK
  ·exact hK.elim
  rename_i o ho
  simp only[wpOpsIn,ho]
  have hrun: ∀s:St,Rel p σ s a w→s.m=s0.m→s.n=s0.n→opK P tt o.op (get s.ρ) s.H (fun v H'=>putK s o.dst v H' fun s'=>awpIdx P tt ops r s' K)→o.wpIn (Fr ro) n P a w (wpOpsIn (Fr ro) n P ops Q r) Q:=fun s hR hm0 hn0 h=>
   ⟨fun _ _=>trivial,opK_sound hT hR (fun v x w' p' σ' H' he hm hv hH hk=>by
    obtain ⟨s',h1,h2,h3,h4⟩:=put_rel hR he hm hv hH hk
    exact ih s' p' σ' _ w' h1 h4 fun s2 p2 σ2 a2 w2 e1 e2 e3 e4 e5 e6=>hQ s2 p2 σ2 a2 w2 (he.trans e1) (hm.trans e2) e3 ((e4.trans h2).trans hm0) ((e5.trans h3).trans hn0) e6) h⟩
  have hskip: ∀s:St,Rel p σ s a w→s.m=s0.m→s.n=s0.n→putK s o.dst (.tup []) s.H (fun s'=>awpIdx P tt ops r s' K)→wpOpsIn (Fr ro) n P ops Q r (a.put o.dst undef) w:=fun s hR hm0 hn0 h=>by
   obtain ⟨s',h1,h2,h3,h4⟩:=put_rel hR (.refl p w) (.refl σ) undRel hR.heap h
   exact ih s' p σ _ w h1 h4 fun s2 p2 σ2 a2 w2 e1 e2 e3 e4 e5 e6=>hQ s2 p2 σ2 a2 w2 e1 e2 e3 ((e4.trans h2).trans hm0) ((e5.trans h3).trans hn0) e6
  split at hK
  ·rename_i hg
   have:Region.wanted o (yielded ops a.tmps)=true:=by simp[Region.wanted,hg]
   rw[this]
   exact hrun s0 hR rfl rfl hK
  ·rename_i j want hg
   split at hK
   ·exact hK.elim
   rename_i t ht
   split at hK
   ·rename_i b hb
    have henv:=hR.env t
    rw[hb] at henv
    generalize hv:a.tmps.getD t undef=v at henv
    cases henv
    have hy:yielded ops a.tmps j=some b:=by
     unfold yielded
     rw[ht]
     simp only[Option.bind_some]
     have:a.tmps[t]? =some (.bool b):=by
      rw[Array.getD_eq_getD_getElem?] at hv
      cases h:a.tmps[t]? with
      |none=>rw[h] at hv;simp[undef] at hv
      |some u=>rw[h] at hv;simp at hv;rw[hv]
     rw[this]
    have hw:Region.wanted o (yielded ops a.tmps)=(b==want):=by
     simp only[Region.wanted,hg,hy]
     cases b <;> cases want <;> rfl
    rw[hw]
    have hR':Rel p σ ⟨(t,.d (.bool b))::s0.ρ,s0.n,s0.H,s0.m,s0.df⟩ a w:=by
     refine⟨hR.size,hR.df,fun u=>?_,hR.heap,hR.m⟩
     simp only[get]
     cases hbu:Nat.beq t u with
     |true=>
      have:=Nat.eq_of_beq_eq_true hbu
      subst this
      rw[hv]
      exact .bool b
     |false=>exact hR.env u
    split at hK
    ·cases b
     ·exact⟨fun _ _=>trivial,hskip _ hR' rfl rfl hK⟩
     ·exact hrun _ hR' rfl rfl hK
    ·cases b
     ·exact hrun _ hR' rfl rfl hK
     ·exact⟨fun _ _=>trivial,hskip _ hR' rfl rfl hK⟩
   ·rename_i vs hb
    split at hK
    ·have henv:=hR.env t
     rw[hb] at henv
     have hnb:=undVal henv
     have hw:Region.wanted o (yielded ops a.tmps)=false:=by
      have:yielded ops a.tmps j=none:=by
       unfold yielded
       rw[ht]
       simp only[Option.bind_some]
       cases h:a.tmps[t]? with
       |none=>rfl
       |some u=>
        have hu:a.tmps.getD t undef=u:=by rw[Array.getD_eq_getD_getElem?,h];rfl
        cases u <;> first
         |rfl
         |exact absurd hu (hnb _)
      simp[Region.wanted,hg,this]
     rw[hw]
     exact⟨fun _ _=>trivial,hskip s0 hR rfl rfl hK⟩
    ·exact hK.elim
   ·exact hK.elim
theorem wpIn_region' {id:Nat} {ops:Array Oper} {Q:Exit→Act→World→Prop} (h:wpOpsIn (Fr ro) n P ops Q (List.range ops.size) a w):(Code.region id ops false).wpIn (Fr ro) n P Q a w:=
 wpIn_region h
theorem Post.trans {p p1:PQ} {w w1:World} {σ σ1:List Nat} {s s1:St} {Q:AEx→St→Prop} {e:Exit} {a2:Act} {w2:World} (he:Ext p w p1 w1) (hm: ∀i,i<s.m→σ1[i]? =σ[i]?) (h1:s1.m=s.m) (h2:s1.n=s.n)
  (h:Post p1 w1 σ1 s1 Q e a2 w2):Post p w σ s Q e a2 w2:=by
 obtain ⟨ae,p',σ',s',g1,g2,g3,g4,g5,g6,g7⟩:=h
 exact⟨ae,p',σ',s',g1,he.trans g2,fun i hi=>(g3 i (by rw[h1];exact hi)).trans (hm i hi),g4,g5.trans h1,g6.trans h2,g7⟩
theorem W_mono {c:Code} {Q Q':AEx→St→Prop} (h:W P ro c Q s) (hq: ∀e s',Q e s'→Q' e s'):W P ro c Q' s:=by
 simp only[W_eq] at *
 intro p σ a w hR
 refine wpIn_mono (h p σ a w hR) ?_
 rintro e a' w' ⟨ae,p',σ',s',g1,g2,g3,g4,g5,g6,g7⟩
 exact⟨ae,p',σ',s',g1,g2,g3,g4,g5,g6,hq _ _ g7⟩
theorem W_seq {c d:Code} {Q:AEx→St→Prop} (h:W P ro c (fun e s'=>match e with
   |.normal=>W P ro d Q s'
   |.exit i=>Q (.exit i) s'
   |.goto l=>Q (.goto l) s'
   |.ret=>Q .ret s') s):W P ro (.seq c d) Q s:=by
 rw[W_eq] at h⊢
 intro p σ a w hR
 refine wpIn_seq (wpIn_mono (h p σ a w hR) ?_)
 rintro e a' w' ⟨ae,p',σ',s',rfl,g2,g3,g4,g5,g6,g7⟩
 cases ae with
 |normal=>
  show Code.wpIn _ _ _ _ _ _ _
  refine wpIn_mono ((show W P ro d Q s' from g7).out p' σ' a' w' g4) fun e2 a2 w2 h2=>h2.trans g2 g3 g5 g6
 |exit i=>exact⟨.exit i,p',σ',s',rfl,g2,g3,g4,g5,g6,g7⟩
 |goto l=>exact⟨.goto l,p',σ',s',rfl,g2,g3,g4,g5,g6,g7⟩
 |ret=>exact⟨.ret,p',σ',s',rfl,g2,g3,g4,g5,g6,g7⟩
theorem W_block {id:Nat} {c:Code} {Q:AEx→St→Prop} (h:W P ro c (fun e s'=>match e with
   |.normal=>Q .normal s'
   |.exit i=>match Nat.beq i id with
    |true=>Q .normal s'
    |false=>Q (.exit i) s'
   |.goto l=>Q (.goto l) s'
   |.ret=>Q .ret s') s):W P ro (.block id c) Q s:=by
 rw[W_eq] at h⊢
 intro p σ a w hR
 refine wpIn_block (wpIn_mono (h p σ a w hR) ?_)
 rintro e a' w' ⟨ae,p',σ',s',rfl,g2,g3,g4,g5,g6,g7⟩
 cases ae with
 |normal=>exact⟨.normal,p',σ',s',rfl,g2,g3,g4,g5,g6,g7⟩
 |exit i=>
  simp only[exR,Exit.inBlock]
  by_cases hi:i=id
  ·rw[if_pos hi]
   have:Nat.beq i id=true:=by rw[hi];exact Nat.beq_refl id
   simp only[this] at g7
   exact⟨.normal,p',σ',s',rfl,g2,g3,g4,g5,g6,g7⟩
  ·rw[if_neg hi]
   have:Nat.beq i id=false:=by
    cases h:Nat.beq i id with
    |false=>rfl
    |true=>exact absurd (Nat.eq_of_beq_eq_true h) hi
   simp only[this] at g7
   exact⟨.exit i,p',σ',s',rfl,g2,g3,g4,g5,g6,g7⟩
 |goto l=>exact⟨.goto l,p',σ',s',rfl,g2,g3,g4,g5,g6,g7⟩
 |ret=>exact⟨.ret,p',σ',s',rfl,g2,g3,g4,g5,g6,g7⟩
theorem W_here {c:Code} {Q:AEx→St→Prop} (ae:AEx) (hc: ∀(Q':Exit→Act→World→Prop) (a:Act) (w:World),Q' (exR ae) a w→c.wpIn (Fr ro) 0 P Q' a w) (h:Q ae s):W P ro c Q s:=by
 rw[W_eq]
 intro p σ a w hR
 exact hc _ a w ⟨ae,p,σ,s,rfl,.refl p w,fun _ _=>rfl,hR,rfl,rfl,h⟩
theorem awp_sound (hT:TTok P tt) (c:Code): ∀(Q:AEx→St→Prop) (s:St),awp P tt ro c Q s→W P ro c Q s:=by
 induction c with
 |skip=>intro Q s h;exact W_here .normal (fun _ _ _ h=>wpIn_skip h) h
 |region id ops draw=>
  intro Q s h
  cases draw with
  |true=>exact h
  |false=>
   unfold awp at h
   simp only at h
   split at h
   rotate_left
   ·exact h
   rw[W_eq]
   intro p σ a w hR
   have h':awpIdx P tt ops (idxs ops.toList 0) s (Q .normal):=h
   rw[idxs_eq] at h'
   refine wpIn_region' (idx_sound hT ops _ s p σ a w hR h' ?_)
   intro s' p' σ' a' w' e1 e2 e3 e4 e5 e6
   exact⟨.normal,p',σ',s',rfl,e1,mono_m e2 hR.heap hR.m,e3,e4,e5,e6⟩
 |seq a b iha ihb=>
  intro Q s h
  refine W_seq (W_mono (iha _ s h) ?_)
  intro e s' h'
  cases e with
  |normal=>exact ihb _ _ h'
  |exit i=>exact h'
  |goto l=>exact h'
  |ret=>exact h'
 |cond c a b iha ihb=>
  intro Q s h
  unfold awp at h
  split at h
  ·rename_i t ht
   have key: ∀x:Code,W P ro x Q s→(if t then a else b)=x→W P ro (.cond c a b) Q s:=fun x hx e=>by
    rw[W_eq] at hx⊢
    intro p σ a' w hR
    have hc:=evalO_rel hR c
    rw[ht] at hc
    generalize hv:a'.eval c=v at hc
    cases hc
    exact wpIn_cond hv (e▸hx p σ a' w hR)
   cases t
   ·exact key b (ihb _ _ h) rfl
   ·exact key a (iha _ _ h) rfl
  ·exact h.elim
 |block id c ih=>intro Q s h;exact W_block (ih _ _ h)
 |loop c=>intro Q s h;exact h
 |rangeFunc f ps a b=>intro Q s h;exact h
 |exit i=>intro Q s h;exact W_here (.exit i) (fun _ _ _ h=>wpIn_exit h) h
 |scope c=>intro Q s h;exact h
 |label l=>intro Q s h;exact W_here .normal (fun _ _ _ h=>wpIn_label h) h
 |goto l=>intro Q s h;exact W_here (.goto l) (fun _ _ _ h=>wpIn_goto h) h
 |ret=>intro Q s h;exact W_here .ret (fun _ _ _ h=>wpIn_ret h) h
 |refuse y=>intro Q s h;exact h.elim
def ptrsOf:List AV→Option (List (Nat×Nat))
 |[]=>some []
 |.ptr b o::t=>match ptrsOf t with
  |some l=>some ((b,o)::l)
  |none=>none
 |_=>none
def deferK (c:Call) (ρ:Nat→AV) (K:DF→Prop):Prop:=
 match c.callee with
 |.value f=>match c.args.toList with
  |[]=>match evalO ρ f with
   |.clos fn fs cs=>match fn with
    |.func g=>match fs with
     |[]=>match ptrsOf cs with
      |some l=>K (.fn g l)
      |none=>False
     |_=>False
    |_=>False
   |_=>False
  |_=>False
 |_=>False
def stepX (P:Program) (tt:TT) (ops:Array Oper) (i:Nat) (ih:St→(St→Prop)→Prop) (s:St) (K:St→Prop):Prop:=
 match s with
 |⟨ρ,n,H,m,df⟩=>match ops[i]? with
   |none=>False
   |some o=>match o.guard with
    |some _=>False
    |none=>match o.op with
     |.defer c=>deferK c (get ρ) fun e=>putK ⟨ρ,n,H,m,e::df⟩ o.dst .any H fun s'=>ih s' K
     |_=>opK P tt o.op (get ρ) H fun v H'=>putK ⟨ρ,n,H,m,df⟩ o.dst v H' fun s'=>ih s' K
def awpX (P:Program) (tt:TT) (ops:Array Oper) (l:List Nat):St→(St→Prop)→Prop:=
 @List.rec Nat (fun _=>St→(St→Prop)→Prop) nilKI (fun i _ ih=>stepX P tt ops i ih) l
theorem awpX_nil (P:Program) (tt:TT) (ops:Array Oper) (s:St) (K:St→Prop):awpX P tt ops [] s K=K s:=rfl
theorem awpX_cons (P:Program) (tt:TT) (ops:Array Oper) (i:Nat) (r:List Nat) (s:St) (K:St→Prop):awpX P tt ops (i::r) s K=stepX P tt ops i (awpX P tt ops r) s K:=rfl
theorem ptrsOf_get: ∀{cs:List AV} {l:List (Nat×Nat)},ptrsOf cs=some l→l.length=cs.length∧ ∀(i:Nat) (x:Nat×Nat),l[i]? =some x→cs[i]? =some (.ptr x.1 x.2):=by
 intro cs
 induction cs with
 |nil=>intro l h;simp[ptrsOf] at h;subst h;exact⟨rfl,fun i x h=>by simp at h⟩
 |cons a t ih=>
  intro l h
  cases a <;> simp only[ptrsOf] at h <;> (try (simp at h;done))
  rename_i b o
  split at h
  ·rename_i l' hl
   injection h with h
   subst h
   obtain ⟨g1,g2⟩:=ih hl
   refine⟨by simp[g1],fun i x hx=>?_⟩
   cases i with
   |zero=>simp at hx;subst hx;rfl
   |succ i=>simpa using g2 i x (by simpa using hx)
  ·simp at h
theorem idxX_sound (hT:TTok P tt) (ops:Array Oper) {K:St→Prop} {Q:Exit→Act→World→Prop} (l:List Nat): ∀(s:St) (p:PQ) (σ:List Nat) (a:Act) (w:World),Rel p σ s a w→awpX P tt ops l s K→
  (∀ (s':St) (p':PQ) (σ':List Nat) (a':Act) (w':World),Ext p w p' w'→Mono σ σ'→Rel p' σ' s' a' w'→s'.m=s.m→s'.n=s.n→K s'→Q .normal a' w')→wpOpsIn (Fr none) n P ops Q l a w:=by
 induction l with
 |nil=>intro s p σ a w hR hK hQ;rw[awpX_nil] at hK;exact hQ s p σ a w (.refl p w) (.refl σ) hR rfl rfl hK
 |cons i r ih=>
  intro s0 p σ a w hR hK hQ
  rw[awpX_cons] at hK
  unfold stepX at hK
  simp only at hK
  split at hK
  ·exact hK.elim
  rename_i o ho
  simp only[wpOpsIn,ho]
  split at hK
  ·exact hK.elim
  rename_i hg
  have:Region.wanted o (yielded ops a.tmps)=true:=by simp[Region.wanted,hg]
  rw[this]
  simp only[if_true]
  split at hK
  ·rename_i c hop
   refine⟨fun _ _=>trivial,?_⟩
   unfold deferK at hK
   split at hK
   ·rename_i f hf
    split at hK
    ·rename_i hargs
     have hx:=evalO_rel hR f
     split at hK
     ·rename_i fn fs cs hb
      rw[hb] at hx
      generalize hv:a.eval f=v at hx
      cases hx with
      |clos _ _ _ fs' cs' h1 h2 h3 h4=>
      split at hK
      ·rename_i g
       split at hK
       ·split at hK
        ·rename_i lp hlp
         obtain ⟨q1,q2⟩:=ptrsOf_get hlp
         have e1:fs'= #[]:=Array.size_eq_zero_iff.1 h1
         subst e1
         have e0:c.args= #[]:=by
          apply Array.toList_inj.1;simpa using hargs
         have hrun:(o.semAt (Fr none).round a.eval).run P w=.ok (.defer { target:=.fn (.func g) cs',args:= #[]}) w:=by
          show (Oper.semAt none a.eval o).run P w=_
          rw[Oper.semAt_none]
          simp[execOp,hop,resolve,hf,hv,Deferred.ofValue,e0]
         rw[hrun]
         have hR2:Rel p σ ⟨s0.ρ,s0.n,s0.H,s0.m,.fn g lp::s0.df⟩ { a with defers:={ target:=.fn (.func g) cs',args:= #[]}::a.defers } w:=
          ⟨hR.size,⟨⟨cs',rfl,by omega,fun i x v hx hv=>by
           have hcx:=q2 i x hx
           have:=h4 i _ v hcx hv
           cases this with
           |ptr _ _ r hr=>exact⟨r,hr,rfl⟩⟩,hR.df⟩,hR.env,hR.heap,hR.m⟩
         obtain ⟨s',z1,z2,z3,z4⟩:=put_rel hR2 (.refl p w) (.refl σ) (.any undef) hR.heap hK
         exact ih s' p σ _ w z1 z4 fun s2 p2 σ2 a2 w2 e1 e2 e3 e4 e5 e6=>hQ s2 p2 σ2 a2 w2 e1 e2 e3 (e4.trans z2) (e5.trans z3) e6
        ·exact hK.elim
       ·exact hK.elim
      ·exact hK.elim
     ·exact hK.elim
    ·exact hK.elim
   ·exact hK.elim
  ·refine⟨fun _ _=>trivial,opK_sound hT hR (fun v x w' p' σ' H' he hm hv hH hk=>?_) hK⟩
   obtain ⟨s',h1,h2,h3,h4⟩:=put_rel hR he hm hv hH hk
   exact ih s' p' σ' _ w' h1 h4 fun s2 p2 σ2 a2 w2 e1 e2 e3 e4 e5 e6=>hQ s2 p2 σ2 a2 w2 (he.trans e1) (hm.trans e2) e3 (e4.trans h2) (e5.trans h3) e6
theorem W_dfr (hT:TTok P tt) {id:Nat} {ops:Array Oper} {Q:AEx→St→Prop} {s:St} (h:awpX P tt ops (idxs ops.toList 0) s (Q .normal)):W P none (.region id ops false) Q s:=by
 rw[W_eq]
 intro p σ a w hR
 rw[idxs_eq] at h
 refine wpIn_region' (idxX_sound hT ops _ s p σ a w hR h ?_)
 intro s' p' σ' a' w' e1 e2 e3 e4 e5 e6
 exact⟨.normal,p',σ',s',rfl,e1,mono_m e2 hR.heap hR.m,e3,e4,e5,e6⟩
end
end Go.Eng
namespace Go.Eng
open Go
def resV (tt:TT) (ρ:Env) (H:Heap) (r:ResultVar) (K:AV→Prop):Prop:=
 match r with
 |.tmp t=>force (get ρ t) K
 |.cell x t=>match tt t with
  |none=>False
  |some ti=>match get ρ x with
   |.ptr b off=>match rowOf H b with
    |some cs=>loadK ti cs off K
    |none=>False
   |_=>False
def resL (tt:TT) (ρ:Env) (H:Heap) (l:List ResultVar) (K:List AV→Prop):Prop:=
 match l with
 |[]=>K []
 |r::t=>resV tt ρ H r fun v=>resL tt ρ H t fun vs=>K (v::vs)
def resK (tt:TT) (ρ:Env) (H:Heap) (l:List ResultVar) (K:AV→Prop):Prop:=
 resL tt ρ H l fun vs=>match vs with
  |[v]=>K v
  |vs=>K (.tup vs)
structure Fin (m:Nat) (v:AV) (H:Heap) (v':AV) (H':Heap):Prop where
 out:
 ∀(p:PQ) (σ:List Nat) (w:World) (x:Value),m≤H.length→HRel p σ H w→VRel p σ w v x→
  ∃p' σ',Ext p w p' w∧(∀ i,i<m→σ'[i]? =σ[i]?)∧HRel p' σ' H' w∧VRel p' σ' w v' x
theorem Fin_eq (m:Nat) (v:AV) (H:Heap) (v':AV) (H':Heap):Fin m v H v' H'=(∀ (p:PQ) (σ:List Nat) (w:World) (x:Value),m≤H.length→HRel p σ H w→VRel p σ w v x→
  ∃p' σ',Ext p w p' w∧(∀ i,i<m→σ'[i]? =σ[i]?)∧HRel p' σ' H' w∧VRel p' σ' w v' x):=propext ⟨fun h=>h.out,fun h=>⟨h⟩⟩
structure FinK (m:Nat) (v:AV) (H:Heap) (Q:AV→Heap→Prop):Prop where
 out: ∃v' H',Fin m v H v' H'∧Q v' H'
theorem FinK_eq (m:Nat) (v:AV) (H:Heap) (Q:AV→Heap→Prop):FinK m v H Q=(∃ v' H',Fin m v H v' H'∧Q v' H'):=propext ⟨fun h=>h.out,fun h=>⟨h⟩⟩
structure TriD (P:Program) (f:FuncId) (args:List AV) (H:Heap) (Q:AV→Heap→Prop):Prop where
 out:Ent P f∧ ∀(p:PQ) (σ:List Nat) (w:World) (vs:Array Value) (u:FrameMode),HRel p σ H w→vs.size=args.length→
  (∀ (i:Nat) (x:AV) (v:Value),args[i]? =some x→vs[i]? =some v→VRel p σ w x v)→
  CallsDIn Fence.wide 0 P f vs u w fun e u' w'=>u'=u∧ ∃v x p' σ' H',e=.returned v∧Ext p w p' w'∧(∀ (i r:Nat),σ[i]? =some r→σ'[i]? =some r)∧HRel p' σ' H' w'∧VRel p' σ' w' x v∧Q x H'
def outM (P:Program) (tt:TT) (fn:Func) (m:Nat) (Q:AV→Heap→Prop) (df:List DF) (ρ:Env) (H:Heap):Prop:=
 match df with
 |[]=>resK tt ρ H fn.results.toList fun v=>FinK m v H Q
 |.mk b::ds=>match H[b]? with
  |some (some .dfr)=>setK H b none fun H'=>outM P tt fn m Q ds ρ H'
  |_=>False
 |.fn g caps::ds=>TriD P g (caps.map fun x=>.ptr x.1 x.2) H fun _ H'=>outM P tt fn m Q ds ρ H'
def RetQ (P:Program) (tt:TT) (fn:Func) (m:Nat) (Q:AV→Heap→Prop) (e:AEx) (s:St):Prop:=
 match e with
 |.normal=>outM P tt fn m Q s.df s.ρ s.H
 |.ret=>outM P tt fn m Q s.df s.ρ s.H
 |_=>False
def argEnv (l:List AV) (i:Nat):Env:=
 match l with
 |[]=>[]
 |x::t=>(i,x)::argEnv t (i+1)
mutual
def low (k:Nat):AV→Bool
 |.ptr b _=>Nat.blt b k
 |.msl b _ _ _ _=>Nat.blt b k
 |.mp b=>Nat.blt b k
 |.clos _ f c=>lowL k f&&lowL k c
 |.agg cs=>lowL k cs
 |.tup vs=>lowL k vs
 |.any=>true
 |.d _=>true
 |.nsl=>true
 |.esl=>true
 |.fptr _ _=>true
def lowL (k:Nat):List AV→Bool
 |[]=>true
 |x::t=>low k x&&lowL k t
end
mutual
def ren (g:Nat→Nat):AV→AV
 |.ptr b o=>.ptr (g b) o
 |.msl b o l c z=>.msl (g b) o l c z
 |.mp b=>.mp (g b)
 |.clos fn f c=>.clos fn (renL g f) (renL g c)
 |.agg cs=>.agg (renL g cs)
 |.tup vs=>.tup (renL g vs)
 |.any=>.any
 |.d x=>.d x
 |.nsl=>.nsl
 |.esl=>.esl
 |.fptr r o=>.fptr r o
def renL (g:Nat→Nat):List AV→List AV
 |[]=>[]
 |x::t=>ren g x::renL g t
end
def lowB (k:Nat):Blk→Bool
 |.row cs=>lowL k cs
 |.mp _ vs=>lowL k vs
 |_=>true
def renB (g:Nat→Nat):Blk→Blk
 |.row cs=>.row (renL g cs)
 |.mp ks vs=>.mp ks (renL g vs)
 |b=>b
theorem lowL_get {k:Nat} {l:List AV} (h:lowL k l=true): ∀{i:Nat} {x:AV},l[i]? =some x→low k x=true:=by
 induction l with
 |nil=>intro i x hx;simp at hx
 |cons y t ih=>
  simp only[lowL,Bool.and_eq_true] at h
  intro i x hx
  cases i with
  |zero=>simp at hx;subst hx;exact h.1
  |succ i=>simp at hx;exact ih h.2 hx
theorem renL_get (g:Nat→Nat) (l:List AV): ∀(i:Nat),(renL g l)[i]? =(l[i]?).map (ren g):=by
 induction l with
 |nil=>intro i;simp[renL]
 |cons y t ih=>intro i;cases i <;> simp[renL,ih]
theorem renL_length (g:Nat→Nat) (l:List AV):(renL g l).length=l.length:=by
 induction l with
 |nil=>rfl
 |cons y t ih=>simp[renL,ih]
theorem VRel.ren {p:PQ} {σ σ':List Nat} {w:World} {g:Nat→Nat} {k:Nat} (hg: ∀i,i<k→σ'[i]? =σ[g i]?) {y:AV} {v:Value} (h:VRel p σ w y v):
  ∀x,y=Eng.ren g x→low k x=true→VRel p σ' w x v:=by
 induction h with
 |any v=>intro x hx _;cases x <;> simp[Eng.ren] at hx;exact .any _
 |int k n=>intro x hx _;cases x <;> simp[Eng.ren] at hx;subst hx;exact .int _ _
 |bool b=>intro x hx _;cases x <;> simp[Eng.ren] at hx;subst hx;exact .bool _
 |str s h=>intro x hx _;cases x <;> simp[Eng.ren] at hx;subst hx;exact .str _ h
 |fn f=>intro x hx _;cases x <;> simp[Eng.ren] at hx;subst hx;exact .fn _
 |nptr=>intro x hx _;cases x <;> simp[Eng.ren] at hx;subst hx;exact .nptr
 |nfn=>intro x hx _;cases x <;> simp[Eng.ren] at hx;subst hx;exact .nfn
 |nmap=>intro x hx _;cases x <;> simp[Eng.ren] at hx;subst hx;exact .nmap
 |sl rows a n cap sz vals hn hB hc hrow hcells hv ih=>
  intro x hx _
  cases x <;> simp[Eng.ren] at hx
  subst hx
  exact .sl rows a n cap sz vals hn hB hc hrow hcells fun i row j x h1 h2=>ih i row j x h1 h2 _ rfl rfl
 |nsl=>intro x hx _;cases x <;> simp[Eng.ren] at hx;exact .nsl
 |esl a=>intro x hx _;cases x <;> simp[Eng.ren] at hx;exact .esl a
 |ptr b off r h=>
  intro x hx hl
  cases x <;> simp[Eng.ren] at hx
  obtain ⟨rfl,rfl⟩:=hx
  exact .ptr _ _ r (by rw[hg _ (by simpa [low,Nat.blt_eq] using hl)];exact h)
 |fptr row off r o vals hp hcells hv ih=>
  intro x hx _
  cases x <;> simp[Eng.ren] at hx
  obtain ⟨rfl,rfl⟩:=hx
  exact .fptr row off r o vals hp hcells fun j x h1=>ih j x h1 _ rfl rfl
 |msl b off len cl sz r cap h hB hc hcl hblk=>
  intro x hx hl
  cases x <;> simp[Eng.ren] at hx
  obtain ⟨rfl,rfl,rfl,rfl,rfl⟩:=hx
  exact .msl _ _ _ _ _ r cap (by rw[hg _ (by simpa [low,Nat.blt_eq] using hl)];exact h) hB hc hcl hblk
 |mp b r h=>
  intro x hx hl
  cases x <;> simp[Eng.ren] at hx
  subst hx
  exact .mp _ r (by rw[hg _ (by simpa [low,Nat.blt_eq] using hl)];exact h)
 |clos fn first caps fs cs h1 h2 hf hcp ih1 ih2=>
  intro x hx hl
  cases x <;> simp[Eng.ren] at hx
  rename_i fn' f' c'
  obtain ⟨rfl,rfl,rfl⟩:=hx
  simp only[low,Bool.and_eq_true] at hl
  rw[renL_length] at h1 h2
  refine .clos _ _ _ fs cs h1 h2 (fun i x v hx hv=>ih1 i (Eng.ren g x) v (by rw[renL_get,hx];rfl) hv x rfl (lowL_get hl.1 hx)) (fun i x v hx hv=>ih2 i (Eng.ren g x) v (by rw[renL_get,hx];rfl) hv x rfl (lowL_get hl.2 hx))
 |agg cs vs h hone hv ih=>
  intro x hx hl
  cases x <;> simp[Eng.ren] at hx
  subst hx
  simp only[low] at hl
  rw[renL_length] at h
  exact .agg _ vs h hone fun i x v hx hv=>ih i (Eng.ren g x) v (by rw[renL_get,hx];rfl) hv x rfl (lowL_get hl hx)
 |tup as_ vs h hv ih=>
  intro x hx hl
  cases x <;> simp[Eng.ren] at hx
  subst hx
  simp only[low] at hl
  rw[renL_length] at h
  exact .tup _ vs h fun i x v hx hv=>ih i (Eng.ren g x) v (by rw[renL_get,hx];rfl) hv x rfl (lowL_get hl hx)
def gOf (g:List Nat) (i:Nat):Nat:=g.getD i 0
def HLe (g:List Nat) (k:Nat) (H:Heap):Heap→List Nat→Prop
 |[],[]=>True
 |none::H',_::g'=>HLe g k H H' g'
 |some b::H',j::g'=>(H[j]? =some (some (renB (gOf g) b))∧lowB k b=true)∧HLe g k H H' g'
 |_,_=>False
theorem HLe_get {g:List Nat} {k:Nat} {H:Heap}: ∀(H':Heap) (g':List Nat),HLe g k H H' g'→H'.length=g'.length∧
  ∀(i:Nat) (b:Blk),H'[i]? =some (some b)→ ∃j,g'[i]? =some j∧H[j]? =some (some (renB (gOf g) b))∧lowB k b=true:=by
 intro H'
 induction H' with
 |nil=>intro g' h;cases g' with
  |nil=>exact⟨rfl,fun i b hb=>by simp at hb⟩
  |cons=>simp[HLe] at h
 |cons x t ih=>
  intro g' h
  cases g' with
  |nil=>cases x <;> simp[HLe] at h
  |cons j g'=>
   cases x with
   |none=>
    simp only[HLe] at h
    obtain ⟨h1,h2⟩:=ih g' h
    refine⟨by simp[h1],fun i b hb=>?_⟩
    cases i with
    |zero=>simp at hb
    |succ i=>simp at hb ⊢;exact h2 i b hb
   |some y=>
    simp only[HLe] at h
    obtain ⟨h1,h2⟩:=ih g' h.2
    refine⟨by simp[h1],fun i b hb=>?_⟩
    cases i with
    |zero=>simp at hb;subst hb;exact⟨j,rfl,h.1⟩
    |succ i=>simp at hb ⊢;exact h2 i b hb
def EnvLe (g:List Nat) (k:Nat) (ρ:Env):Env→Prop
 |[]=>True
 |(t,v)::r=>(get ρ t=ren (gOf g) v∧low k v=true)∧EnvLe g k ρ r
theorem EnvLe_get {g:List Nat} {k:Nat} {ρ:Env}: ∀(ρ':Env),EnvLe g k ρ ρ'→ ∀t,get ρ' t=.any∨(get ρ t=ren (gOf g) (get ρ' t)∧low k (get ρ' t)=true):=by
 intro ρ'
 induction ρ' with
 |nil=>intro _ t;exact .inl rfl
 |cons x r ih=>
  intro h t
  obtain ⟨d,v⟩:=x
  obtain ⟨h1,h2⟩:=h
  simp only[get]
  cases hb:Nat.beq d t with
  |true=>
   have:=Nat.eq_of_beq_eq_true hb
   subst this
   exact .inr h1
  |false=>exact ih h2 t
def noDup:List Nat→Bool
 |[]=>true
 |x::t=>(t.all fun y=> !Nat.beq x y)&&noDup t
theorem noDup_inj: ∀(g:List Nat),noDup g=true→ ∀(i j x:Nat),g[i]? =some x→g[j]? =some x→i=j:=by
 intro g
 induction g with
 |nil=>intro _ i j x h;simp at h
 |cons y t ih=>
  intro h i j x hi hj
  simp only[noDup,Bool.and_eq_true] at h
  have hne: ∀(k:Nat),t[k]? =some y→False:=fun k hk=>by
   have:=List.all_eq_true.1 h.1 y (List.mem_iff_getElem?.2 ⟨k,hk⟩)
   simp at this
  cases i with
  |zero=>
   simp at hi
   subst hi
   cases j with
   |zero=>rfl
   |succ j=>simp at hj;exact(hne j hj).elim
  |succ i=>
   simp at hi
   cases j with
   |zero=>simp at hj;subst hj;exact(hne i hi).elim
   |succ j=>simp at hj;rw[ih h.2 i j x hi hj]
def renS (g:List Nat) (σ:List Nat):List Nat:=g.map fun j=>σ.getD j 0
theorem renS_get {g σ:List Nat} {k:Nat} (hk:g.length=k) (hlt: ∀x∈g,x<σ.length): ∀i,i<k→(renS g σ)[i]? =σ[gOf g i]? :=by
 intro i hi
 have hgi:g[i]? =some (g[i]'(by omega)):=List.getElem?_eq_getElem (by omega)
 have hl:=hlt (g[i]'(by omega)) (List.getElem_mem _)
 simp only[renS,List.getElem?_map,hgi,Option.map_some,gOf,List.getD_eq_getElem?_getD,Option.getD_some]
 rw[List.getElem?_eq_getElem hl]
 rfl
theorem HRel.ren {p:PQ} {σ:List Nat} {H:Heap} {w:World} (h:HRel p σ H w) {g:List Nat} {H':Heap} (hlt: ∀x∈g,x<H.length) (hnd:noDup g=true) (hle:HLe g g.length H H' g):HRel p (renS g σ) H' w:=by
 obtain ⟨hlen,hget⟩:=HLe_get H' g hle
 have hs:=renS_get (σ:=σ) (g:=g) rfl (by rw[h.len];exact hlt)
 have key: ∀(i j:Nat),g[i]? =some j→gOf g i=j:=fun i j hj=>by simp[gOf,List.getD_eq_getElem?_getD,hj]
 refine⟨by simp[renS,hlen],h.lt,fun i b hb=>?_,fun i j r a b ha hb hi hj=>?_,h.gl⟩
 ·obtain ⟨j,h1,h2,h3⟩:=hget i b hb
  have hi:i<g.length:=(List.getElem?_eq_some_iff.1 h1).1
  obtain ⟨r,g1,g2,g3,g4⟩:=h.blk j _ h2
  refine⟨r,by rw[hs i hi,key i j h1];exact g1,g2,g3,?_⟩
  cases b with
  |row cs=>
   obtain ⟨c,e,fr,q1,q2,q3,q4⟩:=g4
   rw[renL_length] at q2
   refine⟨c,e,fr,q1,q2,q3,fun i x v hx hv=>?_⟩
   obtain ⟨z1,z2⟩:=q4 i (Eng.ren (gOf g) x) v (by rw[renL_get,hx];rfl) hv
   exact⟨z1.ren hs x rfl (lowL_get h3 hx),z2⟩
  |iter s pos=>exact g4
  |dfr=>exact g4
  |raw o=>exact g4
  |bytes e bs=>exact g4
  |mp ks vs=>
   obtain ⟨es,cl,z1,z2,z3,z4,z5⟩:=g4
   rw[renL_length] at z3
   refine⟨es,cl,z1,z2,z3,z4,fun i x e hx he=>?_⟩
   exact(z5 i (Eng.ren (gOf g) x) e (by rw[renL_get,hx];rfl) he).ren hs x rfl (lowL_get h3 hx)
  |yl Y k=>exact g4
  |yz Y=>exact g4
 ·obtain ⟨i1,a1,a2,_⟩:=hget i a ha
  obtain ⟨j1,b1,b2,_⟩:=hget j b hb
  have li:i<g.length:=(List.getElem?_eq_some_iff.1 a1).1
  have lj:j<g.length:=(List.getElem?_eq_some_iff.1 b1).1
  rw[hs i li,key i i1 a1] at hi
  rw[hs j lj,key j j1 b1] at hj
  have:=h.inj i1 j1 r _ _ a2 b2 hi hj
  subst this
  exact noDup_inj g hnd i j i1 a1 b1
structure Wk (s s':St):Prop where
 out:s'.m=s.m∧s'.n=s.n∧ ∀(p:PQ) (σ:List Nat) (a:Act) (w:World),Rel p σ s a w→
 ∃p' σ',Ext p w p' w∧(∀ i,i<s.m→σ'[i]? =σ[i]?)∧Rel p' σ' s' a w
theorem Wk_eq (s s':St):Wk s s'=(s'.m=s.m∧s'.n=s.n∧ ∀(p:PQ) (σ:List Nat) (a:Act) (w:World),Rel p σ s a w→
 ∃p' σ',Ext p w p' w∧(∀ i,i<s.m→σ'[i]? =σ[i]?)∧Rel p' σ' s' a w):=propext ⟨fun h=>h.out,fun h=>⟨h⟩⟩
theorem Wk.trans {a b c:St} (h:Wk a b) (k:Wk b c):Wk a c:=by
 simp only[Wk_eq] at *
 obtain ⟨h1,h2,h3⟩:=h
 obtain ⟨k1,k2,k3⟩:=k
 refine⟨k1.trans h1,k2.trans h2,fun p σ x w hR=>?_⟩
 obtain ⟨p1,σ1,e1,m1,r1⟩:=h3 p σ x w hR
 obtain ⟨p2,σ2,e2,m2,r2⟩:=k3 p1 σ1 x w r1
 exact⟨p2,σ2,e1.trans e2,fun i hi=>(m2 i (by rw[h1];exact hi)).trans (m1 i hi),r2⟩
theorem Wk_ren (g:List Nat) {ρ ρ':Env} {n m:Nat} {H H':Heap} (hlt:(g.all fun x=>Nat.blt x H.length)=true) (hnd:noDup g=true) (hle:HLe g g.length H H' g) (hρ:EnvLe g g.length ρ ρ') (hm:m≤g.length)
  (hid: ∀i,i<m→gOf g i=i):Wk ⟨ρ,n,H,m,[]⟩ ⟨ρ',n,H',m,[]⟩:=by
 rw[Wk_eq]
 refine⟨rfl,rfl,fun p σ a w hR=>?_⟩
 have hlt': ∀x∈g,x<H.length:=fun x hx=>by simpa [Nat.blt_eq] using List.all_eq_true.1 hlt x hx
 have hlen:=hR.heap.len
 simp only at hlen
 have hs:=renS_get (σ:=σ) (g:=g) rfl (by rw[hlen];exact hlt')
 obtain ⟨hl,_⟩:=HLe_get H' g hle
 refine⟨p,renS g σ,.refl p w,fun i hi=>by rw[hs i (Nat.lt_of_lt_of_le hi hm),hid i hi],hR.size,?_,fun t=>?_,hR.heap.ren hlt' hnd hle,by simp only;omega⟩
 ·have:=hR.df
  cases hd:a.defers with
  |nil=>trivial
  |cons x t=>rw[hd] at this;simp[DRel] at this
 ·rcases EnvLe_get ρ' hρ t with h|⟨h1,h2⟩
  ·rw[h];exact .any _
  ·have:=hR.env t
   simp only at this
   exact this.ren hs _ h1 h2
section
variable {P:Program} {tt:TT} {p:PQ} {σ:List Nat} {s:St} {a:Act} {w:World} {ro:Option Nat} {n:Nat}
theorem W_wk {c:Code} {Q:AEx→St→Prop} {s':St} (hk:Wk s s') (h:W P ro c Q s'):W P ro c Q s:=by
 rw[W_eq] at h⊢
 rw[Wk_eq] at hk
 obtain ⟨k1,k2,k3⟩:=hk
 intro p σ a w hR
 obtain ⟨p1,σ1,e1,m1,r1⟩:=k3 p σ a w hR
 exact wpIn_mono (h p1 σ1 a w r1) fun e a' w' h'=>h'.trans e1 m1 k1 k2
theorem wpIn_loop_ix {F:Fence} {c:Code} {Q:Exit→Act→World→Prop} (R:Nat→Act→World→Prop) (k0:Nat) (h₀:R k0 a w)
  (round: ∀k a w,R k a w→c.wpIn F n P (Exit.then (fun a' w'=> ∃k',R k' a' w'∧k'<k) Q) a w):(Code.loop c).wpIn F n P Q a w:=by
 intro b k cs hro hb hr
 have key: ∀(j:Nat) a w,R j a w→
   ∃e a' w',Q e a' w'∧ArrivesIn (Machine.fenced P F) P (lone (b.atR a (.code c::.inLoop c::k)) cs w) b k cs e a' w':=by
  intro j
  induction j using Nat.strongRecOn with
  |_ j ih=>
   intro a w hI
   obtain ⟨e,a₁,w₁,hq,harr⟩:=round j a w hI b (.inLoop c::k) cs hro hb hr
   cases e with
   |normal=>
    obtain ⟨k',hI₁,hlt⟩:=hq
    obtain ⟨e₂,a₂,w₂,hq₂,harr₂⟩:=ih k' hlt a₁ w₁ hI₁
    exact⟨e₂,a₂,w₂,hq₂,.of_steps (StepsIn.trans harr (.one (fenced_calm hb hr rfl) stepR_inLoop)) harr₂⟩
   |exit id=>exact⟨_,a₁,w₁,hq,.pass (x:=.inLoop c) rfl (fun _ _=>.inl (by simp)) harr⟩
   |goto l=>exact⟨_,a₁,w₁,hq,.pass (x:=.inLoop c) rfl (fun _ _=>.inl (by simp)) harr⟩
   |ret=>exact⟨_,a₁,w₁,hq,.pass (x:=.inLoop c) rfl (fun _ _=>.inl (by simp)) harr⟩
   |panic ch=>exact⟨_,a₁,w₁,hq,.pass (x:=.inLoop c) rfl (fun _ _=>.inl (by simp)) harr⟩
   |outgrown=>exact⟨_,a₁,w₁,hq,.pass (x:=.inLoop c) rfl (fun _ _=>.inl (by simp)) harr⟩
 obtain ⟨e,a',w',hq,harr⟩:=key _ a w h₀
 exact⟨e,a',w',hq,.of_steps (.one (fenced_calm hb hr rfl) stepR_loop) harr⟩
structure Back (I:Nat→St→Prop) (k:Nat) (s:St):Prop where
 out: ∃s3 k',Wk s s3∧I k' s3∧k'<k
theorem Back_eq (I:Nat→St→Prop) (k:Nat) (s:St):Back I k s=(∃ s3 k',Wk s s3∧I k' s3∧k'<k):=propext ⟨fun h=>h.out,fun h=>⟨h⟩⟩
theorem Back_in {I:Nat→St→Prop} {k:Nat} {s:St} (s3:St) (k':Nat) (h1:I k' s3) (h2:k'<k) (h3:Wk s s3):Back I k s:=by rw[Back_eq];exact⟨s3,k',h3,h1,h2⟩
theorem W_loop {c:Code} {Q:AEx→St→Prop} (I:Nat→St→Prop) (k0:Nat) (h0: ∃s0,Wk s s0∧I k0 s0)
  (hr: ∀k s1,I k s1→W P ro c (seqQ (fun _ s2=>Back I k s2) Q) s1):W P ro (.loop c) Q s:=by
 obtain ⟨s0,hk0,hI0⟩:=h0
 refine W_wk hk0 ?_
 rw[W_eq]
 intro p σ a w hR
 refine wpIn_loop_ix (fun k a1 w1=> ∃s1 p1 σ1,I k s1∧s1.m=s0.m∧s1.n=s0.n∧Ext p w p1 w1∧(∀ i,i<s0.m→σ1[i]? =σ[i]?)∧Rel p1 σ1 s1 a1 w1) k0
  ⟨s0,p,σ,hI0,rfl,rfl,.refl p w,fun _ _=>rfl,hR⟩ ?_
 rintro k a1 w1 ⟨s1,p1,σ1,hI,hm,hn,he,hσ,hR1⟩
 have hround:=hr k s1 hI
 rw[W_eq] at hround
 refine wpIn_mono (hround p1 σ1 a1 w1 hR1) ?_
 rintro e a' w' ⟨ae,p',σ',s',rfl,g2,g3,g4,g5,g6,g7⟩
 cases ae with
 |normal=>
  replace g7:Back I k s':=g7
  rw[Back_eq] at g7
  obtain ⟨s3,k',hk,hI',hlt⟩:=g7
  rw[Wk_eq] at hk
  obtain ⟨k1,k2,k3⟩:=hk
  obtain ⟨p2,σ2,e1,m1,r1⟩:=k3 p' σ' a' w' g4
  exact⟨k',⟨s3,p2,σ2,hI',(k1.trans g5).trans hm,(k2.trans g6).trans hn,(he.trans g2).trans e1,fun i hi=>((m1 i (by rw[g5,hm];exact hi)).trans (g3 i (by rw[hm];exact hi))).trans (hσ i hi),r1⟩,hlt⟩
 |exit i=>exact⟨.exit i,p',σ',s',rfl,he.trans g2,fun i hi=>(g3 i (by rw[hm];exact hi)).trans (hσ i hi),g4,g5.trans hm,g6.trans hn,g7⟩
 |goto l=>exact⟨.goto l,p',σ',s',rfl,he.trans g2,fun i hi=>(g3 i (by rw[hm];exact hi)).trans (hσ i hi),g4,g5.trans hm,g6.trans hn,g7⟩
 |ret=>exact⟨.ret,p',σ',s',rfl,he.trans g2,fun i hi=>(g3 i (by rw[hm];exact hi)).trans (hσ i hi),g4,g5.trans hm,g6.trans hn,g7⟩
theorem resV_run (hT:TTok P tt) {s:St} (hR:Rel p σ s a w) {r:ResultVar} {K:AV→Prop} (hK:resV tt s.ρ s.H r K):
  ∃v x,((fun|.tmp t=>pure (a.tmps.getD t undef)|.cell b t=>do loadVar t (← asAddr (a.tmps.getD b undef)):ResultVar→Sem Value) r).run P w=.ok v w∧VRel p σ w x v∧K x:=by
 unfold resV at hK
 split at hK
 ·rename_i t
  rw[force_eq] at hK
  exact⟨_,_,rfl,hR.env t,hK⟩
 ·rename_i x t
  split at hK
  ·exact hK.elim
  rename_i ti ht
  split at hK
  ·rename_i b off hb
   have hx:=hR.env x
   rw[hb] at hx
   generalize hv:a.tmps.getD x undef=v at hx
   cases hx with
   |ptr _ _ r hr=>
   split at hK
   ·rename_i cs hcs
    obtain ⟨r',c,e,fr,h1,h2,h3,h4,h5,h6⟩:=row_at hR.heap hcs
    rw[hr] at h1
    injection h1 with h1
    subst h1
    obtain ⟨v,y,hrun,hrel,hk⟩:=load_row hT ht h3 h4 h6 hK
    exact⟨v,y,by simp only[hv,asAddr,Sem.run_bind,Sem.run_pure,Result.andThen_ok,hrun],hrel,hk⟩
   ·exact hK.elim
  ·exact hK.elim
theorem resL_run (hT:TTok P tt) (hR:Rel p σ s a w) (l:List ResultVar): ∀(K:List AV→Prop),resL tt s.ρ s.H l K→
  ∃(vs:List Value) (xs:List AV),(l.mapM (fun|.tmp t=>pure (a.tmps.getD t undef)|.cell b t=>do loadVar t (← asAddr (a.tmps.getD b undef)):ResultVar→Sem Value)).run P w=.ok vs w∧vs.length=xs.length∧
   (∀ (i:Nat) (x:AV) (v:Value),xs[i]? =some x→vs[i]? =some v→VRel p σ w x v)∧K xs:=by
 induction l with
 |nil=>intro K h;exact⟨[],[],rfl,rfl,fun i x v hx=>by simp at hx,h⟩
 |cons r t ih=>
  intro K h
  obtain ⟨v,x,h1,h2,h3⟩:=resV_run hT hR h
  obtain ⟨vs,xs,g1,g2,g3,g4⟩:=ih _ h3
  refine⟨v::vs,x::xs,?_,by simp[g2],fun i y u hy hu=>?_,g4⟩
  ·rw[List.mapM_cons]
   simp only[Sem.run_bind]
   erw [h1]
   simp only[Result.andThen_ok,g1,Sem.run_pure]
  ·cases i with
   |zero=>simp at hy hu;subst hy hu;exact h2
   |succ i=>simp at hy hu;exact g3 i y u hy hu
theorem resK_run (hT:TTok P tt) (hR:Rel p σ s a w) {fn:Func} {K:AV→Prop} (hK:resK tt s.ρ s.H fn.results.toList K):
  ∃v x,(results fn a.tmps).run P w=.ok v w∧VRel p σ w x v∧K x:=by
 unfold resK at hK
 obtain ⟨vs,xs,h1,h2,h3,h4⟩:=resL_run hT hR _ _ hK
 have hrun:(results fn a.tmps).run P w=.ok (if h:vs.toArray.size=1 then vs.toArray[0] else .tuple vs.toArray) w:=by
  unfold results
  rw[Array.mapM_eq_mapM_toList]
  simp only[Sem.run_bind,Sem.run_map]
  erw [h1]
  rfl
 match xs,vs,h2,h3,h4,hrun with
 |[x],[v],_,h3,h4,hrun=>exact⟨v,x,by rw[hrun];rfl,h3 0 x v rfl rfl,h4⟩
 |[],[],_,_,h4,hrun=>exact⟨_,_,by rw[hrun];rfl,.tup [] #[] rfl fun i x v hx=>by simp at hx,h4⟩
 |x::y::xs,v::u::vs,h2,h3,h4,hrun=>
  refine⟨.tuple (v::u::vs).toArray,_,by rw[hrun];simp,.tup _ _ (by simpa using h2) fun i x v hx hv=>h3 i x v hx (by simpa using hv),h4⟩
theorem out_run (hT:TTok P tt) {fn:Func} {m0:Nat} {Q:AV→Heap→Prop} {R:Ending→World→Prop} (df:List DF): ∀(p:PQ) (σ:List Nat) (s:St) (a:Act) (w:World),s.df=df→Rel p σ s a w→m0≤s.m→outM P tt fn m0 Q df s.ρ s.H→
  (∀ v w' x p' σ' H',Ext p w p' w'→(∀ i,i<m0→σ'[i]? =σ[i]?)→HRel p' σ' H' w'→VRel p' σ' w' x v→Q x H'→R (.returned v) w')→LeavesInM Fence.wide 0 P fn a.tmps R a.defers .returning w:=by
 induction df with
 |nil=>
  intro p σ s a w hdf hR hm h hk
  have hd:a.defers=[]:=by
   have:=hR.df
   rw[hdf] at this
   cases hd:a.defers with
   |nil=>rfl
   |cons x t=>rw[hd] at this;simp[DRel] at this
  rw[hd]
  unfold outM at h
  obtain ⟨v,x,h1,h2,hfin⟩:=resK_run hT hR h
  rw[FinK_eq] at hfin
  obtain ⟨v',H',h3,h4⟩:=hfin
  rw[Fin_eq] at h3
  obtain ⟨p2,σ2,e1,e2,e3,e4⟩:=h3 p σ w v (Nat.le_trans hm hR.m) hR.heap h2
  exact⟨v,h1,hk v w v' p2 σ2 H' e1 e2 e3 e4 h4⟩
 |cons b ds ih=>
  intro p σ s a w hdf hR hm h hk
  cases b with
  |fn g caps=>
   unfold outM at h
   have hdr:=hR.df
   rw[hdf] at hdr
   cases hd:a.defers with
   |nil=>rw[hd] at hdr;simp[DRel] at hdr
   |cons d t=>
    rw[hd] at hdr
    obtain ⟨⟨cs,q1,q2,q3⟩,hds⟩:=hdr
    obtain ⟨hent,hT⟩:=h.out
    obtain ⟨gfn,hg1,hg2,hg3⟩:=hent
    refine⟨by simp,.inr ⟨fun h=>by simp[Fence.wide] at h,.func g,cs,g,cs,by rw[q1],?_,fun _ _=>trivial,?_⟩⟩
    ·rw[q1]
     simp only[invoke,Array.empty_append]
     exact enter_run ⟨gfn,hg1,hg2,hg3⟩
    ·refine(hT p σ w cs .returning hR.heap (by simp[q2]) fun i x v hx hv=>?_).mono ?_
     ·rw[List.getElem?_map] at hx
      cases hc:caps[i]? with
      |none=>simp[hc] at hx
      |some y=>
       simp[hc] at hx
       subst hx
       obtain ⟨r,hr,rfl⟩:=q3 i y v hc hv
       exact .ptr _ _ r hr
     ·rintro e u' w' ⟨rfl,v,x,p',σ',H',rfl,e1,e2,e3,e4,e5⟩
      have hlen:s.H.length≤H'.length:=by
       rw[← hR.heap.len,←e3.len]
       rcases Nat.lt_or_ge σ'.length σ.length with h|h
       ·exfalso
        have:σ[σ'.length]? =some (σ[σ'.length]'h):=List.getElem?_eq_getElem h
        have:=(List.getElem?_eq_some_iff.1 (e2 _ _ this)).1
        omega
       ·exact h
      have hR2:Rel p' σ' ⟨s.ρ,s.n,H',s.m,ds⟩ { a with defers:=t } w':=
       ⟨hR.size,DRel.mono e2 _ _ hds,fun t=>(hR.env t).mono e1 e2,e3,Nat.le_trans hR.m hlen⟩
      have hmm:=mono_m e2 hR.heap (Nat.le_trans hm hR.m)
      exact ih _ _ _ _ _ rfl hR2 hm e5 fun v w2 x p2 σ2 H2 f1 f2=>hk v w2 x p2 σ2 H2 (e1.trans f1) fun i hi=>(f2 i hi).trans (hmm i hi)
  |mk b=>
   unfold outM at h
   split at h
   ·rename_i hb
    rw[setK_eq] at h
    have hdr:=hR.df
    rw[hdf] at hdr
    cases hd:a.defers with
    |nil=>rw[hd] at hdr;simp[DRel] at hdr
    |cons d t=>
     rw[hd] at hdr
     obtain ⟨⟨r,hr,hdd⟩,hds⟩:=hdr
     obtain ⟨r',g1,g2,g3,g4⟩:=hR.heap.blk b _ hb
     rw[hr] at g1
     injection g1 with g1
     subst g1
     have g4:w.heap[r]? =some (.deferred (some [])):=g4
     have hsh:Shape w (setW w r (.deferred none)):=Shape.setOther g4 (fun _ _ _ h=>by simp at h)
     have hex:Ext p w p (setW w r (.deferred none)):=.set g2 hsh
     have hH:HRel p σ (s.H.set b none) (setW w r (.deferred none)):=by
      refine(hR.heap.kill b).keep hex ⟨rfl,fun c hc=>setW_other (fun e=>g2 (p.fu r (e▸hc)))⟩ (fun c hc=>by rw[setW_size];exact hR.heap.lt c hc) fun i q r2 hq hr2=>?_
      obtain ⟨r3,z1,z2,_⟩:=(hR.heap.kill b).blk i q hq
      rw[hr2] at z1
      injection z1 with z1
      subst z1
      refine⟨z2,setW_other fun e=>?_⟩
      subst e
      have hib:i≠b:=fun e=>by
       subst e
       rw[List.getElem?_set_self (List.getElem?_eq_some_iff.1 hb).1] at hq
       simp at hq
      rw[List.getElem?_set_ne (fun e=>hib e.symm)] at hq
      exact hib (hR.heap.inj i b r2 q _ hq hb hr2 hr)
     refine⟨by simp,.inl ⟨r,setW w r (.deferred none),by rw[hdd],?_,?_⟩⟩
     ·rw[run_takeDeferred g4]
      rfl
     ·have hR2:Rel p σ ⟨s.ρ,s.n,s.H.set b none,s.m,ds⟩ { a with defers:=t } (setW w r (.deferred none)):=
       ⟨hR.size,hds,fun t=>(hR.env t).mono hex (fun _ _ h=>h),hH,by simp only[List.length_set];exact hR.m⟩
      exact ih _ _ _ _ _ rfl hR2 hm h fun v w' x p' σ' H' h1=>hk v w' x p' σ' H' (hex.trans h1)
   ·exact h.elim
theorem get_argEnv (l:List AV): ∀(i t:Nat),get (argEnv l i) t=if i≤t then (l[t-i]?).getD .any else .any:=by
 induction l with
 |nil=>intro i t;simp[argEnv,get]
 |cons x r ih=>
  intro i t
  simp only[argEnv,get]
  cases hb:Nat.beq i t with
  |true=>
   have:=Nat.eq_of_beq_eq_true hb
   subst this
   simp
  |false=>
   have hne:i≠t:=fun e=>by subst e;simp at hb
   simp only[cond_false,ih]
   by_cases h:i≤t
   ·rw[if_pos (by omega),if_pos h,show t-i=(t-(i+1))+1 by omega]
    rfl
   ·rw[if_neg (by omega),if_neg h]
theorem Tri_of_awp (hT:TTok P tt) {f:FuncId} {fn:Func} {c:Code} (hf:P.funcs[f]? =some fn) (hb:fn.body=some c) (hnm:(fn.name== "runtime.NumGoroutine")=false)
  {args:List AV} {H:Heap} {Q:AV→Heap→Prop} (hargs:Nat.ble args.length fn.ntmps=true)
  (h:W P none c (RetQ P tt fn H.length Q) ⟨argEnv args 0,fn.ntmps,H,H.length,[]⟩):Tri P f args H Q:=by
 rw[Tri_eq]
 refine⟨⟨fn,hf,by simp[hb],hnm⟩,fun p σ w vs hH hs hv=>?_⟩
 have hle:=Nat.le_of_ble_eq_true hargs
 refine callsIn_wide.1 (callsIn_of_wp_marks (F:=Fence.wide) (n:=0) hf hb trivial ?_)
 rw[W_eq] at h
 have hR:Rel p σ ⟨argEnv args 0,fn.ntmps,H,H.length,[]⟩ { tmps:=vs++Array.replicate (fn.ntmps-vs.size) undef,defers:=[]} w:=by
  refine⟨by simp;omega,trivial,fun t=>?_,hH,Nat.le_refl _⟩
  simp only[get_argEnv,Nat.zero_le,if_true,Nat.sub_zero]
  cases ha:args[t]? with
  |none=>exact .any _
  |some x=>
   have hlt:t<vs.size:=by rw[hs];exact(List.getElem?_eq_some_iff.1 ha).1
   have:(vs++Array.replicate (fn.ntmps-vs.size) undef).getD t undef=vs[t]'hlt:=by
    rw[Array.getD_eq_getD_getElem?,Array.getElem?_append_left hlt,Array.getElem?_eq_getElem hlt]
    rfl
   simp only[this]
   exact hv t x _ ha (Array.getElem?_eq_getElem hlt)
 refine wpIn_mono (h p σ _ w hR) ?_
 rintro e a' w' ⟨ae,p',σ',s',rfl,g2,g3,g4,g5,g6,g7⟩
 have fin:outM P tt fn H.length Q s'.df s'.ρ s'.H→LeavesInM Fence.wide 0 P fn a'.tmps (fun e w'=> ∃v x p' σ' H',e=.returned v∧Ext p w p' w'∧(∀ (i r:Nat),σ[i]? =some r→σ'[i]? =some r)∧HRel p' σ' H' w'∧VRel p' σ' w' x v∧Q x H') a'.defers .returning w':=fun h=>
  out_run hT s'.df p' σ' s' a' w' rfl g4 (Nat.le_of_eq g5.symm) h fun v w2 x p2 σ2 H2 e1 e2 e3 e4 e5=>⟨v,x,p2,σ2,H2,rfl,g2.trans e1,fun i r hi=>by
   have hlt:i<H.length:=by rw[← hH.len];exact(List.getElem?_eq_some_iff.1 hi).1
   rw[e2 i hlt,g3 i hlt]
   exact hi,e3,e4,e5⟩
 cases ae with
 |normal=>exact fin g7
 |ret=>exact fin g7
 |exit i=>exact g7.elim
 |goto l=>exact g7.elim
def RetD (tt:TT) (fn:Func) (m:Nat) (Q:AV→Heap→Prop) (e:AEx) (s:St):Prop:=
 match e with
 |.normal=>match s.df with
  |[]=>resK tt s.ρ s.H fn.results.toList fun v=>FinK m v s.H Q
  |_=>False
 |.ret=>match s.df with
  |[]=>resK tt s.ρ s.H fn.results.toList fun v=>FinK m v s.H Q
  |_=>False
 |_=>False
theorem TriD_of_awp (hT:TTok P tt) {f:FuncId} {fn:Func} {c:Code} (hf:P.funcs[f]? =some fn) (hb:fn.body=some c) (hnm:(fn.name== "runtime.NumGoroutine")=false)
  {args:List AV} {H:Heap} {Q:AV→Heap→Prop} (hargs:Nat.ble args.length fn.ntmps=true)
  (h:W P none c (RetD tt fn H.length Q) ⟨argEnv args 0,fn.ntmps,H,H.length,[]⟩):TriD P f args H Q:=by
 refine⟨⟨⟨fn,hf,by simp[hb],hnm⟩,fun p σ w vs u hH hs hv=>?_⟩⟩
 have hle:=Nat.le_of_ble_eq_true hargs
 refine callsDIn_of_wp (F:=Fence.wide) (n:=0) hf hb trivial ?_
 rw[W_eq] at h
 have hR:Rel p σ ⟨argEnv args 0,fn.ntmps,H,H.length,[]⟩ { tmps:=vs++Array.replicate (fn.ntmps-vs.size) undef,defers:=[]} w:=by
  refine⟨by simp;omega,trivial,fun t=>?_,hH,Nat.le_refl _⟩
  simp only[get_argEnv,Nat.zero_le,if_true,Nat.sub_zero]
  cases ha:args[t]? with
  |none=>exact .any _
  |some x=>
   have hlt:t<vs.size:=by rw[hs];exact(List.getElem?_eq_some_iff.1 ha).1
   have:(vs++Array.replicate (fn.ntmps-vs.size) undef).getD t undef=vs[t]'hlt:=by
    rw[Array.getD_eq_getD_getElem?,Array.getElem?_append_left hlt,Array.getElem?_eq_getElem hlt]
    rfl
   simp only[this]
   exact hv t x _ ha (Array.getElem?_eq_getElem hlt)
 refine wpIn_mono (h p σ _ w hR) ?_
 rintro e a' w' ⟨ae,p',σ',s',rfl,g2,g3,g4,g5,g6,g7⟩
 have fin:(match s'.df with
  |[]=>resK tt s'.ρ s'.H fn.results.toList fun v=>FinK H.length v s'.H Q
  |_=>False)→a'.defers=[]∧ ∃v,(results fn a'.tmps).run P w'=.ok v w'∧(∃ v1 x p' σ' H',Ending.returned v=.returned v1∧Ext p w p' w'∧(∀ (i r:Nat),σ[i]? =some r→σ'[i]? =some r)∧HRel p' σ' H' w'∧VRel p' σ' w' x v1∧Q x H'):=fun h=>by
  split at h
  ·rename_i hdf
   have hd:a'.defers=[]:=by
    have:=g4.df
    rw[hdf] at this
    cases hd:a'.defers with
    |nil=>rfl
    |cons x t=>rw[hd] at this;simp[DRel] at this
   obtain ⟨v,x,h1,h2,hfin⟩:=resK_run hT g4 h
   rw[FinK_eq] at hfin
   obtain ⟨v',H',h3,h4⟩:=hfin
   rw[Fin_eq] at h3
   obtain ⟨p2,σ2,e1,e2,e3,e4⟩:=h3 p' σ' w' v (by have:=g4.m;rw[g5] at this;exact this) g4.heap h2
   refine⟨hd,v,h1,v,v',p2,σ2,H',rfl,g2.trans e1,fun i r hi=>?_,e3,e4,h4⟩
   have hlt:i<H.length:=by rw[← hH.len];exact(List.getElem?_eq_some_iff.1 hi).1
   rw[e2 i hlt,g3 i hlt]
   exact hi
  ·exact h.elim
 cases ae with
 |normal=>exact fin g7
 |ret=>exact fin g7
 |exit i=>exact g7.elim
 |goto l=>exact g7.elim
end
end Go.Eng
namespace Go.Eng
open Go
theorem Br_dec {c:Prop} [Decidable c] {X Y:Prop} (h1:c→X) (h2: ¬c→Y):Br (decide c) X Y:=by
 unfold Br;by_cases h:c <;> simp[h,h1,h2]
theorem Br_split {b:Bool} {X Y:Prop} (h1:b=true→X) (h2:b=false→Y):Br b X Y:=by
 unfold Br;cases b
 ·exact h2 rfl
 ·exact h1 rfl
theorem Br_true {b:Bool} {X Y:Prop} (h:b=true) (h1:X):Br b X Y:=by subst h;exact h1
theorem Br_false {b:Bool} {X Y:Prop} (h:b=false) (h1:Y):Br b X Y:=by subst h;exact h1
theorem Br_beq {x y:Int} {X Y:Prop} (h1:x=y→X) (h2:x≠y→Y):Br (x==y) X Y:=
 Br_split (fun h=>h1 (by simpa using h)) (fun h=>h2 (by simpa using h))
theorem Br_bne {x y:Int} {X Y:Prop} (h1:x≠y→X) (h2:x=y→Y):Br (x != y) X Y:=
 Br_split (fun h=>h1 (by simpa using h)) (fun h=>h2 (by simpa using h))
theorem Br_not {b:Bool} {X Y:Prop} (h:Br b Y X):Br (!b) X Y:=by cases b <;> exact h
theorem ArK_in {k:IntKind} {e:Int} {K:Int→Prop} (h:k.wrap e=e) (hK:K e):ArK k e K:=by simp only[ArK_eq];rw[h];exact hK
theorem ArK_any {k:IntKind} {e:Int} {K:Int→Prop} (hK:K (k.wrap e)):ArK k e K:=by simp only[ArK_eq];exact hK
theorem wrap_i64 {e:Int} (h1: -9223372036854775808≤e) (h2:e≤9223372036854775807):IntKind.i64.wrap e=e:=by
 simp only[IntKind.wrap,IntKind.signed,IntKind.bits]
 simp only[Bool.true_and,decide_eq_true_eq,ge_iff_le]
 split <;> omega
theorem W_run {P:Program} {tt:TT} (hT:TTok P tt) {ro:Option Nat} {c:Code} {Q:AEx→St→Prop} {s:St} (h:awp P tt ro c Q s):W P ro c Q s:=awp_sound hT c Q s h
mutual
theorem renId: ∀y:AV,Eng.ren id y=y
 |.ptr _ _=>rfl
 |.mp _=>rfl
 |.msl _ _ _ _ _=>rfl
 |.clos fn f c=>by simp[Eng.ren,renLId f,renLId c]
 |.agg cs=>by simp[Eng.ren,renLId cs]
 |.tup vs=>by simp[Eng.ren,renLId vs]
 |.any=>rfl
 |.d _=>rfl
 |.nsl=>rfl
 |.esl=>rfl
 |.fptr _ _=>rfl
theorem renLId: ∀l:List AV,Eng.renL id l=l
 |[]=>rfl
 |x::t=>by simp[Eng.renL,renId x,renLId t]
end
theorem Fin_plain {m:Nat} {v:AV} {H:Heap} (hv:low m v=true) (hH:HLe (List.range m) m H (H.take m) (List.range m)):Fin m v H v (H.take m):=by
 rw[Fin_eq]
 intro p σ w x hm hr hx
 have hlen:(List.range m).length=m:=by simp
 have hlt: ∀y∈List.range m,y<H.length:=fun y hy=>by have:=List.mem_range.1 hy;omega
 have hnd:noDup (List.range m)=true:=by
  have key: ∀(n s:Nat),noDup (List.range' s n)=true:=by
   intro n
   induction n with
   |zero=>intro s;rfl
   |succ n ih=>
    intro s
    rw[List.range'_succ]
    simp only[noDup,Bool.and_eq_true]
    refine⟨List.all_eq_true.2 fun y hy=>?_,ih _⟩
    have:=List.mem_range'.1 hy
    obtain ⟨i,hi,rfl⟩:=this
    have hne:s≠s+1+1 * i:=by omega
    cases hb:Nat.beq s (s+1+1 * i) with
    |false=>rfl
    |true=>exact absurd (Nat.eq_of_beq_eq_true hb) hne
  rw[List.range_eq_range']
  exact key m 0
 have hs:=renS_get (σ:=σ) (g:=List.range m) hlen (by rw[hr.len];exact hlt)
 have hg: ∀i,i<m→gOf (List.range m) i=i:=fun i hi=>by simp[gOf,List.getD_eq_getElem?_getD,hi]
 have hid: ∀(k:Nat),∀i,i<m→(renS (List.range m) σ)[i]? =σ[i]? :=fun k i hi=>by rw[hs i hi,hg i hi]
 refine⟨p,renS (List.range m) σ,.refl p w,fun i hi=>hid 0 i hi,hr.ren hlt hnd (by rw[hlen];exact hH),?_⟩
 have key: ∀(g:Nat→Nat),(∀ i,g i=i)→ ∀y:AV,Eng.ren g y=y:=by
  intro g hg
  have:g=id:=funext hg
  subst this
  intro y
  exact renId y
 exact hx.ren (g:=id) (fun i hi=>hid 0 i hi) v (renId v).symm hv
theorem VRel.renF {p:PQ} {σ σ':List Nat} {w:World} {g:Nat→Nat} (hg: ∀(i r:Nat),σ[i]? =some r→σ'[g i]? =some r) {y:AV} {v:Value} (h:VRel p σ w y v):VRel p σ' w (Eng.ren g y) v:=by
 induction h with
 |any v=>exact .any _
 |int k n=>exact .int _ _
 |bool b=>exact .bool _
 |str s h=>exact .str _ h
 |fn f=>exact .fn _
 |nptr=>exact .nptr
 |nfn=>exact .nfn
 |nmap=>exact .nmap
 |sl rows a n cap sz vals hn hB hc hrow hcells hv ih=>exact .sl rows a n cap sz vals hn hB hc hrow hcells ih
 |nsl=>exact .nsl
 |esl a=>exact .esl a
 |ptr b off r h=>exact .ptr _ _ r (hg _ _ h)
 |fptr row off r o vals hp hcells hv ih=>exact .fptr row off r o vals hp hcells ih
 |msl b off len cl sz r cap h hB hc hcl hblk=>exact .msl _ _ _ _ _ r cap (hg _ _ h) hB hc hcl hblk
 |mp b r h=>exact .mp _ r (hg _ _ h)
 |clos fn first caps fs cs h1 h2 hf hcp ih1 ih2=>
  refine .clos _ _ _ fs cs (by rw[renL_length];exact h1) (by rw[renL_length];exact h2) (fun i x v hx hv=>?_) (fun i x v hx hv=>?_)
  ·rw[renL_get] at hx
   cases hy:first[i]? with
   |none=>simp[hy] at hx
   |some z=>simp only[hy,Option.map_some,Option.some.injEq] at hx;subst hx;exact ih1 i z v hy hv
  ·rw[renL_get] at hx
   cases hy:caps[i]? with
   |none=>simp[hy] at hx
   |some z=>simp only[hy,Option.map_some,Option.some.injEq] at hx;subst hx;exact ih2 i z v hy hv
 |agg cs vs h hone hv ih=>
  refine .agg _ vs (by rw[renL_length];exact h) hone (fun i x v hx hv=>?_)
  rw[renL_get] at hx
  cases hy:cs[i]? with
  |none=>simp[hy] at hx
  |some z=>simp only[hy,Option.map_some,Option.some.injEq] at hx;subst hx;exact ih i z v hy hv
 |tup as_ vs h hv ih=>
  refine .tup _ vs (by rw[renL_length];exact h) (fun i x v hx hv=>?_)
  rw[renL_get] at hx
  cases hy:as_[i]? with
  |none=>simp[hy] at hx
  |some z=>simp only[hy,Option.map_some,Option.some.injEq] at hx;subst hx;exact ih i z v hy hv
theorem VRel.anyσ {p:PQ} {σ:List Nat} {w:World} {x:AV} {v:Value} (h:VRel p σ w x v) (hl:low 0 x=true) (σ':List Nat):VRel p σ' w x v:=
 h.ren (g:=id) (k:=0) (fun i hi=>by omega) x (renId x).symm hl
def noY:Heap→Bool
 |[]=>true
 |none::t=>noY t
 |some k::t=> !isY k&&noY t
theorem noY_get: ∀{H:Heap},noY H=true→ ∀{i:Nat} {k:Blk},H[i]? =some (some k)→isY k=false:=by
 intro H
 induction H with
 |nil=>intro _ i k h;simp at h
 |cons b t ih=>
  intro h i k hk
  cases b with
  |none=>cases i with
   |zero=>simp at hk
   |succ i=>simp only[List.getElem?_cons_succ] at hk;exact ih h hk
  |some b=>
   simp only[noY,Bool.and_eq_true,Bool.not_eq_true'] at h
   cases i with
   |zero=>simp at hk;subst hk;exact h.1
   |succ i=>simp only[List.getElem?_cons_succ] at hk;exact ih h.2 hk
theorem Tri.frame {P:Program} {f:FuncId} {args:List AV} {Q:AV→Heap→Prop} (h:Tri P f args [] Q) (hl:lowL 0 args=true) (hY: ∀v1 H1,Q v1 H1→noY H1=true) (H:Heap):
  Tri P f args H fun v H'=> ∃v1 H1,Q v1 H1∧v=Eng.ren (· +H.length) v1∧H'=H++H1.map (Option.map (renB (· +H.length))):=by
 simp only[Tri_eq] at *
 refine⟨h.1,fun p σ w vs hH hs hv=>?_⟩
 let live:Nat→Prop:=fun b=> ∃(i:Nat) (k:Blk),H[i]? =some (some k)∧σ[i]? =some b
 let p0:PQ:=⟨p.r,fun b=>p.u b∨live b,fun _=>False,fun b hb=>.inl (p.sub b hb),fun _ h=>h.elim,fun _ h=>h.elim⟩
 have hlive: ∀b,live b→ ¬p.u b∧b<w.heap.size:=fun b ⟨i,k,hi,hb⟩=>by
  obtain ⟨r,g1,g2,g3,_⟩:=hH.blk i k hi
  rw[hb] at g1
  injection g1 with g1
  subst g1
  exact⟨g2,g3⟩
 have hH0:HRel p0 [] [] w:=⟨rfl,fun b hb=>hb.elim (hH.lt b) fun hb=>(hlive b hb).2,fun i k hk=>by simp at hk,fun i j r k l hk=>by simp at hk,hH.gl.part fun _ h=>h⟩
 refine(h.2 p0 [] w vs hH0 hs fun i x v hx hv'=>((hv i x v hx hv').anyσ (lowL_get hl hx) []).mono' (p:=p) (p':=p0) (fun b hb=>hb) (fun _ _=>rfl) (.refl w) (fun _ _ h=>h)).mono ?_
 rintro e w' ⟨v,x,p',σ1,H1,rfl,hex,_,hH1,hvx,hq⟩
 have hnl: ∀b,p'.r b→ ¬live b:=fun b hb hlb=>by
  rcases hex.back b hb with h1|h1
  ·exact(hlive b hlb).1 (p.sub b h1)
  ·exact h1 (.inr hlb)
 have hpu: ∀b,p.u b→p'.u b∧ ¬live b:=fun b hb=>⟨hex.subu b (.inl hb),fun hl=>(hlive b hl).1 hb⟩
 let p2:PQ:=⟨p'.r,fun b=>p'.u b∧ ¬live b,p.f,fun b hb=>⟨p'.sub b hb,hnl b hb⟩,fun b hb=>hpu b (p.fu b hb),fun b hb hr=>(hex.back b hr).elim (p.fr b hb) fun hn=>hn (.inl (p.fu b hb))⟩
 have hex2:Ext p w p2 w':=⟨fun b hb=>hex.subr b hb,hpu,
  fun b hb=>(hex.back b hb).elim .inl fun hn=>.inr fun hu=>hn (.inl hu),fun _ h=>h,fun _ h=>.inl h,fun b hb _=>hex.same b (.inl hb) (fun h=>h),hex.shape⟩
 have hmono1: ∀(i r:Nat),σ1[i]? =some r→(σ++σ1)[i+H.length]? =some r:=fun i r hi=>by
  rw[← hH.len,List.getElem?_append_right (by omega)]
  simpa using hi
 have hleft: ∀(i r:Nat),σ[i]? =some r→(σ++σ1)[i]? =some r:=fun i r hi=>by
  rw[List.getElem?_append_left (List.getElem?_eq_some_iff.1 hi).1]
  exact hi
 have hlt': ∀b,b<w.heap.size→b<w'.heap.size:=fun b hb=>Nat.lt_of_lt_of_le hb hex.shape.1
 refine⟨v,_,p2,σ++σ1,_,rfl,hex2,hleft,?_,(hvx.renF hmono1).mono' (p:=p') (p':=p2) (fun b hb=>hb) (fun _ _=>rfl) (.refl w') (fun _ _ h=>h),x,H1,hq,rfl,rfl⟩
 have hlen1:=hH1.len
 have split: ∀(i:Nat) (k:Blk),(H++H1.map (Option.map (renB (· +H.length))))[i]? =some (some k)→
   (H[i]? =some (some k))∨(∃ j k1,i=j+H.length∧H1[j]? =some (some k1)∧k=renB (· +H.length) k1):=fun i k hk=>by
  rcases Nat.lt_or_ge i H.length with hi|hi
  ·rw[List.getElem?_append_left hi] at hk
   exact .inl hk
  ·rw[List.getElem?_append_right hi,List.getElem?_map] at hk
   refine .inr ⟨i-H.length,?_⟩
   cases hj:H1[i-H.length]? with
   |none=>simp[hj] at hk
   |some o=>
    cases o with
    |none=>simp[hj] at hk
    |some k1=>simp[hj] at hk;exact⟨k1,by omega,rfl,hk.symm⟩
 refine⟨by simp[hH.len,hlen1],fun b hb=>hH1.lt b hb.1,fun i k hk=>?_,fun i j r a b ha hb hi hj=>?_,hH.gl.ext hex2⟩
 ·rcases split i k hk with h1|⟨j,k1,rfl,h1,rfl⟩
  ·obtain ⟨r,g1,g2,g3,g4⟩:=hH.blk i k h1
   have hl:live r:=⟨i,k,h1,g1⟩
   exact⟨r,hleft i r g1,fun hu=>hu.2 hl,hlt' r g3,g4.mono hex2 hleft (hex.same r (.inr hl) (fun h=>h)) (fun _=>⟨rfl,fun b hb=>hex.same b (.inl (p.fu b hb)) (fun h=>h)⟩)⟩
  ·obtain ⟨r,g1,g2,g3,g4⟩:=hH1.blk j k1 h1
   refine⟨r,hmono1 j r g1,fun hu=>g2 hu.1,g3,?_⟩
   cases k1 with
   |row cs=>
    obtain ⟨c,e,fr,q1,q2,q3,q4⟩:=g4
    refine⟨c,e,fr,q1,by rw[renL_length];exact q2,q3,fun i x v hx hv=>?_⟩
    rw[renL_get] at hx
    cases hy:cs[i]? with
    |none=>simp[hy] at hx
    |some z=>
     simp only[hy,Option.map_some,Option.some.injEq] at hx
     subst hx
     obtain ⟨z1,z2⟩:=q4 i z v hy hv
     exact⟨(z1.renF hmono1).mono' (p:=p') (p':=p2) (fun b hb=>hb) (fun _ _=>rfl) (.refl w') (fun _ _ h=>h),z2⟩
   |iter s pos=>exact g4
   |dfr=>exact g4
   |raw o=>exact g4
   |bytes e bs=>exact g4
   |mp ks vs=>
    obtain ⟨es,cl,z1,z2,z3,z4,z5⟩:=g4
    refine⟨es,cl,z1,z2,by rw[renL_length];exact z3,z4,fun i x e hx he=>?_⟩
    rw[renL_get] at hx
    cases hy:vs[i]? with
    |none=>simp[hy] at hx
    |some z=>
     simp only[hy,Option.map_some,Option.some.injEq] at hx
     subst hx
     exact((z5 i z e hy he).renF hmono1).mono' (p:=p') (p':=p2) (fun b hb=>hb) (fun _ _=>rfl) (.refl w') (fun _ _ h=>h)
   |yl Y k=>have:=noY_get (hY _ _ hq) h1;simp[isY] at this
   |yz Y=>have:=noY_get (hY _ _ hq) h1;simp[isY] at this
 ·have hs1: ∀(i r:Nat) (k:Blk),H[i]? =some (some k)→(σ++σ1)[i]? =some r→σ[i]? =some r:=fun i r k hk hr=>by
   have:i<σ.length:=by rw[hH.len];exact(List.getElem?_eq_some_iff.1 hk).1
   rwa [List.getElem?_append_left this] at hr
  have hs2: ∀(j r:Nat),(σ++σ1)[j+H.length]? =some r→σ1[j]? =some r:=fun j r hr=>by
   rw[← hH.len,List.getElem?_append_right (by omega)] at hr
   simpa using hr
  rcases split i a ha with h1|⟨i',a1,rfl,h1,rfl⟩ <;> rcases split j b hb with h2|⟨j',b1,rfl,h2,rfl⟩
  ·exact hH.inj i j r a b h1 h2 (hs1 i r a h1 hi) (hs1 j r b h2 hj)
  ·exfalso
   obtain ⟨r',g1,g2,_⟩:=hH1.blk j' b1 h2
   rw[hs2 j' r hj] at g1
   injection g1 with g1
   subst g1
   exact g2 (hex.subu r (.inr ⟨i,a,h1,hs1 i r a h1 hi⟩))
  ·exfalso
   obtain ⟨r',g1,g2,_⟩:=hH1.blk i' a1 h1
   rw[hs2 i' r hi] at g1
   injection g1 with g1
   subst g1
   exact g2 (hex.subu r (.inr ⟨j,b,h2,hs1 j r b h2 hj⟩))
  ·rw[hH1.inj i' j' r a1 b1 h1 h2 (hs2 i' r hi) (hs2 j' r hj)]
mutual
theorem renLow (n:Nat): ∀y:AV,low 0 y=true→Eng.ren (· +n) y=y
 |.ptr b _,h=>by simp[low] at h
 |.msl b _ _ _ _,h=>by simp[low] at h
 |.mp b,h=>by simp[low] at h
 |.clos fn f c,h=>by
  simp only[low,Bool.and_eq_true] at h
  simp[Eng.ren,renLLow n f h.1,renLLow n c h.2]
 |.agg cs,h=>by simp only[low] at h;simp[Eng.ren,renLLow n cs h]
 |.tup vs,h=>by simp only[low] at h;simp[Eng.ren,renLLow n vs h]
 |.any,_=>rfl
 |.d _,_=>rfl
 |.nsl,_=>rfl
 |.esl,_=>rfl
 |.fptr _ _,_=>rfl
theorem renLLow (n:Nat): ∀l:List AV,lowL 0 l=true→Eng.renL (· +n) l=l
 |[],_=>rfl
 |x::t,h=>by
  simp only[lowL,Bool.and_eq_true] at h
  simp[Eng.renL,renLow n x h.1,renLLow n t h.2]
end
def Fn (P:Program) (f:FuncId) (args:List AV) (r:AV):Prop:=Tri P f args [] fun v H=>v=r∧H=[]
theorem Fn.use {P:Program} {f:FuncId} {args:List AV} {r:AV} (h:Fn P f args r) (hl:lowL 0 args=true) (hr:low 0 r=true) {H:Heap} {K:AV→Heap→Prop} (hK:K r H):Tri P f args H K:=by
 refine(Tri.frame h hl (fun v1 H1 hq=>by rw[hq.2];rfl) H).mono ?_
 rintro v H' ⟨v1,H1,⟨rfl,rfl⟩,rfl,rfl⟩
 have:Eng.ren (· +H.length) v1=v1:=by
  exact renLow H.length v1 hr
 rw[this]
 simpa using hK
theorem fin0 {v:AV} {H:Heap} {r:AV} (hv:low 0 v=true) (h:v=r):FinK 0 v H (fun v H=>v=r∧H=[]):=by
 rw[FinK_eq]
 exact⟨v,H.take 0,Fin_plain hv (by simp[HLe]),h,by simp⟩
theorem Fn_of {P:Program} {tt:TT} (hT:TTok P tt) {f:FuncId} {fn:Func} {c:Code} (hf:P.funcs[f]? =some fn) (hb:fn.body=some c) (hnm:(fn.name== "runtime.NumGoroutine")=false) {n:Nat} (hn:fn.ntmps=n)
  {args:List AV} {r:AV} (hargs:Nat.ble args.length n=true) (h:awp P tt none c (RetQ P tt fn 0 fun v H=>v=r∧H=[]) ⟨argEnv args 0,n,[],0,[]⟩):Fn P f args r:=by
 subst hn
 exact Tri_of_awp hT hf hb hnm hargs (W_run hT h)
theorem renL_d (g:Nat→Nat) (l:List D):renL g (l.map .d)=l.map .d:=by
 induction l with
 |nil=>rfl
 |cons x t ih=>simp[renL,Eng.ren,ih]
theorem lowL_d (k:Nat) (l:List D):lowL k (l.map .d)=true:=by
 induction l with
 |nil=>rfl
 |cons x t ih=>simp[lowL,low,ih]
end Go.Eng
namespace Go.Eng
open Go
def upd (ρ:Nat→AV) (d:Nat) (v:AV):Nat→AV:=fun t=>bif Nat.beq d t then v else ρ t
theorem get_cons (ρ:Env) (d:Nat) (v:AV):get ((d,v)::ρ)=upd (get ρ) d v:=by funext t;rfl
theorem beq_ne {d t:Nat} (h:d≠t):Nat.beq d t=false:=by
 cases hb:Nat.beq d t with
 |false=>rfl
 |true=>exact absurd (Nat.eq_of_beq_eq_true hb) h
theorem upd_comm {ρ:Nat→AV} {d e:Nat} (h:d≠e) (v u:AV):upd (upd ρ d v) e u=upd (upd ρ e u) d v:=by
 funext t
 simp only[upd]
 by_cases hd:d=t
 ·subst hd
  rw[beq_ne (Ne.symm h),Nat.beq_refl];rfl
 ·rw[beq_ne hd]
  rfl
theorem upd_same {ρ:Nat→AV} {d:Nat} {v:AV} (h:ρ d=v):upd ρ d v=ρ:=by
 funext t
 simp only[upd]
 by_cases hd:d=t
 ·subst hd;rw[Nat.beq_refl];exact h.symm
 ·rw[beq_ne hd];rfl
def updO (ρ:Nat→AV) (d:Option Nat) (v:AV):Nat→AV:=
 match d with
 |none=>ρ
 |some d=>upd ρ d v
structure CallF (P:Program) (g:FuncId) (as_:List AV) (H:Heap) (K:AV→Heap→Prop):Prop where
 out: ∃r,Fn P g as_ r∧lowL 0 as_=true∧low 0 r=true∧K r H
theorem CallF_eq (P:Program) (g:FuncId) (as_:List AV) (H:Heap) (K:AV→Heap→Prop):CallF P g as_ H K=(∃ r,Fn P g as_ r∧lowL 0 as_=true∧low 0 r=true∧K r H):=propext ⟨fun h=>h.out,fun h=>⟨h⟩⟩
structure CallP (P:Program) (g:FuncId) (as_:List AV) (H:Heap) (K:AV→Heap→Prop):Prop where
 out: ∃r new,(∀ K':AV→Heap→Prop,K' r (H++new)→Tri P g as_ H K')∧K r (H++new)
theorem CallP_eq (P:Program) (g:FuncId) (as_:List AV) (H:Heap) (K:AV→Heap→Prop):CallP P g as_ H K=(∃ r new,(∀ K':AV→Heap→Prop,K' r (H++new)→Tri P g as_ H K')∧K r (H++new)):=propext ⟨fun h=>h.out,fun h=>⟨h⟩⟩
structure CallH (P:Program) (g:FuncId) (as_:List AV) (H:Heap) (K:AV→Heap→Prop):Prop where
 out: ∃r H',(H.length≤H'.length∧ ∀K':AV→Heap→Prop,K' r H'→Tri P g as_ H K')∧K r H'
theorem CallH_eq (P:Program) (g:FuncId) (as_:List AV) (H:Heap) (K:AV→Heap→Prop):CallH P g as_ H K=(∃ r H',(H.length≤H'.length∧ ∀K':AV→Heap→Prop,K' r H'→Tri P g as_ H K')∧K r H'):=propext ⟨fun h=>h.out,fun h=>⟨h⟩⟩
theorem CallF_in {P:Program} {g:FuncId} {as_:List AV} {H:Heap} {K:AV→Heap→Prop} {r:AV} (h:Fn P g as_ r) (hl:lowL 0 as_=true) (hr:low 0 r=true) (hK:K r H):CallF P g as_ H K:=by
 rw[CallF_eq];exact⟨r,h,hl,hr,hK⟩
theorem CallP_in {P:Program} {g:FuncId} {as_:List AV} {H:Heap} {K:AV→Heap→Prop} {r:AV} (new:Heap) (h: ∀K':AV→Heap→Prop,K' r (H++new)→Tri P g as_ H K') (hK:K r (H++new)):CallP P g as_ H K:=by
 rw[CallP_eq];exact⟨r,new,h,hK⟩
theorem CallH_in {P:Program} {g:FuncId} {as_:List AV} {H:Heap} {K:AV→Heap→Prop} {r:AV} (H':Heap) (hl:H.length≤H'.length) (h: ∀K':AV→Heap→Prop,K' r H'→Tri P g as_ H K') (hK:K r H'):CallH P g as_ H K:=by
 rw[CallH_eq];exact⟨r,H',⟨hl,h⟩,hK⟩
def callM (P:Program) (md:Nat) (g:FuncId) (as_:List AV) (H:Heap) (K:AV→Heap→Prop):Prop:=
 match md with
 |0=>CallF P g as_ H K
 |1=>CallP P g as_ H K
 |2=>CallH P g as_ H K
 |3=>CallF P g as_ H K
 |n+4=>match Nat.beq g n with
  |true=>CallF P g as_ H K
  |false=>CallH P g as_ H K
def isF (f:Operand) (n:Nat):Bool:=
 match f with
 |.func g=>Nat.beq g n
 |_=>false
theorem isF_in {f:Operand} {n:Nat} (h:isF f n=true):f=.func n:=by
 cases f <;> simp[isF] at h
 subst h;rfl
theorem CallF_det {P:Program} {g:FuncId} {as_:List AV} {H:Heap} {K:AV→Heap→Prop} (h:CallF P g as_ H K): ∃v H',K v H'∧H.length≤H'.length∧ ∀K':AV→Heap→Prop,K' v H'→CallF P g as_ H K':=by
 rw[CallF_eq] at h
 obtain ⟨r,h1,h2,h3,h4⟩:=h
 exact⟨r,H,h4,Nat.le_refl _,fun K' hk=>CallF_in h1 h2 h3 hk⟩
theorem CallH_det {P:Program} {g:FuncId} {as_:List AV} {H:Heap} {K:AV→Heap→Prop} (h:CallH P g as_ H K): ∃v H',K v H'∧H.length≤H'.length∧ ∀K':AV→Heap→Prop,K' v H'→CallH P g as_ H K':=by
 rw[CallH_eq] at h
 obtain ⟨r,new,h1,h2⟩:=h
 exact⟨r,new,h2,h1.1,fun K' hk=>CallH_in new h1.1 h1.2 hk⟩
theorem callM_det {P:Program} {md:Nat} (h0:md≠0) (h1:md≠1) (h3:md≠3) {g:FuncId} {as_:List AV} {H:Heap} {K:AV→Heap→Prop} (h:callM P md g as_ H K):
  ∃v H',K v H'∧H.length≤H'.length∧ ∀K':AV→Heap→Prop,K' v H'→callM P md g as_ H K':=by
 match md,h0,h1,h3,h with
 |2,_,_,_,h=>exact CallH_det h
 |n+4,_,_,_,h=>
  unfold callM at h⊢
  simp only at h⊢
  cases hb:Nat.beq g n with
  |true=>rw[hb] at h;exact CallF_det h
  |false=>rw[hb] at h;exact CallH_det h
def bsK (md sz n:Nat) (cs:List AV) (H:Heap) (K:AV→Heap→Prop):Prop:=
 match md with
 |3=>ChK (pushK H (.row cs) fun b H'=>K (.msl b 0 n n sz) H') (datK sz n cs fun v=>K v H)
 |_=>datK sz n cs fun v=>K v H
theorem bsK_dat {md:Nat} (h:md≠3) (sz n:Nat) (cs:List AV) (H:Heap) (K:AV→Heap→Prop):bsK md sz n cs H K=datK sz n cs fun v=>K v H:=by
 unfold bsK
 split <;> first|exact absurd rfl h|rfl
theorem bsK_in {md sz n:Nat} {cs:List AV} {H:Heap} {K:AV→Heap→Prop} (h:bsK md sz n cs H K):ChK (pushK H (.row cs) fun b H'=>K (.msl b 0 n n sz) H') (datK sz n cs fun v=>K v H):=by
 by_cases e:md=3
 ·subst e;exact h
 ·rw[bsK_dat e] at h;exact Ch_r h
theorem callM_tri {P:Program} {md:Nat} {g:FuncId} {as_:List AV} {H:Heap} {K:AV→Heap→Prop} (h:callM P md g as_ H K):Tri P g as_ H K:=by
 have f:CallF P g as_ H K→Tri P g as_ H K:=fun h=>by
  rw[CallF_eq] at h
  obtain ⟨r,h1,h2,h3,h4⟩:=h
  exact h1.use h2 h3 h4
 unfold callM at h
 split at h
 ·exact f h
 ·rw[CallP_eq] at h
  obtain ⟨r,new,h1,h2⟩:=h
  exact h1 _ h2
 ·rw[CallH_eq] at h
  obtain ⟨r,new,h1,h2⟩:=h
  exact h1.2 _ h2
 ·exact f h
 ·split at h
  ·exact f h
  ·rw[CallH_eq] at h
   obtain ⟨r,new,h1,h2⟩:=h
   exact h1.2 _ h2
def lenD (ti:TI) (x:AV):Option AV:=
 match ti.k with
 |.str=>match x with
  |.d (.str s)=>some (.d (.int .i64 s.size))
  |_=>none
 |.slice _=>match x with
  |.d (.sl rows)=>some (.d (.int .i64 rows.length))
  |.nsl=>some (.d (.int .i64 0))
  |.msl _ _ len _ _=>some (.d (.int .i64 len))
  |.esl=>some (.d (.int .i64 0))
  |_=>none
 |.arr n _=>some (.d (.int .i64 n))
 |_=>none
def sliceA (base:Nat) (lo hi:Option Operand) (v:AV) (X:Prop):Prop:=
 match v with
 |.ptr b _=>match Nat.blt b base with
  |true=>match lo with
   |none=>match hi with
    |none=>X
    |some _=>False
   |some _=>False
  |false=>False
 |_=>False
theorem sliceA_in {base:Nat} {lo hi:Option Operand} {v:AV} {X:Prop} (h:sliceA base lo hi v X):X∧lo=none∧hi=none∧ ∃b o,v=.ptr b o∧Nat.blt b base=true:=by
 unfold sliceA at h
 repeat' (first|exact h.elim|split at h)
 exact⟨h,rfl,rfl,_,_,rfl,by assumption⟩
theorem sliceA_of {base:Nat} {b o:Nat} {X:Prop} (hb:Nat.blt b base=true) (h:X):sliceA base none none (.ptr b o) X:=by
 unfold sliceA;simp only[hb];exact h
def opKd (P:Program) (tt:TT) (md base:Nat) (op:Op) (ρ:Nat→AV) (H:Heap) (K:AV→Heap→Prop):Prop:=
 match op with
 |.move _|.assign _|.pick _ _ _|.nilCheck _|.unOp _ _ _|.convert _ _ _|.makeFunc _ _ _|.fieldAddr _ _ _|.field _ _ _|.indexAddr _ _ _|.index _ _ _
 |.extract _ _|.build _ _|.alloc _|.box _ _|.makeMap _ _|.store _ _ _|.lookup _ _ _ _|.mapUpdate _ _ _ _=>opK P tt op ρ H K
 |.binOp _ _ x _ _=>match evalO ρ x with
  |.d (.int _ _)=>opK P tt op ρ H K
  |.d (.bool _)=>opK P tt op ρ H K
  |.d (.str _)=>opK P tt op ρ H K
  |.d .nptr=>opK P tt op ρ H K
  |.ptr _ _=>opK P tt op ρ H K
  |.agg _=>opK P tt op ρ H K
  |_=>False
 |.buildSlice t len parts=>match tt t with
  |none=>False
  |some ti=>match ti.k with
   |.slice e=>match tt e with
    |none=>False
    |some ei=>match Nat.ble (len+len * ei.size) 1000 with
     |true=>match Nat.beq ei.zero.length ei.size with
      |true=>fillK (fun i=>some (i * ei.size,ei.size)) (repRow ei.zero len) (partsO ρ parts.toList) fun cs=>forceL cs fun cs=>bsK md ei.size len cs H K
      |false=>False
     |false=>False
   |_=>False
 |.slice t x lo hi mx=>match mx with
  |some _=>False
  |none=>match tt t with
   |some ti=>match ti.k with
    |.arr _ _=>sliceA base lo hi (evalO ρ x) (opK P tt op ρ H K)
    |_=>opK P tt op ρ H K
   |none=>False
 |.load _ x=>match evalO ρ x with
  |.ptr b _=>match Nat.blt b base with
   |true=>opK P tt op ρ H K
   |false=>False
  |.fptr _ _=>opK P tt op ρ H K
  |_=>False
 |.call c=>match c.callee with
  |.value f=>match evalO ρ f with
   |.d (.fn g)=>forceL (mapO ρ c.args.toList) fun as_=>callM P md g as_ H K
   |.clos fn fs cs=>match fn with
    |.func g=>forceL (mapO ρ c.args.toList) fun as_=>callM P md g (fs++as_++cs) H K
    |_=>False
   |_=>False
  |.builtin b=>match b with
   |.len=>match c.argTypes.toList,mapO ρ c.args.toList with
    |t::_,x::_=>match tt t with
     |some ti=>match lenD ti x with
      |some v=>K v H
      |none=>False
     |none=>False
    |_,_=>False
   |.min=>opK P tt op ρ H K
   |.max=>opK P tt op ρ H K
   |.append=>opK P tt op ρ H K
   |_=>False
  |_=>False
 |_=>False
def cls (md:Nat):Op→Nat
 |.move _|.assign _|.pick _ _ _|.nilCheck _|.unOp _ _ _|.convert _ _ _|.makeFunc _ _ _|.fieldAddr _ _ _|.field _ _ _|.indexAddr _ _ _|.index _ _ _
 |.extract _ _|.build _ _|.binOp _ _ _ _ _=>0
 |.buildSlice _ _ _=>match md with
  |3=>2
  |_=>0
 |.slice _ _ lo hi _=>match lo with
  |none=>match hi with
   |none=>1
   |some _=>0
  |some _=>0
 |.load _ _=>1
 |.alloc _|.box _ _|.makeMap _ _=>2
 |.call c=>match c.callee with
  |.value f=>match md with
   |0=>0
   |1=>2
   |2=>3
   |3=>0
   |n+4=>match isF f n with
    |true=>0
    |false=>3
  |.builtin b=>match b with
   |.len=>0
   |.min=>0
   |.max=>0
   |_=>3
  |_=>3
 |_=>3
theorem cls_slice (md:Nat) (t:TypeId) (x:Operand) (lo hi mx:Option Operand):cls md (.slice t x lo hi mx)=0∨cls md (.slice t x lo hi mx)=1:=by
 cases lo <;> cases hi <;> simp[cls]
theorem cls_lit (md:Nat) (t:TypeId) (n:Nat) (l:Array (Nat×Operand)):(md=3∧cls md (.buildSlice t n l)=2)∨(md≠3∧cls md (.buildSlice t n l)=0):=by
 by_cases h:md=3
 ·subst h;exact .inl ⟨rfl,rfl⟩
 ·refine .inr ⟨h,?_⟩
  simp only[cls]
theorem cls_val (md:Nat) (f:Operand) (as_:Array Operand) (ts:Array TypeId):((md=0∨md=3)∧cls md (.call ⟨.value f,as_,ts⟩)=0)∨(md=1∧cls md (.call ⟨.value f,as_,ts⟩)=2)∨
  (∃ n,md=n+4∧f=.func n∧cls md (.call ⟨.value f,as_,ts⟩)=0)∨(md≠0∧md≠1∧md≠3∧cls md (.call ⟨.value f,as_,ts⟩)=3):=by
 match md with
 |0=>exact .inl ⟨.inl rfl,rfl⟩
 |1=>exact .inr (.inl ⟨rfl,rfl⟩)
 |2=>exact .inr (.inr (.inr ⟨by omega,by omega,by omega,rfl⟩))
 |3=>exact .inl ⟨.inr rfl,rfl⟩
 |n+4=>
  cases hb:isF f n with
  |true=>exact .inr (.inr (.inl ⟨n,rfl,isF_in hb,by simp only[cls,hb]⟩))
  |false=>exact .inr (.inr (.inr ⟨by omega,by omega,by omega,by simp only[cls,hb]⟩))
theorem evalO_congr {ρ ρ':Nat→AV} {x:Operand} (h: ∀t,x=.tmp t→ρ t=ρ' t):evalO ρ x=evalO ρ' x:=by
 cases x with
 |tmp t=>exact h t rfl
 |const v=>rfl
 |global g=>rfl
 |func f=>rfl
def Agree (ρ ρ':Nat→AV) (l:List Operand):Prop:= ∀x∈l,evalO ρ x=evalO ρ' x
theorem mapO_congr {ρ ρ':Nat→AV} {l:List Operand} (h:Agree ρ ρ' l):mapO ρ l=mapO ρ' l:=List.map_congr_left h
theorem opK_congr {P:Program} {tt:TT} {op:Op} {ρ ρ':Nat→AV} {H:Heap} {K:AV→Heap→Prop} (h:Agree ρ ρ' op.operands.toList):opK P tt op ρ H K=opK P tt op ρ' H K:=by
 cases op <;> simp only[opK] <;> (try (simp only[Op.operands,Agree,List.mem_cons,List.mem_singleton,List.not_mem_nil,or_false,forall_eq_or_imp,forall_eq,Array.toList] at h))
 case move=>rw[h]
 case assign=>rw[h]
 case pick=>rw[h.1,h.2.1,h.2.2]
 case box=>rw[h]
 case build t parts=>
  have:partsO ρ parts.toList=partsO ρ' parts.toList:=by
   refine List.map_congr_left fun x hx=>?_
   obtain ⟨i,x⟩:=x
   simp only[h x (List.mem_map.2 ⟨_,hx,rfl⟩)]
  rw[this]
 case buildSlice t len parts=>
  have:partsO ρ parts.toList=partsO ρ' parts.toList:=by
   refine List.map_congr_left fun x hx=>?_
   obtain ⟨i,x⟩:=x
   simp only[h x (List.mem_map.2 ⟨_,hx,rfl⟩)]
  rw[this]
 case insert=>rw[h.1,h.2.1,h.2.2]
 case load=>rw[h]
 case store=>rw[h.1,h.2]
 case nilCheck=>rw[h]
 case binOp=>rw[h.1,h.2]
 case unOp=>rw[h]
 case convert=>rw[h]
 case makeFunc fn fs cs=>
  have h1:mapO ρ fs.toList=mapO ρ' fs.toList:=mapO_congr fun x hx=>h x (by simp;exact .inl (by simpa using hx))
  have h2:mapO ρ cs.toList=mapO ρ' cs.toList:=mapO_congr fun x hx=>h x (by simp;exact .inr (by simpa using hx))
  generalize fs.toList=l1 at h1
  generalize cs.toList=l2 at h2
  cases fn <;> (try rfl)
  cases l1 <;> cases l2 <;> first|rfl|simp only[h1,h2]
 case slice t x lo hi mx=>
  have hx:evalO ρ x=evalO ρ' x:=h x (by simp)
  have hl: ∀l,lo=some l→evalO ρ l=evalO ρ' l:=fun l e=>h l (by simp[e])
  have hh: ∀l,hi=some l→evalO ρ l=evalO ρ' l:=fun l e=>h l (by simp[e])
  rw[hx]
  have hm: ∀l,mx=some l→evalO ρ l=evalO ρ' l:=fun l e=>h l (by simp[e])
  cases mx with
  |none=>cases lo with
   |none=>cases hi with
    |none=>rfl
    |some b=>simp only[hh b rfl]
   |some a=>cases hi with
    |none=>simp only[hl a rfl]
    |some b=>simp only[hl a rfl,hh b rfl]
  |some c=>cases lo with
   |none=>cases hi with
    |none=>simp only[hm c rfl]
    |some b=>simp only[hh b rfl,hm c rfl]
   |some a=>cases hi with
    |none=>simp only[hl a rfl,hm c rfl]
    |some b=>simp only[hl a rfl,hh b rfl,hm c rfl]
 case fieldAddr=>rw[h]
 case field=>rw[h]
 case indexAddr=>rw[h.1,h.2]
 case index=>rw[h.1,h.2]
 case lookup=>rw[h.1,h.2]
 case mapUpdate=>rw[h.1,h.2.1,h.2.2]
 case range=>rw[h]
 case next=>rw[h]
 case extract=>rw[h]
 case call c=>
  obtain ⟨cal,args,tys⟩:=c
  have h1:mapO ρ args.toList=mapO ρ' args.toList:=mapO_congr fun x hx=>h x (by
   simp[Op.operands,Call.operands];exact .inr (by simpa using hx))
  cases cal with
  |value f=>
   have h2:evalO ρ f=evalO ρ' f:=h f (by simp[Op.operands,Call.operands])
   simp only[callK,h1,h2]
  |builtin b=>simp only[callK,h1]
  |invoke r m=>rfl
end Go.Eng
namespace Go.Eng
open Go
def PD (F:Heap→(AV→Heap→Prop)→Prop):Prop:= ∀H K,F H K→ ∃v,K v H∧ ∀(H2:Heap) (K':AV→Heap→Prop),K' v H2→F H2 K'
theorem PD_K (v:AV):PD fun H K=>K v H:=fun H K h=>⟨v,h,fun _ _ h=>h⟩
theorem PD_F:PD fun _ _=>False:=fun H K h=>h.elim
theorem PD_force (v:AV):PD fun H K=>force v fun v=>K v H:=fun H K h=>by
 simp only[force_eq] at h
 exact⟨v,h,fun H2 K' h'=>by simp only[force_eq];exact h'⟩
theorem PD_forceD (x:D):PD fun H K=>forceD x fun x=>K (.d x) H:=fun H K h=>by
 simp only[forceD_eq] at h
 exact⟨.d x,h,fun H2 K' h'=>by simp only[forceD_eq];exact h'⟩
theorem PD_forceL (l:List AV) {F:List AV→Heap→(AV→Heap→Prop)→Prop} (h: ∀l,PD (F l)):PD fun H K=>forceL l fun l=>F l H K:=by
 simp only[forceL_eq]
 exact h l
theorem PD_Br {b:Bool} {X Y:Heap→(AV→Heap→Prop)→Prop} (hx:PD X) (hy:PD Y):PD fun H K=>Br b (X H K) (Y H K):=by
 cases b
 ·exact hy
 ·exact hx
theorem PD_Ar {k:IntKind} {e:Int} {F:Int→Heap→(AV→Heap→Prop)→Prop} (h: ∀n,PD (F n)):PD fun H K=>ArK k e fun n=>F n H K:=by
 simp only[ArK_eq]
 exact h _
theorem PD_Need {φ:Prop} {F:Heap→(AV→Heap→Prop)→Prop} (h:PD F):PD fun H K=>NeedK φ (F H K):=by
 simp only[NeedK_eq]
 intro H K ⟨h1,h2⟩
 obtain ⟨v,h3,h4⟩:=h H K h2
 exact⟨v,h3,fun H2 K' h'=>⟨h1,h4 H2 K' h'⟩⟩
theorem PD_Ch {F G:Heap→(AV→Heap→Prop)→Prop} (h1:PD F) (h2:PD G):PD fun H K=>ChK (F H K) (G H K):=by
 rintro H K ⟨h|h⟩
 ·obtain ⟨v,h3,h4⟩:=h1 H K h
  exact⟨v,h3,fun H2 K' h'=>Ch_l (h4 H2 K' h')⟩
 ·obtain ⟨v,h3,h4⟩:=h2 H K h
  exact⟨v,h3,fun H2 K' h'=>Ch_r (h4 H2 K' h')⟩
theorem PD_Idx {rows:List (List D)} {n:Int} {sz:Nat} {F:List D→Heap→(AV→Heap→Prop)→Prop} (h: ∀r,PD (F r)):PD fun H K=>IdxK rows n sz fun row=>F row H K:=by
 simp only[IdxK_eq]
 rintro H K ⟨row,h1,h2,h3,h4⟩
 obtain ⟨v,h5,h6⟩:=h row H K h4
 exact⟨v,h5,fun H2 K' h'=>⟨row,h1,h2,h3,h6 H2 K' h'⟩⟩
theorem PD_Byte {s:ByteArray} {n:Int} {F:UInt8→Heap→(AV→Heap→Prop)→Prop} (h: ∀r,PD (F r)):PD fun H K=>ByteK s n fun row=>F row H K:=by
 simp only[ByteK_eq]
 rintro H K ⟨row,h1,h2,h4⟩
 obtain ⟨v,h5,h6⟩:=h row H K h4
 exact⟨v,h5,fun H2 K' h'=>⟨row,h1,h2,h6 H2 K' h'⟩⟩
theorem PD_load (ti:TI) (cs:List AV) (o:Nat):PD fun H K=>loadK ti cs o fun v=>K v H:=by
 unfold loadK Br CellK
 cases ti.isAgg
 ·cases cs[o]?
  ·exact PD_F
  ·exact PD_force _
 ·generalize Nat.ble (o+ti.size) cs.length=b
  cases b
  ·exact PD_F
  ·exact PD_forceL (F:=fun l H K=>K (.agg l) H) _ fun l=>PD_K _
theorem PD_loadD (ti:TI) (cs:List D) (o:Nat):PD fun H K=>loadDK ti cs o fun v=>K v H:=by
 unfold loadDK
 cases ti.isAgg
 ·cases cs[o]?
  ·exact PD_F
  ·exact PD_forceD _
 ·generalize Nat.ble (o+ti.size) cs.length=b
  cases b
  ·exact PD_F
  ·exact PD_forceL (F:=fun l H K=>K (.agg l) H) _ fun l=>PD_K _
theorem PD_fill (place:Nat→Option (Nat×Nat)) {F:List AV→Heap→(AV→Heap→Prop)→Prop} (h: ∀l,PD (F l)) (l:List (Nat×AV)): ∀cs,PD fun H K=>fillK place cs l fun cs=>F cs H K:=by
 induction l with
 |nil=>intro cs;exact h cs
 |cons x r ih=>
  intro cs
  obtain ⟨i,v⟩:=x
  unfold fillK
  cases place i with
  |none=>exact PD_F
  |some os=>
   obtain ⟨off,size⟩:=os
   have key: ∀vs:List AV,PD fun H K=>(match Nat.beq vs.length size with
    |true=>match Nat.ble (off+vs.length) cs.length with
     |true=>fillK place (splice cs off vs) r fun cs=>F cs H K
     |false=>False
    |false=>False):=fun vs=>by
    cases Nat.beq vs.length size
    ·exact PD_F
    ·cases Nat.ble (off+vs.length) cs.length
     ·exact PD_F
     ·exact ih _
   cases v <;> first|exact key _|exact PD_F
theorem PD_int (tt:TT) (ti:Option TI) (op:BinOp) (k:IntKind) (a:Int) (y:AV):PD fun H K=>binK tt ti op (.d (.int k a)) y fun v=>K v H:=by
 cases y <;> (try exact PD_F)
 rename_i y
 cases y <;> (try exact PD_F)
 rename_i k' b
 unfold binK
 simp only
 cases decide (k=k')
 ·exact PD_F
 ·cases op <;> first|exact PD_F|exact PD_K _|exact PD_Ar (F:=fun n H K=>K (.d (.int k n)) H) (fun n=>PD_K _)|exact PD_Need (PD_K _)|exact PD_Need (PD_Ar (F:=fun n H K=>K (.d (.int k n)) H) (fun n=>PD_K _))
theorem PD_str (tt:TT) (ti:Option TI) (op:BinOp) (a:ByteArray) (y:AV):PD fun H K=>binK tt ti op (.d (.str a)) y fun v=>K v H:=by
 cases y <;> (try exact PD_F)
 rename_i y
 cases y <;> (try exact PD_F)
 cases op <;> first|exact PD_F|exact PD_K _|exact PD_Need (PD_K _)
theorem PD_bool (tt:TT) (ti:Option TI) (op:BinOp) (a:Bool) (y:AV):PD fun H K=>binK tt ti op (.d (.bool a)) y fun v=>K v H:=by
 unfold binK
 cases ti with
 |none=>exact PD_F
 |some ti=>
  simp only
  generalize ti.k=k
  cases k <;> (try exact PD_F)
  cases y <;> (try exact PD_F)
  rename_i y
  cases y <;> (try exact PD_F)
  cases op <;> first|exact PD_F|exact PD_K _
theorem PD_agg (tt:TT) (ti:Option TI) (op:BinOp) (a:List AV) (y:AV):PD fun H K=>binK tt ti op (.agg a) y fun v=>K v H:=by
 unfold binK
 cases ti with
 |none=>exact PD_F
 |some ti=>
  simp only
  generalize cmpF tt ti.k=k
  cases k <;> (try exact PD_F)
  simp only
  cases y <;> (try exact PD_F)
  simp only
  cases ti.eq <;> (try exact PD_F)
  simp only
  split
  ·cases op <;> first|exact PD_F|exact PD_K _
  ·exact PD_F
theorem PD_ptrK (tt:TT) (e:Nat) (op:BinOp) (z:Option Bool):PD fun H K=>ptrK tt e op z fun v=>K v H:=by
 unfold ptrK
 cases tt e with
 |none=>exact PD_F
 |some ei=>
  simp only
  cases Nat.beq ei.size 0 <;> (try exact PD_F)
  cases z <;> (try exact PD_F)
  cases op <;> first|exact PD_F|exact PD_K _
theorem PD_ptr (tt:TT) (ti:Option TI) (op:BinOp) (x y:AV) (hx:x=.d .nptr∨ ∃b o,x=.ptr b o):PD fun H K=>binK tt ti op x y fun v=>K v H:=by
 unfold binK
 rcases hx with rfl|⟨b,o,rfl⟩
 ·cases ti with
  |none=>exact PD_F
  |some ti=>
   simp only
   generalize ti.k=k
   cases k <;> (try exact PD_F)
   ·exact PD_ptrK _ _ _ _
   ·cases y <;> (try exact PD_F)
    cases op <;> exact PD_F
 ·cases ti with
  |none=>exact PD_F
  |some ti=>
   simp only
   generalize ti.k=k
   cases k <;> (try exact PD_F)
   ·exact PD_ptrK _ _ _ _
   ·cases y <;> (try exact PD_F)
    cases op <;> exact PD_F
theorem PD_dat (sz n:Nat) (cs:List AV):PD fun H K=>datK sz n cs fun v=>K v H:=by
 unfold datK
 split
 ·exact PD_K _
 ·split
  ·exact PD_K _
  ·exact PD_F
theorem PD_un (op:UnOp) (x:AV):PD fun H K=>unK op x fun v=>K v H:=by
 cases x <;> (try exact PD_F)
 rename_i x
 cases x <;> (try exact PD_F)
 ·cases op <;> first|exact PD_F|exact PD_Ar (F:=fun n H K=>K (.d (.int _ n)) H) (fun n=>PD_K _)
 ·cases op <;> first|exact PD_F|exact PD_K _
theorem PD_mm (mx:Bool) (l:List AV): ∀x:AV,PD fun H K=>mmK mx x l fun v=>K v H:=by
 induction l with
 |nil=>intro x;exact PD_force x
 |cons y r ih=>
  intro x
  cases x <;> (try exact PD_F)
  rename_i x
  cases x <;> (try exact PD_F)
  cases y <;> (try exact PD_F)
  rename_i y
  cases y <;> (try exact PD_F)
  cases mx
  ·exact ih _
  ·exact ih _
section
variable {P:Program} {tt:TT} {md base:Nat} {ρ:Nat→AV}
theorem PD_move (x:Operand):PD (opK P tt (.move x) ρ):=PD_force _
theorem PD_assign (x:Operand):PD (opK P tt (.assign x) ρ):=PD_force _
theorem PD_pick (c x y:Operand):PD (opK P tt (.pick c x y) ρ):=by
 unfold opK
 simp only
 generalize evalO ρ c=v
 cases v <;> (try exact PD_F)
 rename_i d
 cases d <;> (try exact PD_F)
 exact PD_Br (PD_force _) (PD_force _)
theorem PD_nilCheck (x:Operand):PD (opK P tt (.nilCheck x) ρ):=by
 unfold opK
 simp only
 generalize evalO ρ x=v
 cases v <;> (try exact PD_F) <;> (try exact PD_K _)
 ·rename_i d
  cases d <;> first|exact PD_F|exact PD_K _
 ·rename_i fn _ _
  cases fn <;> first|exact PD_F|exact PD_K _
theorem PD_unOp (op:UnOp) (t:TypeId) (x:Operand):PD (opK P tt (.unOp op t x) ρ):=PD_un _ _
theorem PD_Text {rows:List (List D)} {F:ByteArray→Heap→(AV→Heap→Prop)→Prop} (h: ∀r,PD (F r)):PD fun H K=>TextK rows fun s=>F s H K:=by
 rintro H K ⟨l,h1,h4⟩
 obtain ⟨v,h5,h6⟩:=h _ H K h4
 exact⟨v,h5,fun H2 K' h'=>⟨l,h1,h6 H2 K' h'⟩⟩
theorem PD_convert (u t:TypeId) (x:Operand):PD (opK P tt (.convert u t x) ρ):=by
 unfold opK
 simp only
 cases tt u with
 |none=>exact PD_F
 |some ui=>
 cases tt t with
 |none=>exact PD_F
 |some ti=>
  simp only
  generalize ti.k=k
  generalize evalO ρ x=v
  cases k <;> (try exact PD_F)
  ·cases v <;> (try exact PD_F)
   rename_i d
   cases d <;> (try exact PD_F)
   exact PD_Ar (F:=fun n H K=>K (.d (.int _ n)) H) (fun n=>PD_K _)
  ·cases v <;> (try exact PD_F)
   rename_i d
   cases d <;> (try exact PD_F)
   ·exact PD_K _
   ·simp only
    generalize ui.k=k2
    cases k2 <;> (try exact PD_F)
    rename_i e0
    simp only
    cases tt e0 with
    |none=>exact PD_F
    |some ei=>
     simp only
     generalize ei.k=k3
     cases k3 <;> (try exact PD_F)
     rename_i k4
     cases k4 <;> (try exact PD_F)
     exact PD_Text fun s=>PD_K _
theorem PD_makeFunc (fn:Go.Fn) (fs cs:Array Operand):PD (opK P tt (.makeFunc fn fs cs) ρ):=by
 unfold opK
 simp only
 cases fn <;> (try exact PD_F)
 generalize fs.toList=l1
 generalize cs.toList=l2
 cases l1 <;> cases l2
 ·exact PD_K _
 all_goals exact PD_forceL (F:=fun fs H K=>forceL _ fun cs=>K (.clos _ fs cs) H) _ fun _=>PD_forceL (F:=fun cs H K=>K (.clos _ _ cs) H) _ fun _=>PD_K _
theorem PD_fieldAddr (t:TypeId) (x:Operand) (f:Nat):PD (opK P tt (.fieldAddr t x f) ρ):=by
 unfold opK
 simp only
 cases tt t with
 |none=>exact PD_F
 |some ti=>
  simp only
  cases fldOf ti f with
  |none=>exact PD_F
  |some p=>
   generalize evalO ρ x=v
   cases v <;> first|exact PD_F|exact PD_K _
theorem PD_field (t:TypeId) (x:Operand) (f:Nat):PD (opK P tt (.field t x f) ρ):=by
 unfold opK
 simp only
 cases tt t with
 |none=>exact PD_F
 |some ti=>
  simp only
  cases fldOf ti f with
  |none=>exact PD_F
  |some p=>
   obtain ⟨ft,o⟩:=p
   simp only
   cases tt ft with
   |none=>exact PD_F
   |some fi=>
    generalize evalO ρ x=v
    cases v <;> first|exact PD_F|exact PD_load _ _ _
theorem PD_indexAddr (t:TypeId) (x i:Operand):PD (opK P tt (.indexAddr t x i) ρ):=by
 unfold opK
 simp only
 cases tt t with
 |none=>exact PD_F
 |some ti=>
  simp only
  generalize evalO ρ i=iv
  generalize evalO ρ x=v
  generalize ti.k=k
  cases iv <;> (try exact PD_F)
  rename_i d
  cases d <;> (try exact PD_F)
  cases k <;> (try exact PD_F)
  ·rename_i e
   simp only
   cases tt e with
   |none=>exact PD_F
   |some ei=>
    cases v <;> (try exact PD_F)
    ·rename_i d
     cases d <;> (try exact PD_F)
     exact PD_Idx (F:=fun row H K=>K (.fptr row 0) H) fun _=>PD_K _
    ·exact PD_Br (PD_Br (PD_K _) PD_F) PD_F
  ·rename_i e
   simp only
   cases tt e with
   |none=>exact PD_F
   |some ei=>
    cases v <;> first|exact PD_Br PD_F PD_F|exact PD_Br (PD_K _) PD_F
theorem PD_index (t:TypeId) (x i:Operand):PD (opK P tt (.index t x i) ρ):=by
 unfold opK
 simp only
 cases tt t with
 |none=>exact PD_F
 |some ti=>
  simp only
  generalize evalO ρ i=iv
  generalize evalO ρ x=v
  generalize ti.k=k
  cases iv <;> (try exact PD_F)
  rename_i d
  cases d <;> (try exact PD_F)
  cases k <;> (try exact PD_F)
  ·cases v <;> (try exact PD_F)
   rename_i d
   cases d <;> (try exact PD_F)
   exact PD_Byte (F:=fun c H K=>K (.d (.int .u8 c.toNat)) H) fun _=>PD_K _
  ·rename_i e
   simp only
   cases tt e with
   |none=>exact PD_F
   |some ei=>
    cases v <;> first|exact PD_F|exact PD_Br (PD_load _ _ _) PD_F
theorem PD_extract (x:Operand) (i:Nat):PD (opK P tt (.extract x i) ρ):=by
 unfold opK
 simp only
 generalize evalO ρ x=v
 cases v <;> (try exact PD_F)
 rename_i vs
 simp only
 cases vs[i]? with
 |none=>exact PD_F
 |some v=>exact PD_force _
theorem PD_build (t:TypeId) (parts:Array (Nat×Operand)):PD (opK P tt (.build t parts) ρ):=by
 unfold opK
 simp only
 cases tt t with
 |none=>exact PD_F
 |some ti=>
  simp only
  generalize ti.k=k
  cases k <;> (try exact PD_F)
  ·rename_i e
   simp only
   cases tt e with
   |none=>exact PD_F
   |some ei=>exact PD_fill _ (F:=fun cs H K=>forceL cs fun cs=>K (.agg cs) H) (fun l=>PD_forceL (F:=fun cs H K=>K (.agg cs) H) _ fun _=>PD_K _) _ _
  ·exact PD_fill _ (F:=fun cs H K=>forceL cs fun cs=>K (.agg cs) H) (fun l=>PD_forceL (F:=fun cs H K=>K (.agg cs) H) _ fun _=>PD_K _) _ _
theorem PD_buildSlice (h3:md≠3) (t:TypeId) (len:Nat) (parts:Array (Nat×Operand)):PD (opKd P tt md base (.buildSlice t len parts) ρ):=by
 unfold opKd
 simp only[bsK_dat h3]
 cases tt t with
 |none=>exact PD_F
 |some ti=>
  simp only
  generalize ti.k=k
  cases k <;> (try exact PD_F)
  rename_i e
  simp only
  cases tt e with
  |none=>exact PD_F
  |some ei=>
   simp only
   split
   ·split
    ·exact PD_fill _ (F:=fun cs H K=>forceL cs fun cs=>datK ei.size len cs fun v=>K v H) (fun l=>PD_forceL (F:=fun cs H K=>datK ei.size len cs fun v=>K v H) _ fun _=>PD_dat _ _ _) _ _
    ·exact PD_F
   ·exact PD_F
theorem PD_binOp (op:BinOp) (t u:TypeId) (x y:Operand):PD (opKd P tt md base (.binOp op t x y u) ρ):=by
 unfold opKd opK
 simp only
 generalize evalO ρ x=v
 generalize evalO ρ y=w
 cases v <;> (try exact PD_F)
 ·rename_i d
  cases d <;> (try exact PD_F)
  ·exact PD_int _ _ _ _ _ _
  ·exact PD_bool _ _ _ _ _
  ·exact PD_str _ _ _ _ _
  ·exact PD_ptr _ _ _ _ _ (.inl rfl)
 ·exact PD_ptr _ _ _ _ _ (.inr ⟨_,_,rfl⟩)
 ·exact PD_agg _ _ _ _ _
theorem PD_sl {t:TypeId} {ti:TI} (ht:tt t=some ti) (hk: ∀n e,ti.k≠.arr n e) (x:Operand) (lo hi:Option Operand):PD (opK P tt (.slice t x lo hi none) ρ):=by
 unfold opK
 simp only[ht]
 generalize ti.k=k at hk⊢
 generalize evalO ρ x=v
 cases lo
 case' some l=>(dsimp only;generalize evalO ρ l=a;cases a <;> (try (cases k <;> exact PD_F));rename_i d;cases d <;> (try (cases k <;> exact PD_F)))
 all_goals
  cases k <;> (try exact PD_F) <;> (try exact absurd rfl (hk _ _))
  ·cases v <;> (try exact PD_F)
   rename_i d
   cases d <;> (try exact PD_F)
   cases hi <;> simp only
   ·exact PD_Need (PD_K _)
   ·rename_i l
    generalize evalO ρ l=a
    cases a <;> (try exact PD_F)
    rename_i d
    cases d <;> (try exact PD_F)
    exact PD_Need (PD_K _)
  ·simp only
   rename_i e
   cases tt e with
   |none=>exact PD_F
   |some ei=>
    cases v <;> (try exact PD_F)
    ·rename_i d
     cases d <;> (try exact PD_F)
     cases hi <;> simp only
     ·exact PD_Need (PD_K _)
     ·rename_i l
      generalize evalO ρ l=a
      cases a <;> (try exact PD_F)
      rename_i d
      cases d <;> (try exact PD_F)
      exact PD_Need (PD_K _)
    ·cases hi <;> simp only
     ·exact PD_Need (PD_K _)
     ·rename_i l
      generalize evalO ρ l=a
      cases a <;> (try exact PD_F)
      rename_i d
      cases d <;> (try exact PD_F)
      exact PD_Need (PD_K _)
    ·cases hi <;> simp only
     ·exact PD_Ch (PD_Need (PD_K _)) (PD_Need (PD_K _))
     ·rename_i l
      generalize evalO ρ l=a
      cases a <;> (try exact PD_F)
      rename_i d
      cases d <;> (try exact PD_F)
      exact PD_Ch (PD_Need (PD_K _)) (PD_Need (PD_K _))
theorem PD_slice (t:TypeId) (x:Operand) (lo hi mx:Option Operand) (hc:cls md (.slice t x lo hi mx)=0):PD (opKd P tt md base (.slice t x lo hi mx) ρ):=by
 unfold opKd
 simp only
 cases mx with
 |some _=>exact PD_F
 |none=>
 simp only
 cases ht:tt t with
 |none=>exact PD_F
 |some ti=>
  have h1:=fun hk=>PD_sl (P:=P) (ρ:=ρ) ht hk x lo hi
  simp only
  generalize ti.k=k at h1⊢
  cases k <;> (try exact h1 (by simp))
  rintro H K h
  obtain ⟨_,h2,h3,_⟩:=sliceA_in h
  subst h2 h3
  simp[cls] at hc
theorem PD_CallF (g:FuncId) (as_:List AV):PD (CallF P g as_):=by
 rintro H K ⟨r,h1,h2,h3,h4⟩
 exact⟨r,h4,fun H2 K' h=>⟨r,h1,h2,h3,h⟩⟩
theorem PD_call (c:Call) (hc:cls md (.call c)=0):PD (opKd P tt md base (.call c) ρ):=by
 unfold opKd
 simp only
 obtain ⟨cal,args,tys⟩:=c
 cases cal with
 |value f=>
  have hm:md=0∨md=3∨ ∃n,md=n+4∧f=.func n:=by
   rcases cls_val md f args tys with ⟨h,_⟩|⟨_,h⟩|⟨n,h1,h2,_⟩|⟨_,_,_,h⟩
   ·exact h.imp id .inl
   ·omega
   ·exact .inr (.inr ⟨n,h1,h2⟩)
   ·omega
  rcases hm with rfl|rfl|⟨n,rfl,rfl⟩
  ·simp only
   generalize evalO ρ f=v
   cases v <;> (try exact PD_F)
   ·rename_i d
    cases d <;> (try exact PD_F)
    exact PD_forceL (F:=fun l=>callM P 0 _ l) _ fun l=>PD_CallF _ _
   ·rename_i fn _ _
    cases fn <;> (try exact PD_F)
    exact PD_forceL (F:=fun l=>callM P 0 _ (_++l++_)) _ fun l=>PD_CallF _ _
  ·simp only
   generalize evalO ρ f=v
   cases v <;> (try exact PD_F)
   ·rename_i d
    cases d <;> (try exact PD_F)
    exact PD_forceL (F:=fun l=>callM P 3 _ l) _ fun l=>PD_CallF _ _
   ·rename_i fn _ _
    cases fn <;> (try exact PD_F)
    exact PD_forceL (F:=fun l=>callM P 3 _ (_++l++_)) _ fun l=>PD_CallF _ _
  ·show PD fun H K=>forceL (mapO ρ args.toList) fun as_=>callM P (n+4) n as_ H K
   refine PD_forceL (F:=fun l=>callM P (n+4) n l) _ fun l=>?_
   have e:callM P (n+4) n l=CallF P n l:=by funext H K;simp only[callM,Nat.beq_refl]
   rw[e]
   exact PD_CallF _ _
 |builtin b=>
  cases b <;> simp only[cls] at hc <;> (try (simp at hc;done)) <;> (try exact PD_F)
  ·generalize mapO ρ args.toList=l
   generalize tys.toList=ts
   cases ts <;> cases l <;> (try exact PD_F)
   rename_i t _ x _
   simp only
   cases tt t with
   |none=>exact PD_F
   |some ti=>
    simp only
    cases lenD ti x with
    |none=>exact PD_F
    |some v=>exact PD_K _
  all_goals
   unfold opK callK
   simp only
   generalize mapO ρ args.toList=l
   cases l
   ·exact PD_F
   ·exact PD_mm _ _ _
 |invoke r m=>simp[cls] at hc
theorem opKd_pure (op:Op) (hc:cls md op=0):PD (opKd P tt md base op ρ):=by
 cases op <;> (try (simp [cls] at hc;done))
 ·exact PD_move (P:=P) (tt:=tt) _
 ·exact PD_assign (P:=P) (tt:=tt) _
 ·exact PD_pick (P:=P) (tt:=tt) _ _ _
 ·exact PD_build (P:=P) (tt:=tt) _ _
 ·rename_i t n l
  exact PD_buildSlice (by have:=cls_lit md t n l;omega) _ _ _
 ·exact PD_nilCheck (P:=P) (tt:=tt) _
 ·exact PD_binOp (P:=P) (tt:=tt) _ _ _ _ _
 ·exact PD_unOp (P:=P) (tt:=tt) _ 0 _
 ·exact PD_convert (P:=P) (tt:=tt) _ _ _
 ·exact PD_makeFunc (P:=P) (tt:=tt) _ _ _
 ·exact PD_slice (P:=P) (tt:=tt) _ _ _ _ _ hc
 ·exact PD_fieldAddr (P:=P) (tt:=tt) _ _ _
 ·exact PD_field (P:=P) (tt:=tt) _ _ _
 ·exact PD_indexAddr (P:=P) (tt:=tt) _ _ _
 ·exact PD_index (P:=P) (tt:=tt) _ _ _
 ·exact PD_extract (P:=P) (tt:=tt) _ _
 ·exact PD_call _ hc
theorem opKd_load {H:Heap} {K:AV→Heap→Prop} (op:Op) (hc:cls md op=1) (h:opKd P tt md base op ρ H K):
  ∃v,K v H∧ ∀(H2:Heap) (K':AV→Heap→Prop),(∀ b,b<base→rowOf H2 b=rowOf H b)→K' v H2→opKd P tt md base op ρ H2 K':=by
 cases op <;> (try (simp [cls] at hc;done))
 case buildSlice t n l=>have:=cls_lit md t n l;omega
 case load t x=>
  unfold opKd opK at h⊢
  simp only at h⊢
  generalize evalO ρ x=v at h⊢
  cases v <;> (try exact h.elim)
  ·rename_i b o
   simp only at h⊢
   cases hb:Nat.blt b base with
   |false=>rw[hb] at h;exact h.elim
   |true=>
    rw[hb] at h
    simp only at h⊢
    cases ht:tt t with
    |none=>rw[ht] at h;exact h.elim
    |some ti=>
     rw[ht] at h
     simp only at h⊢
     cases hr:rowOf H b with
     |none=>rw[hr] at h;exact h.elim
     |some cs=>
      rw[hr] at h
      obtain ⟨v,h1,h2⟩:=PD_load ti cs o H K h
      refine⟨v,h1,fun H2 K' hag hk=>?_⟩
      rw[hag b (by simpa [Nat.blt_eq] using hb),hr]
      exact h2 H2 K' hk
  ·rename_i row o
   simp only at h⊢
   cases ht:tt t with
   |none=>rw[ht] at h;exact h.elim
   |some ti=>
    rw[ht] at h
    obtain ⟨v,h1,h2⟩:=PD_loadD ti row o H K h
    exact⟨v,h1,fun H2 K' _ hk=>h2 H2 K' hk⟩
 case slice t x lo hi mx=>
  unfold opKd at h⊢
  simp only at h⊢
  cases mx with
  |some _=>exact h.elim
  |none=>
  simp only at h⊢
  cases ht:tt t with
  |none=>rw[ht] at h;exact h.elim
  |some ti=>
   rw[ht] at h
   simp only at h⊢
   have h1:=fun hk=>PD_sl (P:=P) (ρ:=ρ) ht hk x lo hi H K
   generalize hke:ti.k=k at h h1⊢
   cases k
   case arr n e=>
    obtain ⟨h,rfl,rfl,b,off,hx,hb⟩:=sliceA_in h
    rw[hx]
    unfold opK at h⊢
    simp only[ht,hke,hx] at h⊢
    cases he:tt e with
    |none=>rw[he] at h;exact h.elim
    |some ei=>
     rw[he] at h
     simp only at h⊢
     cases hr:rowOf H b with
     |none=>rw[hr] at h;exact h.elim
     |some cs=>
      rw[hr] at h
      simp only at h
      cases hl:Nat.ble (off+n * ei.size) cs.length with
      |false=>rw[hl] at h;exact h.elim
      |true=>
       rw[hl] at h
       simp only[Br,NeedK_eq] at h
       refine⟨_,h.2,fun H2 K' hag hk=>sliceA_of hb ?_⟩
       rw[hag b (by simpa [Nat.blt_eq] using hb),hr]
       simp only[hl,Br,NeedK_eq]
       exact⟨h.1,hk⟩
   all_goals
    obtain ⟨v,g1,g2⟩:=h1 (by simp) h
    exact⟨v,g1,fun H2 K' _ hk=>g2 H2 K' hk⟩
 case call c=>
  exfalso
  obtain ⟨cal,args,tys⟩:=c
  cases cal with
  |value f=>rcases cls_val md f args tys with ⟨_,h⟩|⟨_,h⟩|⟨_,_,_,h⟩|⟨_,_,_,h⟩ <;> omega
  |builtin b=>cases b <;> simp[cls] at hc
  |invoke r m=>simp[cls] at hc
def PP (F:Heap→(AV→Heap→Prop)→Prop):Prop:= ∀H K,F H K→ ∃v new,K v (H++new)∧ ∀K':AV→Heap→Prop,K' v (H++new)→F H K'
theorem PP_F:PP fun _ _=>False:=fun H K h=>h.elim
theorem PP_PD {F:Heap→(AV→Heap→Prop)→Prop} (h:PD F):PP F:=fun H K hf=>by
 obtain ⟨v,h1,h2⟩:=h H K hf
 exact⟨v,[],by simpa using h1,fun K' hk=>h2 H K' (by simpa using hk)⟩
theorem PP_fill (place:Nat→Option (Nat×Nat)) {F:List AV→Heap→(AV→Heap→Prop)→Prop} (h: ∀l,PP (F l)) (l:List (Nat×AV)): ∀cs,PP fun H K=>fillK place cs l fun cs=>F cs H K:=by
 induction l with
 |nil=>intro cs;exact h cs
 |cons x r ih=>
  intro cs
  obtain ⟨i,v⟩:=x
  unfold fillK
  cases place i with
  |none=>exact PP_F
  |some os=>
   obtain ⟨off,size⟩:=os
   have key: ∀vs:List AV,PP fun H K=>(match Nat.beq vs.length size with
    |true=>match Nat.ble (off+vs.length) cs.length with
     |true=>fillK place (splice cs off vs) r fun cs=>F cs H K
     |false=>False
    |false=>False):=fun vs=>by
    cases Nat.beq vs.length size
    ·exact PP_F
    ·cases Nat.ble (off+vs.length) cs.length
     ·exact PP_F
     ·exact ih _
   cases v <;> first|exact key _|exact PP_F
theorem PP_bs (md sz n:Nat) (cs:List AV):PP fun H K=>bsK md sz n cs H K:=fun H K h=>by
 by_cases e:md=3
 ·subst e
  unfold bsK at h⊢
  simp only[pushK_eq] at h⊢
  rcases Ch_e h with h|h
  ·exact⟨_,_,h,fun K' hk=>Ch_l hk⟩
  ·obtain ⟨v,h1,h2⟩:=PD_dat sz n cs H K h
   exact⟨v,[],by simpa using h1,fun K' hk=>Ch_r (h2 H K' (by simpa using hk))⟩
 ·simp only[bsK_dat e] at h⊢
  exact PP_PD (PD_dat sz n cs) H K h
theorem opKd_push {H:Heap} {K:AV→Heap→Prop} (op:Op) (hc:cls md op=2) (h:opKd P tt md base op ρ H K):
  ∃v new,K v (H++new)∧ ∀(K':AV→Heap→Prop),K' v (H++new)→opKd P tt md base op ρ H K':=by
 cases op <;> (try (simp [cls] at hc;done))
 case buildSlice t len parts=>
  revert K
  intro K h
  unfold opKd at h⊢
  simp only at h⊢
  cases ht:tt t with
  |none=>rw[ht] at h;exact h.elim
  |some ti=>
   rw[ht] at h
   simp only at h⊢
   generalize ti.k=k at h⊢
   cases k <;> (try exact h.elim)
   rename_i e
   simp only at h⊢
   cases he:tt e with
   |none=>rw[he] at h;exact h.elim
   |some ei=>
    rw[he] at h
    simp only at h⊢
    cases h1:Nat.ble (len+len * ei.size) 1000 with
    |false=>rw[h1] at h;exact h.elim
    |true=>
     rw[h1] at h
     simp only at h⊢
     cases h2:Nat.beq ei.zero.length ei.size with
     |false=>rw[h2] at h;exact h.elim
     |true=>
      rw[h2] at h
      simp only[forceL_eq] at h⊢
      exact PP_fill _ (F:=fun cs H K=>bsK md ei.size len cs H K) (fun l=>PP_bs md _ _ l) _ _ H K h
 case slice t x lo hi mx=>
  have:=cls_slice md t x lo hi mx
  omega
 case alloc t=>
  unfold opKd opK at h⊢
  simp only at h⊢
  cases ht:tt t with
  |none=>rw[ht] at h;exact h.elim
  |some ti=>
   rw[ht] at h
   simp only[pushK_eq] at h⊢
   split at h
   ·split at h
    ·exact⟨_,_,h,fun K' hk=>hk⟩
    ·exact h.elim
   ·exact⟨_,_,h,fun K' hk=>hk⟩
 case makeMap t r=>
  unfold opKd opK at h⊢
  simp only at h⊢
  cases r with
  |some _=>exact h.elim
  |none=>
   simp only at h⊢
   cases ht:tt t with
   |none=>rw[ht] at h;exact h.elim
   |some ti=>
    rw[ht] at h
    simp only[pushK_eq] at h⊢
    generalize ti.k=k at h⊢
    cases k <;> (try exact h.elim)
    exact⟨_,_,h,fun K' hk=>hk⟩
 case box t x=>
  unfold opKd opK at h⊢
  simp only[pushK_eq] at h⊢
  unfold cellsK at h⊢
  generalize evalO ρ x=v at h⊢
  split at h
  ·exact⟨_,_,h,fun K' hk=>hk⟩
  ·split at h
   ·exact⟨_,_,h,fun K' hk=>hk⟩
   ·exact h.elim
 case call c=>
  obtain ⟨cal,args,tys⟩:=c
  cases cal with
  |value f=>
   have hm:md=1:=by
    rcases cls_val md f args tys with ⟨_,h⟩|⟨h,_⟩|⟨_,_,_,h⟩|⟨_,_,_,h⟩ <;> omega
   subst hm
   unfold opKd at h⊢
   simp only[forceL_eq,callM] at h⊢
   generalize evalO ρ f=v at h⊢
   cases v <;> (try exact h.elim)
   ·rename_i d
    cases d <;> (try exact h.elim)
    simp only[CallP_eq] at h⊢
    obtain ⟨r,new,h1,h2⟩:=h
    exact⟨r,new,h2,fun K' hk=>⟨r,new,h1,hk⟩⟩
   ·rename_i fn _ _
    cases fn <;> (try exact h.elim)
    simp only[CallP_eq] at h⊢
    obtain ⟨r,new,h1,h2⟩:=h
    exact⟨r,new,h2,fun K' hk=>⟨r,new,h1,hk⟩⟩
  |builtin b=>cases b <;> simp[cls] at hc
  |invoke r m=>simp[cls] at hc
theorem Br_det {b:Bool} {X Y:(AV→Heap→Prop)→Prop} {H:Heap} {K:AV→Heap→Prop} (hx:X K→ ∃v H',K v H'∧H.length≤H'.length∧ ∀K':AV→Heap→Prop,K' v H'→X K')
  (hy:Y K→ ∃v H',K v H'∧H.length≤H'.length∧ ∀K':AV→Heap→Prop,K' v H'→Y K') (h:Br b (X K) (Y K)): ∃v H',K v H'∧H.length≤H'.length∧ ∀K':AV→Heap→Prop,K' v H'→Br b (X K') (Y K'):=by
 cases b
 ·exact hy h
 ·exact hx h
theorem app_det {ei:TI} {H:Heap} {s x:AV} {K:AV→Heap→Prop} (h:appK ei H s x K): ∃v H',K v H'∧H.length≤H'.length∧ ∀K':AV→Heap→Prop,K' v H'→appK ei H s x K':=by
 unfold appK at h⊢
 cases hm:newLen x with
 |none=>rw[hm] at h;exact h.elim
 |some m=>
 rw[hm] at h
 simp only at h⊢
 cases hcs:newCells H ei.size x with
 |none=>rw[hcs] at h;exact h.elim
 |some cs=>
 rw[hcs] at h
 simp only[pushK_eq,setK_eq,NeedK_eq] at h⊢
 cases s <;> (try exact h.elim)
 ·cases x <;> first
   |exact⟨_,_,h,by simp,fun K' hk=>hk⟩
   |exact⟨_,_,h.2,by simp,fun K' hk=>⟨h.1,hk⟩⟩
 ·cases m
  ·exact⟨_,_,h.2,by simp,fun K' hk=>⟨h.1,hk⟩⟩
  ·exact⟨_,_,h.2,by simp,fun K' hk=>⟨h.1,hk⟩⟩
 ·rename_i b off len cl sz
  simp only at h⊢
  cases ho:rowOf H b with
  |none=>rw[ho] at h;exact h.elim
  |some old=>
  rw[ho] at h
  simp only at h⊢
  refine Br_det (X:=fun K=>Br (Nat.beq sz ei.size) (_∧K _ _) False) (Y:=fun K=>Br (Nat.beq off 0) (Br (Nat.beq sz ei.size) (_∧K _ _) False) False) (fun h=>?_) (fun h=>?_) h
  ·exact Br_det (X:=fun K=>_∧K _ _) (Y:=fun _=>False) (fun h=>⟨_,_,h.2,by simp,fun K' hk=>⟨h.1,hk⟩⟩) (fun h=>h.elim) h
  ·refine Br_det (X:=fun K=>Br (Nat.beq sz ei.size) (_∧K _ _) False) (Y:=fun _=>False) (fun h=>?_) (fun h=>h.elim) h
   exact Br_det (X:=fun K=>_∧K _ _) (Y:=fun _=>False) (fun h=>⟨_,_,h.2,by simp,fun K' hk=>⟨h.1,hk⟩⟩) (fun h=>h.elim) h
theorem opKd_det {H:Heap} {K:AV→Heap→Prop} (op:Op) (h:opKd P tt md base op ρ H K):
  ∃v H',K v H'∧H.length≤H'.length∧ ∀(K':AV→Heap→Prop),K' v H'→opKd P tt md base op ρ H K':=by
 by_cases h0:cls md op=0
 ·obtain ⟨v,h1,h2⟩:=opKd_pure op h0 H K h
  exact⟨v,H,h1,Nat.le_refl _,fun K' hk=>h2 H K' hk⟩
 by_cases h1:cls md op=1
 ·obtain ⟨v,h1,h2⟩:=opKd_load op h1 h
  exact⟨v,H,h1,Nat.le_refl _,fun K' hk=>h2 H K' (fun _ _=>rfl) hk⟩
 by_cases h2:cls md op=2
 ·obtain ⟨v,new,h1,h2⟩:=opKd_push op h2 h
  exact⟨v,_,h1,by simp,fun K' hk=>h2 K' hk⟩
 cases op <;> (try (exact h.elim)) <;> (try (simp [cls] at h0 h1 h2;done))
 case buildSlice t n l=>
  have:=cls_lit md t n l
  omega
 case slice t x lo hi mx=>
  have:=cls_slice md t x lo hi mx
  omega
 case lookup t m k ok=>
  unfold opKd opK at h⊢
  simp only at h⊢
  split at h
  ·exact h.elim
  rename_i ti ht
  try simp only[ht]
  split at h
  ·rename_i kt et hk
   try simp only[hk]
   split at h
   ·rename_i ki ei hki hei
    try simp only[hki,hei]
    split at h
    ·exact h.elim
    rename_i hkk
    try simp only[hkk]
    split at h
    ·rename_i b hb
     try simp only[hb]
     split at h
     ·exact h.elim
     rename_i ks vs hm
     try simp only[hm]
     split at h
     ·rename_i n hn
      try simp only[hn]
      split at h
      ·obtain ⟨h1,h2⟩:=h
       cases hl:lkV ks vs n with
       |none=>exact⟨_,_,h2 hl,Nat.le_refl _,fun K' hk=>Lk_none hl hk⟩
       |some x=>exact⟨_,_,h1 x hl,Nat.le_refl _,fun K' hk=>Lk_some x hl hk⟩
      ·exact h.elim
     ·exact h.elim
    ·exact h.elim
   ·exact h.elim
  ·exact h.elim
 case mapUpdate t m k x=>
  unfold opKd opK at h⊢
  simp only at h⊢
  split at h
  ·exact h.elim
  rename_i ti ht
  try simp only[ht]
  split at h
  ·rename_i kt et hk
   try simp only[hk]
   split at h
   ·exact h.elim
   rename_i ki hki
   try simp only[hki]
   split at h
   ·exact h.elim
   rename_i hkk
   try simp only[hkk]
   split at h
   ·rename_i b hb
    try simp only[hb]
    split at h
    ·exact h.elim
    rename_i ks vs hm
    try simp only[hm]
    split at h
    ·rename_i n hn
     try simp only[hn]
     split at h
     ·rename_i hlf
      simp only[hlf,setK_eq] at h⊢
      exact⟨_,_,h,by simp,fun K' hk=>hk⟩
     ·exact h.elim
    ·exact h.elim
   ·exact h.elim
  ·exact h.elim
 case store t x y=>
  unfold opKd opK at h⊢
  simp only[setK_eq] at h⊢
  split at h
  ·exact h.elim
  ·rename_i ti ht
   try simp only[ht]
   split at h
   ·rename_i b off hx
    try simp only[hx]
    split at h
    ·rename_i cs hcs
     try simp only[hcs]
     generalize evalO ρ y=v at h⊢
     unfold cellsK at h⊢
     have key: ∀vs:List AV,Br (Nat.beq vs.length ti.size) (Br (Nat.ble (off+vs.length) cs.length) (K .any (H.set b (some (.row (splice cs off vs))))) False) False→
       ∃v H',K v H'∧H.length≤H'.length∧ ∀(K':AV→Heap→Prop),K' v H'→Br (Nat.beq vs.length ti.size) (Br (Nat.ble (off+vs.length) cs.length) (K' .any (H.set b (some (.row (splice cs off vs))))) False) False:=fun vs h=>by
      unfold Br at h⊢
      split at h
      ·split at h
       ·exact⟨_,_,h,by simp,fun K' hk=>hk⟩
       ·exact h.elim
      ·exact h.elim
     split at h
     ·exact key _ h
     ·split at h
      ·exact key _ h
      ·exact h.elim
    ·exact h.elim
   ·exact h.elim
 case call c=>
  obtain ⟨cal,args,tys⟩:=c
  cases cal with
  |value f=>
   have hm:md≠0∧md≠1∧md≠3:=by
    rcases cls_val md f args tys with ⟨_,h⟩|⟨_,h⟩|⟨_,_,_,h⟩|⟨h1,h2,h3,_⟩
    ·omega
    ·omega
    ·omega
    ·exact⟨h1,h2,h3⟩
   obtain ⟨hm0,hm1,hm3⟩:=hm
   unfold opKd at h⊢
   simp only[forceL_eq] at h⊢
   generalize evalO ρ f=v at h⊢
   cases v <;> (try exact h.elim)
   ·rename_i d
    cases d <;> (try exact h.elim)
    exact callM_det hm0 hm1 hm3 h
   ·rename_i fn _ _
    cases fn <;> (try exact h.elim)
    exact callM_det hm0 hm1 hm3 h
  |builtin b=>
   cases b <;> (try exact h.elim) <;> (try (simp [cls] at h0;done))
   unfold opKd opK callK at h⊢
   simp only at h⊢
   split at h
   ·rename_i t u ts s x xs hty hargs
    try simp only[hty,hargs]
    split at h
    ·rename_i ti ui hti hui
     try simp only[hti,hui]
     split at h
     ·rename_i e e2 hk1 hk2
      try simp only[hk1,hk2]
      split at h
      ·rename_i ei hei
       try simp only[hei]
       rcases Ch_e h with h|h
       ·obtain ⟨v,H',g1,g2,g3⟩:=app_det h
        exact⟨v,H',g1,g2,fun K' hk=>Ch_l (g3 K' hk)⟩
       ·unfold appD at h
        split at h
        ·split at h
         ·simp only[NeedK_eq] at h
          exact⟨_,H,h.2,Nat.le_refl _,fun K' hk=>Ch_r (by unfold appD;simp only[NeedK_eq];exact⟨h.1,hk⟩)⟩
         ·simp only[NeedK_eq] at h
          exact⟨_,H,h.2,Nat.le_refl _,fun K' hk=>Ch_r (by unfold appD;simp only[NeedK_eq];exact⟨h.1,hk⟩)⟩
         ·simp only[NeedK_eq] at h
          exact⟨_,H,h.2,Nat.le_refl _,fun K' hk=>Ch_r (by unfold appD;simp only[NeedK_eq];exact⟨h.1,hk⟩)⟩
         ·exact h.elim
        ·exact h.elim
      ·exact h.elim
     ·rename_i e hk1 hk2
      try simp only[hk1,hk2]
      split at h
      ·rename_i ei hei
       try simp only[hei]
       unfold appS at h⊢
       simp only[NeedK_eq,pushK_eq,setK_eq] at h⊢
       repeat' (first|exact h.elim|exact⟨_,_,h.2,by simp,fun K' hk=>⟨h.1,hk⟩⟩|split at h)
      ·exact h.elim
     ·exact h.elim
    ·exact h.elim
   ·exact h.elim
  |invoke r m=>exact h.elim
end
end Go.Eng
namespace Go.Eng
open Go
def gst (ops:Array Oper) (o:Oper) (ρ:Nat→AV):Option Bool:=
 match o.guard with
 |none=>some true
 |some (j,want)=>match (ops[j]?).bind (·.dst) with
  |none=>none
  |some t=>match ρ t with
   |.d (.bool b)=>some (b==want)
   |.tup vs=>match vs with
    |[]=>some false
    |_=>none
   |_=>none
def okDst (n:Nat) (d:Option Nat):Bool:=
 match d with
 |none=>true
 |some d=>Nat.blt d n
section
variable {P:Program} {tt:TT} {md base:Nat} {ops:Array Oper} {n:Nat}
def opAt (P:Program) (tt:TT) (md base:Nat) (ops:Array Oper) (n i:Nat) (ρ:Nat→AV) (H:Heap) (K:(Nat→AV)→Heap→Prop):Prop:=
 match ops[i]? with
 |none=>False
 |some o=>okDst n o.dst=true∧match gst ops o ρ with
  |some true=>opKd P tt md base o.op ρ H fun v H'=>K (updO ρ o.dst v) H'
  |some false=>K (updO ρ o.dst (.tup [])) H
  |none=>False
def awpF (P:Program) (tt:TT) (md base:Nat) (ops:Array Oper) (n:Nat) (l:List Nat) (ρ:Nat→AV) (H:Heap) (K:(Nat→AV)→Heap→Prop):Prop:=
 match l with
 |[]=>K ρ H
 |i::r=>opAt P tt md base ops n i ρ H fun ρ' H'=>awpF P tt md base ops n r ρ' H' K
def AgreeT (ops:Array Oper) (o:Oper) (ρ ρ':Nat→AV):Prop:= ∀t∈o.looksAt ops,ρ t=ρ' t
theorem AgreeT.opnds {o:Oper} {ρ ρ':Nat→AV} (h:AgreeT ops o ρ ρ'):Agree ρ ρ' o.op.operands.toList:=fun x hx=>evalO_congr fun t ht=>h t (by
 subst ht
 exact List.mem_append_left _ (List.mem_filterMap.2 ⟨.tmp t,hx,rfl⟩))
theorem AgreeT.gst {o:Oper} {ρ ρ':Nat→AV} (h:AgreeT ops o ρ ρ'):gst ops o ρ=gst ops o ρ':=by
 unfold Eng.gst
 cases hg:o.guard with
 |none=>rfl
 |some g=>
  obtain ⟨j,want⟩:=g
  simp only
  cases ht:(ops[j]?).bind (·.dst) with
  |none=>rfl
  |some t=>
   have:ρ t=ρ' t:=h t (by
    unfold Oper.looksAt
    rw[hg]
    simp only[ht]
    exact List.mem_append_right _ (by simp))
   simp only[this]
theorem opKd_congr {op:Op} {ρ ρ':Nat→AV} {H:Heap} {K:AV→Heap→Prop} (h:Agree ρ ρ' op.operands.toList):opKd P tt md base op ρ H K=opKd P tt md base op ρ' H K:=by
 have e:=opK_congr (P:=P) (tt:=tt) (H:=H) (K:=K) h
 cases op <;> unfold opKd <;> simp only[e]
 case buildSlice t len parts=>
  have:partsO ρ parts.toList=partsO ρ' parts.toList:=by
   refine List.map_congr_left fun x hx=>?_
   obtain ⟨i,x⟩:=x
   simp only[h x (by simp only[Op.operands,Array.toList_map,List.mem_map];exact⟨_,hx,rfl⟩)]
  rw[this]
 case binOp=>rw[show evalO ρ _=evalO ρ' _ from h _ (by simp[Op.operands])]
 case load=>rw[show evalO ρ _=evalO ρ' _ from h _ (by simp[Op.operands])]
 case slice t x lo hi mx=>rw[show evalO ρ x=evalO ρ' x from h _ (by simp[Op.operands])]
 case call c=>
  obtain ⟨cal,args,tys⟩:=c
  have h1:mapO ρ args.toList=mapO ρ' args.toList:=mapO_congr fun x hx=>h x (by
   simp[Op.operands,Call.operands];exact .inr (by simpa using hx))
  cases cal with
  |value f=>
   have h2:evalO ρ f=evalO ρ' f:=h f (by simp[Op.operands,Call.operands])
   simp only[h1,h2]
  |builtin b=>simp only[h1]
  |invoke r m=>rfl
def Out (P:Program) (tt:TT) (md base:Nat) (ops:Array Oper) (n i:Nat) (o:Oper) (ρ:Nat→AV) (H:Heap) (v:AV) (H':Heap):Prop:=
 ∀ρ2,AgreeT ops o ρ ρ2→ ∀K':(Nat→AV)→Heap→Prop,K' (updO ρ2 o.dst v) H'→opAt P tt md base ops n i ρ2 H K'
theorem Out_of {i:Nat} {o:Oper} {ρ:Nat→AV} {H:Heap} {v:AV} {H':Heap} (ho:ops[i]? =some o) (hd:okDst n o.dst=true) (hg:gst ops o ρ=some true)
  (h: ∀K':AV→Heap→Prop,K' v H'→opKd P tt md base o.op ρ H K'):Out P tt md base ops n i o ρ H v H':=fun ρ2 ha K' hk=>by
 unfold opAt
 simp only[ho]
 refine⟨hd,?_⟩
 rw[← ha.gst,hg]
 simp only
 rw[← opKd_congr ha.opnds]
 exact h (fun v H'=>K' (updO ρ2 o.dst v) H') hk
theorem Out_skip {i:Nat} {o:Oper} {ρ:Nat→AV} {H:Heap} (ho:ops[i]? =some o) (hd:okDst n o.dst=true) (hg:gst ops o ρ=some false):Out P tt md base ops n i o ρ H (.tup []) H:=fun ρ2 ha K' hk=>by
 unfold opAt
 simp only[ho]
 refine⟨hd,?_⟩
 rw[← ha.gst,hg]
 exact hk
theorem opAt_in {i:Nat} {ρ:Nat→AV} {H:Heap} {K:(Nat→AV)→Heap→Prop} (h:opAt P tt md base ops n i ρ H K):
  ∃o,ops[i]? =some o∧okDst n o.dst=true∧((gst ops o ρ=some true∧opKd P tt md base o.op ρ H fun v H'=>K (updO ρ o.dst v) H')∨(gst ops o ρ=some false∧K (updO ρ o.dst (.tup [])) H)):=by
 unfold opAt at h
 split at h
 ·exact h.elim
 ·rename_i o ho
  refine⟨o,ho,h.1,?_⟩
  have h:=h.2
  split at h
  ·rename_i hg;exact .inl ⟨hg,h⟩
  ·rename_i hg;exact .inr ⟨hg,h⟩
  ·exact h.elim
section
variable {i:Nat} {o:Oper} {ρ:Nat→AV} {H:Heap} {K:(Nat→AV)→Heap→Prop}
theorem at0 (ho:ops[i]? =some o) (hc:cls md o.op=0) (h:opAt P tt md base ops n i ρ H K): ∃v,K (updO ρ o.dst v) H∧ ∀H2,Out P tt md base ops n i o ρ H2 v H2:=by
 obtain ⟨o',ho',hd,h|h⟩:=opAt_in h <;> rw[ho] at ho' <;> injection ho' with ho' <;> subst ho'
 ·obtain ⟨v,h1,h2⟩:=opKd_pure o.op hc H _ h.2
  exact⟨v,h1,fun H2=>Out_of ho hd h.1 fun K' hk=>h2 H2 K' hk⟩
 ·exact⟨.tup [],h.2,fun H2=>Out_skip ho hd h.1⟩
theorem at1 (ho:ops[i]? =some o) (hc:cls md o.op=1) (h:opAt P tt md base ops n i ρ H K):
  ∃v,K (updO ρ o.dst v) H∧ ∀H2,(∀ b,b<base→rowOf H2 b=rowOf H b)→Out P tt md base ops n i o ρ H2 v H2:=by
 obtain ⟨o',ho',hd,h|h⟩:=opAt_in h <;> rw[ho] at ho' <;> injection ho' with ho' <;> subst ho'
 ·obtain ⟨v,h1,h2⟩:=opKd_load o.op hc h.2
  exact⟨v,h1,fun H2 hag=>Out_of ho hd h.1 fun K' hk=>h2 H2 K' hag hk⟩
 ·exact⟨.tup [],h.2,fun H2 _=>Out_skip ho hd h.1⟩
theorem at2 (ho:ops[i]? =some o) (hc:cls md o.op=2) (h:opAt P tt md base ops n i ρ H K): ∃v new,K (updO ρ o.dst v) (H++new)∧Out P tt md base ops n i o ρ H v (H++new):=by
 obtain ⟨o',ho',hd,h|h⟩:=opAt_in h <;> rw[ho] at ho' <;> injection ho' with ho' <;> subst ho'
 ·obtain ⟨v,new,h1,h2⟩:=opKd_push o.op hc h.2
  exact⟨v,new,h1,Out_of ho hd h.1 h2⟩
 ·exact⟨.tup [],[],by simpa using h.2,by simpa using Out_skip ho hd h.1⟩
theorem at3 (ho:ops[i]? =some o) (h:opAt P tt md base ops n i ρ H K): ∃v H',K (updO ρ o.dst v) H'∧H.length≤H'.length∧Out P tt md base ops n i o ρ H v H':=by
 obtain ⟨o',ho',hd,h|h⟩:=opAt_in h <;> rw[ho] at ho' <;> injection ho' with ho' <;> subst ho'
 ·obtain ⟨v,H',h1,h2,h3⟩:=opKd_det o.op h.2
  exact⟨v,H',h1,h2,Out_of ho hd h.1 h3⟩
 ·exact⟨.tup [],H,h.2,Nat.le_refl _,Out_skip ho hd h.1⟩
theorem opAt_mono {K':(Nat→AV)→Heap→Prop} (h:opAt P tt md base ops n i ρ H K) (hk: ∀ρ' H',H.length≤H'.length→K ρ' H'→K' ρ' H'):opAt P tt md base ops n i ρ H K':=by
 obtain ⟨o,ho,_⟩:=opAt_in h
 obtain ⟨v,H',h1,h2,h3⟩:=at3 ho h
 exact h3 ρ (fun _ _=>rfl) K' (hk _ _ h2 h1)
end
def clsOk (a b:Nat):Bool:=Nat.beq a 0||Nat.beq b 0||(Nat.beq a 1&&Nat.beq b 1)||(Nat.beq a 1&&Nat.beq b 2)||(Nat.beq a 2&&Nat.beq b 1)
theorem updO_comm {ρ:Nat→AV} {d e:Option Nat} (h: ∀x,d=some x→e≠some x) (v u:AV):updO (updO ρ d v) e u=updO (updO ρ e u) d v:=by
 cases d with
 |none=>cases e <;> rfl
 |some d=>
  cases e with
  |none=>rfl
  |some e=>exact upd_comm (fun hde=>h d rfl (by rw[hde])) v u
theorem updO_get {ρ:Nat→AV} {d:Option Nat} {t:Nat} (h: ∀x,d=some x→x≠t) (v:AV):updO ρ d v t=ρ t:=by
 cases d with
 |none=>rfl
 |some d=>
  show (bif Nat.beq d t then v else ρ t)=ρ t
  rw[beq_ne (h d rfl)]
  rfl
theorem swap {i j:Nat} {oi oj:Oper} (hi:ops[i]? =some oi) (hj:ops[j]? =some oj) (hap:oi.apart ops oj=true) (hcl:clsOk (cls md oi.op) (cls md oj.op)=true)
  {ρ:Nat→AV} {H:Heap} {K:(Nat→AV)→Heap→Prop} (hb:base≤H.length) (h:opAt P tt md base ops n i ρ H fun ρ1 H1=>opAt P tt md base ops n j ρ1 H1 K):
  opAt P tt md base ops n j ρ H fun ρ1 H1=>opAt P tt md base ops n i ρ1 H1 K:=by
 obtain ⟨h1,h2,h3⟩:=Oper.apart_spec hap
 have agj: ∀v,AgreeT ops oj (updO ρ oi.dst v) ρ:=fun v t ht=>updO_get (fun x hx e=>h1 x hx (e▸ht)) v
 have agi: ∀v,AgreeT ops oi ρ (updO ρ oj.dst v):=fun v t ht=>(updO_get (fun x hx e=>h3 x hx (e▸ht)) v).symm
 have comm: ∀v u,updO (updO ρ oi.dst v) oj.dst u=updO (updO ρ oj.dst u) oi.dst v:=fun v u=>updO_comm h2 v u
 have grow: ∀new:Heap,∀b,b<base→rowOf (H++new) b=rowOf H b:=fun new b hb'=>by
  unfold rowOf
  rw[List.getElem?_append_left (by omega)]
 by_cases a0:cls md oi.op=0
 ·obtain ⟨vi,g1,g2⟩:=at0 hi a0 h
  obtain ⟨vj,H2,k1,k2,k3⟩:=at3 hj g1
  exact k3 ρ (agj vi) _ (g2 H2 _ (agi vj) _ (by rw[← comm];exact k1))
 by_cases b0:cls md oj.op=0
 ·obtain ⟨vi,H1,g1,g2,g3⟩:=at3 hi h
  obtain ⟨vj,k1,k2⟩:=at0 hj b0 g1
  exact k2 H ρ (agj vi) _ (g3 _ (agi vj) _ (by rw[← comm];exact k1))
 have hcl:(cls md oi.op=1∧cls md oj.op=1)∨(cls md oi.op=1∧cls md oj.op=2)∨(cls md oi.op=2∧cls md oj.op=1):=by
  simp only[clsOk,Bool.or_eq_true,Bool.and_eq_true,Nat.beq_eq_true_eq] at hcl
  have e: ∀x y:Nat,Nat.beq x y=true→x=y:=fun x y h=>Nat.eq_of_beq_eq_true h
  rcases hcl with (((h|h)|h)|h)|h
  ·exact absurd (by first|exact h|exact e _ _ h) a0
  ·exact absurd (by first|exact h|exact e _ _ h) b0
  ·exact .inl ⟨by first|exact h.1|exact e _ _ h.1,by first|exact h.2|exact e _ _ h.2⟩
  ·exact .inr (.inl ⟨by first|exact h.1|exact e _ _ h.1,by first|exact h.2|exact e _ _ h.2⟩)
  ·exact .inr (.inr ⟨by first|exact h.1|exact e _ _ h.1,by first|exact h.2|exact e _ _ h.2⟩)
 rcases hcl with ⟨ci,cj⟩|⟨ci,cj⟩|⟨ci,cj⟩
 ·obtain ⟨vi,g1,g2⟩:=at1 hi ci h
  obtain ⟨vj,k1,k2⟩:=at1 hj cj g1
  exact k2 H (fun _ _=>rfl) ρ (agj vi) _ (g2 H (fun _ _=>rfl) _ (agi vj) _ (by rw[← comm];exact k1))
 ·obtain ⟨vi,g1,g2⟩:=at1 hi ci h
  obtain ⟨vj,new,k1,k2⟩:=at2 hj cj g1
  exact k2 ρ (agj vi) _ (g2 _ (grow new) _ (agi vj) _ (by rw[← comm];exact k1))
 ·obtain ⟨vi,new,g1,g2⟩:=at2 hi ci h
  obtain ⟨vj,k1,k2⟩:=at1 hj cj g1
  exact k2 H (fun b hb'=>(grow new b hb').symm) ρ (agj vi) _ (g2 _ (agi vj) _ (by rw[← comm];exact k1))
def swB (md:Nat) (ops:Array Oper) (x i:Nat):Bool:=
 match ops[x]?,ops[i]? with
 |some ox,some oi=>clsOk (cls md ox.op) (cls md oi.op)&&ox.apart ops oi
 |_,_=>false
theorem bubble {i:Nat} {b:List Nat} {K:(Nat→AV)→Heap→Prop} (a:List Nat): ∀(ρ:Nat→AV) (H:Heap),base≤H.length→(∀ x∈a,swB md ops x i=true)→
  awpF P tt md base ops n (a++i::b) ρ H K→opAt P tt md base ops n i ρ H fun ρ' H'=>awpF P tt md base ops n (a++b) ρ' H' K:=by
 induction a with
 |nil=>intro ρ H _ _ h;exact h
 |cons x a ih=>
  intro ρ H hb hs h
  have hx:=hs x (by simp)
  unfold swB at hx
  split at hx
  ·rename_i ox oi h1 h2
   simp only[Bool.and_eq_true] at hx
   have h':opAt P tt md base ops n x ρ H fun ρ1 H1=>opAt P tt md base ops n i ρ1 H1 fun ρ2 H2=>awpF P tt md base ops n (a++b) ρ2 H2 K:=
    opAt_mono (K:=fun ρ1 H1=>awpF P tt md base ops n (a++i::b) ρ1 H1 K) h fun ρ1 H1 hl hh=>ih ρ1 H1 (Nat.le_trans hb hl) (fun y hy=>hs y (by simp[hy])) hh
   exact swap h1 h2 hx.2 hx.1 hb h'
  ·simp at hx
def depB (ops:Array Oper):Nat→Nat→Nat→Bool
 |0,_,_=>false
 |f+1,i,x=>match ops[i]? with
  |none=>false
  |some o=>o.after.any fun e=>Region.binds .any e&&(Nat.beq e.on x||depB ops f e.on x)
def drawB (md:Nat) (ops:Array Oper):Bool:=
 (List.range ops.size).all fun i=>match ops[i]? with
  |none=>false
  |some o=>(o.after.all fun e=> !Region.binds .any e||Nat.blt e.on i)&&(List.range i).all fun x=>(o.after.any fun e=>Region.binds .any e&&Nat.beq e.on x)||(swB md ops x i||depB ops 5 i x)
end
end Go.Eng
