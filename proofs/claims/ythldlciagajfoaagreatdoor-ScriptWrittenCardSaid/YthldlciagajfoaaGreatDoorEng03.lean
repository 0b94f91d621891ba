/- What the seat's proofs lean on, part 3: the executor over abstract values, its soundness, and what the program's functions answer (Eng20, Eng21, Eng22, Eng23, TT02, Dat, Sp1, Sp2, Sp3, Sp7, Sp20, Eng24, Eng25, Eng26, Eng27, Eng30). -/
import Derived.Test.YthldlciagajfoaaGreatDoorEng02
import Derived.Test.YthldlciagajfoaaGreatDoorProg
import Derived.Lib.SplitLaws
import Derived.Lib.Join
import Derived.Below
set_option linter.all false
set_option linter.unusedVariables false
set_option linter.unusedSimpArgs false
set_option maxRecDepth 100000
namespace Go.Eng
open Go
section
variable {P:Program} {tt:TT} {p:PQ} {σ:List Nat} {s:St} {a:Act} {w:World} {ro:Option Nat} {n:Nat} {md base:Nat} {ops:Array Oper}
theorem fillK_mono {place:Nat→Option (Nat×Nat)} {K K':List AV→Prop} (l:List (Nat×AV)): ∀(cs:List AV),fillK place cs l K→(∀ cs,K cs→K' cs)→fillK place cs l K':=by
 induction l with
 |nil=>intro cs h hk;exact hk cs h
 |cons x t ih=>
  intro cs h hk
  obtain ⟨i,v⟩:=x
  unfold fillK at h⊢
  split at h
  ·exact h.elim
  ·rename_i off size hp
   have key: ∀vs:List AV,(match Nat.beq vs.length size with
    |true=>match Nat.ble (off+vs.length) cs.length with
     |true=>fillK place (splice cs off vs) t K
     |false=>False
    |false=>False)→(match Nat.beq vs.length size with
    |true=>match Nat.ble (off+vs.length) cs.length with
     |true=>fillK place (splice cs off vs) t K'
     |false=>False
    |false=>False):=fun vs h=>by
    revert h
    generalize Nat.beq vs.length size=b1
    generalize Nat.ble (off+vs.length) cs.length=b2
    intro h
    cases b1
    ·exact h
    ·cases b2
     ·exact h
     ·exact ih _ h hk
   cases v <;> first|exact key _ h|exact h
theorem opKd_opK {op:Op} {ρ:Nat→AV} {H:Heap} {K:AV→Heap→Prop} (h:opKd P tt md base op ρ H K):opK P tt op ρ H K:=by
 cases op <;> (try exact h) <;> (try exact h.elim)
 case buildSlice t len parts=>
  unfold opKd at h
  unfold opK
  simp only at h⊢
  split at h
  ·exact h.elim
  ·rename_i ti ht
   simp only[ht]
   split at h
   ·rename_i e hk
    simp only[hk]
    split at h
    ·exact h.elim
    ·rename_i ei he
     simp only[he]
     split at h
     ·rename_i h1
      simp only[h1]
      split at h
      ·rename_i h2
       simp only[h2]
       exact fillK_mono _ _ h fun cs hc=>by
        rw[forceL_eq] at hc⊢
        exact bsK_in hc
      ·exact h.elim
     ·exact h.elim
   ·exact h.elim
 case binOp=>unfold opKd at h;simp only at h;split at h <;> first|exact h|exact h.elim
 case slice=>unfold opKd at h;simp only at h;repeat' (first|exact h|exact(sliceA_in h).1|exact h.elim|split at h)
 case load=>
  unfold opKd at h;simp only at h
  split at h <;> (try exact h) <;> (try exact h.elim)
  split at h <;> first|exact h|exact h.elim
 case call c=>
  unfold opKd at h
  obtain ⟨cal,args,tys⟩:=c
  simp only at h
  unfold opK callK
  simp only
  split at h
  ·simp only at h⊢
   split at h
   ·rename_i hf
    simp only[forceL_eq,hf] at h⊢
    exact callM_tri h
   ·rename_i hf
    split at h
    ·simp only[forceL_eq,hf] at h⊢
     exact callM_tri h
    ·exact h.elim
   ·exact h.elim
  ·split at h
   ·split at h
    ·rename_i hty hargs
     simp only[hty,hargs]
     split at h
     ·rename_i ti ht
      simp only[ht]
      split at h
      ·rename_i v hv
       unfold lenD at hv
       unfold lenK
       split at hv
       ·rename_i hk
        simp only[hk]
        split at hv
        ·injection hv with hv;subst hv;simp only[LenK_eq];exact fun _=>h
        ·simp at hv
       ·rename_i hk
        simp only[hk]
        split at hv
        ·injection hv with hv;subst hv;simp only[LenK_eq];exact fun _=>h
        ·injection hv with hv;subst hv;exact h
        ·injection hv with hv;subst hv;simp only[LenK_eq];exact fun _=>h
        ·injection hv with hv;subst hv;exact h
        ·simp at hv
       ·rename_i hk
        simp only[hk]
        injection hv with hv;subst hv;exact h
       ·simp at hv
      ·exact h.elim
     ·exact h.elim
    ·exact h.elim
   ·exact h
   ·exact h
   ·exact h
   ·exact h.elim
  ·exact h.elim
theorem at_sound (hT:TTok P tt) {i:Nat} {X:(Nat→AV)→Heap→Prop} {Q:Exit→Act→World→Prop} {K':Act→World→Prop} (hR:Rel p σ s a w) (h:opAt P tt md base ops s.n i (get s.ρ) s.H X)
  (hk: ∀(s':St) (p':PQ) (σ':List Nat) (a':Act) (w':World),Ext p w p' w'→Mono σ σ'→Rel p' σ' s' a' w'→s'.m=s.m→s'.n=s.n→s'.df=s.df→X (get s'.ρ) s'.H→K' a' w'):wpOpIn (Fr ro) n P ops Q i K' a w:=by
 obtain ⟨o,ho,hd,h⟩:=opAt_in h
 have put: ∀(x:AV) (H':Heap),X (updO (get s.ρ) o.dst x) H'→putK s o.dst x H' fun s'=>X (get s'.ρ) s'.H∧s'.df=s.df:=fun x H' hx=>by
  obtain ⟨ρ,n0,H,m,df⟩:=s
  unfold putK
  simp only
  cases hdst:o.dst with
  |none=>rw[hdst] at hx;exact⟨hx,trivial⟩
  |some d=>
   rw[hdst] at hx hd
   simp only[okDst] at hd
   simp only[hd]
   exact⟨hx,trivial⟩
 unfold wpOpIn
 simp only[ho]
 rcases h with ⟨hg,h⟩|⟨hg,h⟩
 ·have hw:Region.wanted o (yielded ops a.tmps)=true:=by
   unfold gst at hg
   cases hgd:o.guard with
   |none=>simp[Region.wanted,hgd]
   |some g=>
    obtain ⟨j,want⟩:=g
    simp only[hgd] at hg
    cases ht:(ops[j]?).bind (·.dst) with
    |none=>rw[ht] at hg;simp at hg
    |some t=>
     simp only[ht] at hg
     split at hg
     ·rename_i b hb
      have henv:=hR.env t
      rw[hb] at henv
      generalize hv:a.tmps.getD t undef=v at henv
      cases henv
      have hy:yielded ops a.tmps j=some b:=by
       unfold yielded
       rw[ht]
       simp only[Option.bind_some]
       have:a.tmps[t]? =some (.bool b):=by
        rw[Array.getD_eq_getD_getElem?] at hv
        cases h:a.tmps[t]? with
        |none=>rw[h] at hv;simp[undef] at hv
        |some u=>rw[h] at hv;simp at hv;rw[hv]
       rw[this]
      simp only[Region.wanted,hgd,hy]
      cases b <;> cases want <;> first|rfl|exact absurd hg (by decide)
     ·split at hg <;> simp at hg
     ·simp at hg
  rw[hw]
  simp only[if_true]
  refine⟨fun _ _=>trivial,opK_sound hT hR (fun v x w' p' σ' H' he hm hv hH hx=>?_) (opKd_opK h)⟩
  obtain ⟨s',h1,h2,h3,h4,h5⟩:=put_rel hR he hm hv hH (put x H' hx)
  exact hk s' p' σ' _ w' he hm h1 h2 h3 h5 h4
 ·have hw:Region.wanted o (yielded ops a.tmps)=false:=by
   unfold gst at hg
   cases hgd:o.guard with
   |none=>simp[hgd] at hg
   |some g=>
    obtain ⟨j,want⟩:=g
    simp only[hgd] at hg
    cases ht:(ops[j]?).bind (·.dst) with
    |none=>rw[ht] at hg;simp at hg
    |some t=>
     simp only[ht] at hg
     split at hg
     ·rename_i b hb
      have henv:=hR.env t
      rw[hb] at henv
      generalize hv:a.tmps.getD t undef=v at henv
      cases henv
      have hy:yielded ops a.tmps j=some b:=by
       unfold yielded
       rw[ht]
       simp only[Option.bind_some]
       have:a.tmps[t]? =some (.bool b):=by
        rw[Array.getD_eq_getD_getElem?] at hv
        cases h:a.tmps[t]? with
        |none=>rw[h] at hv;simp[undef] at hv
        |some u=>rw[h] at hv;simp at hv;rw[hv]
       rw[this]
      simp only[Region.wanted,hgd,hy]
      cases b <;> cases want <;> first|rfl|exact absurd hg (by decide)
     ·rename_i vs hb
      split at hg
      ·have henv:=hR.env t
       rw[hb] at henv
       have hnb:=undVal henv
       have:yielded ops a.tmps j=none:=by
        unfold yielded
        rw[ht]
        simp only[Option.bind_some]
        cases h:a.tmps[t]? with
        |none=>rfl
        |some u=>
         have hu:a.tmps.getD t undef=u:=by rw[Array.getD_eq_getD_getElem?,h];rfl
         cases u <;> first
          |rfl
          |exact absurd hu (hnb _)
       simp[Region.wanted,hgd,this]
      ·simp at hg
     ·simp at hg
  rw[hw]
  simp only[Bool.false_eq_true,if_false]
  refine⟨fun _ _=>trivial,?_⟩
  obtain ⟨s',h1,h2,h3,h4,h5⟩:=put_rel hR (.refl p w) (.refl σ) undRel hR.heap (put (.tup []) s.H h)
  exact hk s' p σ _ w (.refl p w) (.refl σ) h1 h2 h3 h5 h4
def unl (ops:Array Oper) (listed:Array Bool):List Nat:=(List.range ops.size).filter fun i=> !listed.getD i true
theorem unl_lt {listed:Array Bool}:(unl ops listed).Pairwise (· < ·):=List.Pairwise.filter _ List.pairwise_lt_range
theorem mem_unl {listed:Array Bool} {i:Nat}:i∈unl ops listed↔i<ops.size∧listed.getD i true=false:=by
 simp[unl]
theorem unl_set {listed:Array Bool} {a b:List Nat} {i:Nat} (hs:listed.size=ops.size) (h:unl ops listed=a++i::b):unl ops (listed.setIfInBounds i true)=a++b:=by
 have hi:i<ops.size:=(mem_unl.1 (h▸(by simp:i∈a++i::b))).1
 have hp:(a++i::b).Pairwise (· < ·):=h▸unl_lt
 have e:unl ops (listed.setIfInBounds i true)=(unl ops listed).filter (fun j=>decide (j≠i)):=by
  unfold unl
  rw[List.filter_filter]
  refine List.filter_congr fun j hj=>?_
  by_cases hji:i=j
  ·subst hji
   simp[Array.getElem?_setIfInBounds,hs,hi]
  ·have:(listed.setIfInBounds i true).getD j true=listed.getD j true:=by
    simp[Array.getD_eq_getD_getElem?,Array.getElem?_setIfInBounds,hji]
   rw[this]
   simp[Ne.symm hji]
 rw[e,h,List.filter_append,List.filter_cons]
 have hp':=List.pairwise_append.1 hp
 have h1:a.filter (fun j=>decide (j≠i))=a:=List.filter_eq_self.2 fun x hx=>by
  have:=hp'.2.2 x hx i (by simp)
  simp;omega
 have h2:b.filter (fun j=>decide (j≠i))=b:=List.filter_eq_self.2 fun x hx=>by
  have:=(List.pairwise_cons.1 hp'.2.1).1 x hx
  simp;omega
 rw[h1,h2]
 simp
def Cl (ops:Array Oper) (listed:Array Bool):Prop:= ∀i o,listed.getD i false=true→ops[i]? =some o→ ∀e∈o.after,Region.binds .any e=true→listed.getD e.on false=true
theorem dep_listed {listed:Array Bool} (hcl:Cl ops listed): ∀(f i x:Nat),(∀ o,ops[i]? =some o→ ∀e∈o.after,Region.binds .any e=true→listed.getD e.on false=true)→depB ops f i x=true→listed.getD x false=true:=by
 intro f
 induction f with
 |zero=>intro i x _ h;simp[depB] at h
 |succ f ih=>
  intro i x hd h
  unfold depB at h
  split at h
  ·simp at h
  ·rename_i o ho
   simp only[Array.any_eq_true',Bool.and_eq_true,Bool.or_eq_true] at h
   obtain ⟨e,he,hb,h⟩:=h
   have hl:=hd o ho e he hb
   rcases h with h|h
   ·rw[← Nat.eq_of_beq_eq_true h];exact hl
   ·exact ih e.on x (fun o' ho' e' he' hb'=>hcl e.on o' hl ho' e' he' hb') h
theorem any_sound (hT:TTok P tt) (hB:drawB md ops=true) {K:(Nat→AV)→Heap→Prop} {Q:Exit→Act→World→Prop}: ∀(fuel:Nat) (listed:Array Bool) (s:St) (p:PQ) (σ:List Nat) (a:Act) (w:World),
  listed.size=ops.size→Cl ops listed→(unl ops listed).length=fuel→Rel p σ s a w→base≤s.H.length→awpF P tt md base ops s.n (unl ops listed) (get s.ρ) s.H K→
  (∀ (s':St) (p':PQ) (σ':List Nat) (a':Act) (w':World),Ext p w p' w'→Mono σ σ'→Rel p' σ' s' a' w'→s'.m=s.m→s'.n=s.n→s'.df=s.df→K (get s'.ρ) s'.H→Q .normal a' w')→
  wpAnyIn (Fr ro) n P .any ops Q fuel listed a w:=by
 have hchk: ∀i o,ops[i]? =some o→(∀ e∈o.after,Region.binds .any e=true→e.on<i)∧ ∀x,x<i→(∃ e∈o.after,Region.binds .any e=true∧e.on=x)∨(swB md ops x i=true∨depB ops 5 i x=true):=fun i o ho=>by
  have hi:i<ops.size:=(Array.getElem?_eq_some_iff.1 ho).1
  have:=List.all_eq_true.1 hB i (List.mem_range.2 hi)
  rw[ho] at this
  simp only[Bool.and_eq_true,List.all_eq_true,List.mem_range,Bool.or_eq_true,Array.any_eq_true',Array.all_eq_true_iff_forall_mem] at this
  refine⟨fun e he hb=>?_,fun x hx=>?_⟩
  ·have:=this.1 e he
   rw[hb] at this
   simpa [Nat.blt_eq] using this
  ·rcases this.2 x hx with ⟨e,he,h1⟩|h1
   ·exact .inl ⟨e,he,h1.1,Nat.eq_of_beq_eq_true h1.2⟩
   ·exact .inr h1
 have hready: ∀(listed:Array Bool) (i:Nat),i∈Region.ready .any ops listed→i∈unl ops listed∧ ∃o,ops[i]? =some o∧ ∀e∈o.after,Region.binds .any e=true→listed.getD e.on false=true:=fun listed i hi=>by
  obtain ⟨h1,o,ho,h2⟩:=mem_ready.1 hi
  exact⟨mem_unl.2 ⟨(Array.getElem?_eq_some_iff.1 ho).1,h1⟩,o,ho,h2⟩
 intro fuel
 induction fuel with
 |zero=>
  intro listed s p σ a w hs hcl hl hR hb h hk
  have hnil:unl ops listed=[]:=List.length_eq_zero_iff.1 hl
  rw[hnil] at h
  refine⟨?_,hk s p σ a w (.refl p w) (.refl σ) hR rfl rfl rfl h⟩
  refine List.eq_nil_iff_forall_not_mem.2 fun i hi=>?_
  have:=(hready listed i hi).1
  rw[hnil] at this
  simp at this
 |succ fuel ih=>
  intro listed s p σ a w hs hcl hl hR hb h hk
  refine⟨fun hnil=>?_,fun i hi=>?_⟩
  ·exfalso
   match hu:unl ops listed,hl with
   |x::r,_=>
    have hx:x∈unl ops listed:=hu▸(by simp)
    obtain ⟨hx1,hx2⟩:=mem_unl.1 hx
    have ho:ops[x]? =some ops[x]:=Array.getElem?_eq_getElem hx1
    have:x∈Region.ready .any ops listed:=mem_ready.2 ⟨hx2,ops[x],ho,fun e he hb=>by
     have hlt:=(hchk x _ ho).1 e he hb
     cases hg:listed.getD e.on false with
     |true=>rfl
     |false=>
      exfalso
      have:e.on∈unl ops listed:=mem_unl.2 ⟨by omega,by
       have:e.on<listed.size:=by omega
       simp[Array.getD_eq_getD_getElem?,this] at hg⊢
       exact hg⟩
      rw[hu] at this
      have hp:(x::r).Pairwise (· < ·):=hu▸unl_lt
      rcases List.mem_cons.1 this with h|h
      ·omega
      ·have:=(List.pairwise_cons.1 hp).1 _ h
       omega⟩
    rw[hnil] at this
    simp at this
  ·obtain ⟨hm,o,ho,hdeps⟩:=hready listed i hi
   obtain ⟨l1,l2,hsplit⟩:=List.append_of_mem hm
   have hp:(l1++i::l2).Pairwise (· < ·):=hsplit▸unl_lt
   rw[hsplit] at h
   have hsw: ∀x∈l1,swB md ops x i=true:=fun x hx=>by
    have hxi:x<i:=(List.pairwise_append.1 hp).2.2 x hx i (by simp)
    rcases (hchk i o ho).2 x hxi with ⟨e,he,hbd,rfl⟩|h1|h1
    rotate_left
    ·exact h1
    ·exfalso
     have h3:=dep_listed hcl 5 i x (fun o' ho'=>by rw[ho] at ho';injection ho' with ho';subst ho';exact hdeps) h1
     have h2:=(mem_unl.1 (hsplit▸(by simp[hx]):x∈unl ops listed)).2
     have:x<listed.size:=by
      have:i<ops.size:=(Array.getElem?_eq_some_iff.1 ho).1
      omega
     simp[Array.getD_eq_getD_getElem?,this] at h3 h2
     rw[h3] at h2
     simp at h2
    ·exfalso
     have h1:=hdeps e he hbd
     have h2:=(mem_unl.1 (hsplit▸(by simp[hx]):e.on∈unl ops listed)).2
     have:e.on<listed.size:=by
      have:i<ops.size:=(Array.getElem?_eq_some_iff.1 ho).1
      omega
     simp[Array.getD_eq_getD_getElem?,this] at h1 h2
     rw[h1] at h2
     simp at h2
   have h2:=bubble l1 _ _ hb hsw h
   obtain ⟨o',ho',_⟩:=opAt_in h2
   have h3:=opAt_mono (K':=fun ρ' H'=>base≤H'.length∧awpF P tt md base ops s.n (l1++l2) ρ' H' K) h2 fun ρ' H' hl hh=>⟨Nat.le_trans hb hl,hh⟩
   refine at_sound hT hR h3 fun s' p' σ' a' w' e1 e2 e3 e4 e5 e6 ⟨e7,e8⟩=>?_
   refine ih _ s' p' σ' a' w' (by simp[hs]) ?_ ?_ e3 e7 ?_ fun s2 p2 σ2 a2 w2 f1 f2 f3 f4 f5 f6 f7=>hk s2 p2 σ2 a2 w2 (e1.trans f1) (e2.trans f2) f3 (f4.trans e4) (f5.trans e5) (f6.trans e6) f7
   ·have hmon: ∀y,listed.getD y false=true→(listed.setIfInBounds i true).getD y false=true:=fun y hy=>by
     rw[Array.getD_eq_getD_getElem?,Array.getElem?_setIfInBounds]
     by_cases e:i=y
     ·subst e
      have:i<listed.size:=by rw[hs];exact(Array.getElem?_eq_some_iff.1 ho).1
      simp[this]
     ·rw[if_neg e,←Array.getD_eq_getD_getElem?];exact hy
    intro j o2 hj ho2 e he hb2
    refine hmon _ ?_
    by_cases hij:i=j
    ·subst hij
     rw[ho] at ho2;injection ho2 with ho2;subst ho2
     exact hdeps e he hb2
    ·rw[Array.getD_eq_getD_getElem?,Array.getElem?_setIfInBounds,if_neg hij,←Array.getD_eq_getD_getElem?] at hj
     exact hcl j o2 hj ho2 e he hb2
   ·rw[unl_set hs hsplit]
    rw[hsplit] at hl
    simp at hl⊢
    omega
   ·rw[unl_set hs hsplit,e5]
    exact e8
def stepD (P:Program) (tt:TT) (md base:Nat) (ops:Array Oper) (i:Nat) (ih:St→(St→Prop)→Prop) (s:St) (K:St→Prop):Prop:=
 match s with
 |⟨ρ,n,H,m,df⟩=>match ops[i]? with
   |none=>False
   |some o=>match o.guard with
    |none=>opKd P tt md base o.op (get ρ) H fun v H'=>putK ⟨ρ,n,H,m,df⟩ o.dst v H' fun s'=>ih s' K
    |some (j,want)=>match (ops[j]?).bind (·.dst) with
     |none=>False
     |some t=>match get ρ t with
      |.d (.bool b)=>match want with
       |true=>Br b (opKd P tt md base o.op (get ((t,.d (.bool true))::ρ)) H fun v H'=>putK ⟨(t,.d (.bool true))::ρ,n,H,m,df⟩ o.dst v H' fun s'=>ih s' K)
         (putK ⟨(t,.d (.bool false))::ρ,n,H,m,df⟩ o.dst (.tup []) H fun s'=>ih s' K)
       |false=>Br b (putK ⟨(t,.d (.bool true))::ρ,n,H,m,df⟩ o.dst (.tup []) H fun s'=>ih s' K)
         (opKd P tt md base o.op (get ((t,.d (.bool false))::ρ)) H fun v H'=>putK ⟨(t,.d (.bool false))::ρ,n,H,m,df⟩ o.dst v H' fun s'=>ih s' K)
      |.tup vs=>match vs with
       |[]=>putK ⟨ρ,n,H,m,df⟩ o.dst (.tup []) H fun s'=>ih s' K
       |_=>False
      |_=>False
def awpD (P:Program) (tt:TT) (md base:Nat) (ops:Array Oper) (l:List Nat):St→(St→Prop)→Prop:=
 @List.rec Nat (fun _=>St→(St→Prop)→Prop) nilKI (fun i _ ih=>stepD P tt md base ops i ih) l
theorem awpD_cons (P:Program) (tt:TT) (md base:Nat) (ops:Array Oper) (i:Nat) (r:List Nat) (s:St) (K:St→Prop):awpD P tt md base ops (i::r) s K=stepD P tt md base ops i (awpD P tt md base ops r) s K:=rfl
theorem awpD_F {K:St→Prop} (l:List Nat): ∀(s:St),awpD P tt md base ops l s K→awpF P tt md base ops s.n l (get s.ρ) s.H fun ρ' H'=> ∃ρl,ρ'=get ρl∧K ⟨ρl,s.n,H',s.m,s.df⟩:=by
 induction l with
 |nil=>intro s h;obtain ⟨ρ,n,H,m,df⟩:=s;exact⟨ρ,rfl,h⟩
 |cons i r ih=>
  intro s h
  obtain ⟨ρ,n,H,m,df⟩:=s
  rw[awpD_cons] at h
  unfold stepD at h
  simp only at h
  unfold awpF opAt
  split at h
  ·exact h.elim
  rename_i o ho
  simp only[ho]
  have putE: ∀(ρ:Env) (v:AV) (H':Heap),(putK ⟨ρ,n,H,m,df⟩ o.dst v H' fun s'=>awpD P tt md base ops r s' K)→
    okDst n o.dst=true∧awpF P tt md base ops n r (updO (get ρ) o.dst v) H' fun ρ' H'=> ∃ρl,ρ'=get ρl∧K ⟨ρl,n,H',m,df⟩:=fun ρ v H' h=>by
   unfold putK at h
   simp only at h
   cases hd:o.dst with
   |none=>rw[hd] at h;exact⟨rfl,ih _ h⟩
   |some d=>
    rw[hd] at h
    simp only at h
    cases hb:Nat.blt d n with
    |false=>rw[hb] at h;exact h.elim
    |true=>rw[hb] at h;exact⟨hb,ih _ h⟩
  have run: ∀ρ:Env,(opKd P tt md base o.op (get ρ) H fun v H'=>putK ⟨ρ,n,H,m,df⟩ o.dst v H' fun s'=>awpD P tt md base ops r s' K)→
    okDst n o.dst=true∧opKd P tt md base o.op (get ρ) H fun v H'=>awpF P tt md base ops n r (updO (get ρ) o.dst v) H' fun ρ' H'=> ∃ρl,ρ'=get ρl∧K ⟨ρl,n,H',m,df⟩:=fun ρ h=>by
   obtain ⟨v,H',h1,_,h2⟩:=opKd_det _ h
   obtain ⟨g1,g2⟩:=putE ρ v H' h1
   exact⟨g1,h2 (fun v H'=>awpF P tt md base ops n r (updO (get ρ) o.dst v) H' fun ρ' H'=> ∃ρl,ρ'=get ρl∧K ⟨ρl,n,H',m,df⟩) g2⟩
  split at h
  ·rename_i hg
   have:gst ops o (get ρ)=some true:=by simp[gst,hg]
   rw[this]
   exact run ρ h
  ·rename_i j want hg
   split at h
   ·exact h.elim
   rename_i t ht
   split at h
   ·rename_i b hb
    have hgs:gst ops o (get ρ)=some (b==want):=by simp[gst,hg,ht,hb]
    have hsame:get ((t,AV.d (.bool b))::ρ)=get ρ:=by rw[get_cons];exact upd_same hb
    rw[hgs]
    split at h
    ·cases b
     ·have:=putE _ _ _ h
      rw[hsame] at this
      exact this
     ·have:=run _ h
      rw[hsame] at this
      exact this
    ·cases b
     ·have:=run _ h
      rw[hsame] at this
      exact this
     ·have:=putE _ _ _ h
      rw[hsame] at this
      exact this
   ·rename_i vs hb
    split at h
    ·have hgs:gst ops o (get ρ)=some false:=by simp[gst,hg,ht,hb]
     rw[hgs]
     exact putE _ _ _ h
    ·exact h.elim
   ·exact h.elim
theorem Rel.drew (h:Rel p σ s a w):Rel p σ s a { w with drawn:=w.drawn+1 }∧Ext p w p { w with drawn:=w.drawn+1 }:=by
 have hsh:Shape w { w with drawn:=w.drawn+1 }:=⟨Nat.le_refl _,fun r c e fr h=>⟨c,fr,h,rfl⟩,rfl,rfl,rfl⟩
 have he:Ext p w p { w with drawn:=w.drawn+1 }:=.mk1 (fun _ _=>rfl) hsh
 have hv: ∀{x:AV} {v:Value},VRel p σ w x v→VRel p σ { w with drawn:=w.drawn+1 } x v:=fun h=>h.mono he fun _ _ h=>h
 refine⟨⟨h.size,h.df,fun t=>hv (h.env t),⟨h.heap.len,h.heap.lt,fun i k hk=>?_,h.heap.inj,h.heap.gl.ext he⟩,h.m⟩,he⟩
 obtain ⟨r,h1,h2,h3,h4⟩:=h.heap.blk i k hk
 refine⟨r,h1,h2,h3,?_⟩
 cases k with
 |row cs=>
  obtain ⟨c,e,fr,g1,g2,g3,g4⟩:=h4
  exact⟨c,e,fr,g1,g2,g3,fun i x v hx hv'=>⟨hv (g4 i x v hx hv').1,(g4 i x v hx hv').2⟩⟩
 |iter s pos=>exact h4
 |dfr=>exact h4
 |raw o=>exact h4
 |bytes e bs=>exact h4
 |mp ks vs=>obtain ⟨es,cl,z1,z2,z3,z4,z5⟩:=h4;exact⟨es,cl,z1,z2,z3,z4,fun i x e hx he=>hv (z5 i x e hx he)⟩
 |yl Y k=>exact⟨h4.1,Y.stI k p p w _ h4.2 rfl (fun _ h=>h) (fun _ _=>rfl) hsh⟩
 |yz Y=>exact⟨h4.1,Y.stZ p p w _ h4.2 rfl (fun _ h=>h) (fun _ _=>rfl) hsh⟩
theorem W_draw (md:Nat) (hT:TTok P tt) (hmx:P.follows .mixedOrders=true) {id:Nat} {Q:AEx→St→Prop} (hB:drawB md ops=true) (h:awpD P tt md s.H.length ops (idxs ops.toList 0) s (Q .normal)):W P ro (.region id ops true) Q s:=by
 rw[idxs_eq] at h
 have h:=awpD_F _ s h
 rw[W_eq]
 intro p σ a w hR
 obtain ⟨hR',he⟩:=hR.drew
 refine wpIn_region_any hmx ?_
 have hu:unl ops (Array.replicate ops.size false)=List.range ops.size:=List.filter_eq_self.2 fun i hi=>by
  simp[List.mem_range.1 hi]
 refine any_sound hT hB ops.size _ s p σ a _ (by simp) (fun i o hi=>by simp[Array.getD_eq_getD_getElem?,Array.getElem?_replicate] at hi;split at hi <;> simp at hi) (by rw[hu];simp) hR' (Nat.le_refl _) (by rw[hu];exact h) ?_
 rintro s' p' σ' a' w' e1 e2 e3 e4 e5 e6 ⟨ρl,h1,h2⟩
 refine⟨.normal,p',σ',⟨ρl,s.n,s'.H,s.m,s.df⟩,rfl,he.trans e1,mono_m e2 hR.heap hR.m,?_,rfl,rfl,h2⟩
 refine⟨by rw[e3.size,e5],?_,fun t=>by simp only;rw[← h1];exact e3.env t,e3.heap,by have:=e3.m;rw[e4] at this;exact this⟩
 have:=e3.df
 rw[e6] at this
 exact this
end
end Go.Eng
namespace Go.Eng
open Go
inductive FV (g F:List Nat) (H:Heap):AV→AV→Prop
 |any (x:AV):FV g F H x .any
 |same (x:AV) (h:low 0 x=true):FV g F H x x
 |ptr (b b' o:Nat) (h:g[b']? =some b):FV g F H (.ptr b o) (.ptr b' o)
 |msl (b b' o l c z:Nat) (h:g[b']? =some b):FV g F H (.msl b o l c z) (.msl b' o l c z)
 |mp (b b':Nat) (h:g[b']? =some b):FV g F H (.mp b) (.mp b')
 |nsl:FV g F H .nsl (.d (.sl []))
 |nesl:FV g F H .nsl .esl
 |esl:FV g F H .esl (.d (.sl []))
 |frz (b off len cl sz:Nat) (cs:List AV) (rows:List (List D)) (hb:b∈F) (hr:rowOf H b=some cs) (hl:rows.length=len) (hs: ∀row∈rows,row.length=sz) (hle:off+len * sz≤cs.length)
   (hv: ∀(i:Nat) (x:AV) (y:D),i<len * sz→cs[off+i]? =some x→rows.flatten[i]? =some y→FV g F H x (.d y)):FV g F H (.msl b off len cl sz) (.d (.sl rows))
 |fptr (b off:Nat) (cs:List AV) (row:List D) (hb:b∈F) (hr:rowOf H b=some cs) (hl:row.length≤cs.length)
   (hv: ∀(i:Nat) (x:AV) (y:D),cs[i]? =some x→row[i]? =some y→FV g F H x (.d y)):FV g F H (.ptr b off) (.fptr row off)
 |agg (xs ys:List AV) (hl:xs.length=ys.length) (hv: ∀(i:Nat) (x y:AV),xs[i]? =some x→ys[i]? =some y→FV g F H x y):FV g F H (.agg xs) (.agg ys)
 |tup (xs ys:List AV) (hl:xs.length=ys.length) (hv: ∀(i:Nat) (x y:AV),xs[i]? =some x→ys[i]? =some y→FV g F H x y):FV g F H (.tup xs) (.tup ys)
 |clos (fn:Go.Fn) (xs ys xs' ys':List AV) (hl:xs.length=xs'.length) (hl':ys.length=ys'.length) (hv: ∀(i:Nat) (x y:AV),xs[i]? =some x→xs'[i]? =some y→FV g F H x y)
   (hv': ∀(i:Nat) (x y:AV),ys[i]? =some x→ys'[i]? =some y→FV g F H x y):FV g F H (.clos fn xs ys) (.clos fn xs' ys')
theorem flatten_at {α:Type} {sz:Nat}: ∀(rows:List (List α)),(∀ row∈rows,row.length=sz)→ ∀(i j:Nat),j<sz→rows.flatten[i * sz+j]? =(rows[i]?).bind (·[j]?):=by
 intro rows
 induction rows with
 |nil=>intro _ i j _;simp
 |cons r t ih=>
  intro h i j hj
  have hr:r.length=sz:=h r (by simp)
  rw[List.flatten_cons]
  cases i with
  |zero=>rw[List.getElem?_append_left (by omega)];simp
  |succ i=>
   rw[List.getElem?_append_right (by rw[hr,Nat.succ_mul];omega),hr,show (i+1) * sz+j-sz=i * sz+j by rw[Nat.succ_mul];omega,ih (fun row hrow=>h row (by simp[hrow])) i j hj]
   simp
theorem flatten_len {α:Type} {sz:Nat}: ∀(rows:List (List α)),(∀ row∈rows,row.length=sz)→rows.flatten.length=rows.length * sz:=by
 intro rows
 induction rows with
 |nil=>intro _;simp
 |cons r t ih=>
  intro h
  simp[h r (by simp),ih (fun row hrow=>h row (by simp[hrow])),Nat.succ_mul]
  omega
section
variable {p:PQ} {σ:List Nat} {w:World} {H:Heap} {g F:List Nat}
def Frozen (σ:List Nat) (H:Heap) (F:List Nat) (r:Nat):Prop:= ∃(b:Nat) (cs:List AV),b∈F∧H[b]? =some (some (.row cs))∧σ[b]? =some r
def pfz (p:PQ) (σ:List Nat) (H:Heap) (F:List Nat):PQ:=⟨fun r=>p.r r∨(Frozen σ H F r∧ ¬p.u r),fun r=>p.u r∨(Frozen σ H F r∧ ¬p.u r),p.f,fun b h=>h.imp (p.sub b) id,fun b h=>.inl (p.fu b h),fun b h hr=>hr.elim (p.fr b h) fun hr=>hr.2 (p.fu b h)⟩
theorem ext_fz (hH:HRel p σ H w):Ext p w (pfz p σ H F) w:=⟨fun _ h=>.inl h,fun _ h=>.inl h,fun b h=>h.imp id (fun h=>h.2),fun _ h=>h,fun _ h=>.inl h,fun _ _ _=>rfl,.refl w⟩
theorem VRel.fz (hH:HRel p σ H w) {σ':List Nat} (hg: ∀(i j:Nat),g[i]? =some j→σ'[i]? =σ[j]?) {x x':AV} (h:FV g F H x x'): ∀v,VRel p σ w x v→VRel (pfz p σ H F) σ' w x' v:=by
 have row: ∀{b:Nat} {cs:List AV} {r:Nat},b∈F→rowOf H b=some cs→σ[b]? =some r→(pfz p σ H F).r r∧ ∃(c:Array Value),cs.length≤c.size∧(∀ i,i<c.size→w.cell? ⟨r,i,none⟩=c[i]?)∧
   ∀(i:Nat) (x:AV) (v:Value),cs[i]? =some x→c[i]? =some v→VRel p σ w x v:=fun {b cs r} hb hr hσ=>by
  have h1:=rowOf_some hr
  obtain ⟨r',g1,g2,g3,c,e,fr,g4,g5,g6,g7⟩:=hH.blk b _ h1
  rw[hσ] at g1
  injection g1 with g1
  subst g1
  exact⟨.inr ⟨⟨b,cs,hb,h1,hσ⟩,g2⟩,c,g5,fun i hi=>by simp[World.cell?,g4],fun i x v hx hv=>(g7 i x v hx hv).1⟩
 induction h with
 |any x=>intro v _;exact .any v
 |same x h=>intro v hv;exact(hv.anyσ h σ').mono' (p':=pfz p σ H F) (fun b (h:p.r b)=>Or.inl h) (fun _ _=>rfl) (.refl w) (fun _ _ h=>h)
 |ptr b b' o h=>
  intro v hv
  cases hv with
  |ptr _ _ r hr=>exact .ptr _ _ r (by rw[hg _ _ h];exact hr)
 |msl b b' o l c z h=>
  intro v hv
  cases hv with
  |msl _ _ _ _ _ r cap hr hB hc hcl hblk=>exact .msl _ _ _ _ _ r cap (by rw[hg _ _ h];exact hr) hB hc hcl hblk
 |mp b b' h=>
  intro v hv
  cases hv with
  |mp _ r hr=>exact .mp _ r (by rw[hg _ _ h];exact hr)
 |nsl=>
  intro v hv
  cases hv with
  |nsl=>exact .sl [] none 0 0 0 (fun _ _=>default) rfl (Nat.zero_le _) (Nat.le_refl _) (fun i row h=>by simp at h) (fun h=>absurd rfl h) (fun i row j x h=>by simp at h)
 |nesl=>
  intro v hv
  cases hv with
  |nsl=>exact .esl none
 |esl=>
  intro v hv
  cases hv with
  |esl a=>exact .sl [] a 0 0 0 (fun _ _=>default) rfl (Nat.zero_le _) (Nat.le_refl _) (fun i row h=>by simp at h) (fun h=>absurd rfl h) (fun i row j x h=>by simp at h)
 |frz b off len cl sz cs rows hb hr hl hs hle hv' ih=>
  intro v hv
  cases hv with
  |msl _ _ _ _ _ r cap hσ hB hc hcl hblk=>
   obtain ⟨h1,c,h2,h3,h4⟩:=row hb hr hσ
   have idx: ∀i j,i<len→j<sz→i * sz+j<len * sz:=fun i j hi hj=>by
    have:(i+1) * sz≤len * sz:=Nat.mul_le_mul_right sz hi
    rw[Nat.succ_mul] at this
    omega
   refine .sl rows _ len cap sz (fun i j=>(c[off+i * sz+j]?).getD undef) hl hB hc (fun i row hrow=>hs row (List.mem_of_getElem? hrow)) (fun _=>⟨r,off,rfl,h1,fun i j hi hj=>?_⟩) (fun i row j x hrow hx=>?_)
   ·have:=idx i j hi hj
    rw[h3 _ (by omega)]
    have hlt:off+i * sz+j<c.size:=by omega
    simp[hlt]
   ·have hi:i<len:=by rw[← hl];exact(List.getElem?_eq_some_iff.1 hrow).1
    have hj:j<sz:=by rw[← hs row (List.mem_of_getElem? hrow)];exact(List.getElem?_eq_some_iff.1 hx).1
    have hlt:=idx i j hi hj
    have hcs:off+(i * sz+j)<cs.length:=by omega
    have e1:cs[off+(i * sz+j)]? =some cs[off+(i * sz+j)]:=List.getElem?_eq_getElem hcs
    have e2:rows.flatten[i * sz+j]? =some x:=by rw[flatten_at rows hs i j hj,hrow];exact hx
    have hcv:c[off+(i * sz+j)]? =some c[off+(i * sz+j)]:=Array.getElem?_eq_getElem (by omega)
    have:=ih (i * sz+j) _ x hlt e1 e2 _ (h4 _ _ _ e1 hcv)
    have e3:off+i * sz+j=off+(i * sz+j):=by omega
    simp only[e3,hcv,Option.getD_some]
    exact this.anyσ rfl σ'
 |fptr b off cs row0 hb hr hl hv' ih=>
  intro v hv
  cases hv with
  |ptr _ _ r hσ=>
   obtain ⟨h1,c,h2,h3,h4⟩:=row hb hr hσ
   have:VRel (pfz p σ H F) σ' w (.fptr row0 off) (.pointer (some ⟨r,0+off,none⟩)):=by
    refine .fptr row0 off r 0 (fun j=>(c[j]?).getD undef) h1 (fun j hj=>?_) (fun j x hx=>?_)
    ·rw[Nat.zero_add,h3 _ (by omega)]
     have hlt:j<c.size:=by omega
     simp[hlt]
    ·have hj:j<row0.length:=(List.getElem?_eq_some_iff.1 hx).1
     have e1:cs[j]? =some cs[j]:=List.getElem?_eq_getElem (by omega)
     have hcv:c[j]? =some c[j]:=Array.getElem?_eq_getElem (by omega)
     have:=ih j _ x e1 hx _ (h4 _ _ _ e1 hcv)
     simp only[hcv,Option.getD_some]
     exact this.anyσ rfl σ'
   simpa using this
 |agg xs ys hl hv' ih=>
  intro v hv
  cases hv with
  |agg _ vs h hone hx=>
   refine .agg ys vs (by rw[h,hl]) hone fun i y v hy hv=>?_
   have hi:i<xs.length:=by rw[hl];exact(List.getElem?_eq_some_iff.1 hy).1
   have e1:xs[i]? =some xs[i]:=List.getElem?_eq_getElem hi
   exact ih i _ y e1 hy v (hx i _ v e1 hv)
 |tup xs ys hl hv' ih=>
  intro v hv
  cases hv with
  |tup _ vs h hx=>
   refine .tup ys vs (by rw[h,hl]) fun i y v hy hv=>?_
   have hi:i<xs.length:=by rw[hl];exact(List.getElem?_eq_some_iff.1 hy).1
   have e1:xs[i]? =some xs[i]:=List.getElem?_eq_getElem hi
   exact ih i _ y e1 hy v (hx i _ v e1 hv)
 |clos fn xs ys xs' ys' hl hl' hv1 hv2 ih1 ih2=>
  intro v hv
  cases hv with
  |clos _ _ _ fs cs h1 h2 hf hc=>
   refine .clos fn xs' ys' fs cs (by rw[h1,hl]) (by rw[h2,hl']) (fun i y v hy hv=>?_) (fun i y v hy hv=>?_)
   ·have hi:i<xs.length:=by rw[hl];exact(List.getElem?_eq_some_iff.1 hy).1
    have e1:xs[i]? =some xs[i]:=List.getElem?_eq_getElem hi
    exact ih1 i _ y e1 hy v (hf i _ v e1 hv)
   ·have hi:i<ys.length:=by rw[hl'];exact(List.getElem?_eq_some_iff.1 hy).1
    have e1:ys[i]? =some ys[i]:=List.getElem?_eq_getElem hi
    exact ih2 i _ y e1 hy v (hc i _ v e1 hv)
inductive FB (g F:List Nat) (H:Heap):Blk→Blk→Prop
 |row (xs ys:List AV) (hl:ys.length≤xs.length) (hv: ∀(i:Nat) (x y:AV),xs[i]? =some x→ys[i]? =some y→FV g F H x y):FB g F H (.row xs) (.row ys)
 |iter (s:ByteArray) (pos:Nat):FB g F H (.iter s pos) (.iter s pos)
 |dfr:FB g F H .dfr .dfr
 |raw (o:Obj):FB g F H (.raw o) (.raw o)
 |bytes (e:Nat) (bs:List UInt8):FB g F H (.bytes e bs) (.bytes e bs)
 |mp (ks:List Int) (xs ys:List AV) (hl:ys.length=xs.length) (hv: ∀(i:Nat) (x y:AV),xs[i]? =some x→ys[i]? =some y→FV g F H x y):FB g F H (.mp ks xs) (.mp ks ys)
 |yl (Y:Ysp) (k:Nat):FB g F H (.yl Y k) (.yl Y k)
 |yz (Y:Ysp):FB g F H (.yz Y) (.yz Y)
def HFz (g F:List Nat) (H:Heap):Heap→List Nat→Prop
 |[],[]=>True
 |none::H',j::g'=>HFz g F H H' g'
 |some b::H',j::g'=>(∃ b0,H[j]? =some (some b0)∧FB g F H b0 b)∧HFz g F H H' g'
 |_,_=>False
theorem HFz_get: ∀(H':Heap) (g':List Nat),HFz g F H H' g'→H'.length=g'.length∧
  ∀(i:Nat) (b:Blk),H'[i]? =some (some b)→ ∃j b0,g'[i]? =some j∧H[j]? =some (some b0)∧FB g F H b0 b:=by
 intro H'
 induction H' with
 |nil=>intro g' h;cases g' with
  |nil=>exact⟨rfl,fun i b hb=>by simp at hb⟩
  |cons=>simp[HFz] at h
 |cons x t ih=>
  intro g' h
  cases g' with
  |nil=>cases x <;> simp[HFz] at h
  |cons j g'=>
   cases x with
   |none=>
    simp only[HFz] at h
    obtain ⟨h1,h2⟩:=ih g' h
    refine⟨by simp[h1],fun i b hb=>?_⟩
    cases i with
    |zero=>simp at hb
    |succ i=>simp only[List.getElem?_cons_succ] at hb ⊢;exact h2 i b hb
   |some y=>
    simp only[HFz] at h
    obtain ⟨⟨b0,h3,h4⟩,h5⟩:=h
    obtain ⟨h1,h2⟩:=ih g' h5
    refine⟨by simp[h1],fun i b hb=>?_⟩
    cases i with
    |zero=>simp at hb;subst hb;exact⟨j,b0,rfl,h3,h4⟩
    |succ i=>simp only[List.getElem?_cons_succ] at hb ⊢;exact h2 i b hb
def EFz (g F:List Nat) (H:Heap) (ρ:Env):Env→Prop
 |[]=>True
 |(t,v)::r=>FV g F H (get ρ t) v∧EFz g F H ρ r
theorem EFz_get {ρ:Env}: ∀(ρ':Env),EFz g F H ρ ρ'→ ∀t,FV g F H (get ρ t) (get ρ' t):=by
 intro ρ'
 induction ρ' with
 |nil=>intro _ t;exact .any _
 |cons x r ih=>
  intro h t
  obtain ⟨d,v⟩:=x
  obtain ⟨h1,h2⟩:=h
  simp only[get]
  cases hb:Nat.beq d t with
  |true=>
   have:=Nat.eq_of_beq_eq_true hb
   subst this
   exact h1
  |false=>exact ih h2 t
def apartL (g F:List Nat):Bool:=F.all fun b=>g.all fun c=> !Nat.beq b c
theorem HRel.fz (hH:HRel p σ H w) {H':Heap} (hlt: ∀x∈g,x<H.length) (hnd:noDup g=true) (hap:apartL g F=true) (hle:HFz g F H H' g):HRel (pfz p σ H F) (renS g σ) H' w:=by
 obtain ⟨hlen,hget⟩:=HFz_get H' g hle
 have hs:=renS_get (σ:=σ) (g:=g) rfl (by rw[hH.len];exact hlt)
 have hg: ∀(i j:Nat),g[i]? =some j→(renS g σ)[i]? =σ[j]? :=fun i j h=>by
  have hi:=(List.getElem?_eq_some_iff.1 h).1
  rw[hs i hi]
  simp[gOf,List.getD_eq_getElem?_getD,h]
 have nfz: ∀(i j r:Nat) (k:Blk),g[i]? =some j→H[j]? =some (some k)→σ[j]? =some r→ ¬Frozen σ H F r:=fun i j r k h1 h2 h3 ⟨b,cs,hb,hcs,hr⟩=>by
  have:=hH.inj b j r _ k hcs h2 hr h3
  subst this
  have:=List.all_eq_true.1 (List.all_eq_true.1 hap b hb) b (List.mem_iff_getElem?.2 ⟨i,h1⟩)
  simp at this
 refine⟨by simp[renS,hlen],fun b hb=>hb.elim (hH.lt b) fun ⟨⟨i,cs,_,h2,h3⟩,_⟩=>?_,fun i b hb=>?_,fun i j r a b ha hb hi hj=>?_,hH.gl.part fun _ h=>.inl h⟩
 ·obtain ⟨r,g1,g2,g3,_⟩:=hH.blk i _ h2
  rw[h3] at g1
  injection g1 with g1
  subst g1
  exact g3
 ·obtain ⟨j,b0,h1,h2,h3⟩:=hget i b hb
  obtain ⟨r,g1,g2,g3,g4⟩:=hH.blk j _ h2
  refine⟨r,by rw[hg i j h1];exact g1,fun hu=>hu.elim g2 (fun h=>nfz i j r _ h1 h2 g1 h.1),g3,?_⟩
  cases h3 with
  |row xs ys hl hv=>
   obtain ⟨c,e,fr,q1,q2,q3,q4⟩:=g4
   refine⟨c,e,fr,q1,by omega,q3,fun k y v hy hcv=>?_⟩
   have hk:k<xs.length:=by have:=(List.getElem?_eq_some_iff.1 hy).1;omega
   have e1:xs[k]? =some xs[k]:=List.getElem?_eq_getElem hk
   obtain ⟨z1,z2⟩:=q4 k _ v e1 hcv
   exact⟨VRel.fz hH hg (hv k _ y e1 hy) v z1,z2⟩
  |iter s pos=>exact g4
  |dfr=>exact g4
  |raw o=>exact g4
  |bytes e bs=>exact g4
  |mp ks xs ys hl hv=>
   obtain ⟨es,cl,z1,z2,z3,z4,z5⟩:=g4
   refine⟨es,cl,z1,z2,by omega,z4,fun k y e hy hc=>?_⟩
   have hk:k<xs.length:=by have:=(List.getElem?_eq_some_iff.1 hy).1;omega
   have e1:xs[k]? =some xs[k]:=List.getElem?_eq_getElem hk
   exact VRel.fz hH hg (hv k _ y e1 hy) e.val (z5 k _ e e1 hc)
  |yl Y k=>exact⟨g4.1,Y.stI k p _ w w g4.2 rfl (fun _ h=>.inl h) (fun _ _=>rfl) (.refl w)⟩
  |yz Y=>exact⟨g4.1,Y.stZ p _ w w g4.2 rfl (fun _ h=>.inl h) (fun _ _=>rfl) (.refl w)⟩
 ·obtain ⟨i1,a0,a1,a2,_⟩:=hget i a ha
  obtain ⟨j1,b0,b1,b2,_⟩:=hget j b hb
  rw[hg i i1 a1] at hi
  rw[hg j j1 b1] at hj
  have:=hH.inj i1 j1 r _ _ a2 b2 hi hj
  subst this
  exact noDup_inj g hnd i j i1 a1 b1
end
theorem Wk_fz (g F:List Nat) {ρ ρ':Env} {n m:Nat} {H H':Heap} (hlt:(g.all fun x=>Nat.blt x H.length)=true) (hnd:noDup g=true) (hap:apartL g F=true) (hle:HFz g F H H' g) (hρ:EFz g F H ρ ρ') (hm:m≤g.length)
  (hid: ∀i,i<m→gOf g i=i):Wk ⟨ρ,n,H,m,[]⟩ ⟨ρ',n,H',m,[]⟩:=by
 rw[Wk_eq]
 refine⟨rfl,rfl,fun p σ a w hR=>?_⟩
 have hlt': ∀x∈g,x<H.length:=fun x hx=>by simpa [Nat.blt_eq] using List.all_eq_true.1 hlt x hx
 have hlen:=hR.heap.len
 simp only at hlen
 have hs:=renS_get (σ:=σ) (g:=g) rfl (by rw[hlen];exact hlt')
 have hg: ∀(i j:Nat),g[i]? =some j→(renS g σ)[i]? =σ[j]? :=fun i j h=>by
  have hi:=(List.getElem?_eq_some_iff.1 h).1
  rw[hs i hi]
  simp[gOf,List.getD_eq_getElem?_getD,h]
 obtain ⟨hl,_⟩:=HFz_get H' g hle
 refine⟨pfz p σ H F,renS g σ,ext_fz hR.heap,fun i hi=>by rw[hs i (Nat.lt_of_lt_of_le hi hm),hid i hi],hR.size,?_,fun t=>?_,hR.heap.fz hlt' hnd hap hle,by simp only;omega⟩
 ·have:=hR.df
  cases hd:a.defers with
  |nil=>trivial
  |cons x t=>rw[hd] at this;simp[DRel] at this
 ·exact VRel.fz hR.heap hg (EFz_get ρ' hρ t) _ (hR.env t)
theorem Fin_fz (g F:List Nat) {m:Nat} {v v':AV} {H H':Heap} (hlt:(g.all fun x=>Nat.blt x H.length)=true) (hnd:noDup g=true) (hap:apartL g F=true) (hle:HFz g F H H' g) (hv:FV g F H v v') (hm:m≤g.length)
  (hid: ∀i,i<m→gOf g i=i):Fin m v H v' H':=by
 rw[Fin_eq]
 intro p σ w x hmH hH hx
 have hlt': ∀x∈g,x<H.length:=fun x hx=>by simpa [Nat.blt_eq] using List.all_eq_true.1 hlt x hx
 have hs:=renS_get (σ:=σ) (g:=g) rfl (by rw[hH.len];exact hlt')
 have hg: ∀(i j:Nat),g[i]? =some j→(renS g σ)[i]? =σ[j]? :=fun i j h=>by
  have hi:=(List.getElem?_eq_some_iff.1 h).1
  rw[hs i hi]
  simp[gOf,List.getD_eq_getElem?_getD,h]
 exact⟨pfz p σ H F,renS g σ,ext_fz hH,fun i hi=>by rw[hs i (Nat.lt_of_lt_of_le hi hm),hid i hi],hH.fz hlt' hnd hap hle,VRel.fz hH hg hv x hx⟩
end Go.Eng
namespace Go.Eng
open Go
def pos (g:List Nat) (j:Nat):Option Nat:=go g 0 j
where go:List Nat→Nat→Nat→Option Nat
 |[],_,_=>none
 |x::t,i,j=>match Nat.beq x j with
  |true=>some i
  |false=>go t (i+1) j
theorem pos_go {j:Nat} (g:List Nat): ∀i,(∀ k,pos.go g i j=some k→ ∃q,k=i+q∧g[q]? =some j)∧(pos.go g i j=none→j∉g):=by
 induction g with
 |nil=>intro i;exact⟨fun k h=>by simp[pos.go] at h,fun _=>by simp⟩
 |cons x t ih=>
  intro i
  unfold pos.go
  cases hb:Nat.beq x j with
  |true=>
   have:=Nat.eq_of_beq_eq_true hb
   subst this
   exact⟨fun k h=>⟨0,by simp at h;omega,rfl⟩,fun h=>by simp at h⟩
  |false=>
   obtain ⟨h1,h2⟩:=ih (i+1)
   refine⟨fun k h=>?_,fun h=>?_⟩
   ·obtain ⟨q,e1,e2⟩:=h1 k h
    exact⟨q+1,by omega,by simpa using e2⟩
   ·have:=h2 h
    have hne:x≠j:=fun e=>by subst e;simp at hb
    simp[Ne.symm hne,this]
theorem pos_some {g:List Nat} {j i:Nat} (h:pos g j=some i):g[i]? =some j:=by
 obtain ⟨q,h1,h2⟩:=(pos_go g 0).1 i h
 have:i=q:=by omega
 subst this
 exact h2
theorem pos_none {g:List Nat} {j:Nat} (h:pos g j=none):j∉g:=(pos_go g 0).2 h
def hmap (g:List Nat) (n:Nat) (i:Nat):Nat:=
 match Nat.blt i g.length with
 |true=>gOf g i
 |false=>i-g.length+n
def patch1 (f:Nat→Nat) (g:List Nat) (H1:Heap):Heap→Nat→Heap
 |[],_=>[]
 |b::t,j=>(match pos g j with
  |some i=>match H1[i]? with
   |some (some k)=>some (renB f k)
   |_=>none
  |none=>b)::patch1 f g H1 t (j+1)
def renH (f:Nat→Nat):Heap→Heap
 |[]=>[]
 |none::t=>none::renH f t
 |some b::t=>some (renB f b)::renH f t
def patch (g:List Nat) (H H1:Heap):Heap:=patch1 (hmap g H.length) g H1 H 0++renH (hmap g H.length) (H1.drop g.length)
theorem patch1_get (f:Nat→Nat) (g:List Nat) (H1:Heap) (H:Heap): ∀(j0:Nat),(patch1 f g H1 H j0).length=H.length∧ ∀i:Nat,(patch1 f g H1 H j0)[i]? =(H[i]?).map fun b=>match pos g (j0+i) with
  |some q=>match H1[q]? with
   |some (some k)=>some (renB f k)
   |_=>none
  |none=>b:=by
 induction H with
 |nil=>intro j0;exact⟨rfl,fun i=>by simp[patch1]⟩
 |cons b t ih=>
  intro j0
  obtain ⟨h1,h2⟩:=ih (j0+1)
  refine⟨by simp[patch1,h1],fun i=>?_⟩
  cases i with
  |zero=>rfl
  |succ i=>
   simp only[patch1,List.getElem?_cons_succ,h2]
   rw[show j0+1+i=j0+(i+1) by omega]
theorem renH_get (f:Nat→Nat) (H:Heap):(renH f H).length=H.length∧ ∀i:Nat,(renH f H)[i]? =(H[i]?).map (Option.map (renB f)):=by
 induction H with
 |nil=>exact⟨rfl,fun i=>by simp[renH]⟩
 |cons b t ih=>
  obtain ⟨h1,h2⟩:=ih
  cases b with
  |none=>exact⟨by simp[renH,h1],fun i=>by cases i <;> simp[renH,h2]⟩
  |some b=>exact⟨by simp[renH,h1],fun i=>by cases i <;> simp[renH,h2]⟩
def passY (pY:Bool) (g:List Nat) (H H0:Heap) (Q:AV→Heap→Prop):Prop:=
 match pY with
 |true=>noYx g H 0=true
 |false=>noY H0=true∧ ∀v1 H1,Q v1 H1→noY H1=true
theorem Tri.sub (pY:Bool) {P:Program} {f:FuncId} {args0:List AV} {H0:Heap} {Q:AV→Heap→Prop} (h:Tri P f args0 H0 Q) (g:List Nat) {args:List AV} {H:Heap} (hlt:(g.all fun x=>Nat.blt x H.length)=true) (hnd:noDup g=true)
  (hle:HLe g g.length H H0 g) (hargs:args=renL (gOf g) args0) (hl:lowL g.length args0=true) (hY:passY pY g H H0 Q):
  Tri P f args H fun v H'=> ∃v1 H1,Q v1 H1∧v=Eng.ren (hmap g H.length) v1∧H'=patch g H H1:=by
 subst hargs
 simp only[Tri_eq] at *
 refine⟨h.1,fun p σ w vs hH hs hv=>?_⟩
 have hlt': ∀x∈g,x<H.length:=fun x hx=>by simpa [Nat.blt_eq] using List.all_eq_true.1 hlt x hx
 let live:Nat→Prop:=fun b=> ∃(i:Nat) (k:Blk),i∉g∧H[i]? =some (some k)∧σ[i]? =some b
 let p0:PQ:=⟨p.r,fun b=>p.u b∨live b,fun b=>pY=true∧p.f b,fun b hb=>.inl (p.sub b hb),fun b h=>.inl (p.fu b h.2),fun b h=>p.fr b h.2⟩
 have hlive: ∀b,live b→ ¬p.u b∧b<w.heap.size:=fun b ⟨i,k,_,hi,hb⟩=>by
  obtain ⟨r,g1,g2,g3,_⟩:=hH.blk i k hi
  rw[hb] at g1
  injection g1 with g1
  subst g1
  exact⟨g2,g3⟩
 have hlen0:H0.length=g.length:=(HLe_get H0 g hle).1
 have hget0:=(HLe_get H0 g hle).2
 have hr0:=hH.ren hlt' hnd hle
 have hsg:=renS_get (σ:=σ) (g:=g) rfl (by rw[hH.len];exact hlt')
 have hgi: ∀(i j:Nat),g[i]? =some j→(renS g σ)[i]? =σ[j]? :=fun i j h=>by
  have hi:=(List.getElem?_eq_some_iff.1 h).1
  rw[hsg i hi]
  simp[gOf,List.getD_eq_getElem?_getD,h]
 have hH0:HRel p0 (renS g σ) H0 w:=by
  refine⟨hr0.len,fun b hb=>hb.elim (hH.lt b) fun hb=>(hlive b hb).2,fun i k hk=>?_,hr0.inj,hH.gl.part fun _ h=>h⟩
  obtain ⟨r,g1,g2,g3,g4⟩:=hr0.blk i k hk
  refine⟨r,g1,fun hu=>hu.elim g2 fun ⟨i2,k2,hn,h2,h3⟩=>?_,g3,?_⟩
  rotate_left
  ·cases k with
   |row cs=>
    obtain ⟨c,e,fr,q1,q2,q3,q4⟩:=g4
    exact⟨c,e,fr,q1,q2,q3,fun i x v hx hv=>⟨(q4 i x v hx hv).1.mono' (p:=p) (p':=p0) (fun b hb=>hb) (fun _ _=>rfl) (.refl w) (fun _ _ h=>h),(q4 i x v hx hv).2⟩⟩
   |iter s pos=>exact g4
   |dfr=>exact g4
   |raw o=>exact g4
   |bytes e bs=>exact g4
   |mp ks vs=>
    obtain ⟨es,cl,z1,z2,z3,z4,z5⟩:=g4
    exact⟨es,cl,z1,z2,z3,z4,fun i x e hx he=>(z5 i x e hx he).mono' (p:=p) (p':=p0) (fun b hb=>hb) (fun _ _=>rfl) (.refl w) (fun _ _ h=>h)⟩
   |yl Y k=>
    cases pY with
    |false=>have:=noY_get hY.1 hk;simp[isY] at this
    |true=>exact⟨g4.1,Y.stI k p p0 w w g4.2 (by funext b;simp[p0]) (fun _ h=>h) (fun _ _=>rfl) (.refl w)⟩
   |yz Y=>
    cases pY with
    |false=>have:=noY_get hY.1 hk;simp[isY] at this
    |true=>exact⟨g4.1,Y.stZ p p0 w w g4.2 (by funext b;simp[p0]) (fun _ h=>h) (fun _ _=>rfl) (.refl w)⟩
  obtain ⟨j,e1,e2,_⟩:=hget0 i k hk
  rw[hgi i j e1] at g1
  have:=hH.inj i2 j r _ _ h2 e2 h3 g1
  subst this
  exact hn (List.mem_iff_getElem?.2 ⟨i,e1⟩)
 refine(h.2 p0 (renS g σ) w vs hH0 (by rw[hs,renL_length]) fun i x v hx hv'=>?_).mono ?_
 ·have h1:=hv i (Eng.ren (gOf g) x) v (by rw[renL_get,hx];rfl) hv'
  exact(h1.ren hsg x rfl (lowL_get hl hx)).mono' (p:=p) (p':=p0) (fun b hb=>hb) (fun _ _=>rfl) (.refl w) (fun _ _ h=>h)
 rintro e w' ⟨v,x,p',σ1,H1,rfl,hex,hm1,hH1,hvx,hq⟩
 have hnl: ∀b,p'.r b→ ¬live b:=fun b hb hlb=>by
  rcases hex.back b hb with h1|h1
  ·exact(hlive b hlb).1 (p.sub b h1)
  ·exact h1 (.inr hlb)
 have hpu: ∀b,p.u b→p'.u b∧ ¬live b:=fun b hb=>⟨hex.subu b (.inl hb),fun hl=>(hlive b hl).1 hb⟩
 have hfl: ∀b,p'.f b→ ¬live b:=fun b hb hlb=>(hex.backf b hb).elim (fun h=>(hlive b hlb).1 (p.fu b h.2)) fun h=>h (.inr hlb)
 let p2:PQ:=⟨p'.r,fun b=>p'.u b∧ ¬live b,fun b=>(pY=true∧p'.f b)∨(pY=false∧p.f b),fun b hb=>⟨p'.sub b hb,hnl b hb⟩,fun b hb=>hb.elim (fun h=>⟨p'.fu b h.2,hfl b h.2⟩) fun h=>hpu b (p.fu b h.2),
  fun b hb hr=>hb.elim (fun h=>p'.fr b h.2 hr) fun h=>(hex.back b hr).elim (p.fr b h.2) fun hn=>hn (.inl (p.fu b h.2))⟩
 have hex2:Ext p w p2 w':=⟨fun b hb=>hex.subr b hb,hpu,
  fun b hb=>(hex.back b hb).elim .inl fun hn=>.inr fun hu=>hn (.inl hu),
  fun b hb=>by cases pY with
   |true=>exact .inl ⟨rfl,hex.subf b ⟨rfl,hb⟩⟩
   |false=>exact .inr ⟨rfl,hb⟩,
  fun b hb=>hb.elim (fun h=>(hex.backf b h.2).elim (fun h=>.inl h.2) fun hn=>.inr fun hu=>hn (.inl hu)) fun h=>.inl h.2,
  fun b hb hf=>hex.same b (.inl hb) (fun h=>hf h.2),hex.shape⟩
 have hlf: ∀r,live r→ ¬p0.f r:=fun r hl h=>(hlive r hl).1 (p.fu r h.2)
 have hlen1:=hH1.len
 have hgl:g.length≤σ1.length:=by
  rcases Nat.lt_or_ge σ1.length g.length with hlt1|h1
  ·exfalso
   have hj:g[σ1.length]? =some (g[σ1.length]'hlt1):=List.getElem?_eq_getElem hlt1
   have hσ:=hgi _ _ hj
   have:g[σ1.length]'hlt1<σ.length:=by rw[hH.len];exact hlt' _ (List.getElem_mem _)
   rw[List.getElem?_eq_getElem this] at hσ
   have:=(List.getElem?_eq_some_iff.1 (hm1 _ _ hσ)).1
   omega
  ·exact h1
 let σ2:=σ++σ1.drop g.length
 have hleft: ∀(i r:Nat),σ[i]? =some r→σ2[i]? =some r:=fun i r hi=>by
  rw[List.getElem?_append_left (List.getElem?_eq_some_iff.1 hi).1]
  exact hi
 have hmono1: ∀(i r:Nat),σ1[i]? =some r→σ2[hmap g H.length i]? =some r:=fun i r hi=>by
  unfold hmap
  cases hb:Nat.blt i g.length with
  |true=>
   have hi':i<g.length:=by simpa [Nat.blt_eq] using hb
   have hj:g[i]? =some (g[i]'hi'):=List.getElem?_eq_getElem hi'
   have hgo:gOf g i=g[i]'hi':=by simp[gOf,List.getD_eq_getElem?_getD,hj]
   have hlt2:g[i]'hi'<σ.length:=by rw[hH.len];exact hlt' _ (List.getElem_mem _)
   have hσ:σ[g[i]'hi']? =some (σ[g[i]'hi']'hlt2):=List.getElem?_eq_getElem hlt2
   have:=hm1 i _ ((hgi i _ hj).trans hσ)
   rw[hi] at this
   simp only[hgo]
   rw[hleft _ _ hσ,this]
  |false=>
   have hi':g.length≤i:=by
    rcases Nat.lt_or_ge i g.length with h|h
    ·have:Nat.blt i g.length=true:=by simpa [Nat.blt_eq] using h
     rw[this] at hb;simp at hb
    ·exact h
   show (σ++σ1.drop g.length)[i-g.length+H.length]? =some r
   rw[← hH.len,List.getElem?_append_right (by omega),List.getElem?_drop]
   rw[show g.length+(i-g.length+σ.length-σ.length)=i by omega]
   exact hi
 have hlt2: ∀b,b<w.heap.size→b<w'.heap.size:=fun b hb=>Nat.lt_of_lt_of_le hb hex.shape.1
 refine⟨v,_,p2,σ2,_,rfl,hex2,hleft,?_,(hvx.renF hmono1).mono' (p:=p') (p':=p2) (fun b hb=>hb) (fun _ _=>rfl) (.refl w') (fun _ _ h=>h),x,H1,hq,rfl,rfl⟩
 obtain ⟨pl,pg⟩:=patch1_get (hmap g H.length) g H1 H 0
 obtain ⟨rl,rg⟩:=renH_get (hmap g H.length) (H1.drop g.length)
 have split: ∀(i:Nat) (k:Blk),(patch g H H1)[i]? =some (some k)→(i∉g∧H[i]? =some (some k))∨(∃ j k1,i=hmap g H.length j∧H1[j]? =some (some k1)∧k=renB (hmap g H.length) k1):=fun i k hk=>by
  unfold patch at hk
  rcases Nat.lt_or_ge i H.length with hi|hi
  ·rw[List.getElem?_append_left (by rw[pl];exact hi),pg,List.getElem?_eq_getElem hi] at hk
   simp only[Nat.zero_add,Option.map_some] at hk
   split at hk
   ·rename_i q hq
    have hgq:=pos_some hq
    have hqlt:=(List.getElem?_eq_some_iff.1 hgq).1
    split at hk
    ·rename_i k1 hk1
     simp only[Option.some.injEq] at hk
     refine .inr ⟨q,k1,?_,hk1,hk.symm⟩
     unfold hmap
     have:Nat.blt q g.length=true:=by simpa [Nat.blt_eq] using hqlt
     rw[this]
     simp[gOf,List.getD_eq_getElem?_getD,hgq]
    ·simp at hk
   ·rename_i hq
    simp only[Option.some.injEq] at hk
    exact .inl ⟨pos_none hq,by rw[List.getElem?_eq_getElem hi,hk]⟩
  ·rw[List.getElem?_append_right (by rw[pl];exact hi),rg,pl,List.getElem?_drop] at hk
   refine .inr ⟨g.length+(i-H.length),?_⟩
   cases hj:H1[g.length+(i-H.length)]? with
   |none=>simp[hj] at hk
   |some o=>
    cases o with
    |none=>simp[hj] at hk
    |some k1=>
     simp[hj] at hk
     refine⟨k1,?_,rfl,hk.symm⟩
     unfold hmap
     have:Nat.blt (g.length+(i-H.length)) g.length=false:=by
      cases hb:Nat.blt (g.length+(i-H.length)) g.length with
      |false=>rfl
      |true=>simp[Nat.blt_eq] at hb;omega
     rw[this]
     simp only
     omega
 have own: ∀(i r:Nat) (k:Blk),i∉g→H[i]? =some (some k)→σ2[i]? =some r→σ[i]? =some r∧live r:=fun i r k hn hk hr=>by
  have hi:i<σ.length:=by rw[hH.len];exact(List.getElem?_eq_some_iff.1 hk).1
  rw[List.getElem?_append_left hi] at hr
  exact⟨hr,i,k,hn,hk,hr⟩
 have back: ∀(j r:Nat) (k1:Blk),H1[j]? =some (some k1)→σ2[hmap g H.length j]? =some r→σ1[j]? =some r:=fun j r k1 hk hr=>by
  have hj:j<σ1.length:=by rw[hlen1];exact(List.getElem?_eq_some_iff.1 hk).1
  have e:σ1[j]? =some (σ1[j]'hj):=List.getElem?_eq_getElem hj
  have:=hmono1 j _ e
  rw[hr] at this
  rw[e,this]
 refine⟨by simp[patch,σ2,pl,rl,hH.len,hlen1],fun b hb=>hH1.lt b hb.1,fun i k hk=>?_,fun i j r a b ha hb hi hj=>?_,hH.gl.ext hex2⟩
 ·rcases split i k hk with ⟨hn,h1⟩|⟨j,k1,rfl,h1,rfl⟩
  ·obtain ⟨r,g1,g2,g3,g4⟩:=hH.blk i k h1
   have hl:live r:=⟨i,k,hn,h1,g1⟩
   exact⟨r,hleft i r g1,fun hu=>hu.2 hl,hlt2 r g3,g4.mono hex2 hleft (hex.same r (.inr hl) (hlf r hl)) (fun hy=>by
    cases pY with
    |true=>have:=noYx_get hY h1 (by simpa using hn);rw[this] at hy;simp at hy
    |false=>exact⟨by funext b;simp[p2],fun b hb=>hex.same b (.inl (p.fu b hb)) (fun h=>by simp[p0] at h)⟩)⟩
  ·obtain ⟨r,g1,g2,g3,g4⟩:=hH1.blk j k1 h1
   refine⟨r,hmono1 j r g1,fun hu=>g2 hu.1,g3,?_⟩
   cases k1 with
   |row cs=>
    obtain ⟨c,e,fr,q1,q2,q3,q4⟩:=g4
    refine⟨c,e,fr,q1,by rw[renL_length];exact q2,q3,fun i x v hx hv=>?_⟩
    rw[renL_get] at hx
    cases hy:cs[i]? with
    |none=>simp[hy] at hx
    |some z=>
     simp only[hy,Option.map_some,Option.some.injEq] at hx
     subst hx
     obtain ⟨z1,z2⟩:=q4 i z v hy hv
     exact⟨(z1.renF hmono1).mono' (p:=p') (p':=p2) (fun b hb=>hb) (fun _ _=>rfl) (.refl w') (fun _ _ h=>h),z2⟩
   |iter s pos=>exact g4
   |dfr=>exact g4
   |raw o=>exact g4
   |bytes e bs=>exact g4
   |mp ks vs=>
    obtain ⟨es,cl,z1,z2,z3,z4,z5⟩:=g4
    refine⟨es,cl,z1,z2,by rw[renL_length];exact z3,z4,fun i x e hx he=>?_⟩
    rw[renL_get] at hx
    cases hy:vs[i]? with
    |none=>simp[hy] at hx
    |some z=>
     simp only[hy,Option.map_some,Option.some.injEq] at hx
     subst hx
     exact((z5 i z e hy he).renF hmono1).mono' (p:=p') (p':=p2) (fun b hb=>hb) (fun _ _=>rfl) (.refl w') (fun _ _ h=>h)
   |yl Y k=>
    cases pY with
    |false=>have:=noY_get (hY.2 _ _ hq) h1;simp[isY] at this
    |true=>exact⟨g4.1,Y.stI k p' p2 w' w' g4.2 (by funext b;simp[p2]) (fun _ h=>h) (fun _ _=>rfl) (.refl w')⟩
   |yz Y=>
    cases pY with
    |false=>have:=noY_get (hY.2 _ _ hq) h1;simp[isY] at this
    |true=>exact⟨g4.1,Y.stZ p' p2 w' w' g4.2 (by funext b;simp[p2]) (fun _ h=>h) (fun _ _=>rfl) (.refl w')⟩
 ·rcases split i a ha with ⟨hn1,h1⟩|⟨i',a1,rfl,h1,rfl⟩ <;> rcases split j b hb with ⟨hn2,h2⟩|⟨j',b1,rfl,h2,rfl⟩
  ·exact hH.inj i j r a b h1 h2 (own i r a hn1 h1 hi).1 (own j r b hn2 h2 hj).1
  ·exfalso
   obtain ⟨_,hl⟩:=own i r a hn1 h1 hi
   obtain ⟨r',g1,g2,_⟩:=hH1.blk j' b1 h2
   rw[back j' r b1 h2 hj] at g1
   injection g1 with g1
   subst g1
   exact g2 (hex.subu r (.inr hl))
  ·exfalso
   obtain ⟨_,hl⟩:=own j r b hn2 h2 hj
   obtain ⟨r',g1,g2,_⟩:=hH1.blk i' a1 h1
   rw[back i' r a1 h1 hi] at g1
   injection g1 with g1
   subst g1
   exact g2 (hex.subu r (.inr hl))
  ·rw[hH1.inj i' j' r a1 b1 h1 h2 (back i' r a1 h1 hi) (back j' r b1 h2 hj)]
theorem Tri.call {P:Program} {f:FuncId} {args0:List AV} {H0 HH:Heap} {r0:AV} (h:Tri P f args0 H0 fun v H=>v=r0∧H=HH) (g:List Nat) {args:List AV} {H:Heap} {K:AV→Heap→Prop} (hlt:(g.all fun x=>Nat.blt x H.length)=true) (hnd:noDup g=true)
  (hle:HLe g g.length H H0 g) (hargs:args=renL (gOf g) args0) (hl:lowL g.length args0=true) (hY:noY H0=true) (hY2:noY HH=true) {r:AV} {H':Heap} (hr:Eng.ren (hmap g H.length) r0=r) (hH:patch g H HH=H') (hK:K r H'):Tri P f args H K:=by
 refine(h.sub false g hlt hnd hle hargs hl ⟨hY,fun v1 H1 hq=>by rw[hq.2];exact hY2⟩).mono ?_
 rintro v H2 ⟨v1,H1,⟨rfl,rfl⟩,rfl,rfl⟩
 rw[hr,hH]
 exact hK
end Go.Eng
namespace Go.Eng
open Go
def isExit:AEx→Code→Prop
 |.exit i,c=>c=.exit i
 |.goto l,c=>c=.goto l
 |.ret,c=>c=.ret
 |.normal,_=>False
structure RdBack (J:Nat→Heap→Prop) (JZ:AEx→Heap→Prop) (k n mb:Nat) (e:AEx) (s:St):Prop where
 out:
 ∃H3,Wk s ⟨[],n,H3,mb,[]⟩∧noY H3=true∧mb≤H3.length∧match e with
  |.normal=>J (k+1) H3
  |e=>JZ e H3
theorem RdBack_eq (J:Nat→Heap→Prop) (JZ:AEx→Heap→Prop) (k n mb:Nat) (e:AEx) (s:St):RdBack J JZ k n mb e s=(∃ H3,Wk s ⟨[],n,H3,mb,[]⟩∧noY H3=true∧mb≤H3.length∧match e with
  |.normal=>J (k+1) H3
  |e=>JZ e H3):=propext ⟨fun h=>h.out,fun h=>⟨h⟩⟩
theorem Rd_next {J:Nat→Heap→Prop} {JZ:AEx→Heap→Prop} {k n mb:Nat} {s:St} (H3:Heap) (h:Wk s ⟨[],n,H3,mb,[]⟩) (hY:noY H3=true) (hl:mb≤H3.length) (hJ:J (k+1) H3):RdBack J JZ k n mb .normal s:=by
 rw[RdBack_eq];exact⟨H3,h,hY,hl,hJ⟩
theorem Rd_ret {J:Nat→Heap→Prop} {JZ:AEx→Heap→Prop} {k n mb:Nat} {s:St} (H3:Heap) (h:Wk s ⟨[],n,H3,mb,[]⟩) (hY:noY H3=true) (hl:mb≤H3.length) (hJ:JZ .ret H3):RdBack J JZ k n mb .ret s:=by
 rw[RdBack_eq];exact⟨H3,h,hY,hl,hJ⟩
section
variable {P:Program}
structure Mid (p0:PQ) (ρ:Env) (tmps:Array Value) (mb:Nat) (σb:List Nat) (l:Nat) (rec_:Loop) (p:PQ) (w:World) (pO:PQ) (σO:List Nat) (H:Heap):Prop where
 bl:σb.length=mb
 len:mb≤H.length
 heap:HRel pO σO H w
 nam: ∀i,i<mb→σO[i]? =σb[i]?
 noY:noY H=true
 subr: ∀b,p0.r b→pO.r b
 back: ∀b,pO.r b→p0.r b∨p.f b
 live: ∀(i r:Nat) (k:Blk),H[i]? =some (some k)→σO[i]? =some r→p.f r
 p0r: ∀b,p0.r b→p.r b
 env: ∀t,VRel pO σb w (get ρ t) (tmps.getD t undef)
 lrec:w.heap[l]? =some (.loop rec_)
theorem VRel.same {p:PQ} {σ:List Nat} {w w':World} {x:AV} {v:Value} (h:VRel p σ w x v) (hs: ∀b,p.r b→w'.heap[b]? =w.heap[b]?) (hsh:Shape w w'):VRel p σ w' x v:=
 h.mono' (fun _ h=>h) hs hsh (fun _ _ h=>h)
theorem HRel.same {p p':PQ} {σ:List Nat} {H:Heap} {w w':World} (h:HRel p σ H w) (hY:noY H=true) (hr: ∀b,p.r b→p'.r b) (hs: ∀b,p.r b→w'.heap[b]? =w.heap[b]?) (hsh:Shape w w')
  (hl: ∀b,p'.u b→b<w'.heap.size) (hn: ∀(i:Nat) (k:Blk) (r:Nat),H[i]? =some (some k)→σ[i]? =some r→ ¬p'.u r∧w'.heap[r]? =w.heap[r]?):HRel p' σ H w':=by
 refine⟨h.len,hl,fun i k hk=>?_,h.inj,h.gl.same hr hs hsh⟩
 obtain ⟨r,h1,h2,h3,h4⟩:=h.blk i k hk
 obtain ⟨h5,h6⟩:=hn i k r hk h1
 refine⟨r,h1,h5,Nat.lt_of_lt_of_le h3 hsh.1,?_⟩
 have hy:=noY_get hY hk
 cases k with
 |row cs=>
  obtain ⟨c,e,fr,g1,g2,g3,g4⟩:=h4
  exact⟨c,e,fr,h6.trans g1,g2,g3,fun i x v hx hv=>⟨(g4 i x v hx hv).1.mono' hr hs hsh (fun _ _ h=>h),(g4 i x v hx hv).2⟩⟩
 |iter s pos=>exact h6.trans h4
 |dfr=>exact h6.trans h4
 |raw o=>exact h6.trans h4
 |bytes e bs=>obtain ⟨c,fr,z1,z2⟩:=h4;exact⟨c,fr,h6.trans z1,z2⟩
 |mp ks vs=>obtain ⟨es,cl,z1,z2,z3,z4,z5⟩:=h4;exact⟨es,cl,h6.trans z1,z2,z3,z4,fun i x e hx he=>(z5 i x e hx he).mono' hr hs hsh (fun _ _ h=>h)⟩
 |yl Y k=>simp[isY] at hy
 |yz Y=>simp[isY] at hy
theorem Mid.stab {p0:PQ} {ρ:Env} {tmps:Array Value} {mb:Nat} {σb:List Nat} {l:Nat} {rec_:Loop} {p p' pO:PQ} {w w':World} {σO:List Nat} {H:Heap} (h:Mid p0 ρ tmps mb σb l rec_ p w pO σO H)
  (hf:p'.f=p.f) (hr: ∀b,p.r b→p'.r b) (hs: ∀b,p.r b∨p.f b∨b=l→w'.heap[b]? =w.heap[b]?) (hsh:Shape w w'):Mid p0 ρ tmps mb σb l rec_ p' w' pO σO H:=by
 have hro: ∀b,pO.r b→w'.heap[b]? =w.heap[b]? :=fun b hb=>hs b ((h.back b hb).elim (fun h1=>.inl (h.p0r b h1)) fun h1=>.inr (.inl h1))
 refine⟨h.bl,h.len,h.heap.same h.noY (fun _ h=>h) hro hsh (fun b hb=>Nat.lt_of_lt_of_le (h.heap.lt b hb) hsh.1) fun i k r hk hr2=>?_,h.nam,h.noY,h.subr,fun b hb=>(h.back b hb).imp id (fun h=>by rw[hf];exact h),fun i r k hk hr2=>by rw[hf];exact h.live i r k hk hr2,fun b hb=>hr b (h.p0r b hb),fun t=>(h.env t).same hro hsh,(hs l (.inr (.inr rfl))).trans h.lrec⟩
 refine⟨?_,hs r (.inr (.inl (h.live i r k hk hr2)))⟩
 obtain ⟨r',g1,g2,_⟩:=h.heap.blk i k hk
 rw[hr2] at g1
 injection g1 with g1
 subst g1
 exact g2
def recOf (fn:FuncId) (tmps:Array Value) (ps:Array Tmp) (body:Code) (d:Nat) (st:LoopState) (pend:Option Code):Loop:=
 { state:=st,pending:=pend,fn:=fn,tmps:=tmps,params:=ps,assign:=.skip,body:=body,defers:=d }
def mkY (p0:PQ) (ρ:Env) (tmps:Array Value) (mb:Nat) (σb:List Nat) (l:Nat) (fn:FuncId) (t:Tmp) (body:Code) (d:Nat) (xs:List AV) (J:Nat→Heap→Prop) (JZ:AEx→Heap→Prop):Ysp where
 l:=l
 xs:=xs
 I k p w:= ∃pO σO H,J k H∧Mid p0 ρ tmps mb σb l (recOf fn tmps #[t] body d .ready none) p w pO σO H
 Z p w:= ∃pO σO H e c,JZ e H∧isExit e c∧Mid p0 ρ tmps mb σb l (recOf fn tmps #[t] body d .done (some c)) p w pO σO H
 stI:=fun k p p' w w' ⟨pO,σO,H,h1,h2⟩ hf hr hs hsh=>⟨pO,σO,H,h1,h2.stab hf hr hs hsh⟩
 stZ:=fun p p' w w' ⟨pO,σO,H,e,c,h1,h2,h3⟩ hf hr hs hsh=>⟨pO,σO,H,e,c,h1,h2,h3.stab hf hr hs hsh⟩
def plain:AV→Bool
 |.d (.int _ _)=>true
 |.d (.bool _)=>true
 |.d (.str _)=>true
 |_=>false
theorem plain_one {x:AV} (h:plain x=true):argsY x=[x]:=by
 cases x <;> first|rfl|simp[plain] at h
theorem VRel.ofPlain {p p':PQ} {σ σ':List Nat} {w w':World} {x:AV} {v:Value} (h:VRel p σ w x v) (hp:plain x=true):VRel p' σ' w' x v:=by
 cases h <;> first|exact .int _ _|exact .bool _|exact .str _ (by assumption)|simp[plain] at hp
theorem Shape.putLoop {w:World} {l:Nat} {rec_:Loop} (h:w.heap[l]? =some (.loop rec_)) (o:Obj):Shape w (w.putObj l o):=Shape.setOther h (fun _ _ _ h=>by simp at h)
theorem mkY_law {p0:PQ} {ρ:Env} {tmps:Array Value} {mb:Nat} {σb:List Nat} {l:Nat} {fn:FuncId} {t:Tmp} {body:Code} {d:Nat} {xs:List AV} {J:Nat→Heap→Prop} {JZ:AEx→Heap→Prop}
  (ht:t<tmps.size) (hxs: ∀(k:Nat) (x:AV),xs[k]? =some x→plain x=true)
  (hround: ∀(k:Nat) (x:AV) (H:Heap),xs[k]? =some x→J k H→mb≤H.length→noY H=true→W P (some l) body (RdBack J JZ k tmps.size mb) ⟨(t,x)::ρ,tmps.size,H,mb,[]⟩):
  YLaw P (mkY p0 ρ tmps mb σb l fn t body d xs J JZ):=by
 rintro k x vs p σ w ⟨pO,σO,H,hJ,hM⟩ hx hvs hlt hul hll
 obtain ⟨v,rfl,hv⟩:=one_val (plain_one (hxs k x hx)) hvs
 have hul: ¬p.u l:=hul
 have hll:l<w.heap.size:=hll
 refine⟨fn,tmps.setIfInBounds t v,.skip,body,?_,?_⟩
 ·show (Instr.yield l #[v]).run P w=.ok (.round l fn (tmps.setIfInBounds t v) .skip body) w
  rw[run_yield hM.lrec (by simp[recOf])]
  simp[recOf]
 show RoundIn Fence.wide 0 P l fn (tmps.setIfInBounds t v) .skip body w _
 refine roundIn_of_wpIn trivial (wpIn_skip ?_)
 refine⟨_,run_beginRound hM.lrec rfl,?_⟩
 let w2:=w.putObj l (.loop (recOf fn tmps #[t] body d .busy none))
 show body.wpIn (Fr (some l)) 0 P _ _ w2
 have hsh2:Shape w w2:=Shape.putLoop hM.lrec _
 have hlr: ¬pO.r l:=fun h=>(hM.back l h).elim (fun h=>hul (p.sub l (hM.p0r l h))) fun h=>hul (p.fu l h)
 let liveO:Nat→Prop:=fun b=> ∃(i:Nat) (q:Blk),H[i]? =some (some q)∧σO[i]? =some b
 have hlive: ∀b,liveO b→p.f b∧ ¬pO.u b∧b<w.heap.size:=fun b ⟨i,q,h1,h2⟩=>by
  obtain ⟨r',g1,g2,g3,_⟩:=hM.heap.blk i q h1
  rw[h2] at g1
  injection g1 with g1
  subst g1
  exact⟨hM.live i b q h1 h2,g2,g3⟩
 have hll2: ¬liveO l:=fun h=>hul (p.fu l (hlive l h).1)
 have sz2:w2.heap.size=w.heap.size:=by simp[w2]
 have oth2: ∀b,b≠l→w2.heap[b]? =w.heap[b]? :=fun b hb=>World.putObj_heap_other hb
 let pR:PQ:=⟨pO.r,fun b=>b<w.heap.size∧ ¬liveO b,fun _=>False,fun b hb=>⟨hM.heap.lt b (pO.sub b hb),fun h=>(hlive b h).2.1 (pO.sub b hb)⟩,fun _ h=>h.elim,fun _ h=>h.elim⟩
 have hHR:HRel pR σO H w2:=hM.heap.same hM.noY (fun _ h=>h) (fun b hb=>oth2 b fun e=>hlr (e▸hb)) hsh2 (fun b hb=>by rw[sz2];exact hb.1) fun i q r h1 h2=>
  ⟨fun h=>h.2 ⟨i,q,h1,h2⟩,oth2 r fun e=>hll2 (e▸⟨i,q,h1,h2⟩)⟩
 have σmono: ∀(i r:Nat),σb[i]? =some r→σO[i]? =some r:=fun i r hi=>by
  rw[hM.nam i (by rw[← hM.bl];exact(List.getElem?_eq_some_iff.1 hi).1)]
  exact hi
 have hRel:Rel pR σO ⟨(t,x)::ρ,tmps.size,H,mb,[]⟩ { tmps:=tmps.setIfInBounds t v,defers:=[]} w2:=by
  refine⟨by simp,trivial,fun u=>?_,hHR,hM.len⟩
  simp only[get]
  by_cases hu:t=u
  ·subst hu
   rw[Nat.beq_refl]
   simp only[cond_true]
   have:(tmps.setIfInBounds t v).getD t undef=v:=by simp[Array.getD_eq_getD_getElem?,ht]
   rw[this]
   exact hv.ofPlain (hxs k x hx)
  ·rw[beq_ne hu]
   simp only[cond_false]
   have:(tmps.setIfInBounds t v).getD u undef=tmps.getD u undef:=by simp[Array.getD_eq_getD_getElem?,Array.getElem?_setIfInBounds_ne hu]
   rw[this]
   exact(hM.env u).mono' (p:=pO) (p':=pR) (fun _ h=>h) (fun b hb=>oth2 b fun e=>hlr (e▸hb)) hsh2 σmono
 have hW:=hround k x H hx hJ hM.len hM.noY
 rw[W_eq] at hW
 refine wpIn_mono (hW pR σO _ w2 hRel) ?_
 rintro e a' w' ⟨ae,p',σ',s',rfl,g2,g3,g4,g5,g6,g7⟩
 rw[RdBack_eq] at g7
 obtain ⟨H3,hwk,hY3,hl3,hJ3⟩:=g7
 rw[Wk_eq] at hwk
 obtain ⟨k1,k2,k3⟩:=hwk
 obtain ⟨p2,σ2,e1,m1,r1⟩:=k3 p' σ' a' w' g4
 have hex:=g2.trans e1
 have hnam: ∀i,i<mb→σ2[i]? =σO[i]? :=fun i hi=>(m1 i (by rw[g5];exact hi)).trans (g3 i hi)
 have hpl:pR.u l:=⟨hll,hll2⟩
 have hrec:w'.heap[l]? =some (.loop (recOf fn tmps #[t] body d .busy none)):=(g2.same l hpl (fun h=>h)).trans (World.putObj_heap_same hll)
 have hll':l<w'.heap.size:=(Array.getElem?_eq_some_iff.1 hrec).1
 have h2l: ¬p2.r l:=fun h=>(hex.back l h).elim hlr fun h=>h hpl
 have new: ∀b,¬pR.u b→p.f b∨w.heap.size≤b:=fun b hb=>by
  by_cases hlt':b<w.heap.size
  ·by_cases hlv:liveO b
   ·exact .inl (hlive b hlv).1
   ·exact absurd ⟨hlt',hlv⟩ hb
  ·exact .inr (by omega)
 have fin: ∀(st:LoopState) (pend:Option Code),Mid p0 ρ tmps mb σb l (recOf fn tmps #[t] body d st pend) (grow p w (w'.putObj l (.loop (recOf fn tmps #[t] body d st pend)))) (w'.putObj l (.loop (recOf fn tmps #[t] body d st pend))) p2 σ2 H3∧
   (∀ c,c<w.heap.size→ ¬p.f c→c≠l→(w'.putObj l (.loop (recOf fn tmps #[t] body d st pend))).heap[c]? =w.heap[c]?)∧Shape w (w'.putObj l (.loop (recOf fn tmps #[t] body d st pend))):=fun st pend=>by
  have hsh3:Shape w' (w'.putObj l (.loop (recOf fn tmps #[t] body d st pend))):=Shape.putLoop hrec _
  have oth3: ∀b,b≠l→(w'.putObj l (.loop (recOf fn tmps #[t] body d st pend))).heap[b]? =w'.heap[b]? :=fun b hb=>World.putObj_heap_other hb
  have sz3:(w'.putObj l (.loop (recOf fn tmps #[t] body d st pend))).heap.size=w'.heap.size:=by simp
  have rec3:(w'.putObj l (.loop (recOf fn tmps #[t] body d st pend))).heap[l]? =some (.loop (recOf fn tmps #[t] body d st pend)):=World.putObj_heap_same hll'
  generalize w'.putObj l (.loop (recOf fn tmps #[t] body d st pend))=w3 at *
  have hshA:Shape w w3:=(hsh2.trans g2.shape).trans hsh3
  have grown: ∀b,¬pR.u b→b<w'.heap.size→(grow p w w3).f b:=fun b hb hbl=>(new b hb).imp id fun h=>⟨h,by omega,fun hr=>by have:=hlt b (p.sub b hr);omega⟩
  have rsame: ∀b,p2.r b→w3.heap[b]? =w'.heap[b]? :=fun b hb=>oth3 b fun e=>h2l (e▸hb)
  have osame: ∀b,pO.r b→w3.heap[b]? =w.heap[b]? :=fun b hb=>(oth3 b fun e=>hlr (e▸hb)).trans ((g2.same b (pR.sub b hb) (fun h=>h)).trans (oth2 b fun e=>hlr (e▸hb)))
  have lv: ∀(i:Nat) (q:Blk) (r:Nat),H3[i]? =some (some q)→σ2[i]? =some r→ ¬p2.u r∧r<w'.heap.size:=fun i q r h1 h2=>by
   obtain ⟨r',z1,z2,z3,_⟩:=r1.heap.blk i q h1
   rw[h2] at z1
   injection z1 with z1
   subst z1
   exact⟨z2,z3⟩
  refine⟨⟨hM.bl,hl3,r1.heap.same hY3 (fun _ h=>h) rsame hsh3 (fun b hb=>by rw[sz3];exact r1.heap.lt b hb) fun i q r h1 h2=>⟨(lv i q r h1 h2).1,oth3 r fun e=>(lv i q r h1 h2).1 (e▸hex.subu l hpl)⟩,fun i hi=>(hnam i hi).trans (hM.nam i hi),hY3,
   fun b hb=>hex.subr b (hM.subr b hb),fun b hb=>?_,fun i r q h1 h2=>grown r (fun h=>(lv i q r h1 h2).1 (hex.subu r h)) (lv i q r h1 h2).2,hM.p0r,fun u=>(hM.env u).mono' (p:=pO) (p':=p2) (fun b hb=>hex.subr b hb) osame hshA (fun _ _ h=>h),rec3⟩,fun c hc hcf hcl=>?_,hshA⟩
  ·rcases hex.back b hb with h|h
   ·exact(hM.back b h).imp id .inl
   ·exact .inr (grown b h (r1.heap.lt b (p2.sub b hb)))
  ·exact(oth3 c hcl).trans ((g2.same c ⟨hc,fun h=>hcf (hlive c h).1⟩ (fun h=>h)).trans (oth2 c hcl))
 cases ae with
 |normal=>
  obtain ⟨f1,f2,f3⟩:=fin .ready none
  exact⟨_,_,run_endRound none hrec,true,rfl,fun _=>⟨p2,σ2,H3,hJ3,f1⟩,fun h=>by simp at h,f2,f3⟩
 |exit i=>
  obtain ⟨f1,f2,f3⟩:=fin .done (some (.exit i))
  exact⟨_,_,run_endRound (some (.exit i)) hrec,false,rfl,fun h=>by simp at h,fun _=>⟨p2,σ2,H3,.exit i,_,hJ3,rfl,f1⟩,f2,f3⟩
 |goto i=>
  obtain ⟨f1,f2,f3⟩:=fin .done (some (.goto i))
  exact⟨_,_,run_endRound (some (.goto i)) hrec,false,rfl,fun h=>by simp at h,fun _=>⟨p2,σ2,H3,.goto i,_,hJ3,rfl,f1⟩,f2,f3⟩
 |ret=>
  obtain ⟨f1,f2,f3⟩:=fin .done (some .ret)
  exact⟨_,_,run_endRound (some .ret) hrec,false,rfl,fun h=>by simp at h,fun _=>⟨p2,σ2,H3,.ret,_,hJ3,rfl,f1⟩,f2,f3⟩
def hide (g:List Nat):Heap→Nat→Heap
 |[],_=>[]
 |b::t,j=>(bif g.any fun x=>Nat.beq x j then none else b)::hide g t (j+1)
theorem hide_get (g:List Nat) (H:Heap): ∀(j:Nat),(hide g H j).length=H.length∧ ∀(i:Nat) (k:Blk),(hide g H j)[i]? =some (some k)→j+i∉g∧H[i]? =some (some k):=by
 induction H with
 |nil=>intro j;exact⟨rfl,fun i k h=>by simp[hide] at h⟩
 |cons b t ih=>
  intro j
  obtain ⟨h1,h2⟩:=ih (j+1)
  refine⟨by simp[hide,h1],fun i k hk=>?_⟩
  cases i with
  |zero=>
   simp only[hide,List.getElem?_cons_zero,Option.some.injEq] at hk
   cases hb:(g.any fun x=>Nat.beq x j) with
   |true=>rw[hb] at hk;simp at hk
   |false=>
    rw[hb] at hk
    simp only[cond_false] at hk
    refine⟨fun hm=>?_,by simp[hk]⟩
    have:=(List.any_eq_true (p:=fun x=>Nat.beq x j)).2 ⟨j+0,hm,by simp⟩
    rw[hb] at this
    simp at this
  |succ i=>
   simp only[hide,List.getElem?_cons_succ] at hk⊢
   obtain ⟨h3,h4⟩:=h2 i k hk
   exact⟨by rw[show j+(i+1)=j+1+i by omega];exact h3,h4⟩
theorem noY_of {H:Heap} (h: ∀(i:Nat) (k:Blk),H[i]? =some (some k)→isY k=false):noY H=true:=by
 induction H with
 |nil=>rfl
 |cons b t ih=>
  have ht:=ih fun i k hk=>h (i+1) k (by simpa using hk)
  cases b with
  |none=>exact ht
  |some k=>simp only[noY,Bool.and_eq_true,Bool.not_eq_true'];exact⟨h 0 k rfl,ht⟩
theorem HRel.less {p:PQ} {σ:List Nat} {H H':Heap} {w:World} (h:HRel p σ H w) (hl:H'.length=H.length) (hs: ∀(i:Nat) (k:Blk),H'[i]? =some (some k)→H[i]? =some (some k)):HRel p σ H' w:=
 ⟨by rw[h.len,hl],h.lt,fun i k hk=>h.blk i k (hs i k hk),fun i j r k l hk hl=>h.inj i j r k l (hs i k hk) (hs j l hl),h.gl⟩
theorem W_range {gop:Operand} {f:FuncId} {fs cs fs0 cs0:List AV} (gl:List Nat) {H H0:Heap} {ρ:Env} {n m:Nat} {df:List DF} {t:Tmp} {body:Code} {Q:AEx→St→Prop} (xs:List AV) (J:Nat→Heap→Prop) (JZ:AEx→Heap→Prop)
  (hg:evalO (get ρ) gop=.clos (.func f) fs cs) (hlt:(gl.all fun x=>Nat.blt x H.length)=true) (hnd:noDup gl=true) (hle:HLe gl gl.length H H0 gl) (hfs:fs=renL (gOf gl) fs0) (hcs:cs=renL (gOf gl) cs0)
  (hlf:lowL gl.length fs0=true) (hlc:lowL gl.length cs0=true) (ht:t<n) (hY:noY H=true) (hxs: ∀(k:Nat) (x:AV),xs[k]? =some x→plain x=true)
  (hcall: ∀Y:Ysp,Y.xs=xs→YLaw P Y→Tri P f (fs0++[.clos (.yield Y.l) [] []]++cs0) (H0++[some (.yl Y 0)]) fun v H1=>H1[gl.length]? =some (some (.yl Y xs.length))∨H1[gl.length]? =some (some (.yz Y)))
  (hJ0:J 0 (hide gl H 0++[some .dfr]))
  (hround: ∀(l k:Nat) (x:AV) (H':Heap),xs[k]? =some x→J k H'→H.length+1≤H'.length→noY H'=true→W P (some l) body (RdBack J JZ k n (H.length+1)) ⟨(t,x)::ρ,n,H',H.length+1,[]⟩)
  (hend: ∀H',J xs.length H'→H.length+1≤H'.length→noY H'=true→Q .normal ⟨ρ,n,H',m,.mk H.length::df⟩)
  (hZ: ∀e H' c,isExit e c→JZ e H'→H.length+1≤H'.length→noY H'=true→Q e ⟨ρ,n,H',m,.mk H.length::df⟩):
  W P none (.rangeFunc gop #[t] .skip body) Q ⟨ρ,n,H,m,df⟩:=by
 rw[W_eq]
 intro p σ a w hR
 have hsz:a.tmps.size=n:=hR.size
 have hH:HRel p σ H w:=hR.heap
 have hlt': ∀x∈gl,x<H.length:=fun x hx=>by simpa [Nat.blt_eq] using List.all_eq_true.1 hlt x hx
 refine wpIn_rangeFunc fun fn _=>?_
 have hv:=evalO_rel hR gop
 simp only[hg] at hv
 generalize hve:a.eval gop=v at hv
 cases hv with
 |clos _ _ _ fs' cs' h1 h2 h3 h4=>
 let rec_:Loop:=recOf fn a.tmps #[t] body w.heap.size .ready none
 let wd:World:=pushW w (.deferred (some []))
 let w1:World:=pushW wd (.loop rec_)
 let l:Nat:=w.heap.size+1
 let σb:=σ++[w.heap.size]
 have hszd:wd.heap.size=w.heap.size+1:=pushW_size
 have hsz1:w1.heap.size=w.heap.size+2:=by simp[w1,pushW_size,hszd]
 have exd:Ext p w p wd:=.push hH.lt _
 have hltd: ∀b,p.u b→b<wd.heap.size:=fun b hb=>by have:=hH.lt b hb;omega
 have ex1:Ext p wd p w1:=.push hltd _
 have exA:Ext p w p w1:=exd.trans ex1
 have old: ∀b,b<w.heap.size→w1.heap[b]? =w.heap[b]? :=fun b hb=>(pushW_old (by omega)).trans (pushW_old hb)
 have hlrec:w1.heap[l]? =some (.loop rec_):=by
  show w1.heap[w.heap.size+1]? =_
  rw[← hszd]
  exact pushW_new
 have hHd:HRel p σb (H++[some .dfr]) wd:=hH.push _ .dfr pushW_new
 have hlive: ∀(i r:Nat) (k:Blk),(H++[some Blk.dfr])[i]? =some (some k)→σb[i]? =some r→ ¬p.u r∧r<wd.heap.size:=fun i r k hk hr=>by
  obtain ⟨r',z1,z2,z3,_⟩:=hHd.blk i k hk
  rw[hr] at z1
  injection z1 with z1
  subst z1
  exact⟨z2,z3⟩
 have hYd:noY (H++[some .dfr])=true:=noY_of fun i k hk=>by
  rcases Nat.lt_or_ge i H.length with hi|hi
  ·rw[List.getElem?_append_left hi] at hk
   exact noY_get hY hk
  ·rw[List.getElem?_append_right hi] at hk
   cases hj:i-H.length with
   |zero=>rw[hj] at hk;simp at hk;subst hk;rfl
   |succ j=>rw[hj] at hk;simp at hk
 have hH1:HRel p σb (H++[some .dfr]) w1:=hHd.same hYd (fun _ h=>h) (fun b hb=>ex1.same b (p.sub b hb) fun hf=>p.fr b hf hb) ex1.shape (fun b hb=>by have:=hltd b hb;omega) fun i k r hk hr=>
  ⟨(hlive i r k hk hr).1,pushW_old (hlive i r k hk hr).2⟩
 let Hb:Heap:=hide gl H 0++[some .dfr]
 obtain ⟨hhl,hhg⟩:=hide_get gl H 0
 have hbl:Hb.length=H.length+1:=by simp[Hb,hhl]
 have hbg: ∀(i:Nat) (k:Blk),Hb[i]? =some (some k)→i∉gl∧(H++[some Blk.dfr])[i]? =some (some k):=fun i k hk=>by
  rcases Nat.lt_or_ge i H.length with hi|hi
  ·rw[List.getElem?_append_left (by rw[hhl];exact hi)] at hk
   obtain ⟨z1,z2⟩:=hhg i k hk
   exact⟨by simpa using z1,by rw[List.getElem?_append_left hi];exact z2⟩
  ·rw[List.getElem?_append_right (by rw[hhl];exact hi),hhl] at hk
   exact⟨fun hm=>by have:=hlt' i hm;omega,by rw[List.getElem?_append_right hi];exact hk⟩
 have hHb:HRel p σb Hb w1:=hH1.less (by rw[hbl];simp) fun i k hk=>(hbg i k hk).2
 let L:Nat→Prop:=fun r=> ∃(i:Nat) (k:Blk),Hb[i]? =some (some k)∧σb[i]? =some r
 have hL: ∀r,L r→ ¬p.u r∧r<wd.heap.size:=fun r ⟨i,k,z1,z2⟩=>hlive i r k (hbg i k z1).2 z2
 let p0:PQ:=⟨p.r,fun b=>p.u b∨L b,L,fun b h=>.inl (p.sub b h),fun b h=>.inr h,fun b h hr=>(hL b h).1 (p.sub b hr)⟩
 have hσl:σ.length=H.length:=hH.len
 have σleft: ∀(i r:Nat),σ[i]? =some r→σb[i]? =some r:=mono_append _
 let Y:=mkY p ρ a.tmps (H.length+1) σb l fn t body w.heap.size xs J JZ
 have hMid:Mid p ρ a.tmps (H.length+1) σb l rec_ p0 w1 p σb Hb:=
  ⟨by simp[σb,hσl],Nat.le_of_eq hbl.symm,hHb,fun _ _=>rfl,noY_of fun i k hk=>noY_get hYd (hbg i k hk).2,fun _ h=>h,fun b h=>.inl h,fun i r k hk hr=>⟨i,k,hk,hr⟩,fun _ h=>h,fun u=>(hR.env u).mono exA σleft,hlrec⟩
 have hlaw:YLaw P Y:=mkY_law (by rw[hsz];exact ht) hxs fun k x H' e1 e2 e3 e4=>by rw[hsz];exact hround l k x H' e1 e2 e3 e4
 have hT:=hcall Y rfl hlaw
 rw[Tri_eq] at hT
 obtain ⟨hent,hT⟩:=hT
 have hlen0:H0.length=gl.length:=(HLe_get H0 gl hle).1
 have hget0:=(HLe_get H0 gl hle).2
 have hsg:=renS_get (σ:=σ) (g:=gl) rfl (by rw[hσl];exact hlt')
 have hgi: ∀(i j:Nat),gl[i]? =some j→(renS gl σ)[i]? =σ[j]? :=fun i j h=>by
  have hi:=(List.getElem?_eq_some_iff.1 h).1
  rw[hsg i hi]
  simp[gOf,List.getD_eq_getElem?_getD,h]
 have hY0:noY H0=true:=noY_of fun i k hk=>by
  obtain ⟨j,z1,z2,_⟩:=hget0 i k hk
  have:=noY_get hY z2
  cases k <;> first|rfl|simp[renB,isY] at this
 have hH0:HRel p (renS gl σ) H0 wd:=(hH.ren hlt' hnd hle).same hY0 (fun _ h=>h) (fun b hb=>exd.same b (p.sub b hb) fun hf=>p.fr b hf hb) exd.shape hltd fun i k r hk hr=>by
  obtain ⟨r',z1,z2,z3,_⟩:=(hH.ren hlt' hnd hle).blk i k hk
  rw[hr] at z1
  injection z1 with z1
  subst z1
  exact⟨z2,pushW_old z3⟩
 have hH0':HRel p0 (renS gl σ) H0 wd:=hH0.same hY0 (fun _ h=>h) (fun _ _=>rfl) (.refl wd) (fun b hb=>hb.elim (hltd b) fun h=>(hL b h).2) fun i k r hk hr=>by
  obtain ⟨r',z1,z2,z3,_⟩:=hH0.blk i k hk
  rw[hr] at z1
  injection z1 with z1
  subst z1
  refine⟨fun hu=>hu.elim z2 fun ⟨j,q,y1,y2⟩=>?_,rfl⟩
  obtain ⟨j0,e1,e2,_⟩:=hget0 i k hk
  rw[hgi i j0 e1] at hr
  obtain ⟨f1,f2⟩:=hbg j q y1
  have hj0:j0<H.length:=(List.getElem?_eq_some_iff.1 e2).1
  have:=hHd.inj j j0 r q _ f2 (by rw[List.getElem?_append_left hj0];exact e2) y2 (σleft _ _ hr)
  subst this
  exact f1 (List.mem_iff_getElem?.2 ⟨i,e1⟩)
 have hHc:HRel p0 (renS gl σ++[wd.heap.size]) (H0++[some (.yl Y 0)]) w1:=hH0'.push _ (.yl Y 0) ⟨hszd,p,σb,Hb,hJ0,hMid⟩
 let yv:Value:=.func (.yield l) #[] #[]
 refine⟨l,[{ target:=.collected w.heap.size,args:= #[]}],w1,{ target:=.fn (.func f) cs',args:=fs'++ #[yv]},w1,f,fs'++ #[yv]++cs',w1,run_enterLoop_outer fn a.tmps #[t] .skip body,?_,fun _ _=>trivial,?_,fun h=>by simp[Fr,Fence.wide] at h,?_⟩
 ·have hconst:a.eval (.const (.func (.yield l) #[] #[]))=yv:=rfl
  simp[resolve,rangeCall,hve,Deferred.ofValue,hconst]
 ·simp only[invoke]
  exact enter_run hent
 have hargs:(fs'++ #[yv]++cs').size=(fs0++[AV.clos (.yield Y.l) [] []]++cs0).length∧
   ∀(i:Nat) (x:AV) (v:Value),(fs0++[AV.clos (.yield Y.l) [] []]++cs0)[i]? =some x→(fs'++ #[yv]++cs')[i]? =some v→VRel p0 (renS gl σ++[wd.heap.size]) w1 x v:=by
  have part: ∀(xs xs0:List AV) (vs:Array Value),xs=renL (gOf gl) xs0→lowL gl.length xs0=true→vs.size=xs.length→(∀ (i:Nat) (x:AV) (v:Value),xs[i]? =some x→vs[i]? =some v→VRel p σ w x v)→
    vs.size=xs0.length∧ ∀(i:Nat) (x:AV) (v:Value),xs0[i]? =some x→vs[i]? =some v→VRel p0 (renS gl σ++[wd.heap.size]) w1 x v:=fun xs xs0 vs hx hl hs hr=>by
   subst hx
   rw[renL_length] at hs
   refine⟨hs,fun i x v hx hv=>?_⟩
   have z:=hr i (Eng.ren (gOf gl) x) v (by rw[renL_get,hx];rfl) hv
   exact(z.ren hsg x rfl (lowL_get hl hx)).mono' (p:=p) (p':=p0) (fun _ h=>h) (fun b hb=>exA.same b (p.sub b hb) fun hf=>p.fr b hf hb) exA.shape (mono_append _)
  obtain ⟨q1,q2⟩:=part fs fs0 fs' hfs hlf h1 h3
  obtain ⟨r1,r2⟩:=part cs cs0 cs' hcs hlc h2 h4
  obtain ⟨u1,u2⟩:=rel_append (p:=p0) (σ:=renS gl σ++[wd.heap.size]) (w:=w1) (xs:=fs0) (ys:=[AV.clos (.yield Y.l) [] []]) (us:=fs') (vs:= #[yv]) q1 q2 rfl (fun i x v hx hv=>by
   cases i with
   |zero=>
    simp at hx hv
    subst hx hv
    exact .clos (.yield l) [] [] #[] #[] rfl rfl (fun i x v h=>by simp at h) (fun i x v h=>by simp at h)
   |succ i=>simp at hx)
  exact rel_append u1 u2 r1 r2
 show CallsIn (Fr none) 0 P f _ w1 _
 refine callsIn_of ((hT p0 _ w1 _ hHc hargs.1 hargs.2).mono ?_)
 rintro e w2 ⟨v,x,p1,σ1,H1,rfl,hex,hm1,hHR1,_,hq⟩
 have hl1:σ1[gl.length]? =some l:=hm1 _ _ (by
  rw[List.getElem?_append_right (by simp[renS])]
  simp[renS,hszd,l])
 have hul1: ∀(k:Blk),H1[gl.length]? =some (some k)→ ¬p1.u l∧BRel p1 σ1 w2 k l:=fun k hk=>by
  obtain ⟨r,z1,z2,_,z4⟩:=hHR1.blk _ k hk
  rw[hl1] at z1
  injection z1 with z1
  subst z1
  exact⟨z2,z4⟩
 have fin: ∀(st:LoopState) (pend:Option Code) (pO:PQ) (σO:List Nat) (H':Heap) (o:Obj),¬p1.u l→Mid p ρ a.tmps (H.length+1) σb l (recOf fn a.tmps #[t] body w.heap.size st pend) p1 w2 pO σO H'→H.length+1≤H'.length∧noY H'=true∧
   ∃pf,Ext p w pf (w2.putObj l o)∧(∀ i,i<m→σO[i]? =σ[i]?)∧Rel pf σO ⟨ρ,n,H',m,.mk H.length::df⟩ { a with defers:=[{ target:=.collected w.heap.size,args:= #[]}]++a.defers } (w2.putObj l o):=fun st pend pO σO H' o hul hM=>by
  have hsh4:Shape w2 (w2.putObj l o):=Shape.putLoop hM.lrec o
  have oth4: ∀b,b≠l→(w2.putObj l o).heap[b]? =w2.heap[b]? :=fun b hb=>World.putObj_heap_other hb
  have sz4:(w2.putObj l o).heap.size=w2.heap.size:=by simp
  generalize w2.putObj l o=w4 at *
  have p1f: ∀b,p1.f b→ ¬p.u b:=fun b hb hu=>(hex.backf b hb).elim (fun h=>(hL b h).1 hu) fun h=>h (.inl hu)
  have hlr: ¬pO.r l:=fun h=>(hM.back l h).elim (fun h=>by have:=hH.lt l (p.sub l h);omega) fun h=>hul (p1.fu l h)
  have lv: ∀(i r:Nat) (k:Blk),H'[i]? =some (some k)→σO[i]? =some r→ ¬pO.u r:=fun i r k hk hr=>by
   obtain ⟨r',z1,z2,_⟩:=hM.heap.blk i k hk
   rw[hr] at z1
   injection z1 with z1
   subst z1
   exact z2
  let pf:PQ:=⟨pO.r,fun b=>p.u b∨pO.r b,p.f,fun _ h=>.inr h,fun b h=>.inl (p.fu b h),fun b h hr=>(hM.back b hr).elim (p.fr b h) fun h1=>p1f b h1 (p.fu b h)⟩
  have σfin: ∀(i r:Nat),σb[i]? =some r→σO[i]? =some r:=fun i r hi=>by
   rw[hM.nam i (by rw[← hM.bl];exact(List.getElem?_eq_some_iff.1 hi).1)]
   exact hi
  have rsame: ∀b,pO.r b→w4.heap[b]? =w2.heap[b]? :=fun b hb=>oth4 b fun e=>hlr (e▸hb)
  refine⟨hM.len,hM.noY,pf,⟨fun b hb=>hM.subr b hb,fun b hb=>.inl hb,fun b hb=>(hM.back b hb).imp id (p1f b),fun _ h=>h,fun _ h=>.inl h,fun b hb hf=>?_,(exA.shape.trans hex.shape).trans hsh4⟩,fun i hi=>?_,⟨hsz,?_,fun u=>?_,?_,?_⟩⟩
  ·have hbw:=hH.lt b hb
   exact(oth4 b (by omega)).trans ((hex.same b (.inl hb) fun h=>(hL b h).1 hb).trans (old b hbw))
  ·have hi':i<H.length:=Nat.lt_of_lt_of_le hi hR.m
   rw[hM.nam i (by omega),List.getElem?_append_left (by rw[hσl];exact hi')]
  ·refine⟨⟨w.heap.size,σfin _ _ ?_,rfl⟩,DRel.mono (fun i r h=>σfin i r (σleft i r h)) _ _ hR.df⟩
   rw[← hσl]
   simp[σb]
  ·exact(hM.env u).mono' (p:=pO) (p':=pf) (fun _ h=>h) rsame hsh4 σfin
  ·refine hM.heap.same hM.noY (fun _ h=>h) rsame hsh4 (fun b hb=>?_) fun i k r hk hr=>⟨fun h=>h.elim (p1f r (hM.live i r k hk hr)) fun h=>lv i r k hk hr (pO.sub r h),oth4 r fun e=>hul (p1.fu l (e▸hM.live i r k hk hr))⟩
   rw[sz4]
   exact hb.elim (fun h=>by have:=hH.lt b h;have:=(exA.shape.trans hex.shape).1;omega) fun h=>hM.heap.lt b (pO.sub b h)
  ·exact Nat.le_trans hR.m (Nat.le_trans (Nat.le_succ _) hM.len)
 rcases hq with hq|hq
 ·obtain ⟨hul,hb⟩:=hul1 _ hq
  obtain ⟨_,pO,σO,H',hJ,hM⟩:=hb
  obtain ⟨f1,f2,pf,f3,f4,f5⟩:=fin _ _ pO σO H' (.loop { recOf fn a.tmps #[t] body w.heap.size .ready none with state:=.exhausted }) hul hM
  refine⟨none,_,run_endLoop hM.lrec (by simp[recOf]),?_⟩
  exact⟨.normal,pf,σO,_,rfl,f3,f4,f5,rfl,rfl,hend H' hJ f1 f2⟩
 ·obtain ⟨hul,hb⟩:=hul1 _ hq
  obtain ⟨_,pO,σO,H',e,c,hJ,hc,hM⟩:=hb
  obtain ⟨f1,f2,pf,f3,f4,f5⟩:=fin _ _ pO σO H' (.loop { recOf fn a.tmps #[t] body w.heap.size .done (some c) with state:=.exhausted }) hul hM
  refine⟨some c,_,run_endLoop hM.lrec (by simp[recOf]),?_⟩
  have post:Post p w σ ⟨ρ,n,H,m,df⟩ Q (exR e) { a with defers:=[{ target:=.collected w.heap.size,args:= #[]}]++a.defers } (w2.putObj l (.loop { recOf fn a.tmps #[t] body w.heap.size .done (some c) with state:=.exhausted })):=
   ⟨e,pf,σO,_,rfl,f3,f4,f5,rfl,rfl,hZ e H' c hc hJ f1 f2⟩
  cases e with
  |normal=>exact hc.elim
  |exit i=>obtain rfl:=hc;exact wpIn_exit post
  |goto i=>obtain rfl:=hc;exact wpIn_goto post
  |ret=>obtain rfl:=hc;exact wpIn_ret post
end
end Go.Eng
namespace Go.Eng
open Go Go.Proofs
abbrev tF:Option TI:=some ⟨.func,1,8,[.d .nfn],false,false⟩
abbrev tP (n:Nat):Option TI:=some ⟨(.ptr n),1,8,[.d .nptr],false,false⟩
abbrev tS (n:Nat):Option TI:=some ⟨(.slice n),1,24,[.nsl],false,false⟩
def ttL:List (Option TI):=[
 none,
 tF,
 some ⟨(.int .i64),1,8,[.d (.int .i64 0)],false,false⟩,
 some ⟨(.int .i64),1,8,[.d (.int .i64 0)],false,false⟩,
 some ⟨.bool,1,1,[.d (.bool false)],false,false⟩,
 some ⟨(.int .u8),1,1,[.d (.int .u8 0)],false,false⟩,
 some ⟨(.int .u8),1,1,[.d (.int .u8 0)],false,false⟩,
 some ⟨(.struct [(2,0),(3,1),(4,2),(6,3)]),4,24,[.d (.int .i64 0),.d (.int .i64 0),.d (.bool false),.d (.int .u8 0)],false,false⟩,
 some ⟨(.struct [(2,0),(3,1),(4,2),(6,3)]),4,24,[.d (.int .i64 0),.d (.int .i64 0),.d (.bool false),.d (.int .u8 0)],false,false⟩,
 some ⟨.str,1,16,[.d (.str ⟨#[]⟩)],false,false⟩,
 some ⟨.str,1,16,[.d (.str ⟨#[]⟩)],false,false⟩,
 some ⟨.str,1,16,[.d (.str ⟨#[]⟩)],false,false⟩,
 some ⟨(.int .u64),1,8,[.d (.int .u64 0)],false,false⟩,
 some ⟨(.struct [(9,0),(12,1)]),2,24,[.d (.str ⟨#[]⟩),.d (.int .u64 0)],false,false⟩,
 some ⟨(.struct [(9,0),(12,1)]),2,24,[.d (.str ⟨#[]⟩),.d (.int .u64 0)],false,false⟩,
 tP 477,
 tP 480,
 tP 487,
 some ⟨(.struct [(17,0)]),1,8,[.d .nptr],false,false⟩,
 some ⟨(.struct [(17,0)]),1,8,[.d .nptr],false,false⟩,
 none,
 some ⟨(.int .i32),1,4,[.d (.int .i32 0)],false,false⟩,
 tS 69,
 some ⟨(.struct [(3,0),(3,1),(3,2),(3,3),(4,4),(22,5)]),6,64,[.d (.int .i64 0),.d (.int .i64 0),.d (.int .i64 0),.d (.int .i64 0),.d (.bool false),.nsl],false,false⟩,
 some ⟨(.struct [(3,0),(3,1),(3,2),(3,3),(4,4),(22,5)]),6,64,[.d (.int .i64 0),.d (.int .i64 0),.d (.int .i64 0),.d (.int .i64 0),.d (.bool false),.nsl],false,false⟩,
 tF,
 tF,
 tS 70,
 some ⟨(.struct [(3,0),(3,1),(3,2),(3,3),(4,4),(27,5)]),6,64,[.d (.int .i64 0),.d (.int .i64 0),.d (.int .i64 0),.d (.int .i64 0),.d (.bool false),.nsl],false,false⟩,
 some ⟨(.struct [(3,0),(3,1),(3,2),(3,3),(4,4),(27,5)]),6,64,[.d (.int .i64 0),.d (.int .i64 0),.d (.int .i64 0),.d (.int .i64 0),.d (.bool false),.nsl],false,false⟩,
 some ⟨(.int .i64),1,8,[.d (.int .i64 0)],false,false⟩,
 none,
 tF,
 none,
 tF,
 tF,
 tF,
 tF,
 tF,
 tF,
 tF,
 tS 29,
 none,
 tF,
 tS 24,
 none,
 tF,
 tF,
 tF,
 tF,
 none,
 tF,
 some ⟨(.struct [(3,0),(3,1),(3,2)]),3,24,[.d (.int .i64 0),.d (.int .i64 0),.d (.int .i64 0)],false,false⟩,
 some ⟨(.struct [(3,0),(3,1),(3,2)]),3,24,[.d (.int .i64 0),.d (.int .i64 0),.d (.int .i64 0)],true,false⟩,
 none,
 tF,
 none,
 tF,
 tS 9,
 tF,
 tS 63,
 tF,
 some ⟨(.struct [(9,0),(3,1),(4,2),(3,3)]),4,40,[.d (.str ⟨#[]⟩),.d (.int .i64 0),.d (.bool false),.d (.int .i64 0)],false,false⟩,
 some ⟨(.struct [(9,0),(3,1),(4,2),(3,3)]),4,40,[.d (.str ⟨#[]⟩),.d (.int .i64 0),.d (.bool false),.d (.int .i64 0)],true,false⟩,
 tS 3,
 none,
 tF,
 tF,
 some ⟨(.struct [(3,0),(3,1),(3,2)]),3,24,[.d (.int .i64 0),.d (.int .i64 0),.d (.int .i64 0)],false,false⟩,
 some ⟨(.struct [(3,0),(3,1),(3,2)]),3,24,[.d (.int .i64 0),.d (.int .i64 0),.d (.int .i64 0)],true,false⟩,
 some ⟨(.struct [(3,0),(3,1),(3,2)]),3,24,[.d (.int .i64 0),.d (.int .i64 0),.d (.int .i64 0)],true,false⟩,
 tF,
 tF,
 tF,
 tF,
 tF,
 tF,
 tF,
 tF,
 tS 119,
 tS 129,
 some ⟨(.struct [(79,0),(80,1)]),2,48,[.nsl,.nsl],false,false⟩,
 some ⟨(.struct [(79,0),(80,1)]),2,48,[.nsl,.nsl],false,false⟩,
 none,
 tF,
 tF,
 none,
 tF,
 none,
 tF,
 tS 96,
 tF,
 tF,
 some ⟨(.struct [(3,0),(4,1)]),2,16,[.d (.int .i64 0),.d (.bool false)],false,false⟩,
 some ⟨(.struct [(3,0),(4,1)]),2,16,[.d (.int .i64 0),.d (.bool false)],true,false⟩,
 some ⟨(.struct [(9,0),(94,1),(3,3)]),4,40,[.d (.str ⟨#[]⟩),.d (.int .i64 0),.d (.bool false),.d (.int .i64 0)],false,false⟩,
 some ⟨(.struct [(9,0),(94,1),(3,3)]),4,40,[.d (.str ⟨#[]⟩),.d (.int .i64 0),.d (.bool false),.d (.int .i64 0)],false,false⟩,
 tF,
 tS 99,
 tP 3,
 none,
 none,
 none,
 tF,
 tF,
 tF,
 none,
 tF,
 tF,
 tF,
 tF,
 tS 5,
 tF,
 tP 159,
 none,
 tF,
 tF,
 tS 171,
 some ⟨(.struct [(3,0),(30,1),(3,2),(117,3)]),4,48,[.d (.int .i64 0),.d (.int .i64 0),.d (.int .i64 0),.nsl],false,false⟩,
 some ⟨(.struct [(3,0),(30,1),(3,2),(117,3)]),4,48,[.d (.int .i64 0),.d (.int .i64 0),.d (.int .i64 0),.nsl],false,false⟩,
 tF,
 tF,
 tF,
 tF,
 tP 126,
 some ⟨(.struct [(124,0),(111,1)]),2,32,[.d .nptr,.nsl],false,false⟩,
 some ⟨(.struct [(124,0),(111,1)]),2,32,[.d .nptr,.nsl],false,true⟩,
 tF,
 some ⟨(.struct [(3,0),(3,1),(3,2),(3,3),(3,4),(3,5),(3,6),(30,7)]),8,64,[.d (.int .i64 0),.d (.int .i64 0),.d (.int .i64 0),.d (.int .i64 0),.d (.int .i64 0),.d (.int .i64 0),.d (.int .i64 0),.d (.int .i64 0)],false,false⟩,
 some ⟨(.struct [(3,0),(3,1),(3,2),(3,3),(3,4),(3,5),(3,6),(30,7)]),8,64,[.d (.int .i64 0),.d (.int .i64 0),.d (.int .i64 0),.d (.int .i64 0),.d (.int .i64 0),.d (.int .i64 0),.d (.int .i64 0),.d (.int .i64 0)],true,false⟩,
 tF,
 tF,
 none,
 tF,
 some ⟨(.arr 256 5),256,256,(List.replicate 256 (.d (.int .u8 0))),false,false⟩,
 tF,
 tF,
 tF,
 tF,
 tF,
 tF,
 none,
 tF,
 tF,
 tF,
 tS 199,
 tS 199,
 tF,
 tS 272,
 some ⟨(.struct [(146,0),(64,1),(64,2),(148,3),(64,4)]),5,120,[.nsl,.nsl,.nsl,.nsl,.nsl],false,false⟩,
 some ⟨(.struct [(146,0),(64,1),(64,2),(148,3),(64,4)]),5,120,[.nsl,.nsl,.nsl,.nsl,.nsl],false,false⟩,
 some ⟨(.map 3 3),1,8,[.d .nmap],false,false⟩,
 tS 64,
 some ⟨(.struct [(152,0),(3,1),(4,2)]),3,40,[.nsl,.d (.int .i64 0),.d (.bool false)],false,false⟩,
 some ⟨(.struct [(152,0),(3,1),(4,2)]),3,40,[.nsl,.d (.int .i64 0),.d (.bool false)],false,false⟩,
 tF,
 tS 313,
 tS 27,
 some ⟨(.struct [(53,0),(150,3),(156,8),(157,9),(3,10),(151,11),(154,12),(3,15),(3,16),(80,17)]),18,288,[.d (.int .i64 0),.d (.int .i64 0),.d (.int .i64 0),.nsl,.nsl,.nsl,.nsl,.nsl,.nsl,.nsl,.d (.int .i64 0),.d .nmap,.nsl,.d (.int .i64 0),.d (.bool false),.d (.int .i64 0),.d (.int .i64 0),.nsl],false,false⟩,
 some ⟨(.struct [(53,0),(150,3),(156,8),(157,9),(3,10),(151,11),(154,12),(3,15),(3,16),(80,17)]),18,288,[.d (.int .i64 0),.d (.int .i64 0),.d (.int .i64 0),.nsl,.nsl,.nsl,.nsl,.nsl,.nsl,.nsl,.d (.int .i64 0),.d .nmap,.nsl,.d (.int .i64 0),.d (.bool false),.d (.int .i64 0),.d (.int .i64 0),.nsl],false,false⟩,
 tF,
 none,
 tF,
 tF,
 tF,
 tF,
 tF,
 tF,
 tF,
 tF,
 some ⟨(.struct [(3,0),(3,1)]),2,16,[.d (.int .i64 0),.d (.int .i64 0)],false,false⟩,
 some ⟨(.struct [(3,0),(3,1)]),2,16,[.d (.int .i64 0),.d (.int .i64 0)],true,false⟩,
 tF,
 tP 5,
 tF,
 some ⟨(.struct [(9,0),(3,1)]),2,24,[.d (.str ⟨#[]⟩),.d (.int .i64 0)],false,false⟩,
 some ⟨(.struct [(9,0),(3,1)]),2,24,[.d (.str ⟨#[]⟩),.d (.int .i64 0)],true,false⟩,
 some ⟨(.arr 15 176),30,360,[.d (.str ⟨#[]⟩),.d (.int .i64 0),.d (.str ⟨#[]⟩),.d (.int .i64 0),.d (.str ⟨#[]⟩),.d (.int .i64 0),.d (.str ⟨#[]⟩),.d (.int .i64 0),.d (.str ⟨#[]⟩),.d (.int .i64 0),.d (.str ⟨#[]⟩),.d (.int .i64 0),.d (.str ⟨#[]⟩),.d (.int .i64 0),.d (.str ⟨#[]⟩),.d (.int .i64 0),.d (.str ⟨#[]⟩),.d (.int .i64 0),.d (.str ⟨#[]⟩),.d (.int .i64 0),.d (.str ⟨#[]⟩),.d (.int .i64 0),.d (.str ⟨#[]⟩),.d (.int .i64 0),.d (.str ⟨#[]⟩),.d (.int .i64 0),.d (.str ⟨#[]⟩),.d (.int .i64 0),.d (.str ⟨#[]⟩),.d (.int .i64 0)],false,false⟩,
 tF,
 tF,
 tS 176,
 tF,
 some ⟨(.arr 2 99),2,16,[.d .nptr,.d .nptr],false,false⟩,
 tS 185,
 some ⟨(.struct [(3,0),(3,1)]),2,16,[.d (.int .i64 0),.d (.int .i64 0)],false,false⟩,
 some ⟨(.struct [(3,0),(3,1)]),2,16,[.d (.int .i64 0),.d (.int .i64 0)],false,false⟩,
 some ⟨(.int .u32),1,4,[.d (.int .u32 0)],false,false⟩,
 tF,
 tP 223,
 some ⟨(.int .i64),1,8,[.d (.int .i64 0)],false,false⟩,
 none,
 tF,
 tP 236,
 tF,
 tF,
 tF,
 tF,
 tS 263,
 some ⟨(.struct [(3,0),(3,1),(3,2),(64,3),(3,4),(3,5),(197,6)]),7,88,[.d (.int .i64 0),.d (.int .i64 0),.d (.int .i64 0),.nsl,.d (.int .i64 0),.d (.int .i64 0),.nsl],false,false⟩,
 some ⟨(.struct [(3,0),(3,1),(3,2),(64,3),(3,4),(3,5),(197,6)]),7,88,[.d (.int .i64 0),.d (.int .i64 0),.d (.int .i64 0),.nsl,.d (.int .i64 0),.d (.int .i64 0),.nsl],false,false⟩,
 tF,
 tF,
 none,
 some ⟨(.map 3 201),1,8,[.d .nmap],false,false⟩,
 tF,
 tF,
 tF,
 tF,
 tF,
 tF,
 tF,
 none,
 tF,
 some ⟨(.arr 9 9),9,144,[.d (.str ⟨#[]⟩),.d (.str ⟨#[]⟩),.d (.str ⟨#[]⟩),.d (.str ⟨#[]⟩),.d (.str ⟨#[]⟩),.d (.str ⟨#[]⟩),.d (.str ⟨#[]⟩),.d (.str ⟨#[]⟩),.d (.str ⟨#[]⟩)],true,false⟩,
 tF,
 tF,
 some ⟨(.int .u64),1,8,[.d (.int .u64 0)],false,false⟩,
 tF,
 tF,
 some ⟨(.arr 2 3),2,16,[.d (.int .i64 0),.d (.int .i64 0)],true,false⟩,
 tS 226,
 tS 229,
 some ⟨(.struct [(220,0),(221,1),(3,2)]),3,56,[.nsl,.nsl,.d (.int .i64 0)],false,false⟩,
 some ⟨(.struct [(220,0),(221,1),(3,2)]),3,56,[.nsl,.nsl,.d (.int .i64 0)],false,false⟩,
 some ⟨(.int .u16),1,2,[.d (.int .u16 0)],false,false⟩,
 some ⟨(.struct [(224,0),(224,1),(224,2)]),3,6,[.d (.int .u16 0),.d (.int .u16 0),.d (.int .u16 0)],false,false⟩,
 some ⟨(.struct [(224,0),(224,1),(224,2)]),3,6,[.d (.int .u16 0),.d (.int .u16 0),.d (.int .u16 0)],false,false⟩,
 tF,
 some ⟨(.struct [(186,0),(186,1),(186,2)]),3,12,[.d (.int .u32 0),.d (.int .u32 0),.d (.int .u32 0)],false,false⟩,
 some ⟨(.struct [(186,0),(186,1),(186,2)]),3,12,[.d (.int .u32 0),.d (.int .u32 0),.d (.int .u32 0)],false,false⟩,
 tF,
 some ⟨(.int .u64),1,8,[.d (.int .u64 0)],false,false⟩,
 none,
 tF,
 tF,
 none,
 none,
 tF,
 tF,
 tF,
 some ⟨(.arr 24 5),24,24,(List.replicate 24 (.d (.int .u8 0))),true,false⟩,
 tF,
 tF,
 none,
 tF,
 tF,
 some ⟨(.struct [(5,0),(5,1)]),2,2,[.d (.int .u8 0),.d (.int .u8 0)],false,false⟩,
 some ⟨(.struct [(5,0),(5,1)]),2,2,[.d (.int .u8 0),.d (.int .u8 0)],false,false⟩,
 some ⟨(.arr 16 247),32,32,(List.replicate 32 (.d (.int .u8 0))),false,false⟩,
 tF,
 none,
 tF,
 tF,
 tF,
 tF,
 none,
 tF,
 some ⟨(.struct [(3,0),(3,1),(3,2)]),3,24,[.d (.int .i64 0),.d (.int .i64 0),.d (.int .i64 0)],false,false⟩,
 some ⟨(.struct [(3,0),(3,1),(3,2)]),3,24,[.d (.int .i64 0),.d (.int .i64 0),.d (.int .i64 0)],true,false⟩,
 tF,
 tF,
 tF,
 some ⟨(.struct [(3,0),(3,1)]),2,16,[.d (.int .i64 0),.d (.int .i64 0)],false,false⟩,
 some ⟨(.struct [(3,0),(3,1)]),2,16,[.d (.int .i64 0),.d (.int .i64 0)],true,false⟩,
 tF,
 tF,
 tF,
 tF,
 tF,
 tF,
 tF,
 some ⟨(.struct [(3,0),(3,1)]),2,16,[.d (.int .i64 0),.d (.int .i64 0)],false,false⟩,
 some ⟨(.struct [(3,0),(3,1)]),2,16,[.d (.int .i64 0),.d (.int .i64 0)],true,false⟩,
 tF,
 tF,
 tF,
 tF,
 tF,
 tF,
 tF,
 none,
 tF,
 tF,
 tP 226,
 tP 229,
 tF,
 tP 288,
 some ⟨(.struct [(9,0)]),1,16,[.d (.str ⟨#[]⟩)],false,false⟩,
 some ⟨(.struct [(9,0)]),1,16,[.d (.str ⟨#[]⟩)],false,false⟩,
 tF,
 some ⟨(.arr 20 231),20,160,[.d (.int .u64 0),.d (.int .u64 0),.d (.int .u64 0),.d (.int .u64 0),.d (.int .u64 0),.d (.int .u64 0),.d (.int .u64 0),.d (.int .u64 0),.d (.int .u64 0),.d (.int .u64 0),.d (.int .u64 0),.d (.int .u64 0),.d (.int .u64 0),.d (.int .u64 0),.d (.int .u64 0),.d (.int .u64 0),.d (.int .u64 0),.d (.int .u64 0),.d (.int .u64 0),.d (.int .u64 0)],true,false⟩,
 some ⟨(.arr 65 5),65,65,(List.replicate 65 (.d (.int .u8 0))),false,false⟩,
 tF,
 tF,
 tF,
 none,
 tF,
 tF,
 tF,
 tF,
 tF,
 tF,
 tF,
 tF,
 tP 199,
 tF,
 tF,
 tF,
 tF,
 tF,
 tF,
 none,
 some ⟨(.struct [(3,0),(3,1),(4,2),(4,3),(3,4)]),5,32,[.d (.int .i64 0),.d (.int .i64 0),.d (.bool false),.d (.bool false),.d (.int .i64 0)],false,false⟩,
 some ⟨(.struct [(3,0),(3,1),(4,2),(4,3),(3,4)]),5,32,[.d (.int .i64 0),.d (.int .i64 0),.d (.bool false),.d (.bool false),.d (.int .i64 0)],true,false⟩,
 tF,
 tF,
 tF,
 tF,
 tF,
 tS 322,
 tF,
 some ⟨(.struct [(3,0),(3,1),(3,2),(4,3),(4,4),(4,5)]),6,32,[.d (.int .i64 0),.d (.int .i64 0),.d (.int .i64 0),.d (.bool false),.d (.bool false),.d (.bool false)],false,false⟩,
 some ⟨(.struct [(3,0),(3,1),(3,2),(4,3),(4,4),(4,5)]),6,32,[.d (.int .i64 0),.d (.int .i64 0),.d (.int .i64 0),.d (.bool false),.d (.bool false),.d (.bool false)],true,false⟩,
 tF,
 tF,
 tF,
 tF,
 none,
 tF,
 tF,
 tF,
 tF,
 tF,
 tF,
 tF,
 none,
 tF,
 tF,
 tF,
 tF,
 tF,
 tF,
 none,
 tF,
 none,
 tF,
 tF,
 tF,
 tF,
 tF,
 tF,
 tF,
 tF,
 tF,
 tF,
 tF,
 tF,
 tF,
 tF,
 tF,
 some ⟨(.struct [(150,0),(151,5)]),6,128,[.nsl,.nsl,.nsl,.nsl,.nsl,.d .nmap],false,false⟩,
 some ⟨(.struct [(150,0),(151,5)]),6,128,[.nsl,.nsl,.nsl,.nsl,.nsl,.d .nmap],false,false⟩,
 tF,
 tF,
 tF,
 tF,
 tP 413,
 tF,
 some ⟨(.struct [(3,0),(3,1),(3,2)]),3,24,[.d (.int .i64 0),.d (.int .i64 0),.d (.int .i64 0)],false,false⟩,
 some ⟨(.struct [(3,0),(3,1),(3,2)]),3,24,[.d (.int .i64 0),.d (.int .i64 0),.d (.int .i64 0)],true,false⟩,
 some ⟨(.struct [(369,0),(3,3),(4,4)]),5,40,[.d (.int .i64 0),.d (.int .i64 0),.d (.int .i64 0),.d (.int .i64 0),.d (.bool false)],false,false⟩,
 some ⟨(.struct [(369,0),(3,3),(4,4)]),5,40,[.d (.int .i64 0),.d (.int .i64 0),.d (.int .i64 0),.d (.int .i64 0),.d (.bool false)],false,false⟩,
 some ⟨(.struct [(313,0),(371,5)]),10,72,[.d (.int .i64 0),.d (.int .i64 0),.d (.bool false),.d (.bool false),.d (.int .i64 0),.d (.int .i64 0),.d (.int .i64 0),.d (.int .i64 0),.d (.int .i64 0),.d (.bool false)],false,false⟩,
 some ⟨(.struct [(313,0),(371,5)]),10,72,[.d (.int .i64 0),.d (.int .i64 0),.d (.bool false),.d (.bool false),.d (.int .i64 0),.d (.int .i64 0),.d (.int .i64 0),.d (.int .i64 0),.d (.int .i64 0),.d (.bool false)],false,false⟩,
 none,
 tF,
 tF,
 some ⟨(.struct [(4,0),(4,1),(4,2)]),3,3,[.d (.bool false),.d (.bool false),.d (.bool false)],false,false⟩,
 some ⟨(.struct [(4,0),(4,1),(4,2)]),3,3,[.d (.bool false),.d (.bool false),.d (.bool false)],true,false⟩,
 tF,
 tF,
 tF,
 tF,
 tF,
 tF,
 tF,
 tF,
 tF,
 some ⟨(.struct [(150,0),(3,5)]),6,128,[.nsl,.nsl,.nsl,.nsl,.nsl,.d (.int .i64 0)],false,false⟩,
 some ⟨(.struct [(150,0),(3,5)]),6,128,[.nsl,.nsl,.nsl,.nsl,.nsl,.d (.int .i64 0)],false,false⟩,
 none,
 tF,
 tF,
 tF,
 tF,
 tF,
 tF,
 tF,
 tF,
 some ⟨(.arr 32 5),32,32,(List.replicate 32 (.d (.int .u8 0))),true,false⟩,
 some ⟨(.arr 64 5),64,64,(List.replicate 64 (.d (.int .u8 0))),true,false⟩,
 tF,
 tF,
 some ⟨(.int .i64),1,8,[.d (.int .i64 0)],false,false⟩,
 none,
 tF,
 tF,
 tF,
 tF,
 some ⟨(.arr 2 322),12,64,[.d (.int .i64 0),.d (.int .i64 0),.d (.int .i64 0),.d (.bool false),.d (.bool false),.d (.bool false),.d (.int .i64 0),.d (.int .i64 0),.d (.int .i64 0),.d (.bool false),.d (.bool false),.d (.bool false)],false,false⟩,
 tS 371,
 tF,
 some ⟨(.struct [(322,0),(410,6),(371,7),(156,12),(4,13),(4,14)]),15,128,[.d (.int .i64 0),.d (.int .i64 0),.d (.int .i64 0),.d (.bool false),.d (.bool false),.d (.bool false),.nsl,.d (.int .i64 0),.d (.int .i64 0),.d (.int .i64 0),.d (.int .i64 0),.d (.bool false),.nsl,.d (.bool false),.d (.bool false)],false,false⟩,
 some ⟨(.struct [(322,0),(410,6),(371,7),(156,12),(4,13),(4,14)]),15,128,[.d (.int .i64 0),.d (.int .i64 0),.d (.int .i64 0),.d (.bool false),.d (.bool false),.d (.bool false),.nsl,.d (.int .i64 0),.d (.int .i64 0),.d (.int .i64 0),.d (.int .i64 0),.d (.bool false),.nsl,.d (.bool false),.d (.bool false)],false,false⟩,
 tF,
 tF,
 tF,
 tF,
 tF,
 tF,
 tF,
 tS 26,
 tF,
 tF,
 tF,
 tF,
 tF,
 some ⟨(.int .u64),1,8,[.d (.int .u64 0)],false,false⟩,
 tF,
 tF,
 tF,
 tF,
 tS 369,
 tF,
 tF,
 tF,
 tF,
 tF,
 tF,
 some ⟨(.map 3 260),1,8,[.d .nmap],false,false⟩,
 none,
 tF,
 tF,
 tF,
 tF,
 tP 427,
 none,
 tF,
 tF,
 tF,
 tF,
 tF,
 tF,
 tF,
 tF,
 none,
 tF,
 tF,
 tF,
 tF,
 tF,
 tF,
 tF,
 tF,
 tS 466,
 some ⟨(.struct [(331,0)]),1,8,[.d .nfn],false,false⟩,
 some ⟨(.struct [(331,0)]),1,8,[.d .nfn],false,false⟩,
 tF,
 tF,
 tF,
 tF,
 tF,
 tF,
 tF,
 tF,
 tF,
 some ⟨(.struct [(17,0),(17,1),(17,2),(9,3)]),4,40,[.d .nptr,.d .nptr,.d .nptr,.d (.str ⟨#[]⟩)],false,false⟩,
 some ⟨(.struct [(17,0),(17,1),(17,2),(9,3)]),4,40,[.d .nptr,.d .nptr,.d .nptr,.d (.str ⟨#[]⟩)],false,false⟩,
 some ⟨(.arr 0 16),0,0,[],false,false⟩,
 none,
 none,
 some ⟨(.int .u8),1,1,[.d (.int .u8 0)],false,false⟩,
 some ⟨(.int .u8),1,1,[.d (.int .u8 0)],false,false⟩,
 tF,
 some ⟨(.int .i32),1,4,[.d (.int .i32 0)],false,false⟩,
 some ⟨(.int .i32),1,4,[.d (.int .i32 0)],false,false⟩,
 some ⟨(.struct [(12,0),(12,1),(186,2),(481,3),(5,4),(5,5),(482,6),(483,7),(173,8),(484,9),(485,10)]),11,48,[.d (.int .u64 0),.d (.int .u64 0),.d (.int .u32 0),.d (.int .u8 0),.d (.int .u8 0),.d (.int .u8 0),.d (.int .u8 0),.d .nfn,.d .nptr,.d (.int .i32 0),.d (.int .i32 0)],false,false⟩,
 some ⟨(.struct [(12,0),(12,1),(186,2),(481,3),(5,4),(5,5),(482,6),(483,7),(173,8),(484,9),(485,10)]),11,48,[.d (.int .u64 0),.d (.int .u64 0),.d (.int .u32 0),.d (.int .u8 0),.d (.int .u8 0),.d (.int .u8 0),.d (.int .u8 0),.d .nfn,.d .nptr,.d (.int .i32 0),.d (.int .i32 0)],false,false⟩]
def tt:TT:=fun t=>(ttL[t]?).getD none
theorem tt_all:(ttL.zipIdx.all fun x=>match x.1 with|some i=>agreeB Tryz.prog x.2 i|none=>true)=true:=by kernel_rfl
theorem tt_ok:TTok Tryz.prog tt:=by
 intro t i h
 unfold tt at h
 cases ht:ttL[t]? with
 |none=>rw[ht] at h;simp at h
 |some x=>
  rw[ht] at h
  simp only[Option.getD_some] at h
  subst h
  exact List.all_eq_true.1 tt_all (some i,t) (List.mem_iff_getElem?.2 ⟨t,by simp[List.getElem?_zipIdx,ht]⟩)
theorem mixed:Tryz.prog.follows .mixedOrders=true:=by kernel_rfl
end Go.Eng
namespace Go.Eng
open Go
abbrev D.i (n:Int):D:=.int .i64 n
abbrev AV.i (n:Int):AV:=.d (.int .i64 n)
abbrev AV.b (b:Bool):AV:=.d (.bool b)
structure Attr where
 name:Int
 value:Int
 deriving DecidableEq,Repr
structure Node where
 kind:Int
 tag:Int
 parent:Int
 kids:List Int
 host:Int
 root:Int
 attrs:List Attr
 deriving DecidableEq,Repr
def Attr.cs (a:Attr):List D:=[.i a.name,.i a.value]
def intCs (n:Int):List D:=[.i n]
def ints (l:List Int):D:=.sl (l.map intCs)
def attrsD (l:List Attr):D:=.sl (l.map Attr.cs)
def Node.cs (x:Node):List D:=[.i x.kind,.i x.tag,.i x.parent,ints x.kids,.i x.host,.i x.root,attrsD x.attrs]
def treeD (t:List Node):D:=.sl (t.map Node.cs)
def aggD (l:List D):AV:=.agg (l.map .d)
end Go.Eng
namespace Go.Eng
instance:Inhabited Attr:=⟨⟨0,0⟩⟩
instance:Inhabited Node:=⟨⟨0,0,0,[],0,0,[]⟩⟩
abbrev Tree:=List Node
def inB (n l m:Int):Bool:=decide (l≤n∧n≤m)
@[irreducible] def isN (t:Tree) (n:Int):Bool:=decide (0≤n∧n<t.length)
def nd (t:Tree) (n:Int):Node:=t.getD n.toNat default
theorem nd_row {t:Tree} {n:Int} (h:isN t n=true):(t.map Node.cs)[n.toNat]? =some (nd t n).cs:=by
 unfold isN at h
 have:=of_decide_eq_true h
 have hl:n.toNat<t.length:=by omega
 simp[nd,hl]
theorem nd_pos {t:Tree} {n:Int} (h:isN t n=true):0≤n:=by
 unfold isN at h;have:=of_decide_eq_true h;omega
theorem Idx_nd {t:Tree} {n:Int} {sz:Nat} {K:List D→Prop} (h:isN t n=true) (hs:(nd t n).cs.length=sz) (hK:K (nd t n).cs):IdxK (t.map Node.cs) n sz K:=
 Idx_in _ (nd_row h) (nd_pos h) hs hK
theorem isN_nat {t:Tree} {k:Nat} (h:k<t.length):isN t (k:Int)=true:=by simp[isN,h]
theorem beqT {x y:Int} (h:x=y):(x==y)=true:=by simp[h]
theorem beqF {x y:Int} (h:x≠y):(x==y)=false:=by simp[h]
theorem bneT {x y:Int} (h:x≠y):(x != y)=true:=by simp[h]
theorem bneF {x y:Int} (h:x=y):(x != y)=false:=by simp[h]
theorem not_any_not {α:Type} (l:List α) (p:α→Bool):(!l.any fun k=> !p k)=l.all p:=by
 induction l with
 |nil=>rfl
 |cons a r ih=>simp only[List.any_cons,List.all_cons,Bool.not_or,Bool.not_not,ih]
def ix {α:Type} (p:α→Bool):List α→Int
 |[]=> -1
 |a::r=>if p a then 0 else (let i:=ix p r;if i<0 then -1 else i+1)
theorem ix_lo {α:Type} (p:α→Bool) (l:List α): -1≤ix p l∧ix p l<l.length:=by
 induction l with
 |nil=>simp[ix]
 |cons a r ih=>simp only[ix,List.length_cons];split <;> (try split) <;> omega
theorem ix_any {α:Type} (p:α→Bool) (l:List α):decide (0≤ix p l)=l.any p:=by
 induction l with
 |nil=>rfl
 |cons a r ih=>
  have:=ix_lo p r
  rw[Bool.eq_iff_iff] at ih⊢
  simp only[decide_eq_true_eq,ix,List.any_cons,Bool.or_eq_true] at ih⊢
  split
  ·simp_all
  ·rename_i h;simp only[h];rw[← ih];split <;> simp <;> omega
theorem ix_drop {α:Type} (p:α→Bool) (l:List α): ∀k,(∀ j (h:j<l.length),j<k→p l[j]=false)→k≤l.length→ix p l=(if ix p (l.drop k)<0 then -1 else ix p (l.drop k)+k):=by
 induction l with
 |nil=>intro k _ hk;simp at hk;subst hk;simp[ix]
 |cons a r ih=>
  intro k h hk
  cases k with
  |zero=>have:=ix_lo p (a::r);simp only[List.drop_zero];split <;> omega
  |succ k=>
   have h0:p a=false:=h 0 (by simp) (by omega)
   have:=ih k (fun j hj hjk=>by have:=h (j+1) (by simp;omega) (by omega);simpa using this) (by simpa using hk)
   simp only[List.drop_succ_cons]
   simp only[ix,h0,Bool.false_eq_true,if_false]
   rw[this]
   split <;> (try split) <;> (try omega)
theorem ix_count (l:List Int) (n:Int):(decide (0≤ix (· ==n) l)&& !((l.drop (ix (· ==n) l+1).toNat).any (· ==n)))=(l.count n==1):=by
 induction l with
 |nil=>rfl
 |cons a r ih=>
  have hl:=ix_lo (· ==n) r
  simp only[ix]
  by_cases h:a==n
  ·simp only[h,if_true]
   have e:a=n:=by simpa using h
   subst e
   rw[List.count_cons_self]
   rw[Bool.eq_iff_iff]
   simp
   rw[List.count_eq_zero]
   constructor
   ·intro h1 h2;exact h1 a h2 rfl
   ·intro h1 x hx e;subst e;exact h1 hx
  ·simp only[h]
   have e:(a==n)=false:=by simpa using h
   rw[List.count_cons,e]
   simp only[Bool.false_eq_true,if_false,Nat.add_zero]
   rw[← ih]
   split
   ·have:ix (· ==n) r= -1:=by omega
    rw[this];simp
   ·rename_i h2
    have:(ix (· ==n) r+1+1).toNat=(ix (· ==n) r+1).toNat+1:=by omega
    rw[this,List.drop_succ_cons]
    have h3:(0:Int)≤ix (· ==n) r+1:=by omega
    have h4:(0:Int)≤ix (· ==n) r:=by omega
    simp[h3,h4]
@[irreducible] def onceB (l:List Int) (n:Int):Bool:=l.count n==1
@[irreducible] def valueB (name v:Int):Bool:=
 if name=0 then decide (-2147483648≤v∧v≤2147483647)
 else if name=4 then decide (0≤v∧v≤2147483647)
 else if name=6 then decide (1≤v∧v≤3)
 else if name=9 then decide (0≤v∧v≤63)
 else decide (v=0)
def ofSh (name:Int):Bool:=decide (name=7∨name=8)
def attrsFrom (sh:Bool):Int→List Attr→Bool
 |_,[]=>true
 |last,a::r=>decide (last<a.name)&&decide (a.name<10)&&valueB a.name a.value&&(ofSh a.name==sh)&&attrsFrom sh a.name r
@[irreducible] def attrsB (x:Node):Bool:=attrsFrom (decide (x.kind=3)) (-1) x.attrs&&(decide (x.attrs=[])||decide (x.kind=1)||decide (x.kind=3))
@[irreducible] def belowB (t:Tree) (n k:Int):Bool:=isN t k&&onceB (nd t n).kids k&&decide ((nd t k).parent=n)&&(decide ((nd t k).kind=1)||decide ((nd t k).kind=2))
@[irreducible] def shadowB (t:Tree) (n:Int):Bool:=
 let x:=nd t n
 if x.kind=3 then decide (x.root= -1)&&decide (x.parent= -1)&&isN t x.host&&decide ((nd t x.host).kind=1)&&decide ((nd t x.host).root=n)
 else if x.host≠ -1 then false
 else if x.root= -1 then true
 else decide (x.kind=1)&&isN t x.root&&decide ((nd t x.root).kind=3)&&decide ((nd t x.root).host=n)
@[irreducible] def kindB (x:Node) (n:Int):Bool:=decide (0≤x.kind∧x.kind≤3)&&(decide (x.kind=0)==decide (n=0))&&(if x.kind=1 then decide (0≤x.tag∧x.tag≤4) else decide (x.tag=0))
@[irreducible] def parB (t:Tree) (x:Node) (n:Int):Bool:=decide (x.parent= -1)||(isN t x.parent&&onceB (nd t x.parent).kids n)
@[irreducible] def nodeB (t:Tree) (n:Int):Bool:=
 kindB (nd t n) n&& !(decide ((nd t n).kind=2)&& !decide ((nd t n).kids=[]))&&parB t (nd t n) n&&attrsB (nd t n)&&shadowB t n&&(nd t n).kids.all (belowB t n)
def upN (x:Node):Int:=if x.kind=3 then x.host else x.parent
def endsF (t:Tree):Nat→Int→Bool
 |0,_=>false
 |f+1,n=>decide (n= -1)||endsF t f (upN (nd t n))
@[irreducible] def endsB (t:Tree) (n:Int):Bool:=endsF t (t.length+1) n
@[irreducible] def mayB (t:Tree):Bool:=decide (1≤t.length∧t.length≤64)&&((List.range t.length).all fun n=>nodeB t n)&&(List.range t.length).all fun n=>endsB t n
end Go.Eng
namespace Go.Eng
abbrev hi (x:Node):Int:=if x.host>x.parent then x.host else x.parent
def climb (t:Tree):Nat→Int→List Int
 |0,_=>[]
 |f+1,n=>if n= -1 then [] else n::climb t f (hi (nd t n))
theorem climb_len (t:Tree) (f:Nat): ∀n,(climb t f n).length≤f:=by
 induction f with
 |zero=>intro n;simp[climb]
 |succ f ih=>intro n;simp only[climb];split <;> simp;have:=ih (hi (nd t n));omega
def okN (t:Tree) (n:Int):Prop:=n= -1∨isN t n=true
def Ups (t:Tree):Prop:= ∀n,isN t n=true→okN t (hi (nd t n))∧hi (nd t n)=upN (nd t n)
theorem climb_ends (t:Tree) (hu:Ups t) (f:Nat): ∀n,okN t n→decide ((climb t f n).length>f-1)=(!endsF t f n||decide (f=0)&&false)∨f=0:=by
 induction f with
 |zero=>intro n _;exact .inr rfl
 |succ f ih=>
  intro n hn
  left
  simp only[climb,endsF]
  rcases hn with h|h
  ·simp[h]
  ·have h1:n≠ -1:=by have:=nd_pos h;omega
   simp only[h1,if_false,List.length_cons]
   obtain ⟨h2,h3⟩:=hu n h
   rcases ih _ h2 with h4|h4
   ·rw[h3] at h4⊢
    have h5:=climb_len t f (upN (nd t n))
    rcases Nat.eq_zero_or_pos f with h6|h6
    ·subst h6;simp[endsF]
    ·simp at h4⊢
     rw[← h4]
     rw[Bool.eq_iff_iff];simp;omega
   ·subst h4;simp[climb,endsF]
end Go.Eng
namespace Go.Eng
def getV (l:List Attr) (name:Int):Int×Bool:=
 match l.find? (fun a=>a.name==name) with
 |some a=>(a.value,true)
 |none=>(0,false)
end Go.Eng
namespace Go.Eng
def SmallT (t:Tree):Prop:=t.length≤1000∧ ∀x∈t,x.kids.length≤1000∧x.attrs.length≤1000
theorem nd_get {t:Tree} {n:Int} (h:isN t n=true):n.toNat<t.length∧t[n.toNat]? =some (nd t n):=by
 unfold isN at h;have:=of_decide_eq_true h
 have hl:n.toNat<t.length:=by omega
 exact⟨hl,by simp[nd,hl]⟩
theorem nd_mem {t:Tree} {n:Int} (h:isN t n=true):nd t n∈t:=List.mem_of_getElem? (nd_get h).2
end Go.Eng
namespace Go.Eng
open Go
abbrev str (l:List UInt8):D:=.str ⟨l.toArray⟩
theorem str_size (l:List UInt8):(⟨l.toArray⟩:ByteArray).size=l.length:=by simp[ByteArray.size]
theorem str_of (s:ByteArray):(⟨(s.data.toList).toArray⟩:ByteArray)=s:=by cases s;simp
theorem str_extract (l:List UInt8) (a b:Nat):(⟨l.toArray⟩:ByteArray).extract a b=⟨((l.drop a).take (b-a)).toArray⟩:=by
 apply ByteArray.ext
 simp
theorem str_drop (l:List UInt8) (a:Nat):(⟨l.toArray⟩:ByteArray).extract a l.length=⟨(l.drop a).toArray⟩:=by
 rw[str_extract];congr 2;rw[List.take_of_length_le (by simp)]
end Go.Eng
namespace Go.Eng
open Go
theorem str_app (a b:List UInt8):(⟨a.toArray⟩:ByteArray)++⟨b.toArray⟩=⟨(a++b).toArray⟩:=by
 apply ByteArray.ext
 simp[ByteArray.data_append]
end Go.Eng
namespace Go.Eng
open Go
def splitL (c:UInt8):List UInt8→List (List UInt8)
 |[]=>[[]]
 |a::r=>if a=c then []::splitL c r else match splitL c r with
  |w::ws=>(a::w)::ws
  |[]=>[[a]]
theorem splitL_ne (c:UInt8) (l:List UInt8):splitL c l≠[]:=by
 cases l with
 |nil=>simp[splitL]
 |cons a r=>simp only[splitL];split <;> (try split) <;> simp
theorem splitL_miss {c:UInt8} {l:List UInt8} (h:Lib.indexByte l c= -1):splitL c l=[l]:=by
 induction l with
 |nil=>rfl
 |cons a r ih=>
  have hr:=Lib.indexByte_ge r c
  unfold Lib.indexByte at h
  split at h
  ·omega
  ·rename_i hne
   split at h
   ·rename_i h1
    have h1:Lib.indexByte r c= -1:=by simpa using h1
    have hac:a≠c:=by intro e;subst e;simp at hne
    simp only[splitL,if_neg hac,ih h1]
   ·rename_i h1
    have h1:Lib.indexByte r c≠ -1:=by simpa using h1
    omega
theorem splitL_hit {c:UInt8} {l:List UInt8} {i:Nat} (h:Lib.indexByte l c=i):i<l.length∧splitL c l=l.take i::splitL c (l.drop (i+1)):=by
 induction l generalizing i with
 |nil=>simp[Lib.indexByte] at h
 |cons a r ih=>
  have hr:=Lib.indexByte_ge r c
  unfold Lib.indexByte at h
  split at h
  ·rename_i he
   have he:a=c:=by simpa using he
   have:i=0:=by omega
   subst this
   simp[splitL,he]
  ·rename_i hne
   have hac:a≠c:=by intro e;subst e;simp at hne
   split at h
   ·omega
   ·rename_i h1
    have h1:Lib.indexByte r c≠ -1:=by simpa using h1
    obtain ⟨j,rfl⟩: ∃j,i=j+1:=⟨i-1,by omega⟩
    obtain ⟨g1,g2⟩:=ih (i:=j) (by omega)
    refine⟨by simp;omega,?_⟩
    simp only[splitL,if_neg hac,g2,List.take_succ_cons,List.drop_succ_cons]
def joinL (c:UInt8):List (List UInt8)→List UInt8
 |[]=>[]
 |[w]=>w
 |w::ws=>w++c::joinL c ws
theorem joinL_cons (c:UInt8) (w:List UInt8) {ws:List (List UInt8)} (h:ws≠[]):joinL c (w::ws)=w++c::joinL c ws:=by
 cases ws with
 |nil=>exact absurd rfl h
 |cons a r=>rfl
theorem join_joinL (c:UInt8) (ws:List (List UInt8)):Lib.join ws [c]=joinL c ws:=by
 induction ws with
 |nil=>rfl
 |cons w ws ih=>
  cases ws with
  |nil=>exact Lib.join_one w [c]
  |cons a r=>
   rw[joinL_cons c w (by simp),←ih]
   simp[Lib.join,List.intercalate,List.intersperse]
theorem join_split (c:UInt8) (l:List UInt8):joinL c (splitL c l)=l:=by
 induction l with
 |nil=>rfl
 |cons a r ih=>
  simp only[splitL]
  split
  ·rename_i e
   rw[joinL_cons c [] (splitL_ne c r),ih,e];rfl
  ·have hne:=splitL_ne c r
   split
   ·rename_i w ws hw
    rw[hw] at ih
    cases ws with
    |nil=>simp only[joinL] at ih ⊢;rw[ih]
    |cons x y=>rw[joinL_cons c _ (by simp)] at ih ⊢;rw[← ih];rfl
   ·rename_i hw;exact absurd hw hne
theorem split_plain (c:UInt8) (w:List UInt8) (h:c∉w):splitL c w=[w]:=by
 induction w with
 |nil=>rfl
 |cons a r ih=>
  simp only[List.mem_cons,not_or] at h
  simp only[splitL]
  rw[if_neg (Ne.symm h.1),ih h.2]
theorem split_app (c:UInt8) (w r:List UInt8) (h:c∉w):splitL c (w++c::r)=w::splitL c r:=by
 induction w with
 |nil=>simp[splitL]
 |cons a t ih=>
  simp only[List.mem_cons,not_or] at h
  simp only[List.cons_append,splitL]
  rw[if_neg (Ne.symm h.1),ih h.2]
theorem split_join (c:UInt8) (ws:List (List UInt8)) (hne:ws≠[]) (h: ∀w∈ws,c∉w):splitL c (joinL c ws)=ws:=by
 induction ws with
 |nil=>exact absurd rfl hne
 |cons w ws ih=>
  cases ws with
  |nil=>exact split_plain c w (h w (by simp))
  |cons a r=>
   rw[joinL_cons c w (by simp),split_app c w _ (h w (by simp)),ih (by simp) (fun x hx=>h x (by simp[hx]))]
theorem split_len (c:UInt8) (l:List UInt8):(splitL c l).length≤l.length+1:=by
 induction l with
 |nil=>simp[splitL]
 |cons a r ih=>simp only[splitL];split <;> (try split) <;> simp_all <;> omega
theorem split_mem_len (c:UInt8) (l:List UInt8): ∀w∈splitL c l,w.length≤l.length:=by
 induction l with
 |nil=>intro w h;simp[splitL] at h;subst h;simp
 |cons a r ih=>
  intro w h
  simp only[splitL] at h
  split at h
  ·rcases List.mem_cons.1 h with rfl|h
   ·simp
   ·have:=ih w h;simp;omega
  ·split at h
   ·rename_i x xs hx
    rcases List.mem_cons.1 h with rfl|h
    ·have:=ih x (by rw[hx];simp);simp;omega
    ·have:=ih w (by rw[hx];simp[h]);simp;omega
   ·simp at h;subst h;simp
theorem indexB_c (l:List UInt8) (c:UInt8):Lib.indexB ⟨l.toArray⟩ ⟨[c].toArray⟩=Lib.indexByte l c:=by
 have:Lib.indexB ⟨l.toArray⟩ ⟨[c].toArray⟩=Lib.index l [c]:=rfl
 rw[this,Lib.index_one]
theorem splitB_c (c:UInt8): ∀(k:Nat) (l:List UInt8),Lib.countB ⟨l.toArray⟩ ⟨[c].toArray⟩=k→
  Lib.splitB ⟨[c].toArray⟩ 0 k ⟨l.toArray⟩=(splitL c l).map fun x=>⟨x.toArray⟩:=by
 have hsz:(⟨[c].toArray⟩:ByteArray).size=1:=rfl
 have hge:=fun l=>Lib.indexByte_ge l c
 intro k
 induction k with
 |zero=>
  intro l hk
  by_cases h:Lib.indexByte l c= -1
  ·rw[splitL_miss h];rfl
  ·obtain ⟨i,hi⟩: ∃i:Nat,Lib.indexByte l c=i:=⟨(Lib.indexByte l c).toNat,by have:=hge l;omega⟩
   have:=Lib.countB_hit ⟨l.toArray⟩ ⟨[c].toArray⟩ i (by rw[hsz];omega) (by rw[indexB_c];exact hi)
   omega
 |succ k ih=>
  intro l hk
  by_cases h:Lib.indexByte l c= -1
  ·have:=Lib.countB_miss ⟨l.toArray⟩ ⟨[c].toArray⟩ (by rw[indexB_c];exact h)
   omega
  ·obtain ⟨i,hi⟩: ∃i:Nat,Lib.indexByte l c=i:=⟨(Lib.indexByte l c).toNat,by have:=hge l;omega⟩
   have hc:=Lib.countB_hit ⟨l.toArray⟩ ⟨[c].toArray⟩ i (by rw[hsz];omega) (by rw[indexB_c];exact hi)
   rw[Lib.splitB_hit _ _ _ _ i (by rw[indexB_c];exact hi)]
   obtain ⟨h1,h2⟩:=splitL_hit hi
   rw[h2,hsz,str_extract,str_size,str_drop]
   rw[hsz,str_size,str_drop] at hc
   rw[ih _ (by omega)]
   simp
theorem count_c (c:UInt8) (l:List UInt8):Lib.countB ⟨l.toArray⟩ ⟨[c].toArray⟩+1=(splitL c l).length:=by
 have h:=Lib.splitB_all ⟨[c].toArray⟩ (Nat.le_refl 1) 0 _ ⟨l.toArray⟩ rfl
 rw[splitB_c c _ l rfl] at h
 rw[← h,List.length_map]
end Go.Eng
namespace Go.Eng
open Go
def EnvIn (ρ:Env):Env→Prop
 |[]=>True
 |(t,v)::r=>get ρ t=v∧EnvIn ρ r
theorem EnvIn_get {ρ:Env}: ∀{ρ':Env},EnvIn ρ ρ'→ ∀t,get ρ' t=.any∨get ρ' t=get ρ t:=by
 intro ρ'
 induction ρ' with
 |nil=>intro _ t;exact .inl rfl
 |cons x r ih=>
  intro h t
  obtain ⟨d,v⟩:=x
  by_cases e:d=t
  ·subst e
   right
   simp[get,h.1]
  ·have:get ((d,v)::r) t=get r t:=by
    rw[get_cons]
    simp[upd,beq_ne e]
   rw[this]
   exact ih h.2 t
theorem Wk_env {ρ ρ':Env} {n m:Nat} {H:Heap} {df:List DF} (h:EnvIn ρ ρ'):Wk ⟨ρ,n,H,m,df⟩ ⟨ρ',n,H,m,df⟩:=by
 rw[Wk_eq]
 refine⟨rfl,rfl,fun p σ a w hR=>⟨p,σ,.refl p w,fun _ _=>rfl,⟨hR.size,hR.df,fun t=>?_,hR.heap,hR.m⟩⟩⟩
 rcases EnvIn_get h t with e|e
 ·show VRel p σ w (get ρ' t) _
  rw[e]
  exact .any _
 ·show VRel p σ w (get ρ' t) _
  rw[e]
  exact hR.env t
theorem Tri.use {P:Program} {f:FuncId} {args:List AV} {H HH:Heap} {r:AV} {K:AV→Heap→Prop} (h:Tri P f args H fun v H'=>v=r∧H'=HH) (hK:K r HH):Tri P f args H K:=
 h.mono fun x H' ⟨e1,e2⟩=>by rw[e1,e2];exact hK
theorem Tri_of {P:Program} {tt:TT} (hT:TTok P tt) {f:FuncId} {fn:Func} {c:Code} (hf:P.funcs[f]? =some fn) (hb:fn.body=some c) (hnm:(fn.name== "runtime.NumGoroutine")=false) {n:Nat} (hn:fn.ntmps=n)
  {args:List AV} {H:Heap} {m:Nat} (hm:H.length=m) {Q:AV→Heap→Prop} (hargs:Nat.ble args.length n=true) (h:awp P tt none c (RetQ P tt fn m Q) ⟨argEnv args 0,n,H,m,[]⟩):Tri P f args H Q:=by
 subst hn hm
 exact Tri_of_awp hT hf hb hnm hargs (W_run hT h)
theorem Fin.refl (m:Nat) (v:AV) (H:Heap):Fin m v H v H:=by
 rw[Fin_eq]
 exact fun p σ w x _ hH hv=>⟨p,σ,.refl p w,fun _ _=>rfl,hH,hv⟩
theorem finR {m:Nat} {v:AV} {H:Heap} {r:AV} (h:v=r):FinK m v H (fun v H'=>v=r∧H'=H):=by
 rw[FinK_eq]
 exact⟨v,H,.refl m v H,h,rfl⟩
theorem finQ {m:Nat} {v:AV} {H:Heap} {Q:AV→Heap→Prop} (h:Q v H):FinK m v H Q:=by
 rw[FinK_eq]
 exact⟨v,H,.refl m v H,h⟩
theorem finW {m:Nat} {v v':AV} {H H':Heap} {Q:AV→Heap→Prop} (hf:Fin m v H v' H') (h:Q v' H'):FinK m v H Q:=by
 rw[FinK_eq]
 exact⟨v',H',hf,h⟩
theorem finT {m:Nat} {v:AV} {H HH:Heap} {r:AV} (hv:low m v=true) (e:H.take m=HH) (hH:HLe (List.range m) m H HH (List.range m)) (h:v=r):FinK m v H (fun v H'=>v=r∧H'=HH):=by
 subst e
 rw[FinK_eq]
 exact⟨v,_,Fin_plain hv hH,h,rfl⟩
def Ok (x:AV):Prop:= ∃p σ w v,VRel p σ w x v
theorem Ok_len {rows:List (List D)} (h:Ok (.d (.sl rows))):rows.length≤281474976710656:=by
 obtain ⟨p,σ,w,v,hv⟩:=h
 cases hv with
 |sl _ a n cap sz vals hn hB hc hrow hcells hv=>unfold LB at hB;omega
theorem Tri.ok {P:Program} {f:FuncId} (he:Ent P f) {args:List AV} {H:Heap} {Q:AV→Heap→Prop} (h:(∀ x∈args,Ok x)→Tri P f args H Q):Tri P f args H Q:=by
 simp only[Tri_eq] at *
 refine⟨he,fun p σ w vs hH hs hv=>(h fun x hx=>?_).2 p σ w vs hH hs hv⟩
 obtain ⟨i,hi⟩:=List.mem_iff_getElem?.1 hx
 have hlt:i<vs.size:=by rw[hs];exact(List.getElem?_eq_some_iff.1 hi).1
 exact⟨p,σ,w,_,hv i x _ hi (Array.getElem?_eq_getElem hlt)⟩
theorem Ent_of {P:Program} {f:FuncId} {fn:Func} {c:Code} (hf:P.funcs[f]? =some fn) (hb:fn.body=some c) (hnm:(fn.name== "runtime.NumGoroutine")=false):Ent P f:=⟨fn,hf,by rw[hb];rfl,hnm⟩
theorem Fn_ofB {P:Program} {tt:TT} (hT:TTok P tt) {f:FuncId} {fn:Func} {c:Code} (hf:P.funcs[f]? =some fn) (hb:fn.body=some c) (hnm:(fn.name== "runtime.NumGoroutine")=false) {n:Nat} (hn:fn.ntmps=n)
  {args:List AV} {r:AV} (hargs:Nat.ble args.length n=true) (h:(∀ x∈args,Ok x)→awp P tt none c (RetQ P tt fn 0 fun v H=>v=r∧H=[]) ⟨argEnv args 0,n,[],0,[]⟩):Fn P f args r:=
 Tri.ok (Ent_of hf hb hnm) fun hok=>Fn_of hT hf hb hnm hn hargs (h hok)
theorem Fn.useE {P:Program} {f:FuncId} {args args':List AV} {r:AV} (h:Fn P f args r) (e:args'=args) (hl:lowL 0 args=true) (hr:low 0 r=true) {H:Heap} {K:AV→Heap→Prop} (hK:K r H):Tri P f args' H K:=by
 subst e;exact h.use hl hr hK
end Go.Eng
namespace Go.Eng
open Go
theorem Wk_pad {ρ:Env} {n m:Nat} {H:Heap} {df:List DF}:Wk ⟨ρ,n,H,m,df⟩ ⟨ρ,n,H++[none],m,df⟩:=by
 rw[Wk_eq]
 refine⟨rfl,rfl,fun p σ a w hR=>⟨p,σ++[0],.refl p w,fun i hi=>?_,?_⟩⟩
 ·have:i<σ.length:=by rw[hR.heap.len];exact Nat.lt_of_lt_of_le hi hR.m
  rw[List.getElem?_append_left this]
 have hm:Mono σ (σ++[0]):=mono_append _
 have hh:=hR.heap
 refine⟨hR.size,hR.df.mono hm _ _,fun t=>(hR.env t).mono (.refl p w) hm,⟨by simp[hh.len],hh.lt,fun i k hk=>?_,fun i j r k l hk hl hi hj=>?_,hh.gl⟩,by have:=hR.m;simp at this ⊢;omega⟩
 ·have hi:i<H.length:=by
   rcases Nat.lt_or_ge i H.length with h|h
   ·exact h
   ·rw[List.getElem?_append_right h] at hk
    have:i-H.length=0∨0<i-H.length:=by omega
    rcases this with e|e
    ·rw[e] at hk;simp at hk
    ·rw[List.getElem?_eq_none (by simp;omega)] at hk;simp at hk
  rw[List.getElem?_append_left hi] at hk
  obtain ⟨r,h1,h2,h3,h4⟩:=hh.blk i k hk
  exact⟨r,hm _ _ h1,h2,h3,h4.mono (.refl p w) hm rfl fun _=>⟨rfl,fun _ _=>rfl⟩⟩
 ·have lt: ∀(i:Nat) (k:Blk),(H++[none])[i]? =some (some k)→i<H.length:=fun i k hk=>by
   rcases Nat.lt_or_ge i H.length with h|h
   ·exact h
   ·rw[List.getElem?_append_right h] at hk
    have:i-H.length=0∨0<i-H.length:=by omega
    rcases this with e|e
    ·rw[e] at hk;simp at hk
    ·rw[List.getElem?_eq_none (by simp;omega)] at hk;simp at hk
  have h1:=lt i k hk
  have h2:=lt j l hl
  rw[List.getElem?_append_left h1] at hk
  rw[List.getElem?_append_left h2] at hl
  rw[List.getElem?_append_left (by rw[hh.len];exact h1)] at hi
  rw[List.getElem?_append_left (by rw[hh.len];exact h2)] at hj
  exact hh.inj i j r k l hk hl hi hj
@[irreducible] def AccV (b sz:Nat) (rows:List (List D)):AV:=if rows=[] then .nsl else .msl b 0 rows.length rows.length sz
@[irreducible] def AccB (rows:List (List D)):Option Blk:=if rows=[] then none else some (.row (rows.flatten.map .d))
theorem AccV_nil (b sz:Nat):AccV b sz []=.nsl:=by unfold AccV;simp
theorem AccB_nil:AccB []=none:=by unfold AccB;simp
theorem AccV_cons {b sz:Nat} {rows:List (List D)} (h:rows≠[]):AccV b sz rows=.msl b 0 rows.length rows.length sz:=by unfold AccV;simp[h]
theorem AccB_cons {rows:List (List D)} (h:rows≠[]):AccB rows=some (.row (rows.flatten.map .d)):=by unfold AccB;simp[h]
theorem App_acc {ei:TI} {H:Heap} {b sz:Nat} {x:AV} {B:Prop} {K:AV→Heap→Prop} (rows new:List (List D)) (hb:H[b]? =some (AccB rows)) (hx:newLen x=some new.length) (hc:newCells H ei.size x=some (new.flatten.map .d)) (hsz:sz=ei.size)
  (hn:new≠[]) (hrs: ∀r∈rows,r.length=ei.size) (hrn: ∀r∈new,r.length=ei.size) (hlim:rows.length+new.length≤1000000) (hby:ei.bytes≤1000)
  (hK:K (.msl H.length 0 (rows.length+new.length) (rows.length+new.length) ei.size) (H.set b none++[some (.row ((rows++new).flatten.map .d))])):ChK (appK ei H (AccV b sz rows) x K) B:=by
 subst hsz
 have hlb:rows.length+new.length≤LB:=by unfold LB;omega
 have hB:(rows.length+new.length+200) * ei.bytes≤2 ^ 46:=Nat.le_trans (Nat.mul_le_mul (by omega:rows.length+new.length+200≤1000200) hby) (by decide)
 have h0:0<new.length:=List.length_pos_iff.2 hn
 have hfn:(new.flatten.map AV.d).length=new.length * ei.size:=by rw[List.length_map];exact flatten_len new hrn
 have hfr:(rows.flatten.map AV.d).length=rows.length * ei.size:=by rw[List.length_map];exact flatten_len rows hrs
 have hbl:b<H.length:=(List.getElem?_eq_some_iff.1 hb).1
 refine Ch_l ?_
 unfold appK
 rw[hx]
 simp only
 rw[hc]
 simp only
 by_cases hr:rows=[]
 ·subst hr
  rw[AccV_nil]
  have hset:H.set b none=H:=by
   apply List.ext_getElem?
   intro i
   rw[List.getElem?_set]
   split
   ·subst_vars
    rw[hb,AccB_nil]
   ·rfl
  rw[hset] at hK
  simp only[List.length_nil,Nat.zero_add,List.nil_append] at hK hB hlb
  have hnn:x≠.nsl:=by rintro rfl;simp[newLen] at hx;omega
  cases x <;> first
   |exact absurd rfl hnn
   |(simp only[NeedK_eq];simp only[pushK_eq];exact⟨⟨h0,hB,hlb,hfn⟩,hK⟩)
 ·rw[AccV_cons hr]
  rw[AccB_cons hr] at hb
  have hro:rowOf H b=some (rows.flatten.map .d):=by unfold rowOf;rw[hb]
  simp only[hro]
  refine Br_false (by rw[← Bool.not_eq_true];intro h;have:=Nat.le_of_ble_eq_true h;omega) ?_
  refine Br_true rfl ?_
  refine Br_true (Nat.beq_refl _) ?_
  simp only[NeedK_eq]
  rw[setK_eq,pushK_eq]
  refine⟨⟨hfr,hfn,hB,hlb⟩,?_⟩
  simp only[List.length_set]
  rw[List.flatten_append,List.map_append] at hK
  exact hK
theorem renB_row (g:Nat→Nat) (l:List D):renB g (.row (l.map .d))=.row (l.map .d):=by simp[renB,renL_d]
theorem lowB_row (k:Nat) (l:List D):lowB k (.row (l.map .d))=true:=by simp[lowB,lowL_d]
theorem Fin_acc {m b sz:Nat} {H H':Heap} (rows:List (List D)) (hb:H[b]? =some (AccB rows)) (hrs: ∀r∈rows,r.length=sz) (hm:m≤b) (hH:H'=H.take m) (hle:HFz (List.range m) [b] H H' (List.range m)):Fin m (AccV b sz rows) H (.d (.sl rows)) H':=by
 have hbl:b<H.length:=(List.getElem?_eq_some_iff.1 hb).1
 refine Fin_fz (List.range m) [b] ?_ ?_ ?_ hle ?_ (by simp) ?_
 ·rw[List.all_eq_true]
  intro x hx
  have:=List.mem_range.1 hx
  have h2:x<H.length:=by omega
  exact Nat.ble_eq_true_of_le h2
 ·have: ∀(n s:Nat),noDup (List.range' s n)=true:=by
   intro n
   induction n with
   |zero=>intro s;rfl
   |succ n ih=>
    intro s
    rw[List.range'_succ]
    simp only[noDup,Bool.and_eq_true,List.all_eq_true,List.mem_range',Bool.not_eq_true']
    refine⟨fun y hy=>?_,ih _⟩
    obtain ⟨i,hi,rfl⟩:=hy
    exact beq_ne (by omega)
  rw[List.range_eq_range']
  exact this m 0
 ·simp only[apartL,List.all_cons,List.all_nil,Bool.and_true,List.all_eq_true,Bool.not_eq_true']
  intro c hc
  have:=List.mem_range.1 hc
  exact beq_ne (by omega)
 ·by_cases hr:rows=[]
  ·subst hr;rw[AccV_nil];exact .nsl
  ·rw[AccV_cons hr]
   rw[AccB_cons hr] at hb
   refine .frz b 0 _ _ sz (rows.flatten.map .d) rows (by simp) (by unfold rowOf;rw[hb]) rfl hrs (by rw[List.length_map,flatten_len rows hrs];omega) fun i x y hi hx hy=>?_
   rw[Nat.zero_add,List.getElem?_map,hy] at hx
   simp at hx
   subst hx
   exact .same _ rfl
 ·intro i hi
  simp[gOf,hi]
theorem splice_flat {sz:Nat}: ∀(rows:List (List D)) (i j:Nat) (row:List D) (x:D),(∀ r∈rows,r.length=sz)→rows[i]? =some row→j<sz→
  splice (rows.flatten.map .d) (i * sz+j) [.d x]=(rows.set i (row.set j x)).flatten.map .d:=by
 intro rows i j row x hrs hi hj
 have hmem:=List.mem_of_getElem? hi
 have hil:i<rows.length:=(List.getElem?_eq_some_iff.1 hi).1
 simp only[splice]
 have:(rows.flatten.map AV.d).set (i * sz+j) (.d x)=(rows.flatten.set (i * sz+j) x).map .d:=by rw[List.map_set]
 rw[this]
 congr 1
 induction rows generalizing i with
 |nil=>simp at hi
 |cons r t ih=>
  have hr:=hrs r (by simp)
  cases i with
  |zero=>
   simp at hi
   subst hi
   simp only[Nat.zero_mul,Nat.zero_add,List.flatten_cons,List.set_cons_zero]
   rw[List.set_append_left _ _ (by omega)]
  |succ i=>
   simp only[List.flatten_cons,List.set_cons_succ]
   rw[List.set_append_right _ _ (by rw[hr,Nat.add_mul];omega)]
   congr 1
   rw[hr,show (i+1) * sz+j-sz=i * sz+j by rw[Nat.add_mul];omega]
   exact ih i (fun q hq=>hrs q (by simp[hq])) (by simpa using hi) (List.mem_of_getElem? (by simpa using hi)) (by simpa using hil) (by rw[List.map_set])
theorem cell_flat {sz:Nat} (rows:List (List D)) (i j:Nat) (row:List D) (x:D) (hrs: ∀r∈rows,r.length=sz) (hi:rows[i]? =some row) (hx:row[j]? =some x) (hj:j<sz):(rows.flatten.map AV.d)[i * sz+j]? =some (.d x):=by
 rw[List.getElem?_map,flatten_at rows hrs i j hj,hi]
 simp[hx]
end Go.Eng
namespace Go.Eng
theorem Acc_app {b sz:Nat} {rows new:List (List D)} (h:new≠[]):AccV b sz (rows++new)=.msl b 0 (rows.length+new.length) (rows.length+new.length) sz∧AccB (rows++new)=some (.row ((rows++new).flatten.map .d)):=by
 have hne:rows++new≠[]:=by simp[h]
 rw[AccV_cons hne,AccB_cons hne,List.length_append]
 exact⟨rfl,rfl⟩
end Go.Eng
namespace Go.Eng
theorem force_in {v:AV} {K:AV→Prop} (h:K v):force v K:=by rw[force_eq];exact h
end Go.Eng
namespace Go.Eng
open Go
theorem FV_tab {g:List Nat} {H:Heap} {b sz:Nat} (rows:List (List D)) {n:Nat} {cs:List AV} (hr:rowOf H b=some cs) (hc:cs=rows.flatten.map .d) (hn:n=rows.length) (hs: ∀r∈rows,r.length=sz):FV g [b] H (.msl b 0 n n sz) (.d (.sl rows)):=by
 subst hn hc
 refine .frz b 0 _ _ sz (rows.flatten.map .d) rows (by simp) hr rfl hs (by rw[List.length_map,flatten_len rows hs];omega) fun i x y hi hx hy=>?_
 rw[Nat.zero_add,List.getElem?_map,hy] at hx
 simp at hx
 subst hx
 exact .same _ rfl
theorem FV_tup2 {g F:List Nat} {H:Heap} {x y x' y':AV} (h1:FV g F H x x') (h2:FV g F H y y'):FV g F H (.tup [x,y]) (.tup [x',y']):=by
 refine .tup _ _ rfl fun i a b ha hb=>?_
 match i with
 |0=>simp at ha hb;subst ha hb;exact h1
 |1=>simp at ha hb;subst ha hb;exact h2
 |i+2=>simp at ha
theorem Fin_all {F:List Nat} {v v':AV} {H:Heap} (hv:FV [] F H v v'):Fin 0 v H v' []:=
 Fin_fz [] F rfl rfl (by unfold apartL;simp) trivial hv (Nat.zero_le _) (fun i h=>absurd h (Nat.not_lt_zero _))
theorem finD {F:List Nat} {v r:AV} {H:Heap} (hv:FV [] F H v r):FinK 0 v H (fun v H=>v=r∧H=[]):=finW (Fin_all hv) ⟨rfl,rfl⟩
theorem patch_nil (H H1:Heap):patch [] H H1=H++renH (hmap [] H.length) H1:=by
 unfold patch
 have: ∀(f:Nat→Nat) (H:Heap) (j:Nat),patch1 f [] H1 H j=H:=by
  intro f H
  induction H with
  |nil=>intro j;rfl
  |cons b t ih=>intro j;simp[patch1,pos,pos.go,ih]
 rw[this]
 rfl
theorem renH_row (f:Nat→Nat) (l:List D):renH f [some (.row (l.map .d))]=[some (.row (l.map .d))]:=by simp[renH,renB_row]
theorem Tri.tab {P:Program} {f:FuncId} {args:List AV} {len sz:Nat} {l:List D} {H:Heap} {K:AV→Heap→Prop} (h:Tri P f args [] fun v H=>v=.msl 0 0 len len sz∧H=[some (.row (l.map .d))]) (hargs:lowL 0 args=true)
  (hK:K (.msl H.length 0 len len sz) (H++[some (.row (l.map .d))])):Tri P f args H K:=by
 refine Tri.call h [] rfl rfl trivial ?_ hargs rfl rfl ?_ (by rw[patch_nil,renH_row]) hK
 ·have: ∀l:List AV,lowL 0 l=true→renL (gOf []) l=l:=by
   intro l hl
   have h2:=renLLow 0 l hl
   have e:gOf []=fun _=>0:=by funext i;simp[gOf]
   have e2: ∀g g':Nat→Nat,(∀ x:AV,low 0 x=true→ren g x=ren g' x)∧(∀ l:List AV,lowL 0 l=true→renL g l=renL g' l):=fun g g'=>by
    have key: ∀n:Nat,True:=fun _=>trivial
    have a1: ∀x:AV,low 0 x=true→ren g x=ren g' x:=by
     intro x
     refine AV.rec (motive_1:=fun x=>low 0 x=true→ren g x=ren g' x) (motive_2:=fun l=>lowL 0 l=true→renL g l=renL g' l) ?_ ?_ ?_ ?_ ?_ ?_ ?_ ?_ ?_ ?_ ?_ ?_ ?_ x
     all_goals intros
     all_goals simp_all [ren,renL,low,lowL]
    refine⟨a1,fun l=>?_⟩
    induction l with
    |nil=>intro _;rfl
    |cons a t ih=>
     intro h
     simp only[lowL,Bool.and_eq_true] at h
     simp only[renL,a1 a h.1,ih h.2]
   rw[(e2 (gOf []) (· +0)).2 l hl]
   exact h2
  rw[this args hargs]
 ·simp[ren,hmap]
  rfl
end Go.Eng
namespace Go.Eng
open Go
theorem Tri.peek {P:Program} {f:FuncId} {args0:List AV} {r:AV} (h:Fn P f args0 r) (hp:plain r=true) (F:List Nat) {args:List AV} {H:Heap} {K:AV→Heap→Prop} (hl:args.length=args0.length)
  (hv: ∀(i:Nat) (x y:AV),args[i]? =some x→args0[i]? =some y→FV [] F H x y) (hK:K r H):Tri P f args H K:=by
 (unfold Fn at *;simp only[Tri_eq] at *)
 refine⟨h.1,fun p σ w vs hH hs hvs=>?_⟩
 let p':PQ:=⟨(pfz p σ H F).r,fun b=>b<w.heap.size,fun _=>False,fun b hb=>by
   rcases hb with hb|⟨⟨i,cs,h1,h2,h3⟩,h4⟩
   ·exact hH.lt b (p.sub b hb)
   ·obtain ⟨r',g1,g2,g3,_⟩:=hH.blk i _ h2
    rw[h3] at g1
    injection g1 with g1
    rw[g1];exact g3,fun b hb=>hb.elim,fun b hb=>hb.elim⟩
 have hH0:HRel p' [] [] w:=⟨rfl,fun b hb=>hb,fun i k hk=>by simp at hk,fun i j r k l hk=>by simp at hk,hH.gl.part fun _ h=>.inl h⟩
 have hvs': ∀(i:Nat) (x:AV) (v:Value),args0[i]? =some x→vs[i]? =some v→VRel p' [] w x v:=fun i y v hy hv'=>by
  have hi:i<args.length:=by rw[hl];exact(List.getElem?_eq_some_iff.1 hy).1
  have hx:args[i]? =some args[i]:=List.getElem?_eq_getElem hi
  have h1:=hvs i _ v hx hv'
  have h2:=VRel.fz hH (g:=[]) (σ':=[]) (fun i j h=>by simp at h) (hv i _ y hx hy) v h1
  exact VRel.mono' (p:=pfz p σ H F) (p':=p') (σ:=[]) (σ':=[]) (w:=w) (w':=w) (fun b hb=>hb) (fun _ _=>rfl) (.refl w) (fun _ _ h=>h) h2
 refine(h.2 p' [] w vs hH0 (hs.trans hl) hvs').mono ?_
 rintro e w' ⟨v,x,p1,σ1,H1,a,b,c,d,e',rfl,g'⟩
 have hsame: ∀b,b<w.heap.size→w'.heap[b]? =w.heap[b]? :=fun q hq=>b.same q hq (fun h=>h)
 have hE:Ext p w p w':=.mk1 (fun q hq=>hsame q (hH.lt q hq)) b.shape
 refine⟨v,x,p,σ,H,a,hE,fun _ _ h=>h,hH.keep hE ⟨rfl,fun q hq=>hsame q (hH.lt q (p.fu q hq))⟩ (fun q hq=>Nat.lt_of_lt_of_le (hH.lt q hq) b.shape.1) (fun i k r hk hr=>?_),e'.ofPlain hp,hK⟩
 obtain ⟨r',g1,g2,g3,_⟩:=hH.blk i k hk
 rw[hr] at g1
 injection g1 with g1
 subst g1
 exact⟨g2,hsame r g3⟩
theorem Nil_in {rows:List (List D)} {K:Bool→Prop} (h: ∀b:Bool,(rows≠[]→b=false)→K b):NilK rows K:=by simp only[NilK_eq];exact h
theorem App_esl {ei:TI} {H:Heap} {x:AV} {B:Prop} {K:AV→Heap→Prop} (new:List (List D)) (hx:newLen x=some new.length) (hc:newCells H ei.size x=some (new.flatten.map .d))
  (hn:new≠[]) (hrn: ∀r∈new,r.length=ei.size) (hlim:new.length≤1000000) (hby:ei.bytes≤1000)
  (hK:K (.msl H.length 0 new.length new.length ei.size) (H++[some (.row (new.flatten.map .d))])):ChK (appK ei H .esl x K) B:=by
 have hlb:new.length≤LB:=by unfold LB;omega
 have hB:(new.length+200) * ei.bytes≤2 ^ 46:=Nat.le_trans (Nat.mul_le_mul (by omega:new.length+200≤1000200) hby) (by decide)
 have h0:0<new.length:=List.length_pos_iff.2 hn
 have hfn:(new.flatten.map AV.d).length=new.length * ei.size:=by rw[List.length_map];exact flatten_len new hrn
 refine Ch_l ?_
 unfold appK
 rw[hx]
 simp only
 rw[hc]
 simp only
 obtain ⟨m,hm⟩: ∃m,new.length=m+1:=⟨new.length-1,by omega⟩
 generalize new.length=q at *
 subst hm
 simp only
 simp only[NeedK_eq]
 rw[pushK_eq]
 exact⟨⟨h0,hB,hlb,hfn⟩,hK⟩
end Go.Eng
namespace Go.Eng
open Go
theorem patch_one (H:Heap) (q:Nat) (hq:q<H.length) (l:List AV) (hl: ∀f,renB f (.row l)=.row l):patch [q] H [some (.row l)]=H.set q (some (.row l)):=by
 unfold patch
 simp only[List.drop_succ_cons,List.drop_nil,List.length_cons,List.length_nil,renH,List.append_nil]
 apply List.ext_getElem?
 intro i
 obtain ⟨_,h2⟩:=patch1_get (hmap [q] H.length) [q] [some (.row l)] H 0
 rw[h2,List.getElem?_set]
 simp only[Nat.zero_add]
 by_cases e:q=i
 ·subst e
  rw[if_pos rfl,if_pos hq]
  have hp:pos [q] q=some 0:=by
   simp[pos,pos.go]
  rw[hp]
  rw[List.getElem?_eq_getElem hq]
  simp[hl]
 ·rw[if_neg e]
  have hp:pos [q] i=none:=by
   have:Nat.beq q i=false:=beq_ne e
   simp[pos,pos.go,this]
  rw[hp]
  cases H[i]? <;> rfl
theorem Tri.on {P:Program} {f:FuncId} {args0 args:List AV} {r0 r:AV} {l l':List D} {H:Heap} {q:Nat} {K:AV→Heap→Prop} (h:Tri P f args0 [some (.row (l.map .d))] fun v H=>v=r0∧H=[some (.row (l'.map .d))])
  (hq:H[q]? =some (some (.row (l.map .d)))) (hargs:args=renL (gOf [q]) args0) (hl:lowL 1 args0=true) (hr:Eng.ren (hmap [q] H.length) r0=r) (hK:K r (H.set q (some (.row (l'.map .d))))):Tri P f args H K:=by
 have hlt:q<H.length:=(List.getElem?_eq_some_iff.1 hq).1
 refine Tri.call h [q] ?_ rfl ?_ hargs hl rfl rfl hr (patch_one H q hlt _ fun f=>renB_row f l') hK
 ·simp only[List.all_cons,List.all_nil,Bool.and_true];exact Nat.ble_eq_true_of_le hlt
 ·exact⟨⟨by rw[hq,renB_row],lowB_row _ _⟩,trivial⟩
end Go.Eng
namespace Go.Eng
open Go
end Go.Eng
namespace Go.Eng
theorem newCells_msl {H:Heap} {b off len c z sz:Nat} {cs:List AV} (h:H[b]? =some (some (.row cs))) (hle:off+len * sz≤cs.length):newCells H sz (.msl b off len c z)=some (sub cs off (len * sz)):=by
 unfold newCells rowOf
 simp only[h]
 rw[Nat.ble_eq_true_of_le hle]
end Go.Eng
namespace Go.Eng
open Go Go.RowKit
theorem Shape.below {w w':World} (hb:Below w.heap.size w w'):Shape w w':=
 ⟨hb.size,fun r c e fr h=>⟨c,fr,by rw[hb.block r (Array.getElem?_eq_some_iff.1 h).1];exact h,rfl⟩,hb.os,hb.tape,hb.output⟩
theorem Ext.below {p:PQ} {w w':World} (hlt: ∀b,p.u b→b<w.heap.size) (hb:Below w.heap.size w w'):Ext p w p w':=.mk1 (fun b h=>hb.block b (hlt b h)) (.below hb)
theorem Fn_lift {P:Program} {f:FuncId} {args:List AV} {r:AV} (he:Ent P f)
  (h: ∀(p:PQ) (w:World) (vs:Array Value),GlobW w→(∀ b,p.u b→b<w.heap.size)→vs.size=args.length→(∀ (i:Nat) (x:AV) (v:Value),args[i]? =some x→vs[i]? =some v→VRel p [] w x v)→
   Calls P f vs w fun e w'=> ∃v p',e=.returned v∧Ext p w p' w'∧(∀ b,p'.u b→b<w'.heap.size)∧VRel p' [] w' r v):Fn P f args r:=by
 unfold Fn
 rw[Tri_eq]
 refine⟨he,fun p σ w vs hH hs hv=>?_⟩
 have hσ:σ=[]:=List.length_eq_zero_iff.1 hH.len
 subst hσ
 refine(h p w vs hH.gl.now hH.lt hs hv).mono ?_
 rintro e w' ⟨v,p',rfl,hex,hlt,hr⟩
 exact⟨v,r,p',[],[],rfl,hex,fun _ _ h=>h,⟨rfl,hlt,fun i k hk=>by simp at hk,fun i j r k l hk=>by simp at hk,hH.gl.ext hex⟩,hr,rfl,rfl⟩
theorem Fn_below {P:Program} {f:FuncId} {args:List AV} {r:AV} (he:Ent P f) (hr: ∀(p q:PQ) (w w':World) (v:Value),VRel p [] w r v→VRel q [] w' r v)
  (h: ∀(p:PQ) (w:World) (vs:Array Value),GlobW w→(∀ b,p.u b→b<w.heap.size)→vs.size=args.length→(∀ (i:Nat) (x:AV) (v:Value),args[i]? =some x→vs[i]? =some v→VRel p [] w x v)→
   Calls P f vs w fun e w'=> ∃v,e=.returned v∧Below w.heap.size w w'∧VRel p [] w r v):Fn P f args r:=
 Fn_lift he fun p w vs hg hlt hs hv=>(h p w vs hg hlt hs hv).mono fun e w' ⟨v,h1,h2,h3⟩=>
  ⟨v,p,h1,.below hlt h2,fun b hb=>Nat.lt_of_lt_of_le (hlt b hb) h2.size,hr p p w w' v h3⟩
theorem int_any {k:IntKind} {n:Int}: ∀(p q:PQ) (w w':World) (v:Value),VRel p [] w (.d (.int k n)) v→VRel q [] w' (.d (.int k n)) v:=fun p q w w' v h=>by cases h;exact .int _ _
theorem str_any {s:ByteArray}: ∀(p q:PQ) (w w':World) (v:Value),VRel p [] w (.d (.str s)) v→VRel q [] w' (.d (.str s)) v:=fun p q w w' v h=>by cases h with|str _ h=>exact .str _ h
theorem arg_str {p:PQ} {w:World} {args:List AV} {vs:Array Value} (hs:vs.size=args.length) (hv: ∀(i:Nat) (x:AV) (v:Value),args[i]? =some x→vs[i]? =some v→VRel p [] w x v) (i:Nat) {s:ByteArray} (h:args[i]? =some (.d (.str s))):
  vs[i]? =some (.string s)∧s.size≤LB:=by
 have hi:i<vs.size:=by rw[hs];exact(List.getElem?_eq_some_iff.1 h).1
 have:=hv i _ _ h (Array.getElem?_eq_getElem hi)
 generalize hx:vs[i]=x at this
 cases this with
 |str _ hl=>exact⟨by rw[Array.getElem?_eq_getElem hi,hx],hl⟩
theorem arg_int {p:PQ} {w:World} {args:List AV} {vs:Array Value} (hs:vs.size=args.length) (hv: ∀(i:Nat) (x:AV) (v:Value),args[i]? =some x→vs[i]? =some v→VRel p [] w x v) (i:Nat) {k:IntKind} {n:Int} (h:args[i]? =some (.d (.int k n))):
  vs[i]? =some (.int k n):=by
 have hi:i<vs.size:=by rw[hs];exact(List.getElem?_eq_some_iff.1 h).1
 have:=hv i _ _ h (Array.getElem?_eq_getElem hi)
 generalize hx:vs[i]=x at this
 cases this
 rw[Array.getElem?_eq_getElem hi,hx]
theorem vs_1 {vs:Array Value} {a:Value} (hs:vs.size=1) (h0:vs[0]? =some a):vs= #[a]:=by
 apply Array.ext_getElem?
 intro i
 match i with
 |0=>rw[h0];rfl
 |i+1=>rw[Array.getElem?_eq_none (by omega),Array.getElem?_eq_none (by simp)]
theorem vs_2 {vs:Array Value} {a b:Value} (hs:vs.size=2) (h0:vs[0]? =some a) (h1:vs[1]? =some b):vs= #[a,b]:=by
 apply Array.ext_getElem?
 intro i
 match i with
 |0=>rw[h0];rfl
 |1=>rw[h1];rfl
 |i+2=>rw[Array.getElem?_eq_none (by omega),Array.getElem?_eq_none (by simp)]
theorem new_texts {p:PQ} {w:World} (hlt: ∀b,p.u b→b<w.heap.size) (xs:List ByteArray) (t:TypeId) (hB:xs.length≤LB) (hx: ∀x∈xs,x.size≤LB) {cap:Nat} (hc:xs.length≤cap):
  ∃p',Ext p w p' (w.alloc (.cells (xs.map Value.string).toArray t))∧(∀ b,p'.u b→b<(w.alloc (.cells (xs.map Value.string).toArray t)).heap.size)∧
   VRel p' [] (w.alloc (.cells (xs.map Value.string).toArray t)) (.d (.sl (xs.map fun x=>[.str x]))) (.slice (some ⟨w.heap.size,0,none⟩) xs.length cap):=by
 have hb:Below w.heap.size w (w.alloc (.cells (xs.map Value.string).toArray t)):=(Below.refl _ _).alloc (Nat.le_refl _) _
 have hsz:(w.alloc (.cells (xs.map Value.string).toArray t)).heap.size=w.heap.size+1:=by show (w.heap.push _).size=_;simp
 have hnew:(w.alloc (.cells (xs.map Value.string).toArray t)).heap[w.heap.size]? =some (.cells (xs.map Value.string).toArray t):=by show (w.heap.push _)[w.heap.size]? =_;simp
 refine⟨⟨fun b=>p.r b∨b=w.heap.size,fun b=>p.u b∨b=w.heap.size,p.f,fun b h=>h.imp (p.sub b) id,fun b h=>.inl (p.fu b h),fun b h hr=>hr.elim (p.fr b h) fun e=>by
   have:=hlt b (p.fu b h);omega⟩,⟨fun b h=>.inl h,fun b h=>.inl h,fun b h=>h.imp id fun e hu=>by have:=hlt b hu;omega,fun b h=>h,fun b h=>.inl h,fun b h _=>hb.block b (hlt b h),.below hb⟩,fun b h=>?_,?_⟩
 ·rw[hsz]
  rcases h with h|h
  ·have:=hlt b h;omega
  ·omega
 ·refine .sl _ _ _ _ 1 (fun i j=>.string (xs.getD i ByteArray.empty)) (by simp) hB hc (fun i row hr=>?_) (fun _=>⟨_,_,rfl,.inr rfl,fun i j hi hj=>?_⟩) (fun i row j x hr hx2=>?_)
  ·rw[List.getElem?_map] at hr
   cases hxi:xs[i]? with
   |none=>rw[hxi] at hr;simp at hr
   |some x=>rw[hxi] at hr;simp at hr;subst hr;rfl
  ·have:j=0:=by omega
   subst this
   unfold World.cell?
   simp only[hnew]
   simp[List.getD,hi]
  ·rw[List.getElem?_map] at hr
   cases hxi:xs[i]? with
   |none=>rw[hxi] at hr;simp at hr
   |some y=>
    rw[hxi] at hr
    simp at hr
    subst hr
    cases j with
    |zero=>
     simp at hx2
     subst hx2
     have:xs.getD i ByteArray.empty=y:=by simp[List.getD,hxi]
     rw[this]
     exact .str _ (hx y (List.mem_of_getElem? hxi))
    |succ j=>simp at hx2
theorem forceL_in {vs l:List AV} {K:List AV→Prop} (h:vs=l) (hK:K l):forceL vs K:=by rw[h,forceL_eq];exact hK
end Go.Eng
