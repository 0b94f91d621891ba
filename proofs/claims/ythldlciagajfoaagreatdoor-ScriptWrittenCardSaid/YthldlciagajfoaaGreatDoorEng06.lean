/- What the seat's proofs lean on, part 6: the executor over abstract values, its soundness, and what the program's functions answer (Eng43, Eng44, Eng45, Scr2, LibF, LibX, Sp4, Sp5, Sh1, Spl1, Rst1, Rst2, Rst3, Rst5, Rst4, Rst6, Tel2, Tel3, Tel4, Tel5, Trf1, Scr3, Scr4). -/
import Derived.Test.YthldlciagajfoaaGreatDoorEng05
import Derived.Test.YthldlciagajfoaaGreatDoorEng04
import Derived.Test.YthldlciagajfoaaGreatDoorEng03
import Derived.Test.YthldlciagajfoaaGreatDoorEng02
set_option linter.all false
set_option linter.unusedVariables false
set_option linter.unusedSimpArgs false
set_option maxRecDepth 100000
namespace Go.Eng
open Go
def Keep (r:Nat) (H H':Heap):Prop:=r<H.length→rowOf H' r=rowOf H r
theorem Keep.refl (r:Nat) (H:Heap):Keep r H H:=fun _=>rfl
theorem Keep.push (r:Nat) (H new:Heap):Keep r H (H++new):=fun h=>by
 unfold rowOf
 rw[List.getElem?_append_left h]
def sideK (r:Nat) (T:TypeId) (op:Op) (ρ:Nat→AV) (X:Prop):Prop:=
 match op with
 |.load t x=>match Nat.beq t T with
  |true=>match evalO ρ x with
   |.ptr b _=>match Nat.beq b r with
    |true=>X
    |false=>False
   |_=>False
  |false=>X
 |_=>X
theorem sideK_iff {r:Nat} {T:TypeId} {op:Op} {ρ:Nat→AV} {X:Prop}:sideK r T op ρ X↔sideK r T op ρ True∧X:=by
 unfold sideK
 repeat' (first|split|(simp;done)|simp only[and_true,true_and,false_and])
theorem sideK_congr {r:Nat} {T:TypeId} {op:Op} {ρ ρ':Nat→AV} {X:Prop} (h:Agree ρ ρ' op.operands.toList):sideK r T op ρ X=sideK r T op ρ' X:=by
 cases op <;> unfold sideK <;> try rfl
 case load t x=>
  have e:evalO ρ x=evalO ρ' x:=h _ (by simp[Op.operands])
  simp only[e]
def keepK (md r:Nat) (op:Op) (H H':Heap) (X:Prop):Prop:=
 match cls md op with
 |0=>X
 |1=>X
 |2=>X
 |_=>Keep r H H'∧X
def isLd (T:TypeId) (op:Op):Bool:=match op with|.load t _=>Nat.beq t T|_=>false
section
variable {P:Program} {tt:TT} {p:PQ} {σ:List Nat} {s:St} {a:Act} {w:World} {ro:Option Nat} {n:Nat} {md base:Nat} {ops:Array Oper} {ρ:Nat→AV} {H:Heap} {r:Nat} {T:TypeId}
def sideAt (r:Nat) (T:TypeId) (ops:Array Oper) (i:Nat) (ρ:Nat→AV):Prop:= ∀o,ops[i]? =some o→gst ops o ρ=some true→sideK r T o.op ρ True
theorem sideAt_congr {i:Nat} {o:Oper} {ρ':Nat→AV} (ho:ops[i]? =some o) (ha:AgreeT ops o ρ ρ') (h:sideAt r T ops i ρ):sideAt r T ops i ρ':=by
 intro o' ho' hg
 rw[ho] at ho';injection ho' with ho';subst ho'
 rw[← ha.gst] at hg
 rw[← sideK_congr ha.opnds]
 exact h o ho hg
theorem opKd_keep {K:AV→Heap→Prop} (op:Op) (h:opKd P tt md base op ρ H fun v H'=>keepK md r op H H' (K v H')):opKd P tt md base op ρ H fun v H'=>Keep r H H'∧K v H':=by
 unfold keepK at h
 by_cases h0:cls md op=0
 ·rw[h0] at h
  obtain ⟨v,h1,h2⟩:=opKd_pure op h0 H _ h
  exact h2 H _ ⟨.refl r H,h1⟩
 by_cases h1:cls md op=1
 ·rw[h1] at h
  obtain ⟨v,h2,h3⟩:=opKd_load op h1 h
  exact h3 H _ (fun _ _=>rfl) ⟨.refl r H,h2⟩
 by_cases h2:cls md op=2
 ·rw[h2] at h
  obtain ⟨v,new,h3,h4⟩:=opKd_push op h2 h
  exact h4 _ ⟨.push r H new,h3⟩
 ·generalize cls md op=c at *
  match c,h0,h1,h2,h with
  |n+3,_,_,_,h=>exact h
theorem at_ld {i:Nat} {o:Oper} {K:(Nat→AV)→Heap→Prop} (ho:ops[i]? =some o) (hB:isLd T o.op=true) (hs:sideAt r T ops i ρ) (h:opAt P tt md base ops n i ρ H K):
  ∃v,K (updO ρ o.dst v) H∧ ∀H2,(r<base→rowOf H2 r=rowOf H r)→Out P tt md base ops n i o ρ H2 v H2:=by
 obtain ⟨o',ho',hd,h|h⟩:=opAt_in h <;> rw[ho] at ho' <;> injection ho' with ho' <;> subst ho'
 ·obtain ⟨hg,h⟩:=h
  have hs:=hs o ho hg
  have key: ∃v,K (updO ρ o.dst v) H∧ ∀(H2:Heap) (K':AV→Heap→Prop),(r<base→rowOf H2 r=rowOf H r)→K' v H2→opKd P tt md base o.op ρ H2 K':=by
   generalize o.op=op at h hs hB⊢
   cases op <;> (try (simp [isLd] at hB;done))
   rename_i ty x
   unfold isLd at hB
   simp only at hB
   unfold sideK at hs
   simp only[hB] at hs
   unfold opKd opK at h⊢
   simp only at h⊢
   generalize evalO ρ x=v at h hs⊢
   cases v <;> (try exact hs.elim)
   rename_i b off
   simp only at h hs⊢
   have hbr:b=r:=by
    cases e:Nat.beq b r with
    |true=>exact Nat.eq_of_beq_eq_true e
    |false=>rw[e] at hs;exact hs.elim
   subst hbr
   cases hb:Nat.blt b base with
   |false=>rw[hb] at h;exact h.elim
   |true=>
    rw[hb] at h
    simp only at h⊢
    cases ht:tt ty with
    |none=>rw[ht] at h;exact h.elim
    |some ti=>
     rw[ht] at h
     simp only at h⊢
     cases hr:rowOf H b with
     |none=>rw[hr] at h;exact h.elim
     |some cs=>
      rw[hr] at h
      obtain ⟨v,h1,h2⟩:=PD_load ti cs off H (fun v H'=>K (updO ρ o.dst v) H') h
      refine⟨v,h1,fun H2 K' hag hk=>?_⟩
      rw[hag (Nat.blt_eq.mp hb)]
      exact h2 H2 K' hk
  obtain ⟨v,k1,k2⟩:=key
  exact⟨v,k1,fun H2 hag=>Out_of ho hd hg fun K' hk=>k2 H2 K' hag hk⟩
 ·exact⟨.tup [],h.2,fun H2 _=>Out_skip ho hd h.1⟩
def swR (md:Nat) (T:TypeId) (ops:Array Oper) (x i:Nat):Bool:=
 match ops[x]?,ops[i]? with
 |some ox,some oi=>(clsOk (cls md ox.op) (cls md oi.op)||(isLd T ox.op||isLd T oi.op))&&ox.apart ops oi
 |_,_=>false
def opR (P:Program) (tt:TT) (r:Nat) (T:TypeId) (md base:Nat) (ops:Array Oper) (n i:Nat) (ρ:Nat→AV) (H:Heap) (K:(Nat→AV)→Heap→Prop):Prop:=
 sideAt r T ops i ρ∧opAt P tt md base ops n i ρ H fun ρ' H'=>Keep r H H'∧K ρ' H'
def awpR (P:Program) (tt:TT) (r:Nat) (T:TypeId) (md base:Nat) (ops:Array Oper) (n:Nat) (l:List Nat) (ρ:Nat→AV) (H:Heap) (K:(Nat→AV)→Heap→Prop):Prop:=
 match l with
 |[]=>K ρ H
 |i::t=>opR P tt r T md base ops n i ρ H fun ρ' H'=>awpR P tt r T md base ops n t ρ' H' K
theorem swapR {i j:Nat} (hsw:swR md T ops i j=true) {K:(Nat→AV)→Heap→Prop} (hb:base≤H.length)
  (h:opR P tt r T md base ops n i ρ H fun ρ1 H1=>opR P tt r T md base ops n j ρ1 H1 K):opR P tt r T md base ops n j ρ H fun ρ1 H1=>opR P tt r T md base ops n i ρ1 H1 K:=by
 unfold swR at hsw
 split at hsw
 rotate_left
 ·simp at hsw
 rename_i oi oj hi hj
 simp only[Bool.and_eq_true] at hsw
 obtain ⟨hcl,hap⟩:=hsw
 obtain ⟨h1,h2,h3⟩:=Oper.apart_spec hap
 have agj: ∀v,AgreeT ops oj (updO ρ oi.dst v) ρ:=fun v t ht=>updO_get (fun x hx e=>h1 x hx (e▸ht)) v
 have agi: ∀v,AgreeT ops oi ρ (updO ρ oj.dst v):=fun v t ht=>(updO_get (fun x hx e=>h3 x hx (e▸ht)) v).symm
 have comm: ∀v u,updO (updO ρ oi.dst v) oj.dst u=updO (updO ρ oj.dst u) oi.dst v:=fun v u=>updO_comm h2 v u
 obtain ⟨hsi,h⟩:=h
 have hsj:sideAt r T ops j ρ:=by
  obtain ⟨v,H',g1,_,_⟩:=at3 hi h
  exact sideAt_congr hj (agj v) g1.2.1
 have si: ∀v,sideAt r T ops i (updO ρ oj.dst v):=fun v=>sideAt_congr hi (agi v) hsi
 have grow: ∀new:Heap,∀b,b<base→rowOf (H++new) b=rowOf H b:=fun new b hb'=>by
  unfold rowOf
  rw[List.getElem?_append_left (by omega)]
 refine⟨hsj,?_⟩
 by_cases a0:cls md oi.op=0
 ·obtain ⟨vi,g1,g2⟩:=at0 hi a0 h
  obtain ⟨vj,H2,k1,k2,k3⟩:=at3 hj g1.2.2
  exact k3 ρ (agj vi) _ ⟨k1.1,si vj,g2 H2 _ (agi vj) _ ⟨.refl r H2,by rw[← comm];exact k1.2⟩⟩
 by_cases b0:cls md oj.op=0
 ·obtain ⟨vi,H1,g1,g2,g3⟩:=at3 hi h
  obtain ⟨vj,k1,k2⟩:=at0 hj b0 g1.2.2
  exact k2 H ρ (agj vi) _ ⟨.refl r H,si vj,g3 _ (agi vj) _ ⟨g1.1,by rw[← comm];exact k1.2⟩⟩
 rcases Bool.or_eq_true _ _▸hcl with hcl|hcl
 ·have hcl:(cls md oi.op=1∧cls md oj.op=1)∨(cls md oi.op=1∧cls md oj.op=2)∨(cls md oi.op=2∧cls md oj.op=1):=by
   simp only[clsOk,Bool.or_eq_true,Bool.and_eq_true,Nat.beq_eq_true_eq] at hcl
   have e: ∀x y:Nat,Nat.beq x y=true→x=y:=fun x y h=>Nat.eq_of_beq_eq_true h
   rcases hcl with (((h|h)|h)|h)|h
   ·exact absurd (by first|exact h|exact e _ _ h) a0
   ·exact absurd (by first|exact h|exact e _ _ h) b0
   ·exact .inl ⟨by first|exact h.1|exact e _ _ h.1,by first|exact h.2|exact e _ _ h.2⟩
   ·exact .inr (.inl ⟨by first|exact h.1|exact e _ _ h.1,by first|exact h.2|exact e _ _ h.2⟩)
   ·exact .inr (.inr ⟨by first|exact h.1|exact e _ _ h.1,by first|exact h.2|exact e _ _ h.2⟩)
  rcases hcl with ⟨ci,cj⟩|⟨ci,cj⟩|⟨ci,cj⟩
  ·obtain ⟨vi,g1,g2⟩:=at1 hi ci h
   obtain ⟨vj,k1,k2⟩:=at1 hj cj g1.2.2
   exact k2 H (fun _ _=>rfl) ρ (agj vi) _ ⟨.refl r H,si vj,g2 H (fun _ _=>rfl) _ (agi vj) _ ⟨.refl r H,by rw[← comm];exact k1.2⟩⟩
  ·obtain ⟨vi,g1,g2⟩:=at1 hi ci h
   obtain ⟨vj,new,k1,k2⟩:=at2 hj cj g1.2.2
   exact k2 ρ (agj vi) _ ⟨.push r H new,si vj,g2 _ (grow new) _ (agi vj) _ ⟨.refl r _,by rw[← comm];exact k1.2⟩⟩
  ·obtain ⟨vi,new,g1,g2⟩:=at2 hi ci h
   obtain ⟨vj,k1,k2⟩:=at1 hj cj g1.2.2
   exact k2 H (fun b hb'=>(grow new b hb').symm) ρ (agj vi) _ ⟨.refl r H,si vj,g2 _ (agi vj) _ ⟨.push r H new,by rw[← comm];exact k1.2⟩⟩
 ·rcases Bool.or_eq_true _ _▸hcl with hcl|hcl
  ·obtain ⟨vi,g1,g2⟩:=at_ld hi hcl hsi h
   obtain ⟨vj,H2,k1,k2,k3⟩:=at3 hj g1.2.2
   exact k3 ρ (agj vi) _ ⟨k1.1,si vj,g2 H2 (fun hr=>k1.1 (by omega)) _ (agi vj) _ ⟨.refl r H2,by rw[← comm];exact k1.2⟩⟩
  ·obtain ⟨vi,H1,g1,g2,g3⟩:=at3 hi h
   obtain ⟨vj,k1,k2⟩:=at_ld hj hcl g1.2.1 g1.2.2
   exact k2 H (fun hr=>(g1.1 (by omega)).symm) ρ (agj vi) _ ⟨.refl r H,si vj,g3 _ (agi vj) _ ⟨g1.1,by rw[← comm];exact k1.2⟩⟩
theorem opR_mono {i:Nat} {K K':(Nat→AV)→Heap→Prop} (h:opR P tt r T md base ops n i ρ H K) (hk: ∀ρ' H',H.length≤H'.length→K ρ' H'→K' ρ' H'):opR P tt r T md base ops n i ρ H K':=⟨h.1,opAt_mono h.2 fun ρ' H' hl hh=>⟨hh.1,hk ρ' H' hl hh.2⟩⟩
theorem bubbleR {i:Nat} {b:List Nat} {K:(Nat→AV)→Heap→Prop} (a:List Nat): ∀(ρ:Nat→AV) (H:Heap),base≤H.length→(∀ x∈a,swR md T ops x i=true)→
  awpR P tt r T md base ops n (a++i::b) ρ H K→opR P tt r T md base ops n i ρ H fun ρ' H'=>awpR P tt r T md base ops n (a++b) ρ' H' K:=by
 induction a with
 |nil=>intro ρ H _ _ h;exact h
 |cons x a ih=>
  intro ρ H hb hs h
  have h':opR P tt r T md base ops n x ρ H fun ρ1 H1=>opR P tt r T md base ops n i ρ1 H1 fun ρ2 H2=>awpR P tt r T md base ops n (a++b) ρ2 H2 K:=
   opR_mono (K:=fun ρ1 H1=>awpR P tt r T md base ops n (a++i::b) ρ1 H1 K) h fun ρ1 H1 hl hh=>ih ρ1 H1 (Nat.le_trans hb hl) (fun y hy=>hs y (by simp[hy])) hh
  exact swapR (hs x (by simp)) hb h'
def floatB (md:Nat) (T:TypeId) (ops:Array Oper):Bool:=
 (List.range ops.size).all fun i=>match ops[i]? with
  |none=>false
  |some o=>(o.after.all fun e=> !Region.binds .any e||Nat.blt e.on i)&&(List.range i).all fun x=>(o.after.any fun e=>Region.binds .any e&&Nat.beq e.on x)||(swR md T ops x i||depB ops 5 i x)
theorem any_float (hT:TTok P tt) (hB:floatB md T ops=true) {K:(Nat→AV)→Heap→Prop} {Q:Exit→Act→World→Prop}: ∀(fuel:Nat) (listed:Array Bool) (s:St) (p:PQ) (σ:List Nat) (a:Act) (w:World),
  listed.size=ops.size→Cl ops listed→(unl ops listed).length=fuel→Rel p σ s a w→base≤s.H.length→awpR P tt r T md base ops s.n (unl ops listed) (get s.ρ) s.H K→
  (∀ (s':St) (p':PQ) (σ':List Nat) (a':Act) (w':World),Ext p w p' w'→Mono σ σ'→Rel p' σ' s' a' w'→s'.m=s.m→s'.n=s.n→s'.df=s.df→K (get s'.ρ) s'.H→Q .normal a' w')→
  wpAnyIn (Fr ro) n P .any ops Q fuel listed a w:=by
 have hchk: ∀i o,ops[i]? =some o→(∀ e∈o.after,Region.binds .any e=true→e.on<i)∧ ∀x,x<i→(∃ e∈o.after,Region.binds .any e=true∧e.on=x)∨(swR md T ops x i=true∨depB ops 5 i x=true):=fun i o ho=>by
  have hi:i<ops.size:=(Array.getElem?_eq_some_iff.1 ho).1
  have:=List.all_eq_true.1 hB i (List.mem_range.2 hi)
  rw[ho] at this
  simp only[Bool.and_eq_true,List.all_eq_true,List.mem_range,Bool.or_eq_true,Array.any_eq_true',Array.all_eq_true_iff_forall_mem] at this
  refine⟨fun e he hb=>?_,fun x hx=>?_⟩
  ·have:=this.1 e he
   rw[hb] at this
   simpa [Nat.blt_eq] using this
  ·rcases this.2 x hx with ⟨e,he,h1⟩|h1
   ·exact .inl ⟨e,he,h1.1,Nat.eq_of_beq_eq_true h1.2⟩
   ·exact .inr h1
 have hready: ∀(listed:Array Bool) (i:Nat),i∈Region.ready .any ops listed→i∈unl ops listed∧ ∃o,ops[i]? =some o∧ ∀e∈o.after,Region.binds .any e=true→listed.getD e.on false=true:=fun listed i hi=>by
  obtain ⟨h1,o,ho,h2⟩:=mem_ready.1 hi
  exact⟨mem_unl.2 ⟨(Array.getElem?_eq_some_iff.1 ho).1,h1⟩,o,ho,h2⟩
 intro fuel
 induction fuel with
 |zero=>
  intro listed s p σ a w hs hcl hl hR hb h hk
  have hnil:unl ops listed=[]:=List.length_eq_zero_iff.1 hl
  rw[hnil] at h
  refine⟨?_,hk s p σ a w (.refl p w) (.refl σ) hR rfl rfl rfl h⟩
  refine List.eq_nil_iff_forall_not_mem.2 fun i hi=>?_
  have:=(hready listed i hi).1
  rw[hnil] at this
  simp at this
 |succ fuel ih=>
  intro listed s p σ a w hs hcl hl hR hb h hk
  refine⟨fun hnil=>?_,fun i hi=>?_⟩
  ·exfalso
   match hu:unl ops listed,hl with
   |x::r,_=>
    have hx:x∈unl ops listed:=hu▸(by simp)
    obtain ⟨hx1,hx2⟩:=mem_unl.1 hx
    have ho:ops[x]? =some ops[x]:=Array.getElem?_eq_getElem hx1
    have:x∈Region.ready .any ops listed:=mem_ready.2 ⟨hx2,ops[x],ho,fun e he hb=>by
     have hlt:=(hchk x _ ho).1 e he hb
     cases hg:listed.getD e.on false with
     |true=>rfl
     |false=>
      exfalso
      have:e.on∈unl ops listed:=mem_unl.2 ⟨by omega,by
       have:e.on<listed.size:=by omega
       simp[Array.getD_eq_getD_getElem?,this] at hg⊢
       exact hg⟩
      rw[hu] at this
      have hp:(x::r).Pairwise (· < ·):=hu▸unl_lt
      rcases List.mem_cons.1 this with h|h
      ·omega
      ·have:=(List.pairwise_cons.1 hp).1 _ h
       omega⟩
    rw[hnil] at this
    simp at this
  ·obtain ⟨hm,o,ho,hdeps⟩:=hready listed i hi
   obtain ⟨l1,l2,hsplit⟩:=List.append_of_mem hm
   have hp:(l1++i::l2).Pairwise (· < ·):=hsplit▸unl_lt
   rw[hsplit] at h
   have hsw: ∀x∈l1,swR md T ops x i=true:=fun x hx=>by
    have hxi:x<i:=(List.pairwise_append.1 hp).2.2 x hx i (by simp)
    rcases (hchk i o ho).2 x hxi with ⟨e,he,hbd,rfl⟩|h1|h1
    rotate_left
    ·exact h1
    ·exfalso
     have h3:=dep_listed hcl 5 i x (fun o' ho'=>by rw[ho] at ho';injection ho' with ho';subst ho';exact hdeps) h1
     have h2:=(mem_unl.1 (hsplit▸(by simp[hx]):x∈unl ops listed)).2
     have:x<listed.size:=by
      have:i<ops.size:=(Array.getElem?_eq_some_iff.1 ho).1
      omega
     simp[Array.getD_eq_getD_getElem?,this] at h3 h2
     rw[h3] at h2
     simp at h2
    ·exfalso
     have h1:=hdeps e he hbd
     have h2:=(mem_unl.1 (hsplit▸(by simp[hx]):e.on∈unl ops listed)).2
     have:e.on<listed.size:=by
      have:i<ops.size:=(Array.getElem?_eq_some_iff.1 ho).1
      omega
     simp[Array.getD_eq_getD_getElem?,this] at h1 h2
     rw[h1] at h2
     simp at h2
   have h2:=bubbleR l1 _ _ hb hsw h
   have h3:=opAt_mono (K':=fun ρ' H'=>base≤H'.length∧awpR P tt r T md base ops s.n (l1++l2) ρ' H' K) h2.2 fun ρ' H' hl hh=>⟨Nat.le_trans hb hl,hh.2⟩
   refine at_sound hT hR h3 fun s' p' σ' a' w' e1 e2 e3 e4 e5 e6 ⟨e7,e8⟩=>?_
   refine ih _ s' p' σ' a' w' (by simp[hs]) ?_ ?_ e3 e7 ?_ fun s2 p2 σ2 a2 w2 f1 f2 f3 f4 f5 f6 f7=>hk s2 p2 σ2 a2 w2 (e1.trans f1) (e2.trans f2) f3 (f4.trans e4) (f5.trans e5) (f6.trans e6) f7
   ·have hmon: ∀y,listed.getD y false=true→(listed.setIfInBounds i true).getD y false=true:=fun y hy=>by
     rw[Array.getD_eq_getD_getElem?,Array.getElem?_setIfInBounds]
     by_cases e:i=y
     ·subst e
      have:i<listed.size:=by rw[hs];exact(Array.getElem?_eq_some_iff.1 ho).1
      simp[this]
     ·rw[if_neg e,←Array.getD_eq_getD_getElem?];exact hy
    intro j o2 hj ho2 e he hb2
    refine hmon _ ?_
    by_cases hij:i=j
    ·subst hij
     rw[ho] at ho2;injection ho2 with ho2;subst ho2
     exact hdeps e he hb2
    ·rw[Array.getD_eq_getD_getElem?,Array.getElem?_setIfInBounds,if_neg hij,←Array.getD_eq_getD_getElem?] at hj
     exact hcl j o2 hj ho2 e he hb2
   ·rw[unl_set hs hsplit]
    rw[hsplit] at hl
    simp at hl⊢
    omega
   ·rw[unl_set hs hsplit,e5]
    exact e8
def stepR (P:Program) (tt:TT) (r:Nat) (T:TypeId) (md base:Nat) (ops:Array Oper) (i:Nat) (ih:St→(St→Prop)→Prop) (s:St) (K:St→Prop):Prop:=
 match s with
 |⟨ρ,n,H,m,df⟩=>match ops[i]? with
   |none=>False
   |some o=>match o.guard with
    |none=>sideK r T o.op (get ρ) (opKd P tt md base o.op (get ρ) H fun v H'=>keepK md r o.op H H' (putK ⟨ρ,n,H,m,df⟩ o.dst v H' fun s'=>ih s' K))
    |some (j,want)=>match (ops[j]?).bind (·.dst) with
     |none=>False
     |some t=>match get ρ t with
      |.d (.bool b)=>match want with
       |true=>Br b (sideK r T o.op (get ((t,.d (.bool true))::ρ)) (opKd P tt md base o.op (get ((t,.d (.bool true))::ρ)) H fun v H'=>keepK md r o.op H H' (putK ⟨(t,.d (.bool true))::ρ,n,H,m,df⟩ o.dst v H' fun s'=>ih s' K)))
         (putK ⟨(t,.d (.bool false))::ρ,n,H,m,df⟩ o.dst (.tup []) H fun s'=>ih s' K)
       |false=>Br b (putK ⟨(t,.d (.bool true))::ρ,n,H,m,df⟩ o.dst (.tup []) H fun s'=>ih s' K)
         (sideK r T o.op (get ((t,.d (.bool false))::ρ)) (opKd P tt md base o.op (get ((t,.d (.bool false))::ρ)) H fun v H'=>keepK md r o.op H H' (putK ⟨(t,.d (.bool false))::ρ,n,H,m,df⟩ o.dst v H' fun s'=>ih s' K)))
      |.tup vs=>match vs with
       |[]=>putK ⟨ρ,n,H,m,df⟩ o.dst (.tup []) H fun s'=>ih s' K
       |_=>False
      |_=>False
def awpE (P:Program) (tt:TT) (r:Nat) (T:TypeId) (md base:Nat) (ops:Array Oper) (l:List Nat):St→(St→Prop)→Prop:=
 @List.rec Nat (fun _=>St→(St→Prop)→Prop) nilKI (fun i _ ih=>stepR P tt r T md base ops i ih) l
theorem awpE_cons (P:Program) (tt:TT) (r:Nat) (T:TypeId) (md base:Nat) (ops:Array Oper) (i:Nat) (t:List Nat) (s:St) (K:St→Prop):awpE P tt r T md base ops (i::t) s K=stepR P tt r T md base ops i (awpE P tt r T md base ops t) s K:=rfl
theorem awpE_R {K:St→Prop} (l:List Nat): ∀(s:St),awpE P tt r T md base ops l s K→awpR P tt r T md base ops s.n l (get s.ρ) s.H fun ρ' H'=> ∃ρl,ρ'=get ρl∧K ⟨ρl,s.n,H',s.m,s.df⟩:=by
 induction l with
 |nil=>intro s h;obtain ⟨ρ,n,H,m,df⟩:=s;exact⟨ρ,rfl,h⟩
 |cons i t0 ih=>
  intro s h
  obtain ⟨ρ,n,H,m,df⟩:=s
  rw[awpE_cons] at h
  unfold stepR at h
  simp only at h
  unfold awpR opR opAt
  split at h
  ·exact h.elim
  rename_i o ho
  simp only[ho]
  have putE: ∀(ρ:Env) (v:AV) (H':Heap),(putK ⟨ρ,n,H,m,df⟩ o.dst v H' fun s'=>awpE P tt r T md base ops t0 s' K)→
    okDst n o.dst=true∧awpR P tt r T md base ops n t0 (updO (get ρ) o.dst v) H' fun ρ' H'=> ∃ρl,ρ'=get ρl∧K ⟨ρl,n,H',m,df⟩:=fun ρ v H' h=>by
   unfold putK at h
   simp only at h
   cases hd:o.dst with
   |none=>rw[hd] at h;exact⟨rfl,ih _ h⟩
   |some d=>
    rw[hd] at h
    simp only at h
    cases hb:Nat.blt d n with
    |false=>rw[hb] at h;exact h.elim
    |true=>rw[hb] at h;exact⟨hb,ih _ h⟩
  have skp: ∀(ρ:Env),(putK ⟨ρ,n,H,m,df⟩ o.dst (.tup []) H fun s'=>awpE P tt r T md base ops t0 s' K)→
    okDst n o.dst=true∧(Keep r H H∧awpR P tt r T md base ops n t0 (updO (get ρ) o.dst (.tup [])) H fun ρ' H'=> ∃ρl,ρ'=get ρl∧K ⟨ρl,n,H',m,df⟩):=fun ρ h=>by
   obtain ⟨g1,g2⟩:=putE ρ _ _ h
   exact⟨g1,.refl r H,g2⟩
  have run: ∀ρ:Env,(opKd P tt md base o.op (get ρ) H fun v H'=>keepK md r o.op H H' (putK ⟨ρ,n,H,m,df⟩ o.dst v H' fun s'=>awpE P tt r T md base ops t0 s' K))→
    okDst n o.dst=true∧opKd P tt md base o.op (get ρ) H fun v H'=>Keep r H H'∧awpR P tt r T md base ops n t0 (updO (get ρ) o.dst v) H' fun ρ' H'=> ∃ρl,ρ'=get ρl∧K ⟨ρl,n,H',m,df⟩:=fun ρ h=>by
   obtain ⟨v,H',h1,_,h2⟩:=opKd_det _ (opKd_keep _ h)
   obtain ⟨g1,g2⟩:=putE ρ v H' h1.2
   exact⟨g1,h2 (fun v H'=>Keep r H H'∧awpR P tt r T md base ops n t0 (updO (get ρ) o.dst v) H' fun ρ' H'=> ∃ρl,ρ'=get ρl∧K ⟨ρl,n,H',m,df⟩) ⟨h1.1,g2⟩⟩
  have yes: ∀ρ:Env,sideK r T o.op (get ρ) True→sideAt r T ops i (get ρ):=fun ρ h o' ho' _=>by
   rw[ho] at ho';injection ho' with ho';subst ho';exact h
  have no: ∀ρ:Env,gst ops o (get ρ)=some false→sideAt r T ops i (get ρ):=fun ρ h o' ho' hg=>by
   rw[ho] at ho';injection ho' with ho';subst ho';rw[h] at hg;simp at hg
  split at h
  ·rename_i hg
   have:gst ops o (get ρ)=some true:=by simp[gst,hg]
   rw[this]
   obtain ⟨h0,h⟩:=sideK_iff.1 h
   exact⟨yes ρ h0,run ρ h⟩
  ·rename_i j want hg
   split at h
   ·exact h.elim
   rename_i t ht
   split at h
   ·rename_i b hb
    have hgs:gst ops o (get ρ)=some (b==want):=by simp[gst,hg,ht,hb]
    have hsame:get ((t,AV.d (.bool b))::ρ)=get ρ:=by rw[get_cons];exact upd_same hb
    rw[hgs]
    split at h
    ·cases b
     ·have:=skp _ h
      rw[hsame] at this
      exact⟨no ρ hgs,this⟩
     ·obtain ⟨h0,h⟩:=sideK_iff.1 h
      have:=run _ h
      rw[hsame] at this h0
      exact⟨yes ρ h0,this⟩
    ·cases b
     ·obtain ⟨h0,h⟩:=sideK_iff.1 h
      have:=run _ h
      rw[hsame] at this h0
      exact⟨yes ρ h0,this⟩
     ·have:=skp _ h
      rw[hsame] at this
      exact⟨no ρ hgs,this⟩
   ·rename_i vs hb
    split at h
    ·have hgs:gst ops o (get ρ)=some false:=by simp[gst,hg,ht,hb]
     rw[hgs]
     exact⟨no ρ hgs,skp _ h⟩
    ·exact h.elim
   ·exact h.elim
theorem W_float (md r:Nat) (T:TypeId) (hT:TTok P tt) (hmx:P.follows .mixedOrders=true) {id:Nat} {Q:AEx→St→Prop} (hB:floatB md T ops=true) (h:awpE P tt r T md s.H.length ops (idxs ops.toList 0) s (Q .normal)):W P ro (.region id ops true) Q s:=by
 rw[idxs_eq] at h
 have h:=awpE_R _ s h
 rw[W_eq]
 intro p σ a w hR
 obtain ⟨hR',he⟩:=hR.drew
 refine wpIn_region_any hmx ?_
 have hu:unl ops (Array.replicate ops.size false)=List.range ops.size:=List.filter_eq_self.2 fun i hi=>by
  simp[List.mem_range.1 hi]
 refine any_float hT hB ops.size _ s p σ a _ (by simp) (fun i o hi=>by simp[Array.getD_eq_getD_getElem?,Array.getElem?_replicate] at hi;split at hi <;> simp at hi) (by rw[hu];simp) hR' (Nat.le_refl _) (by rw[hu];exact h) ?_
 rintro s' p' σ' a' w' e1 e2 e3 e4 e5 e6 ⟨ρl,h1,h2⟩
 refine⟨.normal,p',σ',⟨ρl,s.n,s'.H,s.m,s.df⟩,rfl,he.trans e1,mono_m e2 hR.heap hR.m,?_,rfl,rfl,h2⟩
 refine⟨by rw[e3.size,e5],?_,fun t=>by simp only;rw[← h1];exact e3.env t,e3.heap,by have:=e3.m;rw[e4] at this;exact this⟩
 have:=e3.df
 rw[e6] at this
 exact this
end
end Go.Eng
namespace Go.Eng
open Go
theorem Tri.wkA {P:Program} {f:FuncId} {args args0:List AV} {H:Heap} {Q:AV→Heap→Prop} (h:Tri P f args0 H Q) (hv:FVs (List.range H.length) [] H args args0):Tri P f args H Q:=by
 simp only[Tri_eq] at *
 obtain ⟨hl,hv⟩:=FVs_get hv
 refine⟨h.1,fun p σ w vs hH hs hvs=>h.2 p σ w vs hH (hs.trans hl) fun i y v hy hv'=>?_⟩
 have hi:i<args.length:=by rw[hl];exact(List.getElem?_eq_some_iff.1 hy).1
 have hx:args[i]? =some args[i]:=List.getElem?_eq_getElem hi
 have h1:=hvs i _ v hx hv'
 have h2:=VRel.fz hH (g:=List.range H.length) (σ':=σ) (fun i j h=>by
  obtain ⟨h3,h4⟩:=List.getElem?_eq_some_iff.1 h
  rw[List.getElem_range] at h4
  rw[h4]) (hv i _ y hx hy) v h1
 refine VRel.mono' (p:=pfz p σ H []) (p':=p) (σ:=σ) (σ':=σ) (w:=w) (w':=w) (fun b hb=>?_) (fun _ _=>rfl) (.refl w) (fun _ _ h=>h) h2
 rcases hb with hb|⟨⟨i,cs,g1,_⟩,_⟩
 ·exact hb
 ·simp at g1
end Go.Eng
namespace Go.Eng
open Go
theorem Wk_H {ρ:Env} {n m:Nat} {H:Heap} {df:List DF} {s2:St} (H2:Heap) (h:H=H2) (hw:Wk ⟨ρ,n,H2,m,df⟩ s2):Wk ⟨ρ,n,H,m,df⟩ s2:=by subst h;exact hw
end Go.Eng
namespace Go.Eng
open Go Go.Proofs
def oRow (d:Int) (f:Bool) (ws:List (List UInt8)) (j:Nat):List AV:=[.i d,.i (if 0<j then atoiV (wAt ws 0) else 0),.i (if 1<j then atoiV (wAt ws 1) else 0),.i (if 2<j then atoiV (wAt ws 2) else 0),.b f,.nsl]
theorem long_take {ws:List (List UInt8)} {n j:Nat} (hj:j<n) (hl:j<ws.length) (h:longW (wAt ws j)=true): ¬(n≤ws.length∧(ws.take n).any longW=false):=by
 rintro ⟨_,h2⟩
 have hm:wAt ws j∈ws.take n:=by
  have e:wAt ws j=ws[j]:=by unfold wAt;simp[hl]
  rw[e]
  exact List.mem_take_iff_getElem.2 ⟨j,by omega,rfl⟩
 have:=List.any_eq_false.1 h2 _ hm
 rw[h] at this
 simp at this
theorem take_long {ws:List (List UInt8)} {j:Nat} (hl:j<ws.length) (h:(ws.take j).any longW=false) (h2:longW (wAt ws j)=false):(ws.take (j+1)).any longW=false:=by
 have e:wAt ws j=ws[j]:=by unfold wAt;simp[hl]
 rw[List.take_succ_eq_append_getElem hl,List.any_append,h,←e]
 simp[h2]
set_option maxHeartbeats 1000000 in
theorem script_read (hFi: ∀r:List UInt8,r.length≤100000→Fn Tryz.prog 40 [.d (str r)] (.d (texts (fdL r)))) (s:List UInt8) (hs:s.length≤100000):Fn Tryz.prog 20 [.d (str s)] (.tup [aggD (rdV fdL s).1.cs,.b (rdV fdL s).2]):=by
 have hC:=cut_blank s (by omega)
 have hcl:=cut_len s
 unfold rdV
 generalize (cutV s).1=w at *
 generalize (cutV s).2=r at *
 have hPr:=prog_Parse r (by omega)
 have hF:=hFi r (by omega)
 have hK:=script_kinds
 have hI:=indexFunc_kind 39 [] [.ptr 0 0] [some (.row [.d (str w)])] (fun k=>kW k==w) fun k _=>script_read1 k w
 have hX:ix (fun k=>kW k==w) (List.range 26)=wix w:=rfl
 rw[hX] at hI
 have hcmp:((⟨w.toArray⟩:ByteArray).toList==(⟨([112,114,111,103,114,97,109]:List UInt8).toArray⟩:ByteArray).toList)=decide (w=wProg):=by rw[str_toList,str_toList];unfold wProg;exact Bool.eq_iff_iff.2 (by simp)
 by_cases hw:w=wProg
 ·rw[if_pos hw]
  rw[decide_eq_true hw] at hcmp
  generalize parseV r=pv at *
  obtain ⟨l,e⟩:=pv
  have hres:AV.tup [.agg [.i 6,.i 0,.i 0,.i 0,.b false,.d (stepsD l)],.b (e==0)]=.tup [aggD (OpR.cs ⟨6,0,0,0,false,l⟩),.b (decide (e=0))]:=rfl
  refine Fn_of tt_ok Tryz.func20 rfl (by decide) Tryz.ntmps20 rfl ?_
  repeat' ((conv=>whnf);(first
   |refine Br_true hcmp ?_
   |refine Fn.use (hC) rfl rfl ?_
   |refine Fn.use (hPr) rfl rfl ?_
   |refine fin0 rfl hres))
 rw[if_neg hw]
 rw[decide_eq_false hw] at hcmp
 clear hPr
 by_cases h0:wix w<0
 ·rw[if_pos h0]
  clear hF
  generalize wix w=i at *
  rw[show (AV.tup [aggD (op0,false).1.cs,.b (op0,false).2])=.tup [.agg [.i 0,.i 0,.i 0,.i 0,.b false,.d (.sl [])],.b false] from rfl]
  refine Fn_of tt_ok Tryz.func20 rfl (by decide) Tryz.ntmps20 rfl ?_
  repeat' ((conv=>whnf);(first
   |refine Br_false hcmp ?_
   |refine finD (F:=[]) (FV_tups ⟨FV_aggs ⟨.same _ rfl,.same _ rfl,.same _ rfl,.same _ rfl,.same _ rfl,.nsl,trivial⟩,.same _ rfl,trivial⟩)
   |refine Br_true (decide_eq_true (by omega)) ?_
   |refine Fn.use (hC) rfl rfl ?_
   |refine Fn.use (hK) rfl rfl ?_
   |refine Tri.call hI [1] rfl rfl ⟨⟨rfl,rfl⟩,trivial⟩ rfl rfl rfl rfl (r:=.i i) (H':=[some (.row [.i 0,.i 0,.i 0,.i 0,.b false,.nsl]),some (.row [.d (str w)])]) rfl rfl ?_))
 rw[if_neg h0]
 obtain ⟨k,e1,e2,e3⟩:=wix_hit (show 0≤wix w by omega)
 rw[e1] at hI⊢
 rw[Int.toNat_natCast]
 have hat:=kRows_at e2 (n:=(k:Int)) rfl
 have hk3:=(k_all ⟨k,e2⟩).2.2.2.2.2
 simp only at hk3
 unfold kRow at hat
 obtain ⟨K,hKe⟩: ∃K,K=kRows:=⟨_,rfl⟩
 rw[← hKe] at hat hK hI
 clear hKe e3 hw h0 e1 hX
 generalize kW k=kw at *
 generalize kD k=kd at *
 generalize kF k=kf at *
 generalize kN k=n at *
 generalize fdL r=ws at *
 have hWl:(List.map (fun l=>[str l]) ws).length=ws.length:=by simp
 have htr:=fun (x:List UInt8)=>trim_prefix x [45]
 have hat2:=fun (i:Nat) (h:i<ws.length) (m:Int) (hm:m=i)=>texts_w h hm
 refine Fn_of tt_ok Tryz.func20 rfl (by decide) Tryz.ntmps20 rfl ?_
 repeat' ((conv=>whnf);(first
  |refine Br_false hcmp ?_
  |refine Fn.use (hC) rfl rfl ?_
  |refine Fn.use (hK) rfl rfl ?_
  |refine Tri.call hI [1] rfl rfl ⟨⟨rfl,rfl⟩,trivial⟩ rfl rfl rfl rfl (r:=.i k) (H':=[some (.row [.i 0,.i 0,.i 0,.i 0,.b false,.nsl]),some (.row [.d (str w)])]) rfl rfl ?_
  |refine W_draw 0 tt_ok mixed (by kernel_rfl) ?_
  |refine Idx_in _ hat (by omega) rfl ?_
  |refine Fn.use (hF) rfl rfl ?_))
 have hz: ∀j,n≤j→rdN ws n j=0:=fun j hj=>by unfold rdN;rw[if_neg (by omega)]
 have hv: ∀j,j<n→rdN ws n j=atoiV (wAt ws j):=fun j hj=>by unfold rdN;rw[if_pos hj]
 refine Ch_l ?_
 repeat' ((conv=>whnf);(first
  |refine Len_in (fun hlen=>?_)
  |refine Idx_in _ hat (by omega) rfl ?_
  |refine Ch_l (Need_in ⟨by omega,by omega,by omega,rfl,by omega⟩ ?_)))
 refine W_loop (fun μ st=> ∃(j:Nat),j≤n∧μ=n-j∧j≤ws.length∧(ws.take j).any longW=false∧
   st=⟨[(2,.ptr 0 0),(11,.ptr 2 0),(12,.d (texts ws)),(63,.msl 3 0 n 3 1),(64,.i n),(65,.i j)],96,[some (.row [.i 0,.i 0,.i 0,.i 0,.b false,.nsl]),some (.row [.d (str w)]),some (.row (oRow kd kf ws j)),some (.row [.ptr 2 1,.ptr 2 2,.ptr 2 3])],0,[]⟩) n ⟨_,?_,0,by omega,by omega,by omega,rfl,rfl⟩ ?_
 ·refine Wk_H [some (.row [.i 0,.i 0,.i 0,.i 0,.b false,.nsl]),some (.row [.d (str w)]),some (.row (oRow kd kf ws 0)),some (.row [.ptr 2 1,.ptr 2 2,.ptr 2 3])] (by kernel_rfl) ?_
  rcases n_cases hk3 with rfl|rfl|rfl|rfl
  all_goals exact Wk_env (by repeat (first|exact trivial|refine⟨rfl,?_⟩))
 rintro μ s1 ⟨j,hj,rfl,hjl,hlg,rfl⟩
 refine W_run tt_ok ?_
 have hres:(AV.tup [aggD (op0,false).1.cs,.b (op0,false).2])=.tup [.agg [.i 0,.i 0,.i 0,.i 0,.b false,.d (.sl [])],.b false]:=rfl
 have hres2:(AV.tup [aggD ((⟨kd,rdN ws n 0,rdN ws n 1,rdN ws n 2,kf,[]⟩:OpR),true).1.cs,.b ((⟨kd,rdN ws n 0,rdN ws n 1,rdN ws n 2,kf,[]⟩:OpR),true).2])=.tup [.agg [.i kd,.i (rdN ws n 0),.i (rdN ws n 1),.i (rdN ws n 2),.b kf,.d (.sl [])],.b true]:=rfl
 by_cases hjn:j=n
 ·rw[if_pos ⟨by omega,by rw[← hjn];exact hlg⟩,hres2]
  subst hjn
  repeat' ((conv=>whnf);(first
   |refine finD (F:=[]) (FV_tups ⟨FV_aggs ⟨.same _ rfl,sameI rfl,sameI rfl,sameI rfl,.same _ rfl,.nsl,trivial⟩,.same _ rfl,trivial⟩)
   |refine Br_false (decide_eq_false (by omega)) ?_))
 by_cases hw2:j<ws.length
 rotate_left
 ·rw[if_neg (by rintro ⟨a,_⟩;omega),hres]
  rcases (by omega:j=0∨j=1∨j=2) with rfl|rfl|rfl
  all_goals
   repeat' ((conv=>whnf);(first
   |refine finD (F:=[]) (FV_tups ⟨FV_aggs ⟨.same _ rfl,.same _ rfl,.same _ rfl,.same _ rfl,.same _ rfl,.nsl,trivial⟩,.same _ rfl,trivial⟩)
   |refine Br_true (decide_eq_true (by omega)) ?_
   |refine Len_in (fun hlen=>?_)))
 have hx:=hat2 j hw2 j rfl
 have ht:=htr (wAt ws j)
 have hA:=atoi_any (wAt ws j)
 have hlw:longW (wAt ws j)=decide ((Lib.trimPrefix (wAt ws j) [45]).length>15):=rfl
 have hnx:=take_long hw2 hlg
 have hlt:=long_take (show j<n by omega) hw2
 generalize hto:Lib.trimPrefix (wAt ws j) [45]=tw at *
 have hsz:(⟨tw.toArray⟩:ByteArray).size=tw.length:=str_size tw
 by_cases hlong:tw.length>15
 ·rw[if_neg (hlt (by rw[hlw];simpa using hlong)),hres]
  have hbr:decide (((⟨tw.toArray⟩:ByteArray).size:Int)>15)=true:=by rw[hsz];simp;omega
  rcases (by omega:j=0∨j=1∨j=2) with rfl|rfl|rfl
  all_goals
   repeat' ((conv=>whnf);(first
    |refine Br_true hbr ?_
    |refine finD (F:=[]) (FV_tups ⟨FV_aggs ⟨.same _ rfl,.same _ rfl,.same _ rfl,.same _ rfl,.same _ rfl,.nsl,trivial⟩,.same _ rfl,trivial⟩)
    |refine Br_true (decide_eq_true (by omega)) ?_
    |refine Br_false (decide_eq_false (by omega)) ?_
    |refine Len_in (fun hlen=>?_)
    |refine Idx_in _ hx (by omega) rfl ?_
    |refine Fn.use (ht) rfl rfl ?_))
 ·have hbr:decide (((⟨tw.toArray⟩:ByteArray).size:Int)>15)=false:=by rw[hsz];simp;omega
  have hnx2:=hnx (by rw[hlw];simpa using hlong)
  rcases (by omega:j=0∨j=1∨j=2) with rfl|rfl|rfl
  ·repeat' ((conv=>whnf);(first
   |refine Br_false hbr ?_
   |refine Br_true (decide_eq_true (by omega)) ?_
   |refine Br_false (decide_eq_false (by omega)) ?_
   |refine Len_in (fun hlen=>?_)
   |refine Idx_in _ hx (by omega) rfl ?_
   |refine Fn.use (ht) rfl rfl ?_
   |refine Fn.use (hA) rfl rfl ?_
   |refine Back_in _ _ ⟨1,by omega,rfl,by omega,hnx2,rfl⟩ (by omega) ?_
   |refine ArK_in (wrap_i64 (by omega) (by omega)) ?_))
   exact Wk_H [some (.row [.i 0,.i 0,.i 0,.i 0,.b false,.nsl]),some (.row [.d (str w)]),some (.row (oRow kd kf ws 1)),some (.row [.ptr 2 1,.ptr 2 2,.ptr 2 3])] (by kernel_rfl) (Wk_env (by repeat (first|exact trivial|refine⟨rfl,?_⟩)))
  ·repeat' ((conv=>whnf);(first
   |refine Br_false hbr ?_
   |refine Br_true (decide_eq_true (by omega)) ?_
   |refine Br_false (decide_eq_false (by omega)) ?_
   |refine Len_in (fun hlen=>?_)
   |refine Idx_in _ hx (by omega) rfl ?_
   |refine Fn.use (ht) rfl rfl ?_
   |refine Fn.use (hA) rfl rfl ?_
   |refine Back_in _ _ ⟨2,by omega,rfl,by omega,hnx2,rfl⟩ (by omega) ?_
   |refine ArK_in (wrap_i64 (by omega) (by omega)) ?_))
   exact Wk_H [some (.row [.i 0,.i 0,.i 0,.i 0,.b false,.nsl]),some (.row [.d (str w)]),some (.row (oRow kd kf ws 2)),some (.row [.ptr 2 1,.ptr 2 2,.ptr 2 3])] (by kernel_rfl) (Wk_env (by repeat (first|exact trivial|refine⟨rfl,?_⟩)))
  ·repeat' ((conv=>whnf);(first
   |refine Br_false hbr ?_
   |refine Br_true (decide_eq_true (by omega)) ?_
   |refine Br_false (decide_eq_false (by omega)) ?_
   |refine Len_in (fun hlen=>?_)
   |refine Idx_in _ hx (by omega) rfl ?_
   |refine Fn.use (ht) rfl rfl ?_
   |refine Fn.use (hA) rfl rfl ?_
   |refine Back_in _ _ ⟨3,by omega,rfl,by omega,hnx2,rfl⟩ (by omega) ?_
   |refine ArK_in (wrap_i64 (by omega) (by omega)) ?_))
   exact Wk_H [some (.row [.i 0,.i 0,.i 0,.i 0,.b false,.nsl]),some (.row [.d (str w)]),some (.row (oRow kd kf ws 3)),some (.row [.ptr 2 1,.ptr 2 2,.ptr 2 3])] (by kernel_rfl) (Wk_env (by repeat (first|exact trivial|refine⟨rfl,?_⟩)))
end Go.Eng
namespace Go.Eng
open Go Go.Proofs Go.RowKit
theorem fdD_len: ∀(f:Nat) (cur l:List UInt8),(Lib.fieldsGoD f cur l).length≤f+1∧ ∀w∈Lib.fieldsGoD f cur l,w.length≤cur.length+l.length:=by
 intro f
 induction f with
 |zero=>
  intro cur l
  unfold Lib.fieldsGoD
  split
  ·simp
  ·simp
 |succ f ih=>
  intro cur l
  unfold Lib.fieldsGoD
  split
  ·split
   ·simp
   ·simp
  ·split
   ·obtain ⟨h1,h2⟩:=ih [] (l.drop (Lib.decodeL l).2)
    refine⟨?_,fun w hw=>?_⟩
    ·rw[List.length_append]
     split
     ·simp only[List.length_nil];omega
     ·simp only[List.length_cons,List.length_nil];omega
    ·rcases List.mem_append.1 hw with hw|hw
     ·split at hw
      ·simp at hw
      ·simp at hw;subst hw;omega
     ·have:=h2 w hw
      rw[List.length_drop,List.length_nil] at this
      omega
   ·obtain ⟨h1,h2⟩:=ih (cur++l.take (Lib.decodeL l).2) (l.drop (Lib.decodeL l).2)
    refine⟨by omega,fun w hw=>?_⟩
    have:=h2 w hw
    rw[List.length_drop,List.length_append,List.length_take] at this
    omega
theorem fdL_len (l:List UInt8):(fdL l).length≤l.length+2∧ ∀w∈fdL l,w.length≤l.length:=by
 have:=fdD_len (l.length+1) [] l
 unfold fdL Lib.fieldsD
 refine⟨by omega,fun w hw=>?_⟩
 have:=this.2 w hw
 simpa using this
theorem own_texts {p:PQ} {w w':World} (hlt: ∀b,p.u b→b<w.heap.size) (hb:Below w.heap.size w w') {A:Nat} (hA:w.heap.size≤A) {cur:Array Value} {t:TypeId} (hnew:w'.heap[A]? =some (.cells cur t (0,0)))
  (xs:List ByteArray) (hcur:cur.toList.take xs.length=xs.map Value.string) (hB:xs.length≤LB) (hx: ∀x∈xs,x.size≤LB) {cap:Nat} (hc:xs.length≤cap):
  ∃p',Ext p w p' w'∧(∀ b,p'.u b→b<w'.heap.size)∧VRel p' [] w' (.d (.sl (xs.map fun x=>[.str x]))) (.slice (some ⟨A,0,none⟩) xs.length cap):=by
 have hAs:A<w'.heap.size:=(Array.getElem?_eq_some_iff.1 hnew).1
 refine⟨⟨fun b=>p.r b∨b=A,fun b=>p.u b∨b=A,p.f,fun b h=>h.imp (p.sub b) id,fun b h=>.inl (p.fu b h),fun b h hr=>hr.elim (p.fr b h) fun e=>by
   have:=hlt b (p.fu b h);omega⟩,⟨fun b h=>.inl h,fun b h=>.inl h,fun b h=>h.imp id fun e hu=>by have:=hlt b hu;omega,fun b h=>h,fun b h=>.inl h,fun b h _=>hb.block b (hlt b h),.below hb⟩,fun b h=>?_,?_⟩
 ·rcases h with h|h
  ·have:=hlt b h;omega
  ·omega
 ·refine .sl _ _ _ _ 1 (fun i j=>.string (xs.getD i ByteArray.empty)) (by simp) hB hc (fun i row hr=>?_) (fun _=>⟨_,_,rfl,.inr rfl,fun i j hi hj=>?_⟩) (fun i row j x hr hx2=>?_)
  ·rw[List.getElem?_map] at hr
   cases hxi:xs[i]? with
   |none=>rw[hxi] at hr;simp at hr
   |some x=>rw[hxi] at hr;simp at hr;subst hr;rfl
  ·have:j=0:=by omega
   subst this
   have h1:cur[i]? =some (.string (xs.getD i ByteArray.empty)):=by
    have h2:(cur.toList.take xs.length)[i]? =cur.toList[i]? :=by rw[List.getElem?_take];simp[hi]
    rw[hcur] at h2
    rw[← Array.getElem?_toList,←h2]
    simp[List.getD,hi]
   unfold World.cell?
   simp only[hnew]
   simpa using h1
  ·rw[List.getElem?_map] at hr
   cases hxi:xs[i]? with
   |none=>rw[hxi] at hr;simp at hr
   |some y=>
    rw[hxi] at hr
    simp at hr
    subst hr
    cases j with
    |zero=>
     simp at hx2
     subst hx2
     have:xs.getD i ByteArray.empty=y:=by simp[List.getD,hxi]
     rw[this]
     exact .str _ (hx y (List.mem_of_getElem? hxi))
    |succ j=>simp at hx2
theorem fields_c (l:List UInt8) (hl:l.length≤100000):Fn Tryz.prog 40 [.d (str l)] (.d (texts (fdL l))):=
 Fn_lift (Ent_of Tryz.func40 rfl (by decide)) fun p w vs hg hlt hs hv=>by
  obtain rfl:=vs_1 hs (arg_str hs hv 0 rfl).1
  obtain ⟨_,_,_,_,h5,h6⟩:=hg
  have hsz:(⟨l.toArray⟩:ByteArray).size=l.length:=str_size l
  refine(Tryz.strings_Fields_any ⟨l.toArray⟩ w (by omega) h5 h6).mono fun e w' ⟨A,he,hA,⟨ho1,ho2⟩,hb⟩=>?_
  have hfd:Lib.fieldsD (⟨l.toArray⟩:ByteArray).data.toList=fdL l:=by unfold fdL;rfl
  rw[hfd] at he ho1 ho2
  have hfl:=fdL_len l
  generalize fdL l=ws at *
  rcases ho2 with ⟨hbad,_⟩|⟨g,cap,cur,hg1,hg2,hg3,hg4,hg5,hg6,hg7⟩
  ·exact absurd hbad (by simp)
  ·injection hg1 with a1 a2 a3
   injection a1 with a1
   injection a1 with a1
   subst a1 a3
   obtain ⟨p',h1,h2,h3⟩:=own_texts hlt hb hA hg3 (ws.map fun x=>(⟨x.toArray⟩:ByteArray)) (by
    rw[List.length_map,List.map_map]
    rw[Nat.mul_one] at hg7
    exact hg7) (by rw[List.length_map];unfold LB;omega) (fun x hx=>by
    obtain ⟨y,hy,rfl⟩:=List.mem_map.1 hx
    have:=hfl.2 y hy
    rw[str_size];unfold LB;omega) (cap:=ws.length) (by rw[List.length_map];exact Nat.le_refl _)
   refine⟨_,p',he,h1,h2,?_⟩
   have e1:(.d (texts ws):AV)=.d (.sl ((ws.map fun x=>(⟨x.toArray⟩:ByteArray)).map fun x=>[.str x])):=by unfold texts;rw[List.map_map];rfl
   rw[e1]
   rw[List.length_map] at h3
   exact h3
end Go.Eng

namespace Go.Eng
open Go
end Go.Eng
namespace Go.Eng
open Go
structure SameBut (x y:Node):Prop where
 kind:x.kind=y.kind
 tag:x.tag=y.tag
 parent:x.parent=y.parent
 kids:x.kids=y.kids
 host:x.host=y.host
 root:x.root=y.root
end Go.Eng
namespace Go.Eng
open Go
theorem ex_map {α:Type} (f:α→List D): ∀rows:List (List D),(∀ r∈rows,∃a,r=f a)→ ∃l:List α,rows=l.map f:=by
 intro rows
 induction rows with
 |nil=>intro _;exact⟨[],rfl⟩
 |cons r t ih=>
  intro h
  obtain ⟨a,rfl⟩:=h r (by simp)
  obtain ⟨l,rfl⟩:=ih fun r hr=>h r (by simp[hr])
  exact⟨a::l,rfl⟩
abbrev i64:Sh:=.int .i64
theorem has_int {d:D} (h:HasSh i64 d): ∃n:Int,d=.i n:=by cases h with|int _ n h=>exact⟨n,rfl⟩
theorem has_int2 {d:D} (h:HasSh i64 d): ∃n:Int,d=.i n∧ -9223372036854775808≤n∧n≤9223372036854775807:=by
 cases h with
 |int _ n h=>
  refine⟨n,rfl,?_⟩
  simpa [Lit.wf,IntKind.min,IntKind.max,IntKind.signed,IntKind.bits] using h
theorem has_str {d:D} (h:HasSh .str d): ∃l:List UInt8,d=str l:=by
 cases h with
 |str s=>exact⟨s.data.toList,by show D.str s=.str _;rw[str_of]⟩
theorem arg_one {P:Program} {t:TypeId} {s:Sh} {x:AV} (h:ArgOk P t x) (hf:flat P 8 t=some [s]) (hu: ∀ds,topAV P t ds=hd1 ds): ∃d,HasSh s d∧x=.d d:=by
 obtain ⟨shs,ds,h1,h2,h3⟩:=h
 rw[hf] at h1
 injection h1 with h1
 subst h1
 obtain ⟨g1,g2⟩:=h2
 match ds,g1,g2,h3 with
 |[d],_,g2,h3=>exact⟨d,g2 0 s d rfl rfl,by rw[h3,hu];rfl⟩
theorem arg_agg {P:Program} {t:TypeId} {shs:List Sh} {x:AV} (h:ArgOk P t x) (hf:flat P 8 t=some shs) (hu: ∀ds,topAV P t ds=.agg (ds.map .d)): ∃ds,Row shs ds∧x=.agg (ds.map .d):=by
 obtain ⟨shs',ds,h1,h2,h3⟩:=h
 rw[hf] at h1
 injection h1 with h1
 subst h1
 exact⟨ds,h2,by rw[h3,hu]⟩
theorem args_1 {P:Program} {t:TypeId} {xs:List AV} (h:ArgsOk P [t] xs): ∃x,xs=[x]∧ArgOk P t x:=by
 match xs,h with
 |[x],h=>exact⟨x,rfl,h.1⟩
theorem args_2 {P:Program} {t u:TypeId} {xs:List AV} (h:ArgsOk P [t,u] xs): ∃x y,xs=[x,y]∧ArgOk P t x∧ArgOk P u y:=by
 match xs,h with
 |[x,y],h=>exact⟨x,y,rfl,h.1,h.2.1⟩
end Go.Eng
namespace Go.Eng
open Go Go.Proofs
def rowsW (ws:List (List UInt8)):List (List D):=ws.map fun w=>[str w]
theorem rowsW_sz {ws:List (List UInt8)}: ∀r∈rowsW ws,r.length=1:=by
 intro r hr;unfold rowsW at hr;obtain ⟨x,_,rfl⟩:=List.mem_map.1 hr;rfl
theorem rowsW_app (ws:List (List UInt8)) (w:List UInt8):rowsW (ws++[w])=rowsW ws++[[str w]]:=by unfold rowsW;simp
theorem rowsW_len (ws:List (List UInt8)):(rowsW ws).length=ws.length:=by unfold rowsW;simp
set_option maxHeartbeats 1000000 in
theorem ref20_Split (s:List UInt8) (c:UInt8) (hs:s.length≤100000):Fn Tryz.prog 23 [.d (str s),.d (.int .u8 c.toNat)] (.d (texts (splitL c s))):=by
 refine Fn_of tt_ok Tryz.func23 rfl (by decide) Tryz.ntmps23 rfl ?_
 refine W_loop (fun μ st=> ∃(k fr:Nat) (out:List (List UInt8)),k≤s.length+1∧μ=s.length+1-k∧fr≤k∧out.length≤k∧(k≤s.length→splitL c s=out++splitL c (s.drop fr)∧c∉(s.drop fr).take (k-fr))∧(k=s.length+1→out=splitL c s)∧
   st=⟨[(0,.d (str s)),(1,.d (.int .u8 c.toNat)),(5,AccV 0 1 (rowsW out)),(6,.i fr),(7,.i k)],35,[AccB (rowsW out)],0,[]⟩) (s.length+1)
  ⟨⟨[(0,.d (str s)),(1,.d (.int .u8 c.toNat)),(5,.nsl),(6,.i 0),(7,.i 0)],35,[none],0,[]⟩,?_,0,0,[],by omega,by omega,by omega,by simp,fun _=>by simp,fun h=>by omega,by simp[rowsW,AccV_nil,AccB_nil]⟩ ?_
 ·exact Wk.trans Wk_pad (Wk_env (by repeat (first|exact trivial|refine⟨rfl,?_⟩)))
 rintro μ s1 ⟨k,fr,out,hk,rfl,hfr,hol,hI,hE,rfl⟩
 have hsz:(⟨s.toArray⟩:ByteArray).size=s.length:=str_size s
 refine W_run tt_ok ?_
 by_cases hlt:k≤s.length
 ·obtain ⟨h1,h2⟩:=hI hlt
  have hc1:(k:Int)≤((⟨s.toArray⟩:ByteArray).size:Int):=by rw[hsz];omega
  have e1:D.str ((⟨s.toArray⟩:ByteArray).extract (fr:Int).toNat (k:Int).toNat)=str ((s.drop fr).take (k-fr)):=by rw[str_extract];rfl
  have hra:=rowsW_app out ((s.drop fr).take (k-fr))
  have ha:=Acc_app (b:=0) (sz:=1) (rows:=rowsW out) (new:=[[D.str ((⟨s.toArray⟩:ByteArray).extract (fr:Int).toNat (k:Int).toNat)]]) (by simp)
  by_cases hend:k=s.length
  ·have hc2:(((k:Int))==((⟨s.toArray⟩:ByteArray).size:Int))=true:=by rw[hsz,hend];simp
   have hsp:splitL c (s.drop fr)=[(s.drop fr).take (k-fr)]:=by
    rw[List.take_of_length_le (by simp;omega)] at h2⊢
    exact split_plain c _ h2
   have hI':k+1≤s.length→splitL c s=(out++[(s.drop fr).take (k-fr)])++splitL c (s.drop (k+1))∧c∉(s.drop (k+1)).take (k+1-(k+1)):=fun h=>by omega
   have hE':k+1=s.length+1→out++[(s.drop fr).take (k-fr)]=splitL c s:=fun _=>by rw[h1,hsp]
   repeat' ((conv=>whnf);(first
    |refine Br_true (decide_eq_true hc1) ?_
    |refine Br_true hc2 ?_
    |refine Len_in (fun hlen=>?_)
    |refine force_in ?_))
   refine Need_in ⟨by omega,by omega,by rw[hsz];omega⟩ ?_
   skip
   refine Ch_r ?_
   conv=>whnf
   refine App_acc (rowsW out) [[D.str ((⟨s.toArray⟩:ByteArray).extract (fr:Int).toNat (k:Int).toNat)]] rfl rfl rfl rfl (by simp) rowsW_sz (by intro r hr;simp at hr;subst hr;rfl) (by rw[rowsW_len];simp only[List.length_cons,List.length_nil];omega) (Nat.le_of_ble_eq_true rfl) ?_
   repeat' ((conv=>whnf);(first
    |(refine Back_in ⟨[(0,.d (str s)),(1,.d (.int .u8 c.toNat)),(5,.msl 0 0 ((rowsW out).length+1) ((rowsW out).length+1) 1),(6,.i (k+1:Nat)),(7,.i (k+1:Nat))],35,[some (.row ((rowsW out++[[D.str ((⟨s.toArray⟩:ByteArray).extract (fr:Int).toNat (k:Int).toNat)]]).flatten.map .d))],0,[]⟩ _ ⟨k+1,k+1,out++[(s.drop fr).take (k-fr)],by omega,rfl,by omega,by simp;omega,hI',hE',?_⟩ (by omega) (Wk_ren [1] rfl rfl ⟨⟨by rw[renB_row];rfl,lowB_row _ _⟩,trivial⟩ (by repeat (first|exact trivial|refine⟨⟨rfl,rfl⟩,?_⟩)) (by decide) (by omega)))
    |refine ArK_in (wrap_i64 (by omega) (by omega)) ?_))
   rw[hra,←e1,ha.1,ha.2]
   rfl
  ·have hlt2:k<s.length:=by omega
   have hc2:(((k:Int))==((⟨s.toArray⟩:ByteArray).size:Int))=false:=by rw[hsz];simp;omega
   have hby:(⟨s.toArray⟩:ByteArray).data.toList[(k:Int).toNat]? =some s[k]:=by simp[hlt2]
   have hdr:s.drop fr=(s.drop fr).take (k-fr)++s[k]::s.drop (k+1):=by
    have:=List.take_append_drop (k-fr) (s.drop fr)
    rw[List.drop_drop,show fr+(k-fr)=k by omega,List.drop_eq_getElem_cons hlt2] at this
    exact this.symm
   by_cases hq:s[k]=c
   ·have hc3:(((s[k].toNat:Nat):Int)==((c.toNat:Nat):Int))=true:=by rw[hq];simp
    have hI':k+1≤s.length→splitL c s=(out++[(s.drop fr).take (k-fr)])++splitL c (s.drop (k+1))∧c∉(s.drop (k+1)).take (k+1-(k+1)):=fun h=>by
     refine⟨?_,by simp⟩
     rw[h1,hdr,hq,split_app c _ _ h2,List.append_assoc,←hq,←hdr]
     rfl
    have hE':k+1=s.length+1→out++[(s.drop fr).take (k-fr)]=splitL c s:=fun h=>by omega
    repeat' ((conv=>whnf);(first
     |refine Br_true (decide_eq_true hc1) ?_
     |refine Br_false hc2 ?_
     |refine Br_true hc3 ?_
     |refine Len_in (fun hlen=>?_)
     |refine Byte_in _ hby (by omega) ?_
     |refine force_in ?_))
    refine Need_in ⟨by omega,by omega,by rw[hsz];omega⟩ ?_
    skip
    refine Ch_r ?_
    conv=>whnf
    refine App_acc (rowsW out) [[D.str ((⟨s.toArray⟩:ByteArray).extract (fr:Int).toNat (k:Int).toNat)]] rfl rfl rfl rfl (by simp) rowsW_sz (by intro r hr;simp at hr;subst hr;rfl) (by rw[rowsW_len];simp only[List.length_cons,List.length_nil];omega) (Nat.le_of_ble_eq_true rfl) ?_
    repeat' ((conv=>whnf);(first
     |(refine Back_in ⟨[(0,.d (str s)),(1,.d (.int .u8 c.toNat)),(5,.msl 0 0 ((rowsW out).length+1) ((rowsW out).length+1) 1),(6,.i (k+1:Nat)),(7,.i (k+1:Nat))],35,[some (.row ((rowsW out++[[D.str ((⟨s.toArray⟩:ByteArray).extract (fr:Int).toNat (k:Int).toNat)]]).flatten.map .d))],0,[]⟩ _ ⟨k+1,k+1,out++[(s.drop fr).take (k-fr)],by omega,rfl,by omega,by simp;omega,hI',hE',?_⟩ (by omega) (Wk_ren [1] rfl rfl ⟨⟨by rw[renB_row];rfl,lowB_row _ _⟩,trivial⟩ (by repeat (first|exact trivial|refine⟨⟨rfl,rfl⟩,?_⟩)) (by decide) (by omega)))
     |refine ArK_in (wrap_i64 (by omega) (by omega)) ?_))
    rw[hra,←e1,ha.1,ha.2]
    rfl
   ·have hc3:(((s[k].toNat:Nat):Int)==((c.toNat:Nat):Int))=false:=by
     rw[beq_eq_false_iff_ne]
     intro e
     exact hq (UInt8.toNat_inj.1 (by omega))
    have hI':k+1≤s.length→splitL c s=out++splitL c (s.drop fr)∧c∉(s.drop fr).take (k+1-fr):=fun h=>by
     refine⟨h1,?_⟩
     rw[hdr,List.take_append,List.take_of_length_le (by simp;omega)]
     simp only[List.mem_append,not_or]
     refine⟨h2,?_⟩
     have e2:k+1-fr-((s.drop fr).take (k-fr)).length=1:=by simp;omega
     rw[e2,List.take_succ_cons,List.take_zero,List.mem_singleton]
     exact fun e=>hq e.symm
    have hE':k+1=s.length+1→out=splitL c s:=fun h=>by omega
    repeat' ((conv=>whnf);(first
     |refine Br_true (decide_eq_true hc1) ?_
     |refine Br_false hc2 ?_
     |refine Br_false hc3 ?_
     |refine Len_in (fun hlen=>?_)
     |refine Byte_in _ hby (by omega) ?_
     |refine Back_in _ _ ⟨k+1,fr,out,by omega,rfl,by omega,by omega,hI',hE',rfl⟩ (by omega) (Wk_env (by repeat (first|exact trivial|refine⟨rfl,?_⟩)))
     |refine ArK_in (wrap_i64 (by omega) (by omega)) ?_))
 ·have hk2:k=s.length+1:=by omega
  have hc1: ¬(k:Int)≤((⟨s.toArray⟩:ByteArray).size:Int):=by rw[hsz];omega
  have ho:=hE hk2
  subst ho
  repeat' ((conv=>whnf);(first
   |refine Br_false (decide_eq_false hc1) ?_
   |refine Len_in (fun hlen=>?_)
   |refine finW (Fin_acc (rowsW (splitL c s)) rfl rowsW_sz (Nat.zero_le _) rfl trivial) ⟨rfl,rfl⟩
   |refine force_in ?_))
theorem wrap_u8x {e:Int} (h1:0≤e) (h2:e≤255):IntKind.u8.wrap e=e:=by
 simp only[IntKind.wrap,IntKind.signed,IntKind.bits];simp;omega
theorem dec_lenx (f:Nat): ∀n:Nat,n<10 ^ f→(Lib.decDigits n).length≤f+1:=by
 induction f with
 |zero=>
  intro n h
  have:n=0:=by simpa using h
  subst this;rw[Lib.decDigits.eq_def];simp
 |succ f ih=>
  intro n h
  rw[Lib.decDigits.eq_def n]
  split
  ·simp
  ·have:=ih (n / 10) (by rw[Nat.pow_succ] at h;omega)
   simp only[List.length_append,List.length_cons,List.length_nil];omega
theorem ref_Digits (f:Nat): ∀n:Nat,n<10 ^ f→0<f→f≤20→n≤9223372036854775807→Fn Tryz.prog 52 [.i n] (.d (str (Lib.decDigits n))):=by
 induction f with
 |zero=>intro n _ h;omega
 |succ f ih=>
  intro n hn _ hf hm
  refine Fn_of tt_ok Tryz.func52 rfl (by decide) Tryz.ntmps52 rfl ?_
  have e1:(n:Int).tmod 10=((n % 10:Nat):Int):=rfl
  have e2:(n:Int).tdiv 10=((n / 10:Nat):Int):=rfl
  have w1:IntKind.i64.wrap (48+(n:Int).tmod 10)=48+(n:Int).tmod 10:=wrap_i64 (by rw[e1];omega) (by rw[e1];omega)
  have w2:IntKind.u8.wrap (48+(n:Int).tmod 10)=48+(n:Int).tmod 10:=wrap_u8x (by rw[e1];omega) (by rw[e1];omega)
  have w3:IntKind.i64.wrap ((n:Int).tdiv 10)=(n:Int).tdiv 10:=wrap_i64 (by rw[e2];omega) (by rw[e2];omega)
  have hc:(UInt8.ofNat (48+n % 10)).toNat=48+n % 10:=by rw[UInt8.toNat_ofNat'];omega
  have ht:[[D.int .u8 (48+(n:Int).tmod 10)]]=[UInt8.ofNat (48+n % 10)].map (fun c=>[D.int .u8 c.toNat]):=by
   rw[e1];simp only[List.map_cons,List.map_nil,hc];rfl
  by_cases h10:10≤n
  ·have hd:Lib.decDigits n=Lib.decDigits (n / 10)++[UInt8.ofNat (48+n % 10)]:=by rw[Lib.decDigits.eq_def n,dif_neg (by omega)]
   have h1:decide ((n:Int)≥10)=true:=decide_eq_true (by omega)
   have hf0:0<f:=by
    rcases Nat.eq_zero_or_pos f with h|h
    ·subst h;omega
    ·exact h
   have hi:=ih (n / 10) (by rw[Nat.pow_succ] at hn;omega) hf0 (by omega) (by omega)
   rw[← e2] at hi
   have hl:=dec_lenx f (n / 10) (by rw[Nat.pow_succ] at hn;omega)
   have hsz:(⟨(Lib.decDigits (n / 10)).toArray⟩:ByteArray).size+(⟨[UInt8.ofNat (48+n % 10)].toArray⟩:ByteArray).size≤LB:=by
    rw[str_size,str_size];unfold LB;simp;omega
   have hres:(.d (.str ((⟨(Lib.decDigits (n / 10)).toArray⟩:ByteArray)++⟨[UInt8.ofNat (48+n % 10)].toArray⟩)):AV)=.d (str (Lib.decDigits n)):=by rw[str_app,hd]
   generalize Lib.decDigits (n / 10)=dl at *
   repeat' ((conv=>whnf);(first
    |refine Br_true h1 ?_
    |refine Ch_r ?_
    |refine Need_in (by omega) ?_
    |refine ArK_in w1 ?_
    |refine ArK_in w2 ?_
    |refine ArK_in w3 ?_
    |refine Text_in _ ht ?_
    |refine Fn.use (hi) rfl rfl ?_
    |refine fin0 rfl hres))
  ·have hd:Lib.decDigits n=[UInt8.ofNat (48+n % 10)]:=by rw[Lib.decDigits.eq_def n,dif_pos (by omega),Nat.mod_eq_of_lt (by omega)]
   have h1:decide ((n:Int)≥10)=false:=decide_eq_false (by omega)
   rw[hd]
   repeat' ((conv=>whnf);(first
    |refine Br_false h1 ?_
    |refine Ch_r ?_
    |refine Need_in (by omega) ?_
    |refine ArK_in w1 ?_
    |refine ArK_in w2 ?_
    |refine Text_in _ ht ?_
    |refine fin0 rfl ?_))
   rfl
theorem ref_dig (n:Nat) (h:n≤9223372036854775807):Fn Tryz.prog 52 [.i n] (.d (str (Lib.decDigits n))):=
 ref_Digits 20 n (Nat.lt_of_le_of_lt h (by decide)) (by omega) (by omega) h
end Go.Eng
namespace Go.Eng
open Go Go.Proofs
def namesT:List (List D):=(List.range 15).map fun k=>[str (nameL k)]
theorem names_at {n:Int} (h:0≤n∧n≤14):namesT[n.toNat]? =some [str (nameL n.toNat)]:=by
 unfold namesT
 rw[List.getElem?_map,List.getElem?_range (by omega)]
 rfl
set_option maxHeartbeats 2000000 in
theorem ref20_Name (n:Int):Fn Tryz.prog 50 [.i n] (.d (str (nameV n))):=by
 refine Fn_of tt_ok Tryz.func50 rfl (by decide) Tryz.ntmps50 rfl ?_
 by_cases h:0≤n∧n≤14
 ·have e:nameV n=nameL n.toNat:=by unfold nameV;rw[if_pos h]
  rw[e]
  have hi:=names_at h
  repeat' ((conv=>whnf);(first
   |refine Ch_r ?_
   |refine Br_false (decide_eq_false (by omega)) ?_
   |refine Idx_in _ hi (by omega) rfl ?_
   |refine fin0 rfl ?_))
  all_goals first|rfl|(exfalso;omega)
 ·have e:nameV n=[]:=by unfold nameV;rw[if_neg h]
  rw[e]
  repeat' ((conv=>whnf);(first
   |refine Ch_r ?_
   |refine Br_true (decide_eq_true (by omega)) ?_
   |refine Br_dec (fun h=>?_) (fun h=>?_)
   |refine fin0 rfl ?_))
  all_goals first|rfl|(exfalso;omega)
@[irreducible] def manyV (n:Int):Int:=if n=2∨n=4∨n=5 then 2 else if n=1∨11≤n then 0 else 1
theorem manyV_eq {n:Int} (h:0≤n∧n≤14):manyV n=manyN n.toNat:=by
 obtain ⟨k,rfl⟩: ∃k:Nat,n=k:=⟨n.toNat,by omega⟩
 have hk:k<15:=by omega
 have: ∀k:_root_.Fin 15,manyV (k.val:Int)=manyN k.val:=by unfold manyV;decide +kernel
 exact this ⟨k,hk⟩
theorem ref20_many (n:Int):Fn Tryz.prog 51 [.i n] (.i (manyV n)):=by
 refine Fn_of tt_ok Tryz.func51 rfl (by decide) Tryz.ntmps51 rfl ?_
 unfold manyV
 repeat' ((conv=>whnf);(first
  |refine Br_beq (fun h=>?_) (fun h=>?_)
  |refine Br_dec (fun h=>?_) (fun h=>?_)
  |refine fin0 rfl ?_))
 all_goals (simp only[AV.d.injEq,D.int.injEq,true_and];grind)
theorem ref20_step (x:Step):Fn Tryz.prog 74 [aggD x.cs] (.b (stepB x)):=by
 refine Fn_of tt_ok Tryz.func74 rfl (by decide) Tryz.ntmps74 rfl ?_
 have hm:=ref20_many x.f
 have e:stepB x=(decide (0≤x.f∧x.f≤14∧0≤x.a∧x.a≤63∧0≤x.b∧x.b≤63)&&(decide (0<manyV x.f)||decide (x.a=0))&&(decide (1<manyV x.f)||decide (x.b=0))):=by
  rw[Bool.eq_iff_iff,stepB_iff]
  simp only[Bool.and_eq_true,Bool.or_eq_true,decide_eq_true_eq,inM_iff]
  by_cases h:0≤x.f∧x.f≤14
  ·rw[manyV_eq h];grind
  ·grind
 rw[e]
 generalize manyV x.f=m at *
 repeat' ((conv=>whnf);(first
  |refine Br_beq (fun h=>?_) (fun h=>?_)
  |refine Br_false (decide_eq_false (by omega)) ?_
  |refine Br_dec (fun h=>?_) (fun h=>?_)
  |refine Fn.use (hm) rfl rfl ?_
  |refine fin0 rfl ?_))
 all_goals (simp only[AV.d.injEq,D.bool.injEq];rw[Bool.eq_iff_iff];simp;try omega)
theorem ref20_Check (l:List Step):Fn Tryz.prog 49 [.d (stepsD l)] (.i (if checkB l then 0 else 1)):=by
 refine Fn_of tt_ok Tryz.func49 rfl (by decide) Tryz.ntmps49 rfl ?_
 have hcb:checkB l=true↔l.length≤16∧ ∀x∈l,stepB x=true:=checkB_iff
 generalize checkB l=q at *
 refine W_loop (fun μ s=> ∃(k:Nat),k≤l.length∧μ=l.length-k∧(∀ x∈l.take k,stepB x=true)∧
   s=⟨[(0,.d (stepsD l)),(3,.i k)],19,[],0,[]⟩) l.length
  ⟨_,?_,0,by simp,by simp,by simp,rfl⟩ ?_
 ·exact Wk_env (by repeat (first|exact trivial|refine⟨rfl,?_⟩))
 rintro μ s1 ⟨k,hk,rfl,hno,rfl⟩
 refine W_run tt_ok ?_
 refine Len_in (fun hlen=>?_)
 simp only[List.length_map] at hlen
 refine Br_dec (fun h=>?_) (fun h=>?_)
 ·simp at h
  have htk:l.take (k+1)=l.take k++[l[k]]:=List.take_succ_eq_append_getElem h
  have hi:(List.map Step.cs l)[(k:Int).toNat]? =some (l[k]).cs:=by simp[h]
  have hst:=ref20_step l[k]
  cases hq:stepB l[k] <;> rw[hq] at hst
  ·have e:q=false:=by
    cases hqq:q
    ·rfl
    ·have:=(hcb.1 hqq).2 _ (List.getElem_mem h);rw[hq] at this;simp at this
   rw[e]
   repeat' ((conv=>whnf);(first
    |refine Idx_in _ hi (by omega) rfl ?_
    |refine Fn.use (hst) rfl rfl ?_
    |refine fin0 rfl ?_))
   all_goals rfl
  ·repeat' ((conv=>whnf);(first
   |refine Idx_in _ hi (by omega) rfl ?_
   |refine Fn.use (hst) rfl rfl ?_
   |refine Back_in _ _ ⟨k+1,by omega,rfl,?_,rfl⟩ (by omega) (Wk_env (by repeat (first|exact trivial|refine⟨rfl,?_⟩)))
   |refine ArK_in (wrap_i64 (by omega) (by omega)) ?_))
   intro x hx
   rw[htk] at hx
   rcases List.mem_append.1 hx with hx|hx
   ·exact hno x hx
   ·simp at hx;subst hx;exact hq
 ·simp at h
  rw[List.take_of_length_le h] at hno
  have hll:(List.map Step.cs l).length=l.length:=by simp
  repeat' ((conv=>whnf);(first
   |refine Br_dec (fun h=>?_) (fun h=>?_)
   |refine Len_in (fun hlen=>?_)
   |refine fin0 rfl ?_))
  all_goals (simp only[hll] at *;cases q <;> simp at * <;> first|omega|(obtain ⟨x,hx,hx2⟩:=hcb (by omega);rw[hno x hx] at hx2;simp at hx2))
end Go.Eng
namespace Go.Eng
open Go Go.Proofs
theorem wrap_u8' {e:Int} (h1:0≤e) (h2:e≤255):IntKind.u8.wrap e=e:=by
 simp only[IntKind.wrap,IntKind.signed,IntKind.bits];simp;omega
theorem ref20_Digits (f:Nat): ∀n:Nat,n<10 ^ f→0<f→n<100→Fn Tryz.prog 52 [.i n] (.d (str (Lib.decDigits n))):=by
 induction f with
 |zero=>intro n _ h;omega
 |succ f ih=>
  intro n hn _ hm
  refine Fn_of tt_ok Tryz.func52 rfl (by decide) Tryz.ntmps52 rfl ?_
  have e1:(n:Int).tmod 10=((n % 10:Nat):Int):=rfl
  have e2:(n:Int).tdiv 10=((n / 10:Nat):Int):=rfl
  have w1:IntKind.i64.wrap (48+(n:Int).tmod 10)=48+(n:Int).tmod 10:=wrap_i64 (by rw[e1];omega) (by rw[e1];omega)
  have w2:IntKind.u8.wrap (48+(n:Int).tmod 10)=48+(n:Int).tmod 10:=wrap_u8' (by rw[e1];omega) (by rw[e1];omega)
  have w3:IntKind.i64.wrap ((n:Int).tdiv 10)=(n:Int).tdiv 10:=wrap_i64 (by rw[e2];omega) (by rw[e2];omega)
  have hc:(UInt8.ofNat (48+n % 10)).toNat=48+n % 10:=by rw[UInt8.toNat_ofNat'];omega
  have ht:[[D.int .u8 (48+(n:Int).tmod 10)]]=[UInt8.ofNat (48+n % 10)].map (fun c=>[D.int .u8 c.toNat]):=by
   rw[e1];simp only[List.map_cons,List.map_nil,hc];rfl
  by_cases h10:10≤n
  ·have hd:Lib.decDigits n=Lib.decDigits (n / 10)++[UInt8.ofNat (48+n % 10)]:=by rw[Lib.decDigits.eq_def n,dif_neg (by omega)]
   have h1:decide ((n:Int)≥10)=true:=decide_eq_true (by omega)
   have hf0:0<f:=by
    rcases Nat.eq_zero_or_pos f with h|h
    ·subst h;omega
    ·exact h
   have hi:=ih (n / 10) (by rw[Nat.pow_succ] at hn;omega) hf0 (by omega)
   rw[← e2] at hi
   have hl:=dec_len (n / 10) (by omega)
   have hsz:(⟨(Lib.decDigits (n / 10)).toArray⟩:ByteArray).size+(⟨[UInt8.ofNat (48+n % 10)].toArray⟩:ByteArray).size≤LB:=by
    rw[str_size,str_size];unfold LB;simp;omega
   have hres:(.d (.str ((⟨(Lib.decDigits (n / 10)).toArray⟩:ByteArray)++⟨[UInt8.ofNat (48+n % 10)].toArray⟩)):AV)=.d (str (Lib.decDigits n)):=by rw[str_app,hd]
   generalize Lib.decDigits (n / 10)=dl at *
   repeat' ((conv=>whnf);(first
    |refine Br_true h1 ?_
    |refine Ch_r ?_
    |refine Need_in (by omega) ?_
    |refine ArK_in w1 ?_
    |refine ArK_in w2 ?_
    |refine ArK_in w3 ?_
    |refine Text_in _ ht ?_
    |refine Fn.use (hi) rfl rfl ?_
    |refine fin0 rfl hres))
  ·have hd:Lib.decDigits n=[UInt8.ofNat (48+n % 10)]:=by rw[Lib.decDigits.eq_def n,dif_pos (by omega),Nat.mod_eq_of_lt (by omega)]
   have h1:decide ((n:Int)≥10)=false:=decide_eq_false (by omega)
   rw[hd]
   repeat' ((conv=>whnf);(first
    |refine Br_false h1 ?_
    |refine Ch_r ?_
    |refine Need_in (by omega) ?_
    |refine ArK_in w1 ?_
    |refine ArK_in w2 ?_
    |refine Text_in _ ht ?_
    |refine fin0 rfl ?_))
   rfl
theorem ref20_dig (n:Nat) (h:n<100):Fn Tryz.prog 52 [.i n] (.d (str (Lib.decDigits n))):=ref20_Digits 2 n (by omega) (by omega) h
theorem ref20_number (w:List UInt8):Fn Tryz.prog 73 [.d (str w)] (.i (numV w)):=by
 refine Fn_of tt_ok Tryz.func73 rfl (by decide) Tryz.ntmps73 rfl ?_
 refine W_loop (fun μ s=> ∃(k:Nat),k≤64∧μ=64-k∧(∀ j (h:j<(List.range 64).length),j<k→(fun n=>Lib.decDigits n==w) (List.range 64)[j]=false)∧
   s=⟨[(0,.d (str w)),(3,.i k)],13,[],0,[]⟩) 64
  ⟨_,?_,0,by simp,by simp,by simp,rfl⟩ ?_
 ·exact Wk_env (by repeat (first|exact trivial|refine⟨rfl,?_⟩))
 rintro μ s1 ⟨k,hk,rfl,hno,rfl⟩
 refine W_run tt_ok ?_
 have hd:=ix_drop (fun n=>Lib.decDigits n==w) (List.range 64) k hno (by rw[List.length_range];exact hk)
 unfold numV
 refine Br_dec (fun h=>?_) (fun h=>?_)
 ·have h:k<64:=by omega
  rw[List.drop_eq_getElem_cons (by simpa using h)] at hd
  simp only[List.getElem_range,ix] at hd
  have hdg:=ref20_dig k (by omega)
  have hcase:((⟨(Lib.decDigits k).toArray⟩:ByteArray).toList==(⟨w.toArray⟩:ByteArray).toList)=(Lib.decDigits k==w):=by rw[str_toListP,str_toListP]
  cases hq:(Lib.decDigits k==w)
  ·rw[hq] at hcase
   repeat' ((conv=>whnf);(first
    |refine Br_false hcase ?_
    |refine Fn.use (hdg) rfl rfl ?_
    |refine Back_in _ _ ⟨k+1,by omega,rfl,?_,rfl⟩ (by omega) (Wk_env (by repeat (first|exact trivial|refine⟨rfl,?_⟩)))
    |refine ArK_in (wrap_i64 (by omega) (by omega)) ?_))
   intro j hj hjk
   rcases Nat.lt_succ_iff_lt_or_eq.1 hjk with h1|h1
   ·exact hno j hj h1
   ·subst h1;simpa using hq
  ·rw[hq] at hcase hd
   rw[hd]
   repeat' ((conv=>whnf);(first
    |refine Br_true hcase ?_
    |refine Fn.use (hdg) rfl rfl ?_
    |refine fin0 rfl ?_))
   simp
   omega
 ·have h:k=64:=by omega
  subst h
  rw[List.drop_eq_nil_of_le (by simp)] at hd
  rw[hd]
  repeat' ((conv=>whnf);(first
   |refine fin0 rfl ?_))
  rfl
end Go.Eng
namespace Go.Eng
open Go Go.Proofs
end Go.Eng
namespace Go.Eng
open Go Go.Proofs
set_option maxHeartbeats 4000000 in
theorem ref20_one (s:List UInt8) (hs:s.length≤100000):Fn Tryz.prog 47 [.d (str s)] (.tup [aggD (oneV s).1.cs,.b (oneV s).2]):=by
 refine Fn_of tt_ok Tryz.func47 rfl (by decide) Tryz.ntmps47 rfl ?_
 have hsp:=ref20_Split s 32 hs
 have hne:=splitL_ne 32 s
 unfold oneV
 generalize splitL 32 s=W at *
 have hl0:0<W.length:=List.length_pos_iff.2 hne
 have h0:=texts_at (n:=0) hl0 rfl
 have hg:goodW W=(decide (0≤kindOf (wordAt W 0))&&decide ((W.length:Int)=1+manyN (kindOf (wordAt W 0)).toNat)):=by unfold goodW;rfl
 have hkl:=kindOf_lt (wordAt W 0)
 have hWl:(List.map (fun l=>[str l]) W).length=W.length:=by simp
 repeat' ((conv=>whnf);(first
  |refine Fn.use (hsp) rfl rfl ?_))
 refine W_loop (fun μ st=> ∃(k:Nat),k≤15∧μ=15-k∧(∀ j:Nat,j<k→ ¬(nameL j=wordAt W 0∧(W.length:Int)=1+manyN j))∧
   st=⟨[(2,.ptr 0 0),(4,.d (texts W)),(5,.i k)],49,[some (.row [.i 0,.i 0,.i 0])],0,[]⟩) 15
  ⟨_,?_,0,by simp,by simp,by simp,rfl⟩ ?_
 ·exact Wk_env (by repeat (first|exact trivial|refine⟨rfl,?_⟩))
 rintro μ s1 ⟨k,hk,rfl,hno,rfl⟩
 refine W_run tt_ok ?_
 refine Br_dec (fun h=>?_) (fun h=>?_)
 ·have h:k<15:=by omega
  have hnm:=ref20_Name (k:Int)
  have hmy:=ref20_many (k:Int)
  rw[manyV_eq (by omega),Int.toNat_natCast] at hmy
  rw[show nameV (k:Int)=nameL k by unfold nameV;rw[if_pos (by omega),Int.toNat_natCast]] at hnm
  have hcase:((⟨(nameL k).toArray⟩:ByteArray).toList==(⟨(wordAt W 0).toArray⟩:ByteArray).toList)=(nameL k==wordAt W 0):=by rw[str_toListP,str_toListP]
  have hkk:=(name_all ⟨k,h⟩).1
  have hno': ¬(nameL k=wordAt W 0∧(W.length:Int)=1+manyN k)→ ∀j:Nat,j<k+1→ ¬(nameL j=wordAt W 0∧(W.length:Int)=1+manyN j):=fun hq j hj=>by
   rcases Nat.lt_succ_iff_lt_or_eq.1 hj with h1|h1
   ·exact hno j h1
   ·subst h1;exact hq
  have hm:=many_bd k
  by_cases hq:nameL k=wordAt W 0
  ·have hc1:((⟨(nameL k).toArray⟩:ByteArray).toList==(⟨(wordAt W 0).toArray⟩:ByteArray).toList)=true:=by rw[hcase,hq];simp
   have hc1':(!((⟨(nameL k).toArray⟩:ByteArray).toList==(⟨(wordAt W 0).toArray⟩:ByteArray).toList))=false:=by rw[hc1];rfl
   have hkW:kindOf (wordAt W 0)=(k:Int):=by rw[← hq];exact hkk
   rw[hkW,Int.toNat_natCast] at hg
   have hx:oneX W=⟨k,if 1≤manyN k then numV (wordAt W 1) else 0,if 2≤manyN k then numV (wordAt W 2) else 0⟩:=by unfold oneX;rw[hkW,Int.toNat_natCast]
   rw[hx]
   generalize nameL k=N at *
   generalize hmm:manyN k=m at *
   by_cases hlen:(W.length:Int)=1+m
   ·have e:goodW W=true:=by rw[hg];simp[hlen]
    rw[e,if_pos rfl]
    have hc2:(((List.map (fun l=>[str l]) W).length:Int)==1+m)=true:=by rw[hWl,hlen];simp
    have hn1:=ref20_number (wordAt W 1)
    have hn2:=ref20_number (wordAt W 2)
    generalize numV (wordAt W 1)=a at *
    generalize numV (wordAt W 2)=b at *
    rcases (by omega:m=0∨m=1∨m=2) with rfl|rfl|rfl
    ·have hst:=ref20_step ⟨k,0,0⟩
     repeat' ((conv=>whnf);(first
      |refine Br_false hc1' ?_
      |refine Br_false (bneF (by omega)) ?_
      |refine Idx_in _ h0 (by omega) rfl ?_
      |refine W_draw 0 tt_ok mixed (by kernel_rfl) ?_
      |refine CallF_in (hnm) rfl rfl ?_
      |refine Fn.use (hmy) rfl rfl ?_
      |refine CallF_in (hmy) rfl rfl ?_
      |refine CallF_in (hst) rfl rfl ?_
      |refine fin0 rfl ?_
      |refine ArK_in (wrap_i64 (by omega) (by omega)) ?_))
     rfl
    ·have hst:=ref20_step ⟨k,a,0⟩
     have h1:=texts_at (W:=W) (i:=1) (n:=1) (by omega) rfl
     repeat' ((conv=>whnf);(first
      |refine Br_false hc1' ?_
      |refine Br_false (bneF (by omega)) ?_
      |refine Idx_in _ h0 (by omega) rfl ?_
      |refine Idx_in _ h1 (by omega) rfl ?_
      |refine W_draw 0 tt_ok mixed (by kernel_rfl) ?_
      |refine CallF_in (hnm) rfl rfl ?_
      |refine Fn.use (hmy) rfl rfl ?_
      |refine CallF_in (hmy) rfl rfl ?_
      |refine CallF_in (hst) rfl rfl ?_
      |refine Fn.use (hn1) rfl rfl ?_
      |refine fin0 rfl ?_
      |refine ArK_in (wrap_i64 (by omega) (by omega)) ?_))
     rfl
    ·have hst:=ref20_step ⟨k,a,b⟩
     have h1:=texts_at (W:=W) (i:=1) (n:=1) (by omega) rfl
     have h2:=texts_at (W:=W) (i:=2) (n:=2) (by omega) rfl
     repeat' ((conv=>whnf);(first
      |refine Br_false hc1' ?_
      |refine Br_false (bneF (by omega)) ?_
      |refine Idx_in _ h0 (by omega) rfl ?_
      |refine Idx_in _ h1 (by omega) rfl ?_
      |refine Idx_in _ h2 (by omega) rfl ?_
      |refine W_draw 0 tt_ok mixed (by kernel_rfl) ?_
      |refine CallF_in (hnm) rfl rfl ?_
      |refine Fn.use (hmy) rfl rfl ?_
      |refine CallF_in (hmy) rfl rfl ?_
      |refine CallF_in (hst) rfl rfl ?_
      |refine Fn.use (hn1) rfl rfl ?_
      |refine Fn.use (hn2) rfl rfl ?_
      |refine fin0 rfl ?_
      |refine ArK_in (wrap_i64 (by omega) (by omega)) ?_))
     rfl
   ·have hc2:(((List.map (fun l=>[str l]) W).length:Int)==1+m)=false:=by rw[hWl];simpa using hlen
    repeat' ((conv=>whnf);(first
     |refine Br_false hc1' ?_
     |refine Br_true (bneT (by omega)) ?_
     |refine Idx_in _ h0 (by omega) rfl ?_
     |refine W_draw 0 tt_ok mixed (by kernel_rfl) ?_
     |refine CallF_in (hnm) rfl rfl ?_
     |refine CallF_in (hmy) rfl rfl ?_
     |refine Back_in _ _ ⟨k+1,by omega,rfl,hno' (fun hh=>hlen hh.2),rfl⟩ (by omega) (Wk_env (by repeat (first|exact trivial|refine⟨rfl,?_⟩)))
     |refine ArK_in (wrap_i64 (by omega) (by omega)) ?_))
  ·have hc1:((⟨(nameL k).toArray⟩:ByteArray).toList==(⟨(wordAt W 0).toArray⟩:ByteArray).toList)=false:=by rw[hcase];simpa using hq
   have hc1':(!((⟨(nameL k).toArray⟩:ByteArray).toList==(⟨(wordAt W 0).toArray⟩:ByteArray).toList))=true:=by rw[hc1];rfl
   repeat' ((conv=>whnf);(first
    |refine Br_true hc1' ?_
    |refine Idx_in _ h0 (by omega) rfl ?_
    |refine W_draw 0 tt_ok mixed (by kernel_rfl) ?_
    |refine CallF_in (hnm) rfl rfl ?_
    |refine Back_in _ _ ⟨k+1,by omega,rfl,hno' (fun hh=>hq hh.1),rfl⟩ (by omega) (Wk_env (by repeat (first|exact trivial|refine⟨rfl,?_⟩)))
    |refine ArK_in (wrap_i64 (by omega) (by omega)) ?_))
 ·have h:k=15:=by omega
  subst h
  have e:goodW W=false:=by
   rw[hg]
   by_cases hk0:0≤kindOf (wordAt W 0)
   ·have:=hno (kindOf (wordAt W 0)).toNat (by omega)
    rw[← kindOf_hit hk0] at this
    simp at this
    simp[this]
   ·simp[hk0]
  rw[e]
  repeat' ((conv=>whnf);(first
   |refine fin0 rfl ?_))
  rfl
end Go.Eng
namespace Go.Eng
open Go Go.Proofs
theorem joinL_snocP (c:UInt8) (u:List (List UInt8)) (w:List UInt8) (h:u≠[]):joinL c (u++[w])=joinL c u++c::w:=by
 rw[joinL_app c u [w] h (by simp)];rfl
set_option maxHeartbeats 4000000 in
theorem ref20_Text (l:List Step):Fn Tryz.prog 27 [.d (stepsD l)] (.d (str (textL l))):=by
 refine Fn_of tt_ok Tryz.func27 rfl (by decide) Tryz.ntmps27 rfl ?_
 have hch:=ref20_Check l
 cases hc:checkB l <;> rw[hc] at hch
 ·have e:textL l=[]:=by unfold textL;rw[hc];rfl
  rw[e]
  repeat' ((conv=>whnf);(first
   |refine Fn.use (hch) rfl rfl ?_
   |refine fin0 rfl ?_))
  all_goals rfl
 obtain ⟨h16,hst⟩:=checkB_iff.1 hc
 have e:textL l=joinL 59 (l.map textS):=by unfold textL;rw[if_pos hc]
 rw[e]
 repeat' ((conv=>whnf);(first
  |refine Fn.use (hch) rfl rfl ?_))
 refine W_loop (fun μ s=> ∃(k:Nat) (p:List UInt8),k≤l.length∧μ=l.length-k∧p=joinL 59 ((l.take k).map textS)∧s=⟨[(0,.d (stepsD l)),(3,.d (str p)),(4,.i k)],60,[],0,[]⟩) l.length
  ⟨_,?_,0,[],by omega,by omega,by simp[joinL],rfl⟩ ?_
 ·exact Wk_env (by repeat (first|exact trivial|refine⟨rfl,?_⟩))
 rintro μ s1 ⟨k,p,hk,rfl,hp,rfl⟩
 have hpl:p.length≤16 * 101:=by
  rw[hp]
  refine Nat.le_trans (joinL_len 59 _ 100 fun w hw=>?_) (Nat.mul_le_mul_right _ (by simp;omega))
  obtain ⟨x,hx,rfl⟩:=List.mem_map.1 hw
  exact textS_len (hst x (List.mem_of_mem_take hx))
 refine W_run tt_ok ?_
 refine Len_in (fun hlen=>?_)
 simp only[List.length_map] at hlen
 refine Br_dec (fun h=>?_) (fun h=>?_)
 ·simp at h
  have hlt:=h
  have hi:(List.map Step.cs l)[(k:Int).toNat]? =some (l[k]).cs:=by simp[hlt]
  have htk:l.take (k+1)=l.take k++[l[k]]:=List.take_succ_eq_append_getElem hlt
  have hm:=hst _ (List.getElem_mem hlt)
  have hse:=textS_len hm
  obtain ⟨g1,g2,g3,g4,g5⟩:=stepB_iff.1 hm
  rw[inM_iff] at g1 g2 g3
  have hnm:=ref20_Name l[k].f
  have hmy:=ref20_many l[k].f
  rw[manyV_eq g1] at hmy
  rw[show nameV l[k].f=nameL l[k].f.toNat by unfold nameV;rw[if_pos g1]] at hnm
  obtain ⟨na,ea⟩: ∃n:Nat,l[k].a=n:=⟨l[k].a.toNat,by omega⟩
  obtain ⟨nb,eb⟩: ∃n:Nat,l[k].b=n:=⟨l[k].b.toNat,by omega⟩
  have hda:=ref20_dig na (by omega)
  have hdb:=ref20_dig nb (by omega)
  have hla:=dec_len na (by omega)
  have hlb:=dec_len nb (by omega)
  have hln:=name_len l[k].f.toNat
  rw[← ea] at hda
  rw[← eb] at hdb
  have hbd:=many_bd l[k].f.toNat
  have ht:textS l[k]=joinL 32 (nameL l[k].f.toNat::((if 1≤manyN l[k].f.toNat then [Lib.decDigits na] else [])++(if 2≤manyN l[k].f.toNat then [Lib.decDigits nb] else []))):=by
   unfold textS wordsS num;rw[ea,eb];rfl
  have hn0:k=0→joinL 59 ((l.take (k+1)).map textS)=textS l[k]∧p=[]:=fun h0=>by
   subst h0;rw[htk];exact⟨by simp[joinL],by rw[hp];simp[joinL]⟩
  have hn1:0<k→joinL 59 ((l.take (k+1)).map textS)=p++59::textS l[k]:=fun h0=>by
   rw[htk,List.map_append,List.map_singleton,joinL_snocP 59 _ _ (by intro h;have:=congrArg List.length h;simp only[List.length_map,List.length_take,List.length_nil] at this;omega),←hp]
  rw[ht] at hn0 hn1
  generalize hms:manyN l[k].f.toNat=m at *
  generalize nameL l[k].f.toNat=N at *
  generalize Lib.decDigits na=A at *
  generalize Lib.decDigits nb=B at *
  have b2: ∀(f:Int) (a:Int) (b:Int),True:=fun _ _ _=>trivial
  rcases (by omega:m=0∨m=1∨m=2) with rfl|rfl|rfl
  ·by_cases h0:k=0
   ·obtain ⟨n0,hp0⟩:=hn0 h0
    have hz:decide ((k:Int)>0)=false:=decide_eq_false (by omega)
    have hres:AV.d (D.str ((⟨p.toArray⟩:ByteArray)++(⟨N.toArray⟩:ByteArray)))=.d (str (joinL 59 ((l.take (k+1)).map textS))):=by
     rw[n0,hp0];simp only[str_app];simp[joinL,str]
    repeat' ((conv=>whnf);(first
     |refine Br_false hz ?_
     |refine Idx_in _ hi (by omega) rfl ?_
     |refine Fn.use (hnm) rfl rfl ?_
     |refine Fn.use (hmy) rfl rfl ?_
     |(refine Need_in (by unfold LB;simp[ByteArray.size];omega) ?_)
     |(refine Back_in _ _ ⟨k+1,_,by omega,rfl,rfl,rfl⟩ (by omega) (Wk_env (by rw[← hres];repeat (first|exact trivial|refine⟨rfl,?_⟩))))
     |refine ArK_in (wrap_i64 (by omega) (by omega)) ?_))
   ·have n0:=hn1 (by omega)
    have hz:decide ((k:Int)>0)=true:=decide_eq_true (by omega)
    have hres:AV.d (D.str (((⟨p.toArray⟩:ByteArray)++(⟨[59].toArray⟩:ByteArray))++(⟨N.toArray⟩:ByteArray)))=.d (str (joinL 59 ((l.take (k+1)).map textS))):=by
     rw[n0];simp only[str_app];simp[joinL,str]
    repeat' ((conv=>whnf);(first
     |refine Br_true hz ?_
     |refine Idx_in _ hi (by omega) rfl ?_
     |refine Fn.use (hnm) rfl rfl ?_
     |refine Fn.use (hmy) rfl rfl ?_
     |(refine Need_in (by unfold LB;simp[ByteArray.size];omega) ?_)
     |(refine Back_in _ _ ⟨k+1,_,by omega,rfl,rfl,rfl⟩ (by omega) (Wk_env (by rw[← hres];repeat (first|exact trivial|refine⟨rfl,?_⟩))))
     |refine ArK_in (wrap_i64 (by omega) (by omega)) ?_))
  ·by_cases h0:k=0
   ·obtain ⟨n0,hp0⟩:=hn0 h0
    have hz:decide ((k:Int)>0)=false:=decide_eq_false (by omega)
    have hres:AV.d (D.str ((((⟨p.toArray⟩:ByteArray)++(⟨N.toArray⟩:ByteArray))++(⟨[32].toArray⟩:ByteArray))++(⟨A.toArray⟩:ByteArray)))=.d (str (joinL 59 ((l.take (k+1)).map textS))):=by
     rw[n0,hp0];simp only[str_app];simp[joinL,str]
    repeat' ((conv=>whnf);(first
     |refine Br_false hz ?_
     |refine Idx_in _ hi (by omega) rfl ?_
     |refine Fn.use (hnm) rfl rfl ?_
     |refine Fn.use (hmy) rfl rfl ?_
     |refine Fn.use (hda) rfl rfl ?_
     |(refine Need_in (by unfold LB;simp[ByteArray.size];omega) ?_)
     |(refine Back_in _ _ ⟨k+1,_,by omega,rfl,rfl,rfl⟩ (by omega) (Wk_env (by rw[← hres];repeat (first|exact trivial|refine⟨rfl,?_⟩))))
     |refine ArK_in (wrap_i64 (by omega) (by omega)) ?_))
   ·have n0:=hn1 (by omega)
    have hz:decide ((k:Int)>0)=true:=decide_eq_true (by omega)
    have hres:AV.d (D.str (((((⟨p.toArray⟩:ByteArray)++(⟨[59].toArray⟩:ByteArray))++(⟨N.toArray⟩:ByteArray))++(⟨[32].toArray⟩:ByteArray))++(⟨A.toArray⟩:ByteArray)))=.d (str (joinL 59 ((l.take (k+1)).map textS))):=by
     rw[n0];simp only[str_app];simp[joinL,str]
    repeat' ((conv=>whnf);(first
     |refine Br_true hz ?_
     |refine Idx_in _ hi (by omega) rfl ?_
     |refine Fn.use (hnm) rfl rfl ?_
     |refine Fn.use (hmy) rfl rfl ?_
     |refine Fn.use (hda) rfl rfl ?_
     |(refine Need_in (by unfold LB;simp[ByteArray.size];omega) ?_)
     |(refine Back_in _ _ ⟨k+1,_,by omega,rfl,rfl,rfl⟩ (by omega) (Wk_env (by rw[← hres];repeat (first|exact trivial|refine⟨rfl,?_⟩))))
     |refine ArK_in (wrap_i64 (by omega) (by omega)) ?_))
  ·by_cases h0:k=0
   ·obtain ⟨n0,hp0⟩:=hn0 h0
    have hz:decide ((k:Int)>0)=false:=decide_eq_false (by omega)
    have hres:AV.d (D.str ((((((⟨p.toArray⟩:ByteArray)++(⟨N.toArray⟩:ByteArray))++(⟨[32].toArray⟩:ByteArray))++(⟨A.toArray⟩:ByteArray))++(⟨[32].toArray⟩:ByteArray))++(⟨B.toArray⟩:ByteArray)))=.d (str (joinL 59 ((l.take (k+1)).map textS))):=by
     rw[n0,hp0];simp only[str_app];simp[joinL,str]
    repeat' ((conv=>whnf);(first
     |refine Br_false hz ?_
     |refine Idx_in _ hi (by omega) rfl ?_
     |refine Fn.use (hnm) rfl rfl ?_
     |refine Fn.use (hmy) rfl rfl ?_
     |refine Fn.use (hda) rfl rfl ?_
     |refine Fn.use (hdb) rfl rfl ?_
     |(refine Need_in (by unfold LB;simp[ByteArray.size];omega) ?_)
     |(refine Back_in _ _ ⟨k+1,_,by omega,rfl,rfl,rfl⟩ (by omega) (Wk_env (by rw[← hres];repeat (first|exact trivial|refine⟨rfl,?_⟩))))
     |refine ArK_in (wrap_i64 (by omega) (by omega)) ?_))
   ·have n0:=hn1 (by omega)
    have hz:decide ((k:Int)>0)=true:=decide_eq_true (by omega)
    have hres:AV.d (D.str (((((((⟨p.toArray⟩:ByteArray)++(⟨[59].toArray⟩:ByteArray))++(⟨N.toArray⟩:ByteArray))++(⟨[32].toArray⟩:ByteArray))++(⟨A.toArray⟩:ByteArray))++(⟨[32].toArray⟩:ByteArray))++(⟨B.toArray⟩:ByteArray)))=.d (str (joinL 59 ((l.take (k+1)).map textS))):=by
     rw[n0];simp only[str_app];simp[joinL,str]
    repeat' ((conv=>whnf);(first
     |refine Br_true hz ?_
     |refine Idx_in _ hi (by omega) rfl ?_
     |refine Fn.use (hnm) rfl rfl ?_
     |refine Fn.use (hmy) rfl rfl ?_
     |refine Fn.use (hda) rfl rfl ?_
     |refine Fn.use (hdb) rfl rfl ?_
     |(refine Need_in (by unfold LB;simp[ByteArray.size];omega) ?_)
     |(refine Back_in _ _ ⟨k+1,_,by omega,rfl,rfl,rfl⟩ (by omega) (Wk_env (by rw[← hres];repeat (first|exact trivial|refine⟨rfl,?_⟩))))
     |refine ArK_in (wrap_i64 (by omega) (by omega)) ?_))
 ·simp at h
  have hw:l.take k=l:=List.take_of_length_le h
  rw[hw] at hp
  rw[← hp]
  repeat' ((conv=>whnf);(first
   |refine fin0 rfl ?_))
  rfl
end Go.Eng
namespace Go.Eng
open Go Go.Proofs
set_option maxHeartbeats 2000000 in
theorem ref20_Parse (s:List UInt8) (hs:s.length≤100000):Fn Tryz.prog 22 [.d (str s)] (.tup [.d (stepsD (parseV s).1),.i (parseV s).2]):=by
 refine Fn_of tt_ok Tryz.func22 rfl (by decide) Tryz.ntmps22 rfl ?_
 by_cases hn:s=[]
 ·subst hn
  have e:parseV []=([],0):=by unfold parseV;rfl
  rw[e]
  have hb:((⟨#[]⟩:ByteArray).toList==(⟨#[]⟩:ByteArray).toList)=true:=by simp
  repeat' ((conv=>whnf);(first
   |refine Br_true hb ?_
   |refine finD (F:=[]) (FV_tup2 .nsl (.same _ rfl))))
 have hb:((⟨s.toArray⟩:ByteArray).toList==(⟨#[]⟩:ByteArray).toList)=false:=by
  rw[str_toListP,show (⟨#[]⟩:ByteArray).toList=[] from str_toListP []]
  simpa using hn
 have hsl:=split_mem_len 59 s
 have hsp:=ref20_Split s 59 hs
 have hwl:=split_len 59 s
 have e:parseV s=if (splitL 59 s).length≤16∧ ∀w∈splitL 59 s,(readV w).2=true then ((splitL 59 s).map fun w=>(readV w).1,0) else ([],13):=by unfold parseV;rw[if_neg hn]
 generalize splitL 59 s=ws at *
 repeat' ((conv=>whnf);(first
  |refine Br_false hb ?_
  |refine Fn.use (hsp) rfl rfl ?_))
 refine W_loop (fun μ st=> ∃(k:Nat) (w:List Step),k≤ws.length∧k≤16∧μ=ws.length-k∧w=(ws.take k).map (fun x=>(readV x).1)∧(∀ x∈ws.take k,(readV x).2=true)∧
   st=⟨[(4,AccV 0 3 (w.map Step.cs)),(5,.d (texts ws)),(6,.i k)],39,[AccB (w.map Step.cs)],0,[]⟩) ws.length
  ⟨⟨[(4,.nsl),(5,.d (texts ws)),(6,.i 0)],39,[none],0,[]⟩,?_,0,[],by omega,by omega,by omega,by simp,by simp,by simp[AccV_nil,AccB_nil]⟩ ?_
 ·exact Wk.trans Wk_pad (Wk_env (by repeat (first|exact trivial|refine⟨rfl,?_⟩)))
 rintro μ s1 ⟨k,w,hk,hk16,rfl,hw,hok,rfl⟩
 have hwk:w.length=k:=by rw[hw];simp;omega
 refine W_run tt_ok ?_
 refine Len_in (fun hlen=>?_)
 refine Br_dec (fun h=>?_) (fun h=>?_)
 ·have hlt:k<ws.length:=by simp at h;omega
  have hmem:=List.getElem_mem hlt
  have hi:=texts_at (W:=ws) (n:=k) hlt rfl
  have hwe:wordAt ws k=ws[k]:=by unfold wordAt;simp[List.getD_eq_getElem?_getD,hlt]
  rw[hwe] at hi
  have hln:=hsl _ hmem
  have hon:=ref20_one ws[k] (by omega)
  obtain ⟨o1,o2⟩:=one_read ws[k]
  have htk:ws.take (k+1)=ws.take k++[ws[k]]:=List.take_succ_eq_append_getElem hlt
  have hwn:(ws.take (k+1)).map (fun x=>(readV x).1)=w++[(readV ws[k]).1]:=by rw[htk,List.map_append,←hw];rfl
  have hokn:(readV ws[k]).2=true→ ∀x∈ws.take (k+1),(readV x).2=true:=fun hq x hx=>by
   rw[htk] at hx
   rcases List.mem_append.1 hx with hx|hx
   ·exact hok x hx
   ·simp at hx;subst hx;exact hq
  have hbad:(readV ws[k]).2=false∨16≤k→parseV s=([],13):=fun hq=>by
   rw[e,if_neg]
   rintro ⟨g1,g2⟩
   rcases hq with hq|hq
   ·rw[g2 _ hmem] at hq;simp at hq
   ·omega
  generalize readV ws[k]=rv at *
  generalize oneV ws[k]=ov at *
  obtain ⟨rx,rb⟩:=rv
  obtain ⟨ox,ob⟩:=ov
  dsimp only at *
  subst o1
  cases ob
  ·rw[hbad (.inl rfl)]
   repeat' ((conv=>whnf);(first
    |refine Idx_in _ hi (by omega) rfl ?_
    |refine Fn.use (hon) rfl rfl ?_
    |refine finD (F:=[]) (FV_tup2 .nsl (.same _ rfl))))
  ·have o3:=o2 rfl
   simp only[Prod.mk.injEq,and_true] at o3
   subst o3
   by_cases h16:16≤k
   ·rw[hbad (.inr h16)]
    have hc:decide ((k:Int)≥16)=true:=decide_eq_true (by omega)
    repeat' ((conv=>whnf);(first
     |refine Br_true hc ?_
     |refine Idx_in _ hi (by omega) rfl ?_
     |refine Fn.use (hon) rfl rfl ?_
     |refine finD (F:=[]) (FV_tup2 .nsl (.same _ rfl))))
   ·have hc:decide ((k:Int)≥16)=false:=decide_eq_false (by omega)
    have ha:=Acc_app (b:=0) (sz:=3) (rows:=w.map Step.cs) (new:=[ox.cs]) (by simp)
    repeat' ((conv=>whnf);(first
     |refine Br_false hc ?_
     |refine Idx_in _ hi (by omega) rfl ?_
     |refine Fn.use (hon) rfl rfl ?_
     |refine force_in ?_))
    refine Ch_r ?_
    conv=>whnf
    refine App_acc (w.map Step.cs) [ox.cs] rfl rfl rfl rfl (by simp) cs3 (by intro r hr;simp at hr;subst hr;rfl) (by simp only[List.length_map,List.length_cons,List.length_nil];omega) (Nat.le_of_ble_eq_true rfl) ?_
    repeat' ((conv=>whnf);(first
     |(refine Back_in ⟨[(4,.msl 0 0 ((w.map Step.cs).length+1) ((w.map Step.cs).length+1) 3),(5,.d (texts ws)),(6,.i (k+1:Nat))],39,[some (.row ((w.map Step.cs++[ox.cs]).flatten.map .d))],0,[]⟩ _ ⟨k+1,w++[ox],by omega,by omega,rfl,hwn.symm,hokn rfl,?_⟩ (by omega) (Wk_ren [2] rfl rfl ⟨⟨by rw[renB_row];rfl,lowB_row _ _⟩,trivial⟩ (by repeat (first|exact trivial|refine⟨⟨rfl,rfl⟩,?_⟩)) (by decide) (by omega)))
     |refine ArK_in (wrap_i64 (by omega) (by omega)) ?_))
    rw[List.map_append,show List.map Step.cs [ox]=[ox.cs] from rfl,ha.1,ha.2]
    rfl
 ·have hkl:ws.length≤k:=by simp at h;omega
  rw[List.take_of_length_le hkl] at hw hok
  rw[e,if_pos ⟨by omega,hok⟩,←hw]
  repeat' ((conv=>whnf);(first
   |refine finD (F:=[0]) (FV_tup2 (FV_acc _ rfl cs3) (.same _ rfl))
   |refine force_in ?_))
theorem steps_eq: ∀(a b:List Step),a=b↔a.length=b.length∧ ∀(i:Nat) (h1:i<a.length) (h2:i<b.length),a[i]=b[i]:=fun a b=>
 ⟨fun h=>by subst h;exact⟨rfl,fun _ _ _=>rfl⟩,fun ⟨h1,h2⟩=>List.ext_getElem h1 h2⟩
theorem ref20_Same (a b:List Step):Fn Tryz.prog 29 [.d (stepsD a),.d (stepsD b)] (.b (decide (a=b))):=by
 refine Fn_of tt_ok Tryz.func29 rfl (by decide) Tryz.ntmps29 rfl ?_
 have hal:(List.map Step.cs a).length=a.length:=by simp
 have hbl:(List.map Step.cs b).length=b.length:=by simp
 by_cases hl:a.length=b.length
 ·have hc:(((List.map Step.cs a).length:Int)==((List.map Step.cs b).length:Int))=true:=by rw[hal,hbl,hl];simp
  have hc':(!(((List.map Step.cs a).length:Int)==((List.map Step.cs b).length:Int)))=false:=by rw[hc];rfl
  repeat' ((conv=>whnf);(first
   |refine Br_false hc' ?_
   |refine Len_in (fun hlen=>?_)))
  refine W_loop (fun μ st=> ∃(k:Nat),k≤a.length∧μ=a.length-k∧(∀ i (h1:i<a.length) (h2:i<b.length),i<k→a[i]=b[i])∧
    st=⟨[(0,.d (stepsD a)),(1,.d (stepsD b)),(5,.i k)],26,[],0,[]⟩) a.length
   ⟨_,?_,0,by omega,by omega,fun i _ _ h=>by omega,rfl⟩ ?_
  ·exact Wk_env (by repeat (first|exact trivial|refine⟨rfl,?_⟩))
  rintro μ s1 ⟨k,hk,rfl,hI,rfl⟩
  refine W_run tt_ok ?_
  refine Len_in (fun hlen=>?_)
  rw[hal] at hlen
  refine Br_dec (fun h=>?_) (fun h=>?_)
  ·have ha:k<a.length:=by rw[hal] at h;omega
   have hb:k<b.length:=by omega
   have hia:(List.map Step.cs a)[(k:Int).toNat]? =some (a[k]).cs:=by simp[ha]
   have hib:(List.map Step.cs b)[(k:Int).toNat]? =some (b[k]).cs:=by simp[hb]
   by_cases hq:a[k]=b[k]
   ·have hn: ∀i (h1:i<a.length) (h2:i<b.length),i<k+1→a[i]=b[i]:=fun i h1 h2 h3=>by
     rcases Nat.lt_succ_iff_lt_or_eq.1 h3 with h4|h4
     ·exact hI i h1 h2 h4
     ·subst h4;exact hq
    have hall:allB [a[k].f==b[k].f,a[k].a==b[k].a,a[k].b==b[k].b]=true:=by rw[hq];simp[allB]
    repeat' ((conv=>whnf);(first
     |refine Br_true hall ?_
     |refine Br_not ?_
     |refine W_draw 0 tt_ok mixed (by kernel_rfl) ?_
     |refine Idx_in _ hia (by omega) rfl ?_
     |refine Idx_in _ hib (by omega) rfl ?_
     |refine Back_in _ _ ⟨k+1,by omega,rfl,hn,rfl⟩ (by omega) (Wk_env (by repeat (first|exact trivial|refine⟨rfl,?_⟩)))
     |refine ArK_in (wrap_i64 (by omega) (by omega)) ?_))
   ·have e:decide (a=b)=false:=decide_eq_false fun h=>hq ((steps_eq a b).1 h |>.2 k ha hb)
    rw[e]
    have hall:allB [a[k].f==b[k].f,a[k].a==b[k].a,a[k].b==b[k].b]=false:=by
     cases hh:allB [a[k].f==b[k].f,a[k].a==b[k].a,a[k].b==b[k].b]
     ·rfl
     ·simp[allB] at hh
      exact absurd (by
       generalize a[k]=x at *
       generalize b[k]=y at *
       obtain ⟨x1,x2,x3⟩:=x
       obtain ⟨y1,y2,y3⟩:=y
       simp at hh
       obtain ⟨rfl,rfl,rfl⟩:=hh
       rfl) hq
    repeat' ((conv=>whnf);(first
     |refine Br_false hall ?_
     |refine Br_not ?_
     |refine W_draw 0 tt_ok mixed (by kernel_rfl) ?_
     |refine Idx_in _ hia (by omega) rfl ?_
     |refine Idx_in _ hib (by omega) rfl ?_
     |refine fin0 rfl ?_))
    rfl
  ·have hka:a.length≤k:=by rw[hal] at h;omega
   have e:decide (a=b)=true:=decide_eq_true ((steps_eq a b).2 ⟨hl,fun i h1 h2=>hI i h1 h2 (by omega)⟩)
   rw[e]
   repeat' ((conv=>whnf);(first
    |refine fin0 rfl ?_))
   rfl
 ·have hc:(((List.map Step.cs a).length:Int)==((List.map Step.cs b).length:Int))=false:=by rw[hal,hbl];simp;omega
  have hc':(!(((List.map Step.cs a).length:Int)==((List.map Step.cs b).length:Int)))=true:=by rw[hc];rfl
  have e:decide (a=b)=false:=decide_eq_false fun h=>hl (by rw[h])
  rw[e]
  repeat' ((conv=>whnf);(first
   |refine Br_true hc' ?_
   |refine Len_in (fun hlen=>?_)
   |refine fin0 rfl ?_))
  rfl
end Go.Eng
namespace Go.Eng
open Go Go.Proofs
theorem evV_ne {n:Int}:evV n≠[]↔0≤n∧n≤8:=by
 unfold evV
 by_cases h:0≤n∧n≤8
 ·rw[if_pos h]
  have:=(ev_all ⟨n.toNat,by omega⟩).2.2.1
  exact⟨fun _=>h,fun _=>this⟩
 ·rw[if_neg h];simp[h]
set_option maxHeartbeats 2000000 in
theorem tell_told (r:TRow):Fn Tryz.prog 92 [aggD r.cs] (.b (toldB r)):=by
 refine Fn_of tt_ok Tryz.func92 rfl (by decide) Tryz.ntmps92 rfl ?_
 have hev:=tell_Event r.type
 have hne:=@evV_ne r.type
 have ht:=@told_iff r
 generalize toldB r=q at *
 have hq:q=decide ((r.kind=0∧r.err=0∧0≤r.type∧r.type≤8)∨((r.kind=1∨r.kind=2)∧r.type=0∧r.node=0∧r.target=0∧r.related=0∧r.phase=0)∨(r.kind=3∧r.prog=0∧r.related=0∧r.phase=0)):=by
  cases q
  ·rw[eq_comm,decide_eq_false_iff_not];intro h;have:=ht.2 h;simp at this
  ·rw[eq_comm,decide_eq_true_eq];exact ht.1 rfl
 rw[hq]
 clear hq ht q
 generalize evV r.type=w at *
 have hw:((⟨w.toArray⟩:ByteArray).toList==(⟨#[]⟩:ByteArray).toList)=decide (w=[]):=by
  rw[str_toList,show (⟨#[]⟩:ByteArray).toList=[] from str_toList []]
  cases w <;> rfl
 repeat' ((conv=>whnf);(first
  |refine Br_true (beqT (by omega)) ?_
  |refine Br_beq (fun h=>?_) (fun h=>?_)
  |refine Br_bne (fun h=>?_) (fun h=>?_)
  |refine Fn.use (hev) rfl rfl ?_
  |refine fin0 rfl ?_))
 all_goals (clear hev;simp only[AV.d.injEq,D.bool.injEq,allB,hw];rw[Bool.eq_iff_iff];simp only[Bool.and_eq_true,Bool.not_eq_true',decide_eq_true_eq,decide_eq_false_iff_not,beq_iff_eq,Bool.false_eq_true,and_true,true_and,false_iff];grind)
end Go.Eng
namespace Go.Eng
open Go Go.Proofs
structure rngR (r:TRow):Prop where
 h1:i64B r.prog
 h2:i64B r.type
 h3:i64B r.node
 h4:i64B r.target
 h5:i64B r.related
 h6:i64B r.phase
 h7:i64B r.err
set_option maxHeartbeats 4000000 in
theorem tell_Row (r:TRow) (hr:rngR r):Fn Tryz.prog 61 [aggD r.cs] (.d (str (rowV r))):=by
 refine Fn_of tt_ok Tryz.func61 rfl (by decide) Tryz.ntmps61 rfl ?_
 have htd:=tell_told r
 cases ht:toldB r <;> rw[ht] at htd
 ·have e:rowV r=[]:=by unfold rowV;rw[ht];rfl
  rw[e]
  repeat' ((conv=>whnf);(first
   |refine Fn.use (htd) rfl rfl ?_
   |refine fin0 rfl ?_))
  all_goals rfl
 have hi:=told_iff.1 ht
 have e:rowV r=joinL 32 (wordsR r):=by unfold rowV;rw[if_pos ht]
 rw[e]
 unfold wordsR
 by_cases k0:r.kind=0
 ·rw[if_pos k0]
  have hty:0≤r.type∧r.type≤8:=by rcases hi with h|h|h <;> omega
  have hel:=(ev_all ⟨r.type.toNat,by omega⟩).2.2.2.1
  have hev:=tell_Event r.type
  rw[show evV r.type=evL r.type.toNat by unfold evV;rw[if_pos hty]] at hev
  have hl1:=tell_line wCall [r.prog] (by decide) (by simp) (by intro n hn;simp at hn;subst hn;exact hr.h1)
  have hl2:=tell_line (evL r.type.toNat) [r.node,r.target,r.related,r.phase] (Nat.le_trans hel (by omega)) (by simp) (by intro n hn;simp at hn;rcases hn with rfl|rfl|rfl|rfl <;> first|exact hr.h3|exact hr.h4|exact hr.h5|exact hr.h6)
  have hb1:=it_len hr.h1
  have hb3:=it_len hr.h3
  have hb4:=it_len hr.h4
  have hb5:=it_len hr.h5
  have hb6:=it_len hr.h6
  simp only[List.map_cons,List.map_nil] at hl1 hl2
  generalize evL r.type.toNat=ev at *
  generalize it r.prog=a1 at *
  generalize it r.node=a3 at *
  generalize it r.target=a4 at *
  generalize it r.related=a5 at *
  generalize it r.phase=a6 at *
  have hj1:(joinL 32 [wCall,a1]).length≤100:=by simp[joinL,wCall];omega
  have hj2:(joinL 32 [ev,a3,a4,a5,a6]).length≤200:=by simp[joinL];omega
  have hjj:joinL 32 [wCall,a1,ev,a3,a4,a5,a6]=joinL 32 [wCall,a1]++32::joinL 32 [ev,a3,a4,a5,a6]:=joinL_appT 32 [wCall,a1] [ev,a3,a4,a5,a6] (by simp) (by simp)
  rw[hjj]
  generalize joinL 32 [wCall,a1]=x at *
  generalize joinL 32 [ev,a3,a4,a5,a6]=y at *
  have hres:AV.d (D.str (((⟨x.toArray⟩:ByteArray)++⟨[32].toArray⟩)++⟨y.toArray⟩))=.d (str (x++32::y)):=by rw[str_app,str_app];simp[str]
  have z:(r.kind==0)=true:=by rw[k0];rfl
  repeat' ((conv=>whnf);(first
   |refine Br_true z ?_
   |refine W_draw 0 tt_ok mixed (by kernel_rfl) ?_
   |refine Fn.use (htd) rfl rfl ?_
   |refine CallF_in (hl1) rfl rfl ?_
   |refine CallF_in (hev) rfl rfl ?_
   |refine CallF_in (hl2) rfl rfl ?_
   |(refine Need_in (by unfold LB;simp[ByteArray.size];omega) ?_)
   |refine fin0 rfl hres))
 ·rw[if_neg k0]
  have z0:(r.kind==0)=false:=by simpa using k0
  by_cases k1:r.kind=1
  ·rw[if_pos k1]
   have hl:=tell_line wStep [r.prog,r.err] (by decide) (by simp) (by intro n hn;simp at hn;rcases hn with rfl|rfl <;> first|exact hr.h1|exact hr.h7)
   have z1:(r.kind==1)=true:=by rw[k1];rfl
   repeat' ((conv=>whnf);(first
    |refine Br_false z0 ?_
    |refine Br_true z1 ?_
    |refine Ch_r ?_
    |refine Fn.use (htd) rfl rfl ?_
    |refine Fn.use (hl) rfl rfl ?_
    |refine fin0 rfl ?_))
   rfl
  ·rw[if_neg k1]
   have z1:(r.kind==1)=false:=by simpa using k1
   by_cases k2:r.kind=2
   ·rw[if_pos k2]
    have hl:=tell_line wDone [r.prog,r.err] (by decide) (by simp) (by intro n hn;simp at hn;rcases hn with rfl|rfl <;> first|exact hr.h1|exact hr.h7)
    have z2:(r.kind==2)=true:=by rw[k2];rfl
    repeat' ((conv=>whnf);(first
     |refine Br_false z0 ?_
     |refine Br_false z1 ?_
     |refine Br_true z2 ?_
     |refine Ch_r ?_
     |refine Fn.use (htd) rfl rfl ?_
     |refine Fn.use (hl) rfl rfl ?_
     |refine fin0 rfl ?_))
    rfl
   ·rw[if_neg k2]
    have z2:(r.kind==2)=false:=by simpa using k2
    have hl:=tell_line wResult [r.type,r.node,r.target,r.err] (by decide) (by simp) (by intro n hn;simp at hn;rcases hn with rfl|rfl|rfl|rfl <;> first|exact hr.h2|exact hr.h3|exact hr.h4|exact hr.h7)
    repeat' ((conv=>whnf);(first
     |refine Br_false z0 ?_
     |refine Br_false z1 ?_
     |refine Br_false z2 ?_
     |refine Ch_r ?_
     |refine Fn.use (htd) rfl rfl ?_
     |refine Fn.use (hl) rfl rfl ?_
     |refine fin0 rfl ?_))
    rfl
end Go.Eng
namespace Go.Eng
open Go Go.Proofs
end Go.Eng
namespace Go.Eng
open Go Go.Proofs
theorem atoi_bd (l:List UInt8):i64B (atoiV l):=by
 unfold atoiV i64B
 cases h:Lib.atoiAll l with
 |ok v=>
  simp only
  unfold Lib.atoiAll at h
  split at h
  ·simp at h
  ·simp only at h
   split at h
   ·simp at h
   ·simp at h
   ·split at h
    ·simp at h
    ·split at h
     ·simp at h
     ·injection h with h
      subst h
      split <;> omega
 |range=>simp only;unfold Lib.atoiSat;split <;> omega
 |_=>simp only;omega
end Go.Eng
namespace Go.Eng
open Go Go.Proofs
theorem ref23_Number (n:Int) (hn:i64B n):Fn Tryz.prog 28 [.i n] (.d (str (it n))):=by
 refine Fn_of tt_ok Tryz.func28 rfl (by decide) Tryz.ntmps28 rfl ?_
 unfold i64B at hn
 by_cases h:0≤n
 ·obtain ⟨k,rfl⟩: ∃k:Nat,n=k:=⟨n.toNat,by omega⟩
  have hd:=ref_dig k (by omega)
  have e:it (k:Int)=Lib.decDigits k:=by unfold it Lib.itoa;rw[if_neg (by omega)];rfl
  rw[e]
  have z:decide ((k:Int)≥0)=true:=decide_eq_true (by omega)
  repeat' ((conv=>whnf);(first
   |refine Fn.use (hd) rfl rfl ?_
   |refine fin0 rfl ?_))
  rfl
 ·have z:decide (n≥0)=false:=decide_eq_false (by omega)
  have e:it n=45::Lib.decDigits n.natAbs:=by unfold it Lib.itoa;rw[if_pos (by omega)]
  rw[e]
  obtain ⟨m,hm⟩: ∃m:Nat,n= -m:=⟨n.natAbs,by omega⟩
  subst hm
  have hab:(-(m:Int)).natAbs=m:=by omega
  rw[hab]
  have e1:(-(m:Int)).tmod 10= -((m % 10:Nat):Int):=by rw[Int.neg_tmod];rfl
  have e2:(-(m:Int)).tdiv 10= -((m / 10:Nat):Int):=by rw[Int.neg_tdiv];rfl
  have w1:IntKind.i64.wrap (48-(-(m:Int)).tmod 10)=48-(-(m:Int)).tmod 10:=wrap_i64 (by rw[e1];omega) (by rw[e1];omega)
  have w2:IntKind.u8.wrap (48-(-(m:Int)).tmod 10)=48-(-(m:Int)).tmod 10:=wrap_u8x (by rw[e1];omega) (by rw[e1];omega)
  have w3:IntKind.i64.wrap ((-(m:Int)).tdiv 10)=(-(m:Int)).tdiv 10:=wrap_i64 (by rw[e2];omega) (by rw[e2];omega)
  have e3:0-(-(m:Int)).tdiv 10=((m / 10:Nat):Int):=by rw[e2];omega
  have w4:IntKind.i64.wrap (0-(-(m:Int)).tdiv 10)=0-(-(m:Int)).tdiv 10:=wrap_i64 (by omega) (by omega)
  have hc:(UInt8.ofNat (48+m % 10)).toNat=48+m % 10:=by rw[UInt8.toNat_ofNat'];omega
  have ht:[[D.int .u8 (48-(-(m:Int)).tmod 10)]]=[UInt8.ofNat (48+m % 10)].map (fun c=>[D.int .u8 c.toNat]):=by
   rw[e1];simp only[List.map_cons,List.map_nil,hc];congr 3;omega
  by_cases h10:10≤m
  ·have hd:Lib.decDigits m=Lib.decDigits (m / 10)++[UInt8.ofNat (48+m % 10)]:=by rw[Lib.decDigits.eq_def m,dif_neg (by omega)]
   have h1:decide (-(m:Int)≤ -10)=true:=decide_eq_true (by omega)
   have hi:=ref_dig (m / 10) (by omega)
   rw[← e3] at hi
   have hl:=dec_lenx 20 (m / 10) (Nat.lt_of_le_of_lt (by omega:_≤9223372036854775807) (by decide))
   have hsz:(⟨(Lib.decDigits (m / 10)).toArray⟩:ByteArray).size+(⟨[UInt8.ofNat (48+m % 10)].toArray⟩:ByteArray).size≤LB:=by
    rw[str_size,str_size];unfold LB;simp;omega
   have hres:(.d (.str ((⟨[45].toArray⟩:ByteArray)++((⟨(Lib.decDigits (m / 10)).toArray⟩:ByteArray)++⟨[UInt8.ofNat (48+m % 10)].toArray⟩))):AV)=.d (str (45::Lib.decDigits m)):=by rw[str_app,str_app,hd];rfl
   have hsz2:(⟨[45].toArray⟩:ByteArray).size+((⟨(Lib.decDigits (m / 10)).toArray⟩:ByteArray)++(⟨[UInt8.ofNat (48+m % 10)].toArray⟩:ByteArray)).size≤LB:=by
    rw[str_app,str_size,str_size];unfold LB;simp;omega
   generalize Lib.decDigits (m / 10)=dl at *
   repeat' ((conv=>whnf);(first
    |refine Br_false z ?_
    |refine Br_true h1 ?_
    |refine Ch_r ?_
    |refine Need_in (by omega) ?_
    |refine ArK_in w1 ?_
    |refine ArK_in w2 ?_
    |refine ArK_in w3 ?_
    |refine ArK_in w4 ?_
    |refine Text_in _ ht ?_
    |refine Fn.use (hi) rfl rfl ?_
    |refine fin0 rfl hres))
  ·have hd:Lib.decDigits m=[UInt8.ofNat (48+m % 10)]:=by rw[Lib.decDigits.eq_def m,dif_pos (by omega),Nat.mod_eq_of_lt (by omega)]
   have h1:decide (-(m:Int)≤ -10)=false:=decide_eq_false (by omega)
   have hres:(.d (.str ((⟨[45].toArray⟩:ByteArray)++(⟨[UInt8.ofNat (48+m % 10)].toArray⟩:ByteArray))):AV)=.d (str (45::Lib.decDigits m)):=by rw[str_app,hd];rfl
   repeat' ((conv=>whnf);(first
    |refine Br_false z ?_
    |refine Br_false h1 ?_
    |refine Ch_r ?_
    |refine Need_in (by omega) ?_
    |refine ArK_in w1 ?_
    |refine ArK_in w2 ?_
    |refine Text_in _ ht ?_
    |(refine Need_in (by rw[str_size,str_size];unfold LB;simp) ?_)
    |refine fin0 rfl hres))
theorem fold_snoc (t:List UInt8) (c:UInt8) (acc:Int):fold15 acc (t++[c])=10 * fold15 acc t+c.toNat-48:=by unfold fold15;rw[List.foldl_append];rfl
theorem snoc_of {α:Type}: ∀(t:List α),t≠[]→ ∃a c,t=a++[c]
 |[],h=>absurd rfl h
 |[c],_=>⟨[],c,rfl⟩
 |b::c::r,_=>by
  obtain ⟨a,d,e⟩:=snoc_of (c::r) (by simp)
  exact⟨b::a,d,by rw[e];rfl⟩
theorem fold_le (t:List UInt8): -((10:Int) ^ t.length * 1000)≤fold15 0 t∧fold15 0 t≤(10:Int) ^ t.length * 1000-1000:=by
 have key: ∀(n:Nat) (t:List UInt8),t.length=n→ -((10:Int) ^ n * 1000)+1000≤fold15 0 t∧fold15 0 t≤(10:Int) ^ n * 1000-1000:=by
  intro n
  induction n with
  |zero=>intro t h;rw[List.length_eq_zero_iff.1 h];simp[fold15]
  |succ n ih=>
   intro t h
   have hne:t≠[]:=by intro e;subst e;simp at h
   obtain ⟨a,c,rfl⟩:=snoc_of t hne
   rw[fold_snoc]
   have:=ih a (by simp at h;omega)
   have hc:=c.toNat_lt
   rw[Int.pow_succ]
   omega
 have:=key t.length t rfl
 omega
theorem p15 {n:Nat} (h:n≤15):(10:Int) ^ n≤1000000000000000:=by
 have:(10:Nat) ^ n≤10 ^ 15:=Nat.pow_le_pow_right (by decide) h
 have e:((10:Nat):Int) ^ n=((10 ^ n:Nat):Int):=by simp
 have e2:(10:Int) ^ n=((10 ^ n:Nat):Int):=by simp
 rw[e2]
 have e3:(10:Nat) ^ 15=1000000000000000:=by decide
 omega
theorem str_beq (a b:List UInt8):((⟨a.toArray⟩:ByteArray).toList==(⟨b.toArray⟩:ByteArray).toList)=decide (a=b):=by
 rw[str_toList,str_toList,Bool.eq_iff_iff];simp
theorem drop_one (r:List UInt8) (c:UInt8) {i j:Nat} (hi:i=1) (hj:j=r.length+1):(⟨(c::r).toArray⟩:ByteArray).extract i j=⟨r.toArray⟩:=by
 subst hi hj
 rw[str_extract]
 simp
set_option maxHeartbeats 2000000 in
theorem ref23_Read1 (s:List UInt8) (hs:s.length≤100000):Fn Tryz.prog 25 [.d (str s)] (.tup [.i (rd1 s).1,.b (rd1 s).2]):=by
 refine Fn_of tt_ok Tryz.func25 rfl (by decide) Tryz.ntmps25 rfl ?_
 have hsz:(⟨s.toArray⟩:ByteArray).size=s.length:=str_size s
 have hsplit:(s=[]∧trimW s=s)∨(∃ c,s[0]? =some c∧c=45∧s≠[]∧s.length=(trimW s).length+1∧(⟨s.toArray⟩:ByteArray).extract (1:Int).toNat (((⟨s.toArray⟩:ByteArray).size:Int)).toNat=⟨(trimW s).toArray⟩)∨(∃ c,s[0]? =some c∧s≠[]∧c≠45∧trimW s=s):=by
  cases s with
  |nil=>exact .inl ⟨rfl,rfl⟩
  |cons c r=>
   rw[trim_cons]
   by_cases h:c=45
   ·subst h
    exact .inr (.inl ⟨45,rfl,rfl,by simp,rfl,drop_one r 45 rfl (by rw[hsz];simp)⟩)
   ·rw[if_neg h];exact .inr (.inr ⟨c,rfl,by simp,h,rfl⟩)
 have hnn: ∀n:Int,n=(if (trimW s).length<s.length then -(fold15 0 (trimW s)) else fold15 0 (trimW s))→ ¬(trimW s).length>15→AV.tup [.i n,.b ((⟨(it n).toArray⟩:ByteArray).toList==(⟨s.toArray⟩:ByteArray).toList)]=.tup [.i (rd1 s).1,.b (rd1 s).2]:=fun n hn hL=>by
  rw[str_beq]
  unfold rd1
  rw[if_neg hL,←hn]
 have hbad:(trimW s).length>15→AV.tup [.i 0,.b false]=.tup [.i (rd1 s).1,.b (rd1 s).2]:=fun hL=>by unfold rd1;rw[if_pos hL]
 have hlt:(trimW s).length≤s.length:=by
  rcases hsplit with ⟨_,h⟩|⟨c,_,_,_,h,_⟩|⟨c,_,_,_,h⟩
  ·rw[h];exact Nat.le_refl _
  ·omega
  ·rw[h];exact Nat.le_refl _
 have htz:(⟨(trimW s).toArray⟩:ByteArray).size=(trimW s).length:=str_size (trimW s)
 generalize hrd:rd1 s=R at *
 rcases hsplit with ⟨hs0,ht⟩|⟨c,hc0,hc,hne,hl1,hx⟩|⟨c,hc0,hne,hc,ht⟩
 ·have c0:(!((⟨s.toArray⟩:ByteArray).toList==(⟨#[]⟩:ByteArray).toList))=false:=by rw[str_beq _ []];simp[hs0]
  have hE:AV.d (D.str (⟨s.toArray⟩:ByteArray))=.d (str (trimW s)):=by rw[ht]
  have hw:(((⟨s.toArray⟩:ByteArray).size:Int))=((trimW s).length:Int):=by rw[ht,hsz]
  repeat' ((conv=>whnf);(first
   |refine Br_false c0 ?_
   |refine Br_dec (fun hL=>?_) (fun hL=>?_)
   |refine Len_in (fun hlen=>?_)
   |refine fin0 rfl ?_))
  ·exact hbad (by omega)
  have hL15:(trimW s).length≤15:=by omega
  clear c0 hw
  rw[← hrd] at hnn
  have hfl: ∀k:Nat,k≤(trimW s).length→ -1000000000000000000≤fold15 0 ((trimW s).take k)∧fold15 0 ((trimW s).take k)≤1000000000000000000:=fun k hk=>by
   have h1:=fold_le ((trimW s).take k)
   have h2:=p15 (n:=((trimW s).take k).length) (by simp;omega)
   omega
  have hf14: ∀k:Nat,k<(trimW s).length→ -100000000000000000≤fold15 0 ((trimW s).take k)∧fold15 0 ((trimW s).take k)≤100000000000000000:=fun k hk=>by
   have h1:=fold_le ((trimW s).take k)
   have h2:=p15 (n:=((trimW s).take k).length+1) (by simp;omega)
   rw[Int.pow_succ] at h2
   omega
  rw[hrd] at hnn
  generalize trimW s=T at *
  refine W_loop (fun μ st=> ∃(k:Nat),k≤T.length∧μ=T.length-k∧st=⟨[(0,.d (str s)),(4,.d (str T)),(5,.i (fold15 0 (T.take k))),(6,.i k)],46,[],0,[]⟩) T.length
   ⟨_,?_,0,by omega,by omega,rfl⟩ ?_
  ·exact Wk_env ⟨rfl,hE,rfl,rfl,trivial⟩
  clear hE
  rintro μ s1 ⟨k,hk,rfl,rfl⟩
  refine W_run tt_ok ?_
  refine Len_in (fun _=>?_)
  refine Br_dec (fun h=>?_) (fun h=>?_)
  ·have hlt2:k<T.length:=by rw[htz] at h;omega
   have hb2:(⟨T.toArray⟩:ByteArray).data.toList[(k:Int).toNat]? =some T[k]:=by simp[hlt2]
   have hcb:=(T[k]).toNat_lt
   have hf:=hf14 k hlt2
   have hsn:fold15 0 (T.take (k+1))=10 * fold15 0 (T.take k)+(T[k]).toNat-48:=by rw[List.take_succ_eq_append_getElem hlt2,fold_snoc]
   have hF:AV.i (10 * fold15 0 (T.take k)+(T[k]).toNat-48)=.i (fold15 0 (T.take (k+1))):=by rw[hsn]
   generalize fold15 0 (T.take k)=F at *
   generalize T[k]=ch at *
   repeat' ((conv=>whnf);(first
    |refine Byte_in _ hb2 (by omega) ?_
    |refine ArK_in (wrap_i64 (by omega) (by omega)) ?_
    |refine Back_in _ _ ⟨k+1,by omega,rfl,rfl⟩ (by omega) (Wk_env ⟨rfl,rfl,hF,rfl,trivial⟩)))
  ·have hk2:k=T.length:=by rw[htz] at h;omega
   subst hk2
   rw[List.take_length]
   have hf:=hfl T.length (Nat.le_refl _)
   rw[List.take_length] at hf
   by_cases hneg:T.length<s.length
   ·have z:decide (((⟨T.toArray⟩:ByteArray).size:Int)<((⟨s.toArray⟩:ByteArray).size:Int))=true:=decide_eq_true (by rw[htz,hsz];omega)
    have hn:=hnn (-(fold15 0 T)) (by rw[if_pos hneg]) (by omega)
    have w1:IntKind.i64.wrap (0-fold15 0 T)=0-fold15 0 T:=wrap_i64 (by omega) (by omega)
    have e3:0-fold15 0 T= -(fold15 0 T):=by omega
    have hnum:=ref23_Number (-(fold15 0 T)) (by unfold i64B;omega)
    rw[← e3] at hnum hn
    repeat' ((conv=>whnf);(first
     |refine Br_true z ?_
     |refine Len_in (fun hlen=>?_)
     |refine ArK_in w1 ?_
     |refine Fn.use (hnum) rfl rfl ?_
     |refine fin0 rfl ?_))
    exact hn
   ·have z:decide (((⟨T.toArray⟩:ByteArray).size:Int)<((⟨s.toArray⟩:ByteArray).size:Int))=false:=decide_eq_false (by rw[htz,hsz];omega)
    have hn:=hnn (fold15 0 T) (by rw[if_neg hneg]) (by omega)
    have hnum:=ref23_Number (fold15 0 T) (by unfold i64B;omega)
    repeat' ((conv=>whnf);(first
     |refine Br_false z ?_
     |refine Len_in (fun hlen=>?_)
     |refine Fn.use (hnum) rfl rfl ?_
     |refine fin0 rfl ?_))
    exact hn
 ·have hby:(⟨s.toArray⟩:ByteArray).data.toList[(0:Int).toNat]? =some c:=hc0
  have c0:(!((⟨s.toArray⟩:ByteArray).toList==(⟨#[]⟩:ByteArray).toList))=true:=by rw[str_beq _ []];simp[hne]
  have c1:(((c.toNat:Nat):Int)==45)=true:=by rw[hc];rfl
  have hE:AV.d (D.str ((⟨s.toArray⟩:ByteArray).extract (1:Int).toNat (((⟨s.toArray⟩:ByteArray).size:Int)).toNat))=.d (str (trimW s)):=by rw[hx]
  have hw:((((⟨s.toArray⟩:ByteArray).extract (1:Int).toNat (((⟨s.toArray⟩:ByteArray).size:Int)).toNat).size:Int))=((trimW s).length:Int):=by rw[hx,htz]
  repeat' ((conv=>whnf);(first
   |refine Br_true c0 ?_
   |refine Br_true c1 ?_
   |refine Br_dec (fun hL=>?_) (fun hL=>?_)
   |refine Len_in (fun hlen=>?_)
   |refine Byte_in c hby (by omega) ?_
   |(refine Need_in ⟨by omega,by rw[hsz];omega,Int.le_refl _⟩ ?_)
   |refine fin0 rfl ?_))
  ·exact hbad (by omega)
  have hL15:(trimW s).length≤15:=by omega
  clear c0 hw
  rw[← hrd] at hnn
  have hfl: ∀k:Nat,k≤(trimW s).length→ -1000000000000000000≤fold15 0 ((trimW s).take k)∧fold15 0 ((trimW s).take k)≤1000000000000000000:=fun k hk=>by
   have h1:=fold_le ((trimW s).take k)
   have h2:=p15 (n:=((trimW s).take k).length) (by simp;omega)
   omega
  have hf14: ∀k:Nat,k<(trimW s).length→ -100000000000000000≤fold15 0 ((trimW s).take k)∧fold15 0 ((trimW s).take k)≤100000000000000000:=fun k hk=>by
   have h1:=fold_le ((trimW s).take k)
   have h2:=p15 (n:=((trimW s).take k).length+1) (by simp;omega)
   rw[Int.pow_succ] at h2
   omega
  rw[hrd] at hnn
  generalize trimW s=T at *
  refine W_loop (fun μ st=> ∃(k:Nat),k≤T.length∧μ=T.length-k∧st=⟨[(0,.d (str s)),(4,.d (str T)),(5,.i (fold15 0 (T.take k))),(6,.i k)],46,[],0,[]⟩) T.length
   ⟨_,?_,0,by omega,by omega,rfl⟩ ?_
  ·exact Wk_env ⟨rfl,hE,rfl,rfl,trivial⟩
  clear hE
  rintro μ s1 ⟨k,hk,rfl,rfl⟩
  refine W_run tt_ok ?_
  refine Len_in (fun _=>?_)
  refine Br_dec (fun h=>?_) (fun h=>?_)
  ·have hlt2:k<T.length:=by rw[htz] at h;omega
   have hb2:(⟨T.toArray⟩:ByteArray).data.toList[(k:Int).toNat]? =some T[k]:=by simp[hlt2]
   have hcb:=(T[k]).toNat_lt
   have hf:=hf14 k hlt2
   have hsn:fold15 0 (T.take (k+1))=10 * fold15 0 (T.take k)+(T[k]).toNat-48:=by rw[List.take_succ_eq_append_getElem hlt2,fold_snoc]
   have hF:AV.i (10 * fold15 0 (T.take k)+(T[k]).toNat-48)=.i (fold15 0 (T.take (k+1))):=by rw[hsn]
   generalize fold15 0 (T.take k)=F at *
   generalize T[k]=ch at *
   repeat' ((conv=>whnf);(first
    |refine Byte_in _ hb2 (by omega) ?_
    |refine ArK_in (wrap_i64 (by omega) (by omega)) ?_
    |refine Back_in _ _ ⟨k+1,by omega,rfl,rfl⟩ (by omega) (Wk_env ⟨rfl,rfl,hF,rfl,trivial⟩)))
  ·have hk2:k=T.length:=by rw[htz] at h;omega
   subst hk2
   rw[List.take_length]
   have hf:=hfl T.length (Nat.le_refl _)
   rw[List.take_length] at hf
   by_cases hneg:T.length<s.length
   ·have z:decide (((⟨T.toArray⟩:ByteArray).size:Int)<((⟨s.toArray⟩:ByteArray).size:Int))=true:=decide_eq_true (by rw[htz,hsz];omega)
    have hn:=hnn (-(fold15 0 T)) (by rw[if_pos hneg]) (by omega)
    have w1:IntKind.i64.wrap (0-fold15 0 T)=0-fold15 0 T:=wrap_i64 (by omega) (by omega)
    have e3:0-fold15 0 T= -(fold15 0 T):=by omega
    have hnum:=ref23_Number (-(fold15 0 T)) (by unfold i64B;omega)
    rw[← e3] at hnum hn
    repeat' ((conv=>whnf);(first
     |refine Br_true z ?_
     |refine Len_in (fun hlen=>?_)
     |refine ArK_in w1 ?_
     |refine Fn.use (hnum) rfl rfl ?_
     |refine fin0 rfl ?_))
    exact hn
   ·have z:decide (((⟨T.toArray⟩:ByteArray).size:Int)<((⟨s.toArray⟩:ByteArray).size:Int))=false:=decide_eq_false (by rw[htz,hsz];omega)
    have hn:=hnn (fold15 0 T) (by rw[if_neg hneg]) (by omega)
    have hnum:=ref23_Number (fold15 0 T) (by unfold i64B;omega)
    repeat' ((conv=>whnf);(first
     |refine Br_false z ?_
     |refine Len_in (fun hlen=>?_)
     |refine Fn.use (hnum) rfl rfl ?_
     |refine fin0 rfl ?_))
    exact hn
 ·have hby:(⟨s.toArray⟩:ByteArray).data.toList[(0:Int).toNat]? =some c:=hc0
  have c0:(!((⟨s.toArray⟩:ByteArray).toList==(⟨#[]⟩:ByteArray).toList))=true:=by rw[str_beq _ []];simp[hne]
  have c1:(((c.toNat:Nat):Int)==45)=false:=by
   rw[beq_eq_false_iff_ne];intro e;exact hc (UInt8.toNat_inj.1 (show c.toNat=45 by omega))
  have hE:AV.d (D.str (⟨s.toArray⟩:ByteArray))=.d (str (trimW s)):=by rw[ht]
  have hw:(((⟨s.toArray⟩:ByteArray).size:Int))=((trimW s).length:Int):=by rw[ht,hsz]
  repeat' ((conv=>whnf);(first
   |refine Br_true c0 ?_
   |refine Br_false c1 ?_
   |refine Br_dec (fun hL=>?_) (fun hL=>?_)
   |refine Len_in (fun hlen=>?_)
   |refine Byte_in c hby (by omega) ?_
   |refine fin0 rfl ?_))
  ·exact hbad (by omega)
  have hL15:(trimW s).length≤15:=by omega
  clear c0 hw
  rw[← hrd] at hnn
  have hfl: ∀k:Nat,k≤(trimW s).length→ -1000000000000000000≤fold15 0 ((trimW s).take k)∧fold15 0 ((trimW s).take k)≤1000000000000000000:=fun k hk=>by
   have h1:=fold_le ((trimW s).take k)
   have h2:=p15 (n:=((trimW s).take k).length) (by simp;omega)
   omega
  have hf14: ∀k:Nat,k<(trimW s).length→ -100000000000000000≤fold15 0 ((trimW s).take k)∧fold15 0 ((trimW s).take k)≤100000000000000000:=fun k hk=>by
   have h1:=fold_le ((trimW s).take k)
   have h2:=p15 (n:=((trimW s).take k).length+1) (by simp;omega)
   rw[Int.pow_succ] at h2
   omega
  rw[hrd] at hnn
  generalize trimW s=T at *
  refine W_loop (fun μ st=> ∃(k:Nat),k≤T.length∧μ=T.length-k∧st=⟨[(0,.d (str s)),(4,.d (str T)),(5,.i (fold15 0 (T.take k))),(6,.i k)],46,[],0,[]⟩) T.length
   ⟨_,?_,0,by omega,by omega,rfl⟩ ?_
  ·exact Wk_env ⟨rfl,hE,rfl,rfl,trivial⟩
  clear hE
  rintro μ s1 ⟨k,hk,rfl,rfl⟩
  refine W_run tt_ok ?_
  refine Len_in (fun _=>?_)
  refine Br_dec (fun h=>?_) (fun h=>?_)
  ·have hlt2:k<T.length:=by rw[htz] at h;omega
   have hb2:(⟨T.toArray⟩:ByteArray).data.toList[(k:Int).toNat]? =some T[k]:=by simp[hlt2]
   have hcb:=(T[k]).toNat_lt
   have hf:=hf14 k hlt2
   have hsn:fold15 0 (T.take (k+1))=10 * fold15 0 (T.take k)+(T[k]).toNat-48:=by rw[List.take_succ_eq_append_getElem hlt2,fold_snoc]
   have hF:AV.i (10 * fold15 0 (T.take k)+(T[k]).toNat-48)=.i (fold15 0 (T.take (k+1))):=by rw[hsn]
   generalize fold15 0 (T.take k)=F at *
   generalize T[k]=ch at *
   repeat' ((conv=>whnf);(first
    |refine Byte_in _ hb2 (by omega) ?_
    |refine ArK_in (wrap_i64 (by omega) (by omega)) ?_
    |refine Back_in _ _ ⟨k+1,by omega,rfl,rfl⟩ (by omega) (Wk_env ⟨rfl,rfl,hF,rfl,trivial⟩)))
  ·have hk2:k=T.length:=by rw[htz] at h;omega
   subst hk2
   rw[List.take_length]
   have hf:=hfl T.length (Nat.le_refl _)
   rw[List.take_length] at hf
   by_cases hneg:T.length<s.length
   ·have z:decide (((⟨T.toArray⟩:ByteArray).size:Int)<((⟨s.toArray⟩:ByteArray).size:Int))=true:=decide_eq_true (by rw[htz,hsz];omega)
    have hn:=hnn (-(fold15 0 T)) (by rw[if_pos hneg]) (by omega)
    have w1:IntKind.i64.wrap (0-fold15 0 T)=0-fold15 0 T:=wrap_i64 (by omega) (by omega)
    have e3:0-fold15 0 T= -(fold15 0 T):=by omega
    have hnum:=ref23_Number (-(fold15 0 T)) (by unfold i64B;omega)
    rw[← e3] at hnum hn
    repeat' ((conv=>whnf);(first
     |refine Br_true z ?_
     |refine Len_in (fun hlen=>?_)
     |refine ArK_in w1 ?_
     |refine Fn.use (hnum) rfl rfl ?_
     |refine fin0 rfl ?_))
    exact hn
   ·have z:decide (((⟨T.toArray⟩:ByteArray).size:Int)<((⟨s.toArray⟩:ByteArray).size:Int))=false:=decide_eq_false (by rw[htz,hsz];omega)
    have hn:=hnn (fold15 0 T) (by rw[if_neg hneg]) (by omega)
    have hnum:=ref23_Number (fold15 0 T) (by unfold i64B;omega)
    repeat' ((conv=>whnf);(first
     |refine Br_false z ?_
     |refine Len_in (fun hlen=>?_)
     |refine Fn.use (hnum) rfl rfl ?_
     |refine fin0 rfl ?_))
    exact hn
end Go.Eng
namespace Go.Eng
open Go Go.Proofs
theorem opr_dec (x y:OpR):decide (x=y)=(x.d==y.d&&(x.a==y.a&&(x.b==y.b&&(x.c==y.c&&(x.fl==y.fl&&decide (x.p=y.p)))))):=by
 obtain ⟨d1,a1,b1,c1,f1,p1⟩:=x
 obtain ⟨d2,a2,b2,c2,f2,p2⟩:=y
 exact Bool.eq_iff_iff.2 (by simp)
theorem equal_steps (a b:List Step):Fn Tryz.prog 48 [.d (stepsD a),.d (stepsD b)] (.b (decide (a=b))):=by
 refine Fn_of tt_ok Tryz.func48 rfl (by decide) Tryz.ntmps48 rfl ?_
 have hal:(List.map Step.cs a).length=a.length:=by simp
 have hbl:(List.map Step.cs b).length=b.length:=by simp
 by_cases hl:a.length=b.length
 ·have hc:(((List.map Step.cs a).length:Int)==((List.map Step.cs b).length:Int))=true:=by rw[hal,hbl,hl];simp
  have hc':(!(((List.map Step.cs a).length:Int)==((List.map Step.cs b).length:Int)))=false:=by rw[hc];rfl
  repeat' ((conv=>whnf);(first
   |refine Br_false hc' ?_
   |refine Len_in (fun hlen=>?_)))
  refine W_loop (fun μ st=> ∃(k:Nat),k≤a.length∧μ=a.length-k∧(∀ i (h1:i<a.length) (h2:i<b.length),i<k→a[i]=b[i])∧
    st=⟨[(0,.d (stepsD a)),(1,.d (stepsD b)),(12,.i (List.map Step.cs a).length),(13,.i k)],26,[],0,[]⟩) a.length
   ⟨_,?_,0,by omega,by omega,fun i _ _ h=>by omega,rfl⟩ ?_
  ·exact Wk_env (by repeat (first|exact trivial|refine⟨rfl,?_⟩))
  rintro μ s1 ⟨k,hk,rfl,hI,rfl⟩
  refine W_run tt_ok ?_
  refine Br_dec (fun h=>?_) (fun h=>?_)
  ·have ha:k<a.length:=by rw[hal] at h;omega
   have hb:k<b.length:=by omega
   have hia:(List.map Step.cs a)[(k:Int).toNat]? =some (a[k]).cs:=by simp[ha]
   have hib:(List.map Step.cs b)[(k:Int).toNat]? =some (b[k]).cs:=by simp[hb]
   by_cases hq:a[k]=b[k]
   ·have hn: ∀i (h1:i<a.length) (h2:i<b.length),i<k+1→a[i]=b[i]:=fun i h1 h2 h3=>by
     rcases Nat.lt_succ_iff_lt_or_eq.1 h3 with h4|h4
     ·exact hI i h1 h2 h4
     ·subst h4;exact hq
    have hall:allB [a[k].f==b[k].f,a[k].a==b[k].a,a[k].b==b[k].b]=true:=by rw[hq];simp[allB]
    repeat' ((conv=>whnf);(first
     |refine Br_true hall ?_
     |refine Br_not ?_
     |refine W_draw 0 tt_ok mixed (by kernel_rfl) ?_
     |refine Idx_in _ hia (by omega) rfl ?_
     |refine Idx_in _ hib (by omega) rfl ?_
     |refine Back_in _ _ ⟨k+1,by omega,rfl,hn,rfl⟩ (by omega) (Wk_env (by repeat (first|exact trivial|refine⟨rfl,?_⟩)))
     |refine ArK_in (wrap_i64 (by omega) (by omega)) ?_))
   ·have e:decide (a=b)=false:=decide_eq_false fun h=>hq ((steps_eq a b).1 h |>.2 k ha hb)
    rw[e]
    have hall:allB [a[k].f==b[k].f,a[k].a==b[k].a,a[k].b==b[k].b]=false:=by
     cases hh:allB [a[k].f==b[k].f,a[k].a==b[k].a,a[k].b==b[k].b]
     ·rfl
     ·simp[allB] at hh
      exact absurd (by
       generalize a[k]=x at *
       generalize b[k]=y at *
       obtain ⟨x1,x2,x3⟩:=x
       obtain ⟨y1,y2,y3⟩:=y
       simp at hh
       obtain ⟨rfl,rfl,rfl⟩:=hh
       rfl) hq
    repeat' ((conv=>whnf);(first
     |refine Br_false hall ?_
     |refine Br_not ?_
     |refine W_draw 0 tt_ok mixed (by kernel_rfl) ?_
     |refine Idx_in _ hia (by omega) rfl ?_
     |refine Idx_in _ hib (by omega) rfl ?_
     |refine fin0 rfl ?_))
    rfl
  ·have hka:a.length≤k:=by rw[hal] at h;omega
   have e:decide (a=b)=true:=decide_eq_true ((steps_eq a b).2 ⟨hl,fun i h1 h2=>hI i h1 h2 (by omega)⟩)
   rw[e]
   repeat' ((conv=>whnf);(first
    |refine fin0 rfl ?_))
   rfl
 ·have hc:(((List.map Step.cs a).length:Int)==((List.map Step.cs b).length:Int))=false:=by rw[hal,hbl];simp;omega
  have hc':(!(((List.map Step.cs a).length:Int)==((List.map Step.cs b).length:Int)))=true:=by rw[hc];rfl
  have e:decide (a=b)=false:=decide_eq_false fun h=>hl (by rw[h])
  rw[e]
  repeat' ((conv=>whnf);(first
   |refine Br_true hc' ?_
   |refine Len_in (fun hlen=>?_)
   |refine fin0 rfl ?_))
  rfl
theorem script_same (x y:OpR):Fn Tryz.prog 26 [aggD x.cs,aggD y.cs] (.b (decide (x=y))):=by
 rw[opr_dec]
 have hE:=equal_steps x.p y.p
 obtain ⟨d1,a1,b1,c1,f1,p1⟩:=x
 obtain ⟨d2,a2,b2,c2,f2,p2⟩:=y
 simp only at *
 generalize decide (p1=p2)=q6 at *
 obtain ⟨q1,e1⟩: ∃q,(d1==d2)=q:=⟨_,rfl⟩
 obtain ⟨q2,e2⟩: ∃q,(a1==a2)=q:=⟨_,rfl⟩
 obtain ⟨q3,e3⟩: ∃q,(b1==b2)=q:=⟨_,rfl⟩
 obtain ⟨q4,e4⟩: ∃q,(c1==c2)=q:=⟨_,rfl⟩
 obtain ⟨q5,e5⟩: ∃q,(f1==f2)=q:=⟨_,rfl⟩
 rw[e1,e2,e3,e4,e5]
 cases q1
 ·refine Fn_of tt_ok Tryz.func26 rfl (by decide) Tryz.ntmps26 rfl ?_
  repeat' ((conv=>whnf);(first
   |refine Br_false (by assumption) ?_
   |refine fin0 rfl ?_))
  rfl
 cases q2
 ·refine Fn_of tt_ok Tryz.func26 rfl (by decide) Tryz.ntmps26 rfl ?_
  repeat' ((conv=>whnf);(first
   |refine Br_true (by assumption) ?_
   |refine Br_false (by assumption) ?_
   |refine fin0 rfl ?_))
  rfl
 cases q3
 ·refine Fn_of tt_ok Tryz.func26 rfl (by decide) Tryz.ntmps26 rfl ?_
  repeat' ((conv=>whnf);(first
   |refine Br_true (by assumption) ?_
   |refine Br_false (by assumption) ?_
   |refine fin0 rfl ?_))
  rfl
 cases q4
 ·refine Fn_of tt_ok Tryz.func26 rfl (by decide) Tryz.ntmps26 rfl ?_
  repeat' ((conv=>whnf);(first
   |refine Br_true (by assumption) ?_
   |refine Br_false (by assumption) ?_
   |refine fin0 rfl ?_))
  rfl
 cases q5
 ·refine Fn_of tt_ok Tryz.func26 rfl (by decide) Tryz.ntmps26 rfl ?_
  repeat' ((conv=>whnf);(first
   |refine Br_true (by assumption) ?_
   |refine Br_false (by assumption) ?_
   |refine fin0 rfl ?_))
  rfl
 refine Fn_of tt_ok Tryz.func26 rfl (by decide) Tryz.ntmps26 rfl ?_
 repeat' ((conv=>whnf);(first
  |refine Br_true (by assumption) ?_
  |refine Fn.use (hE) rfl rfl ?_
  |refine fin0 rfl ?_))
 rfl
theorem ref24_Same (x y:OpR):Fn Tryz.prog 15 [aggD x.cs,aggD y.cs] (.b (decide (x=y))):=by
 rw[opr_dec]
 have hE:=ref20_Same x.p y.p
 obtain ⟨d1,a1,b1,c1,f1,p1⟩:=x
 obtain ⟨d2,a2,b2,c2,f2,p2⟩:=y
 simp only at *
 generalize decide (p1=p2)=q6 at *
 obtain ⟨q1,e1⟩: ∃q,(d1==d2)=q:=⟨_,rfl⟩
 obtain ⟨q2,e2⟩: ∃q,(a1==a2)=q:=⟨_,rfl⟩
 obtain ⟨q3,e3⟩: ∃q,(b1==b2)=q:=⟨_,rfl⟩
 obtain ⟨q4,e4⟩: ∃q,(c1==c2)=q:=⟨_,rfl⟩
 obtain ⟨q5,e5⟩: ∃q,(f1==f2)=q:=⟨_,rfl⟩
 rw[e1,e2,e3,e4,e5]
 cases q1
 ·refine Fn_of tt_ok Tryz.func15 rfl (by decide) Tryz.ntmps15 rfl ?_
  repeat' ((conv=>whnf);(first
   |refine Br_false (by assumption) ?_
   |refine fin0 rfl ?_))
  rfl
 cases q2
 ·refine Fn_of tt_ok Tryz.func15 rfl (by decide) Tryz.ntmps15 rfl ?_
  repeat' ((conv=>whnf);(first
   |refine Br_true (by assumption) ?_
   |refine Br_false (by assumption) ?_
   |refine fin0 rfl ?_))
  rfl
 cases q3
 ·refine Fn_of tt_ok Tryz.func15 rfl (by decide) Tryz.ntmps15 rfl ?_
  repeat' ((conv=>whnf);(first
   |refine Br_true (by assumption) ?_
   |refine Br_false (by assumption) ?_
   |refine fin0 rfl ?_))
  rfl
 cases q4
 ·refine Fn_of tt_ok Tryz.func15 rfl (by decide) Tryz.ntmps15 rfl ?_
  repeat' ((conv=>whnf);(first
   |refine Br_true (by assumption) ?_
   |refine Br_false (by assumption) ?_
   |refine fin0 rfl ?_))
  rfl
 cases q5
 ·refine Fn_of tt_ok Tryz.func15 rfl (by decide) Tryz.ntmps15 rfl ?_
  repeat' ((conv=>whnf);(first
   |refine Br_true (by assumption) ?_
   |refine Br_false (by assumption) ?_
   |refine fin0 rfl ?_))
  rfl
 refine Fn_of tt_ok Tryz.func15 rfl (by decide) Tryz.ntmps15 rfl ?_
 repeat' ((conv=>whnf);(first
  |refine Br_true (by assumption) ?_
  |refine Fn.use (hE) rfl rfl ?_
  |refine fin0 rfl ?_))
 rfl
theorem rd_bd (s:List UInt8):i64B (rdV fdL s).1.a∧i64B (rdV fdL s).1.b∧i64B (rdV fdL s).1.c:=by
 have h0:i64B 0:=by unfold i64B;omega
 have hr: ∀ws n i,i64B (rdN ws n i):=fun ws n i=>by
  unfold rdN
  split
  ·exact atoi_bd _
  ·exact h0
 unfold rdV
 split
 ·exact⟨h0,h0,h0⟩
 ·split
  ·exact⟨h0,h0,h0⟩
  ·split
   ·exact⟨hr _ _ _,hr _ _ _,hr _ _ _⟩
   ·exact⟨h0,h0,h0⟩
theorem script_Parse (s:List UInt8) (hs:s.length≤100000):Fn Tryz.prog 10 [.d (str s)] (.tup [aggD (docS s).1.cs,.i (docS s).2]):=by
 rw[← par_doc fdL_ok s]
 have hR:=script_read (fun r hr=>fields_c r hr) s hs
 have hb:=rd_bd s
 have hW:=script_write (rdV fdL s).1 hb.1 hb.2.1 hb.2.2
 unfold parS
 clear hb
 generalize rdV fdL s=q at *
 obtain ⟨o,b⟩:=q
 simp only at *
 have hcmp:=str_beq (wrV o) s
 generalize wrV o=t at *
 have hbad:(AV.tup [aggD (op0,(13:Int)).1.cs,.i (op0,(13:Int)).2])=.tup [.agg [.i 0,.i 0,.i 0,.i 0,.b false,.d (.sl [])],.i 13]:=rfl
 have hok:(AV.tup [aggD (o,(0:Int)).1.cs,.i (o,(0:Int)).2])=.tup [aggD o.cs,.i 0]:=rfl
 cases b
 ·rw[if_neg (by simp),hbad]
  clear hcmp hok hbad
  obtain ⟨d1,a1,b1,c1,f1,p1⟩:=o
  refine Fn_of tt_ok Tryz.func10 rfl (by decide) Tryz.ntmps10 rfl ?_
  repeat' ((conv=>whnf);(first
   |refine finD (F:=[]) (FV_tups ⟨FV_aggs ⟨.same _ rfl,.same _ rfl,.same _ rfl,.same _ rfl,.same _ rfl,.nsl,trivial⟩,.same _ rfl,trivial⟩)
   |refine Fn.use (hR) rfl rfl ?_))
 by_cases hq:t=s
 ·rw[if_pos ⟨rfl,hq⟩,hok]
  rw[decide_eq_true hq] at hcmp
  have hcmp':(!((⟨t.toArray⟩:ByteArray).toList==(⟨s.toArray⟩:ByteArray).toList))=false:=by rw[hcmp];rfl
  clear hok hbad
  obtain ⟨d1,a1,b1,c1,f1,p1⟩:=o
  refine Fn_of tt_ok Tryz.func10 rfl (by decide) Tryz.ntmps10 rfl ?_
  repeat' ((conv=>whnf);(first
   |refine Br_false (by assumption) ?_
   |refine Fn.use (hR) rfl rfl ?_
   |refine Fn.use (hW) rfl rfl ?_
   |refine fin0 rfl rfl))
 ·rw[if_neg (by rintro ⟨_,h⟩;exact hq h),hbad]
  rw[decide_eq_false hq] at hcmp
  have hcmp':(!((⟨t.toArray⟩:ByteArray).toList==(⟨s.toArray⟩:ByteArray).toList))=true:=by rw[hcmp];rfl
  clear hok hbad
  obtain ⟨d1,a1,b1,c1,f1,p1⟩:=o
  refine Fn_of tt_ok Tryz.func10 rfl (by decide) Tryz.ntmps10 rfl ?_
  repeat' ((conv=>whnf);(first
   |refine finD (F:=[]) (FV_tups ⟨FV_aggs ⟨.same _ rfl,.same _ rfl,.same _ rfl,.same _ rfl,.same _ rfl,.nsl,trivial⟩,.same _ rfl,trivial⟩)
   |refine Br_true (by assumption) ?_
   |refine Fn.use (hR) rfl rfl ?_
   |refine Fn.use (hW) rfl rfl ?_))
theorem nums_len (o:OpR) (ha:i64B o.a) (hb:i64B o.b) (hc:i64B o.c) (k:Nat) (hk:k<26):(joinL 32 (kW k::numsV o (kN k))).length≤1500:=by
 have hk3:=(k_all ⟨k,hk⟩).2.2.2.2.2
 simp only at hk3
 have hwl:(kW k).length≤20:=by
  have: ∀j:_root_.Fin 26,(kW j.val).length≤20:=by decide
  exact this ⟨k,hk⟩
 have hnl:(numsV o (kN k)).length≤3:=by rw[numsV_map];simp;omega
 refine Nat.le_trans (joinL_len' 32 _ 100 fun x hx=>?_) (Nat.le_trans (Nat.mul_le_mul_right _ (by simp only[List.length_cons];omega:_≤11)) (by omega))
 rcases List.mem_cons.1 hx with rfl|hx
 ·omega
 ·rw[numsV_map] at hx
  obtain ⟨y,hy,rfl⟩:=List.mem_map.1 hx
  have hy2:=List.mem_of_mem_take hy
  have h64:i64B y:=by
   simp at hy2
   rcases hy2 with rfl|rfl|rfl <;> assumption
  have:=Lib.itoa_length_le y h64.1 h64.2
  unfold it;omega
theorem kix_lt {d:Int} {f:Bool} (h: ¬kix d f<0):(kix d f).toNat<26:=by
 obtain ⟨k,e1,e2,_⟩:=kix_hit (show 0≤kix d f by omega)
 omega
theorem wrV_len (o:OpR) (ha:i64B o.a) (hb:i64B o.b) (hc:i64B o.c):(wrV o).length≤10000:=by
 have ht:=textL_len2 o.p
 unfold wrV
 split
 ·split
  ·decide
  ·simp only[List.length_append,List.length_cons]
   have:wProg.length=7:=rfl
   omega
 ·split
  ·simp
  ·rename_i h
   exact Nat.le_trans (nums_len o ha hb hc _ (kix_lt h)) (by omega)
theorem script_Line (o:OpR) (ha:i64B o.a) (hb:i64B o.b) (hc:i64B o.c):Fn Tryz.prog 12 [aggD o.cs] (.d (str (lnV o))):=by
 have hW:=script_write o ha hb hc
 have hP:=script_Parse (wrV o) (Nat.le_trans (wrV_len o ha hb hc) (by omega))
 have hS:=script_same (docS (wrV o)).1 o
 have e:lnV o=if (docS (wrV o)).2=0∧(docS (wrV o)).1=o then wrV o else []:=by rw[← par_doc fdL_ok];exact ln_prog fdL_ok o
 rw[e]
 clear e
 generalize docS (wrV o)=q at *
 obtain ⟨x,n⟩:=q
 generalize wrV o=t at *
 simp only at *
 by_cases hn:n=0
 ·have hne:(n != 0)=false:=by rw[hn];rfl
  by_cases hx:x=o
  ·rw[if_pos ⟨hn,hx⟩]
   rw[decide_eq_true hx] at hS
   clear hx
   obtain ⟨d1,a1,b1,c1,f1,p1⟩:=o
   obtain ⟨d2,a2,b2,c2,f2,p2⟩:=x
   refine Fn_of tt_ok Tryz.func12 rfl (by decide) Tryz.ntmps12 rfl ?_
   repeat' ((conv=>whnf);(first
    |refine Br_false (by assumption) ?_
    |refine Fn.use (hW) rfl rfl ?_
    |refine Fn.use (hP) rfl rfl ?_
    |refine Fn.use (hS) rfl rfl ?_
    |refine fin0 rfl ?_))
   all_goals rfl
  ·rw[if_neg (by rintro ⟨_,h⟩;exact hx h)]
   rw[decide_eq_false hx] at hS
   clear hx
   obtain ⟨d1,a1,b1,c1,f1,p1⟩:=o
   obtain ⟨d2,a2,b2,c2,f2,p2⟩:=x
   refine Fn_of tt_ok Tryz.func12 rfl (by decide) Tryz.ntmps12 rfl ?_
   repeat' ((conv=>whnf);(first
    |refine Br_false (by assumption) ?_
    |refine Fn.use (hW) rfl rfl ?_
    |refine Fn.use (hP) rfl rfl ?_
    |refine Fn.use (hS) rfl rfl ?_
    |refine fin0 rfl ?_))
   all_goals rfl
 ·have hne:(n != 0)=true:=by simp[hn]
  rw[if_neg (by rintro ⟨h,_⟩;exact hn h)]
  clear hS
  obtain ⟨d1,a1,b1,c1,f1,p1⟩:=o
  obtain ⟨d2,a2,b2,c2,f2,p2⟩:=x
  refine Fn_of tt_ok Tryz.func12 rfl (by decide) Tryz.ntmps12 rfl ?_
  repeat' ((conv=>whnf);(first
   |refine Br_true (by assumption) ?_
   |refine Fn.use (hW) rfl rfl ?_
   |refine Fn.use (hP) rfl rfl ?_
   |refine fin0 rfl ?_))
  all_goals rfl
end Go.Eng
namespace Go.Eng
open Go Go.Proofs
def docK (W:List (List UInt8)):OpR×Int:=
 if dix W<0 then (op0,13)
 else if (W.drop 1).all (fun w=>(rd1 w).2)=true then (⟨kD (dix W).toNat,rdD W 1,rdD W 2,rdD W 3,kF (dix W).toNat,[]⟩,0)
 else (op0,13)
theorem docS_words {s:List UInt8} (h1:s≠wProg) (h2: ¬(8<s.length∧s.take 8=wProg++[32])):docS s=docK (splitL 32 s):=by
 unfold docS docK
 rw[if_neg h1,if_neg h2]
theorem docK_no {W:List (List UInt8)} (h: ∀k,k<26→(kW k==wAt W 0&&W.length==1+kN k)=false):docK W=(op0,13):=by
 have e:dix W= -1:=range_no h
 unfold docK
 rw[e,if_pos (by omega)]
def okW (W:List (List UInt8)):Bool:=(W.drop 1).all (fun w=>(rd1 w).2)
theorem okW_iff {W:List (List UInt8)}:okW W=true↔ ∀i,1≤i→i<W.length→(rd1 (wAt W i)).2=true:=by
 unfold okW
 rw[List.all_eq_true]
 constructor
 ·intro h i h1 h2
  refine h _ ?_
  unfold wAt
  rw[List.getD_eq_getElem?_getD,List.getElem?_eq_getElem h2]
  refine List.mem_of_getElem? (i:=i-1) ?_
  rw[List.getElem?_drop,show 1+(i-1)=i by omega,List.getElem?_eq_getElem h2]
  rfl
 ·intro h w hw
  obtain ⟨i,hi⟩:=List.getElem?_of_mem hw
  rw[List.getElem?_drop] at hi
  have h2:=(List.getElem?_eq_some_iff.1 hi).1
  have:=h (1+i) (by omega) h2
  unfold wAt at this
  rw[List.getD_eq_getElem?_getD,hi] at this
  exact this
theorem docK_at {W:List (List UInt8)} {k:Nat} (hk:k<26) (h0:kW k=wAt W 0) (hl:W.length=1+kN k):
  docK W=if okW W=true then (⟨kD k,rdD W 1,rdD W 2,rdD W 3,kF k,[]⟩,0) else (op0,13):=by
 have e:dix W=k:=dix_at hk h0.symm hl
 unfold docK okW
 rw[e,if_neg (by omega),Int.toNat_natCast]
def nRow (W:List (List UInt8)) (j:Nat):List AV:=[.i (if 1<j then (rd1 (wAt W 1)).1 else 0),.i (if 2<j then (rd1 (wAt W 2)).1 else 0),.i (if 3<j then (rd1 (wAt W 3)).1 else 0)]
set_option maxHeartbeats 2000000 in
theorem ref24_Parse (s:List UInt8) (hs:s.length≤100000):Fn Tryz.prog 11 [.d (str s)] (.tup [aggD (docS s).1.cs,.i (docS s).2]):=by
 have hsz:(⟨s.toArray⟩:ByteArray).size=s.length:=str_size s
 have hc1:((⟨s.toArray⟩:ByteArray).toList==(⟨([112,114,111,103,114,97,109]:List UInt8).toArray⟩:ByteArray).toList)=decide (s=wProg):=str_beq s wProg
 have hbad:(AV.tup [aggD (op0,(13:Int)).1.cs,.i (op0,(13:Int)).2])=.tup [.agg [.i 0,.i 0,.i 0,.i 0,.b false,.d (.sl [])],.i 13]:=rfl
 by_cases h1:s=wProg
 ·rw[decide_eq_true h1] at hc1
  have e:docS s=(⟨6,0,0,0,false,[]⟩,0):=by unfold docS;rw[if_pos h1]
  rw[e,show (AV.tup [aggD ((⟨6,0,0,0,false,[]⟩:OpR),(0:Int)).1.cs,.i ((⟨6,0,0,0,false,[]⟩:OpR),(0:Int)).2])=.tup [.agg [.i 6,.i 0,.i 0,.i 0,.b false,.d (.sl [])],.i 0] from rfl]
  clear e h1
  refine Fn_of tt_ok Tryz.func11 rfl (by decide) Tryz.ntmps11 rfl ?_
  repeat' ((conv=>whnf);(first
   |refine Br_true hc1 ?_
   |refine finD (F:=[]) (FV_tups ⟨FV_aggs ⟨.same _ rfl,.same _ rfl,.same _ rfl,.same _ rfl,.same _ rfl,.nsl,trivial⟩,.same _ rfl,trivial⟩)))
 rw[decide_eq_false h1] at hc1
 have hx8:((⟨s.toArray⟩:ByteArray).extract (Int.toNat 0) (8:Int).toNat).toList=s.take 8:=by rw[str_extract,str_toList];rfl
 have hc2:(((⟨s.toArray⟩:ByteArray).extract (Int.toNat 0) (8:Int).toNat).toList==(⟨([112,114,111,103,114,97,109,32]:List UInt8).toArray⟩:ByteArray).toList)=decide (s.take 8=wProg++[32]):=by
  rw[hx8,str_toList,Bool.eq_iff_iff,beq_iff_eq,decide_eq_true_iff]
  exact Iff.rfl
 by_cases h2:8<s.length∧s.take 8=wProg++[32]
 ·rw[decide_eq_true h2.2] at hc2
  have hP:=ref20_Parse (s.drop 8) (by rw[List.length_drop];omega)
  have e2:D.str ((⟨s.toArray⟩:ByteArray).extract (8:Int).toNat (((⟨s.toArray⟩:ByteArray).size:Int)).toNat)=str (s.drop 8):=by
   rw[hsz,Int.toNat_natCast]
   show D.str ((⟨s.toArray⟩:ByteArray).extract 8 s.length)=_
   rw[str_drop]
  have e:docS s=if (parseV (s.drop 8)).2=0 then (⟨6,0,0,0,false,(parseV (s.drop 8)).1⟩,0) else (op0,13):=by unfold docS;rw[if_neg h1,if_pos h2]
  rw[e]
  rw[← e2] at hP
  have hlen:=h2.1
  clear e e2 h2 hx8
  generalize parseV (s.drop 8)=q at *
  obtain ⟨l,n⟩:=q
  simp only at *
  by_cases hn:n=0
  ·rw[if_pos hn]
   have hne:(n != 0)=false:=by rw[hn];rfl
   rw[show (AV.tup [aggD ((⟨6,0,0,0,false,l⟩:OpR),(0:Int)).1.cs,.i ((⟨6,0,0,0,false,l⟩:OpR),(0:Int)).2])=.tup [.agg [.i 6,.i 0,.i 0,.i 0,.b false,.d (stepsD l)],.i 0] from rfl]
   refine Fn_of tt_ok Tryz.func11 rfl (by decide) Tryz.ntmps11 rfl ?_
   repeat' ((conv=>whnf);(first
    |refine Br_false hc1 ?_
    |refine Br_true hc2 ?_
    |refine Br_false (by assumption) ?_
    |refine Br_true (decide_eq_true (by omega)) ?_
    |refine Len_in (fun hlen=>?_)
    |refine Fn.use (hP) rfl rfl ?_
    |refine Need_in ⟨by omega,by omega,by omega⟩ ?_
    |refine fin0 rfl rfl))
  ·rw[if_neg hn,hbad]
   have hne:(n != 0)=true:=by simp[hn]
   refine Fn_of tt_ok Tryz.func11 rfl (by decide) Tryz.ntmps11 rfl ?_
   repeat' ((conv=>whnf);(first
    |refine Br_false hc1 ?_
    |refine Br_true hc2 ?_
    |refine finD (F:=[]) (FV_tups ⟨FV_aggs ⟨.same _ rfl,.same _ rfl,.same _ rfl,.same _ rfl,.same _ rfl,.nsl,trivial⟩,.same _ rfl,trivial⟩)
    |refine Br_true (by assumption) ?_
    |refine Br_true (decide_eq_true (by omega)) ?_
    |refine Len_in (fun hlen=>?_)
    |refine Fn.use (hP) rfl rfl ?_
    |refine Need_in ⟨by omega,by omega,by omega⟩ ?_))
 rw[docS_words h1 h2]
 have hc2':8<s.length→(((⟨s.toArray⟩:ByteArray).extract (Int.toNat 0) (8:Int).toNat).toList==(⟨([112,114,111,103,114,97,109,32]:List UInt8).toArray⟩:ByteArray).toList)=false:=fun h=>by
  rw[hc2]
  exact decide_eq_false fun h3=>h2 ⟨h,h3⟩
 have hSp:=ref20_Split s 32 hs
 have hml:=split_mem_len 32 s
 have hne:=splitL_ne 32 s
 have hK:=ref24_kinds
 have hkl:kRows.length=26:=by rw[kRows_eq];simp
 have hat:=fun (k:Nat) (h:k<26)=>kRows_at h (n:=(k:Int)) rfl
 have hat2:=fun (k:Nat) (h:k<26)=>kRows_at h (n:=(k:Int)) rfl
 clear hx8 hc2 h2 h1
 generalize splitL 32 s=W at *
 have hW0:0<W.length:=List.length_pos_iff.2 hne
 have hWl:(List.map (fun l=>[str l]) W).length=W.length:=by simp
 have hi0:=texts_w hW0 (n:=(0:Int)) rfl
 have hcw:=fun k=>str_beq (kW k) (wAt W 0)
 obtain ⟨K,hKe⟩: ∃K,K=kRows:=⟨_,rfl⟩
 rw[← hKe] at hkl hat hK
 clear hKe hat2
 have hwl: ∀i,i<W.length→(wAt W i).length≤100000:=fun i hi=>by
  have h3:wAt W i∈W:=by unfold wAt;rw[List.getD_eq_getElem?_getD,List.getElem?_eq_getElem hi];exact List.getElem_mem hi
  have:=hml _ h3
  omega
 refine Fn_of tt_ok Tryz.func11 rfl (by decide) Tryz.ntmps11 rfl ?_
 by_cases h8:8<s.length
 all_goals
  first
   |have hc3:=hc2' h8
   |skip
  clear hc2'
  repeat' ((conv=>whnf);(first
   |refine Br_false hc1 ?_
   |refine Br_false (by assumption) ?_
   |refine Br_true (decide_eq_true (by omega)) ?_
   |refine Br_false (decide_eq_false (by omega)) ?_
   |refine Len_in (fun hlen=>?_)
   |refine Fn.use (hSp) rfl rfl ?_
   |refine Fn.use (hK) rfl rfl ?_
   |refine Need_in ⟨by omega,by omega,by omega⟩ ?_))
  clear hc1 hSp hK hml
  try clear hc3
  refine W_loop (fun μ st=> ∃(k:Nat),k≤26∧μ=26-k∧(∀ j,j<k→(kW j==wAt W 0&&W.length==1+kN j)=false)∧
    st=⟨[(2,.ptr 0 0),(6,.d (texts W)),(7,.d (.sl K)),(8,.i k)],106,[some (.row [.i 0,.i 0,.i 0,.i 0,.b false,.nsl])],0,[]⟩) 26
   ⟨_,?_,0,by omega,by omega,fun j hj=>by omega,rfl⟩ ?_
  ·exact Wk_env (by repeat (first|exact trivial|refine⟨rfl,?_⟩))
  rintro μ s1 ⟨k,hk,rfl,hI,rfl⟩
  refine W_run tt_ok ?_
  refine Len_in (fun hlen=>?_)
  by_cases hk26:k=26
  ·subst hk26
   rw[docK_no hI,hbad]
   repeat' ((conv=>whnf);(first
    |refine finD (F:=[]) (FV_tups ⟨FV_aggs ⟨.same _ rfl,.same _ rfl,.same _ rfl,.same _ rfl,.same _ rfl,.nsl,trivial⟩,.same _ rfl,trivial⟩)
    |refine Br_false (decide_eq_false (by omega)) ?_))
  have hk2:k<26:=by omega
  have hatk:=hat k hk2
  have hcwk:=hcw k
  have hnext:(kW k==wAt W 0&&W.length==1+kN k)=false→ ∀j,j<k+1→(kW j==wAt W 0&&W.length==1+kN j)=false:=fun h j hj=>by
   rcases Nat.lt_succ_iff_lt_or_eq.1 hj with h4|h4
   ·exact hI j h4
   ·subst h4;exact h
  have hpt:=docK_at (W:=W) hk2
  unfold kRow at hatk
  refine Br_true (decide_eq_true (by omega)) ?_
  by_cases hw:kW k=wAt W 0
  rotate_left
  ·rw[decide_eq_false hw] at hcwk
   have hx:(!((⟨(kW k).toArray⟩:ByteArray).toList==(⟨(wAt W 0).toArray⟩:ByteArray).toList))=true:=by rw[hcwk];rfl
   have hn:=hnext (by rw[show (kW k==wAt W 0)=false from by simpa using hw];rfl)
   clear hpt hnext
   generalize kW k=kw at *
   generalize kD k=kd at *
   generalize kF k=kf at *
   generalize kN k=n at *
   repeat' ((conv=>whnf);(first
    |refine Br_true (by assumption) ?_
    |refine W_draw 0 tt_ok mixed (by kernel_rfl) ?_
    |refine Idx_in _ hatk (by omega) rfl ?_
    |refine Idx_in _ hi0 (by omega) rfl ?_
    |refine Back_in _ _ ⟨k+1,by omega,rfl,hn,rfl⟩ (by omega) (Wk_env (by repeat (first|exact trivial|refine⟨rfl,?_⟩)))
    |refine ArK_in (wrap_i64 (by omega) (by omega)) ?_))
  rw[decide_eq_true hw] at hcwk
  have hx:(!((⟨(kW k).toArray⟩:ByteArray).toList==(⟨(wAt W 0).toArray⟩:ByteArray).toList))=false:=by rw[hcwk];rfl
  have hk3:=(k_all ⟨k,hk2⟩).2.2.2.2.2
  simp only at hk3
  by_cases hl:W.length=1+kN k
  rotate_left
  ·have hx2:((((List.map (fun l=>[str l]) W).length:Int)) != 1+(kN k:Int))=true:=by rw[hWl];simp;omega
   have hn:=hnext (by rw[show (W.length==1+kN k)=false from by simpa using hl];simp)
   clear hpt hnext
   generalize kW k=kw at *
   generalize kD k=kd at *
   generalize kF k=kf at *
   generalize kN k=n at *
   repeat' ((conv=>whnf);(first
    |refine Br_true (by assumption) ?_
    |refine Br_false (by assumption) ?_
    |refine W_draw 0 tt_ok mixed (by kernel_rfl) ?_
    |refine Idx_in _ hatk (by omega) rfl ?_
    |refine Idx_in _ hi0 (by omega) rfl ?_
    |refine Back_in _ _ ⟨k+1,by omega,rfl,hn,rfl⟩ (by omega) (Wk_env (by repeat (first|exact trivial|refine⟨rfl,?_⟩)))
    |refine ArK_in (wrap_i64 (by omega) (by omega)) ?_))
  have hx2:((((List.map (fun l=>[str l]) W).length:Int)) != 1+(kN k:Int))=false:=by rw[hWl];simp;omega
  rw[hpt hw hl]
  clear hpt hnext hI hw
  generalize kW k=kw at *
  generalize kD k=kd at *
  generalize kF k=kf at *
  generalize kN k=n at *
  repeat' ((conv=>whnf);(first
   |refine Br_false (by assumption) ?_
   |refine W_draw 0 tt_ok mixed (by kernel_rfl) ?_
   |refine Idx_in _ hatk (by omega) rfl ?_
   |refine Idx_in _ hi0 (by omega) rfl ?_
   |refine ArK_in (wrap_i64 (by omega) (by omega)) ?_))
  refine Ch_l ?_
  skip
  refine W_loop (fun μ st=> ∃(j:Nat),1≤j∧j≤W.length∧μ=W.length-j∧(∀ i,1≤i→i<j→(rd1 (wAt W i)).2=true)∧
    st=⟨[(2,.ptr 0 0),(6,.d (texts W)),(7,.d (.sl K)),(8,.i k),(9,.msl 1 0 3 3 1),(10,.i j)],106,[some (.row [.i 0,.i 0,.i 0,.i 0,.b false,.nsl]),some (.row (nRow W j))],0,[]⟩) (W.length-1)
   ⟨_,?_,1,by omega,by omega,by omega,fun i h3 h4=>by omega,rfl⟩ ?_
  ·exact Wk_H [some (.row [.i 0,.i 0,.i 0,.i 0,.b false,.nsl]),some (.row (nRow W 1))] (by kernel_rfl) (Wk_env (by repeat (first|exact trivial|refine⟨rfl,?_⟩)))
  rintro μ s1 ⟨j,hj1,hj,rfl,hR,rfl⟩
  refine W_run tt_ok ?_
  refine Len_in (fun hlen2=>?_)
  by_cases hjl:j=W.length
  ·rw[if_pos (okW_iff.2 fun i h3 h4=>hR i h3 (by omega))]
   have hres2:(AV.tup [aggD ((⟨kd,rdD W 1,rdD W 2,rdD W 3,kf,[]⟩:OpR),(0:Int)).1.cs,.i ((⟨kd,rdD W 1,rdD W 2,rdD W 3,kf,[]⟩:OpR),(0:Int)).2])=.tup [.agg [.i kd,.i (rdD W 1),.i (rdD W 2),.i (rdD W 3),.b kf,.d (.sl [])],.i 0]:=rfl
   rw[hres2]
   unfold rdD
   rw[← hjl]
   refine Br_false (decide_eq_false (by omega)) ?_
   repeat' ((conv=>whnf);(first
    |refine finD (F:=[]) (FV_tups ⟨FV_aggs ⟨.same _ rfl,.same _ rfl,.same _ rfl,.same _ rfl,.same _ rfl,.nsl,trivial⟩,.same _ rfl,trivial⟩)
    |refine W_draw 0 tt_ok mixed (by kernel_rfl) ?_
    |refine Idx_in _ hatk (by omega) rfl ?_))
  have hjlt:j<W.length:=by omega
  have hij:=texts_w hjlt (n:=(j:Int)) rfl
  have hRd:=ref23_Read1 (wAt W j) (hwl j hjlt)
  refine Br_true (decide_eq_true (by omega)) ?_
  cases hok:(rd1 (wAt W j)).2
  ·rw[if_neg (fun h=>by have:=okW_iff.1 h j hj1 hjlt;rw[this] at hok;simp at hok),hbad]
   rw[hok] at hRd
   generalize (rd1 (wAt W j)).1=v at *
   repeat' ((conv=>whnf);(first
    |refine finD (F:=[]) (FV_tups ⟨FV_aggs ⟨.same _ rfl,.same _ rfl,.same _ rfl,.same _ rfl,.same _ rfl,.nsl,trivial⟩,.same _ rfl,trivial⟩)
    |refine Idx_in _ hij (by omega) rfl ?_
    |refine Fn.use (hRd) rfl rfl ?_))
  ·rw[hok] at hRd
   have hR2: ∀i,1≤i→i<j+1→(rd1 (wAt W i)).2=true:=fun i h3 h4=>by
    rcases Nat.lt_succ_iff_lt_or_eq.1 h4 with h5|h5
    ·exact hR i h3 h5
    ·rw[h5];exact hok
   rcases (by omega:j=1∨j=2∨j=3) with rfl|rfl|rfl
   ·repeat' ((conv=>whnf);(first
    |refine Idx_in _ hij (by omega) rfl ?_
    |refine Fn.use (hRd) rfl rfl ?_
    |refine Back_in _ _ ⟨2,by omega,by omega,rfl,hR2,rfl⟩ (by omega) ?_
    |refine ArK_in (wrap_i64 (by omega) (by omega)) ?_))
    exact Wk_H [some (.row [.i 0,.i 0,.i 0,.i 0,.b false,.nsl]),some (.row (nRow W 2))] (by kernel_rfl) (Wk_env (by repeat (first|exact trivial|refine⟨rfl,?_⟩)))
   ·repeat' ((conv=>whnf);(first
    |refine Idx_in _ hij (by omega) rfl ?_
    |refine Fn.use (hRd) rfl rfl ?_
    |refine Back_in _ _ ⟨3,by omega,by omega,rfl,hR2,rfl⟩ (by omega) ?_
    |refine ArK_in (wrap_i64 (by omega) (by omega)) ?_))
    exact Wk_H [some (.row [.i 0,.i 0,.i 0,.i 0,.b false,.nsl]),some (.row (nRow W 3))] (by kernel_rfl) (Wk_env (by repeat (first|exact trivial|refine⟨rfl,?_⟩)))
   ·repeat' ((conv=>whnf);(first
    |refine Idx_in _ hij (by omega) rfl ?_
    |refine Fn.use (hRd) rfl rfl ?_
    |refine Back_in _ _ ⟨4,by omega,by omega,rfl,hR2,rfl⟩ (by omega) ?_
    |refine ArK_in (wrap_i64 (by omega) (by omega)) ?_))
    exact Wk_H [some (.row [.i 0,.i 0,.i 0,.i 0,.b false,.nsl]),some (.row (nRow W 4))] (by kernel_rfl) (Wk_env (by repeat (first|exact trivial|refine⟨rfl,?_⟩)))
end Go.Eng
