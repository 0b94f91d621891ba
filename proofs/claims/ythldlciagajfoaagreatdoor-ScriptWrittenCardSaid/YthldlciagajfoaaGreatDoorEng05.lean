/- What the seat's proofs lean on, part 5: the executor over abstract values, its soundness, and what the program's functions answer (Eng32, Prg7, Eng28, Eng29, Eng33, Eng34, Eng35, Eng36, Eng37, Eng39, Eng40, Eng38, Eng41, Eng42). -/
import Derived.Test.YthldlciagajfoaaGreatDoorEng04
import Derived.TacticsIn
import Derived.Test.YthldlciagajfoaaGreatDoorEng03
import Derived.ProofKit
import Derived.OpenShut
import Derived.Carry
import Derived.OpenVars
import Derived.Lay
import Derived.LaidMore
import Derived.SevenTiedAt
import Derived.Stop.Joined
import Derived.HandedShaped
import Derived.Shelf.Vars
import Derived.MakeChecks
import Derived.Lib.LaidTab
set_option linter.all false
set_option linter.unusedVariables false
set_option linter.unusedSimpArgs false
set_option maxRecDepth 100000
namespace Go.Eng
open Go
section
variable {P:Program}
def AsgOk (P:Program) (asg:Code) (t u:Tmp):Prop:= ∀(l:Nat) (T:Array Value) (w:World) (K:Act→World→Prop) (Z:Exit→Act→World→Prop),K { tmps:=T.setIfInBounds u (T.getD t undef),defers:=[]} w→
 asg.wpIn (Fence.wide.inRound l) 0 P (Exit.then K Z) { tmps:=T,defers:=[]} w
theorem AsgOk_in {id:Nat} {t u:Tmp} {ty:TypeId} {pos:String} {af:Array Edge}:AsgOk P (.region id #[{ dst:=some u,op:=.assign (.tmp t),type:=ty,pos:=pos,after:=af,guard:=none }] false) t u:=by
 intro l T w K Z h
 refine wpIn_region_lit (l:=[{ dst:=some u,op:=.assign (.tmp t),type:=ty,pos:=pos,after:=af,guard:=none }]) (wpListIn_plain rfl fun K' hK=>?_)
 have h2:=hK _ _ (wpListIn_nil (F:=Fence.wide.inRound l) (n:=0) (P:=P) (ops:= #[{ dst:=some u,op:=.assign (.tmp t),type:=ty,pos:=pos,after:=af,guard:=none }]) (Q:=Exit.then K Z) h)
 refine⟨fun f hf=>by simp[Oper.about] at hf,?_⟩
 have e:(Oper.semAt (Fence.wide.inRound l).round (Act.eval { tmps:=T,defers:=[]}) { dst:=some u,op:=.assign (.tmp t),type:=ty,pos:=pos,after:=af,guard:=none }).run P w=.ok (.value (T.getD t undef)) w:=by
  rw[Oper.semAt_eq _ _ _ (by intro c;simp)]
  rfl
 rw[e]
 exact h2
theorem Rel.setT {p:PQ} {σ:List Nat} {ρ:Env} {n m:Nat} {H:Heap} {df:List DF} {T:Array Value} {ds:List Deferred} {w:World} (h:Rel p σ ⟨ρ,n,H,m,df⟩ { tmps:=T,defers:=ds } w) {t u:Tmp} {x:AV} (hu:u<n) (hx:get ρ t=x):
  Rel p σ ⟨(u,x)::ρ,n,H,m,df⟩ { tmps:=T.setIfInBounds u (T.getD t undef),defers:=ds } w:=by
 refine⟨by simpa using h.size,h.df,fun v=>?_,h.heap,h.m⟩
 have hs:T.size=n:=h.size
 simp only[get]
 by_cases hv:u=v
 ·subst hv
  rw[Nat.beq_refl]
  simp only[cond_true]
  have:(T.setIfInBounds u (T.getD t undef)).getD u undef=T.getD t undef:=by simp[Array.getD_eq_getD_getElem?,hs,hu]
  rw[this,←hx]
  exact h.env t
 ·rw[beq_ne hv]
  simp only[cond_false]
  have:(T.setIfInBounds u (T.getD t undef)).getD v undef=T.getD v undef:=by simp[Array.getD_eq_getD_getElem?,Array.getElem?_setIfInBounds_ne hv]
  rw[this]
  exact h.env v
def recOfA (asg:Code) (fn:FuncId) (tmps:Array Value) (ps:Array Tmp) (body:Code) (d:Nat) (st:LoopState) (pend:Option Code):Loop:=
 { state:=st,pending:=pend,fn:=fn,tmps:=tmps,params:=ps,assign:=asg,body:=body,defers:=d }
def mkYA (asg:Code) (p0:PQ) (ρ:Env) (tmps:Array Value) (mb:Nat) (σb:List Nat) (l:Nat) (fn:FuncId) (t:Tmp) (body:Code) (d:Nat) (xs:List AV) (J:Nat→Heap→Prop) (JZ:AEx→Heap→Prop):Ysp where
 l:=l
 xs:=xs
 I k p w:= ∃pO σO H,J k H∧Mid p0 ρ tmps mb σb l (recOfA asg fn tmps #[t] body d .ready none) p w pO σO H
 Z p w:= ∃pO σO H e c,JZ e H∧isExit e c∧Mid p0 ρ tmps mb σb l (recOfA asg fn tmps #[t] body d .done (some c)) p w pO σO H
 stI:=fun k p p' w w' ⟨pO,σO,H,h1,h2⟩ hf hr hs hsh=>⟨pO,σO,H,h1,h2.stab hf hr hs hsh⟩
 stZ:=fun p p' w w' ⟨pO,σO,H,e,c,h1,h2,h3⟩ hf hr hs hsh=>⟨pO,σO,H,e,c,h1,h2,h3.stab hf hr hs hsh⟩
theorem mkYA_law {p0:PQ} {ρ:Env} {tmps:Array Value} {mb:Nat} {σb:List Nat} {l:Nat} {fn:FuncId} {t u0:Tmp} {asg:Code} {body:Code} {d:Nat} {xs:List AV} {J:Nat→Heap→Prop} {JZ:AEx→Heap→Prop}
  (ht:t<tmps.size) (hu0:u0<tmps.size) (hasg:AsgOk P asg t u0) (hxs: ∀(k:Nat) (x:AV),xs[k]? =some x→plain x=true)
  (hround: ∀(k:Nat) (x:AV) (H:Heap),xs[k]? =some x→J k H→mb≤H.length→noY H=true→W P (some l) body (RdBack J JZ k tmps.size mb) ⟨(u0,x)::(t,x)::ρ,tmps.size,H,mb,[]⟩):
  YLaw P (mkYA asg p0 ρ tmps mb σb l fn t body d xs J JZ):=by
 rintro k x vs p σ w ⟨pO,σO,H,hJ,hM⟩ hx hvs hlt hul hll
 obtain ⟨v,rfl,hv⟩:=one_val (plain_one (hxs k x hx)) hvs
 have hul: ¬p.u l:=hul
 have hll:l<w.heap.size:=hll
 refine⟨fn,tmps.setIfInBounds t v,asg,body,?_,?_⟩
 ·show (Instr.yield l #[v]).run P w=.ok (.round l fn (tmps.setIfInBounds t v) asg body) w
  rw[run_yield hM.lrec (by simp[recOfA])]
  simp[recOfA]
 show RoundIn Fence.wide 0 P l fn (tmps.setIfInBounds t v) asg body w _
 refine roundIn_of_wpIn trivial (hasg l _ w _ _ ?_)
 refine⟨_,run_beginRound hM.lrec rfl,?_⟩
 let w2:=w.putObj l (.loop (recOfA asg fn tmps #[t] body d .busy none))
 show body.wpIn (Fr (some l)) 0 P _ _ w2
 have hsh2:Shape w w2:=Shape.putLoop hM.lrec _
 have hlr: ¬pO.r l:=fun h=>(hM.back l h).elim (fun h=>hul (p.sub l (hM.p0r l h))) fun h=>hul (p.fu l h)
 let liveO:Nat→Prop:=fun b=> ∃(i:Nat) (q:Blk),H[i]? =some (some q)∧σO[i]? =some b
 have hlive: ∀b,liveO b→p.f b∧ ¬pO.u b∧b<w.heap.size:=fun b ⟨i,q,h1,h2⟩=>by
  obtain ⟨r',g1,g2,g3,_⟩:=hM.heap.blk i q h1
  rw[h2] at g1
  injection g1 with g1
  subst g1
  exact⟨hM.live i b q h1 h2,g2,g3⟩
 have hll2: ¬liveO l:=fun h=>hul (p.fu l (hlive l h).1)
 have sz2:w2.heap.size=w.heap.size:=by simp[w2]
 have oth2: ∀b,b≠l→w2.heap[b]? =w.heap[b]? :=fun b hb=>World.putObj_heap_other hb
 let pR:PQ:=⟨pO.r,fun b=>b<w.heap.size∧ ¬liveO b,fun _=>False,fun b hb=>⟨hM.heap.lt b (pO.sub b hb),fun h=>(hlive b h).2.1 (pO.sub b hb)⟩,fun _ h=>h.elim,fun _ h=>h.elim⟩
 have hHR:HRel pR σO H w2:=hM.heap.same hM.noY (fun _ h=>h) (fun b hb=>oth2 b fun e=>hlr (e▸hb)) hsh2 (fun b hb=>by rw[sz2];exact hb.1) fun i q r h1 h2=>
  ⟨fun h=>h.2 ⟨i,q,h1,h2⟩,oth2 r fun e=>hll2 (e▸⟨i,q,h1,h2⟩)⟩
 have σmono: ∀(i r:Nat),σb[i]? =some r→σO[i]? =some r:=fun i r hi=>by
  rw[hM.nam i (by rw[← hM.bl];exact(List.getElem?_eq_some_iff.1 hi).1)]
  exact hi
 have hRel0:Rel pR σO ⟨(t,x)::ρ,tmps.size,H,mb,[]⟩ { tmps:=tmps.setIfInBounds t v,defers:=[]} w2:=by
  refine⟨by simp,trivial,fun u=>?_,hHR,hM.len⟩
  simp only[get]
  by_cases hu:t=u
  ·subst hu
   rw[Nat.beq_refl]
   simp only[cond_true]
   have:(tmps.setIfInBounds t v).getD t undef=v:=by simp[Array.getD_eq_getD_getElem?,ht]
   rw[this]
   exact hv.ofPlain (hxs k x hx)
  ·rw[beq_ne hu]
   simp only[cond_false]
   have:(tmps.setIfInBounds t v).getD u undef=tmps.getD u undef:=by simp[Array.getD_eq_getD_getElem?,Array.getElem?_setIfInBounds_ne hu]
   rw[this]
   exact(hM.env u).mono' (p:=pO) (p':=pR) (fun _ h=>h) (fun b hb=>oth2 b fun e=>hlr (e▸hb)) hsh2 σmono
 have hRel:=hRel0.setT (t:=t) (x:=x) hu0 (by simp[get])
 have hW:=hround k x H hx hJ hM.len hM.noY
 rw[W_eq] at hW
 refine wpIn_mono (hW pR σO _ w2 hRel) ?_
 rintro e a' w' ⟨ae,p',σ',s',rfl,g2,g3,g4,g5,g6,g7⟩
 rw[RdBack_eq] at g7
 obtain ⟨H3,hwk,hY3,hl3,hJ3⟩:=g7
 rw[Wk_eq] at hwk
 obtain ⟨k1,k2,k3⟩:=hwk
 obtain ⟨p2,σ2,e1,m1,r1⟩:=k3 p' σ' a' w' g4
 have hex:=g2.trans e1
 have hnam: ∀i,i<mb→σ2[i]? =σO[i]? :=fun i hi=>(m1 i (by rw[g5];exact hi)).trans (g3 i hi)
 have hpl:pR.u l:=⟨hll,hll2⟩
 have hrec:w'.heap[l]? =some (.loop (recOfA asg fn tmps #[t] body d .busy none)):=(g2.same l hpl (fun h=>h)).trans (World.putObj_heap_same hll)
 have hll':l<w'.heap.size:=(Array.getElem?_eq_some_iff.1 hrec).1
 have h2l: ¬p2.r l:=fun h=>(hex.back l h).elim hlr fun h=>h hpl
 have new: ∀b,¬pR.u b→p.f b∨w.heap.size≤b:=fun b hb=>by
  by_cases hlt':b<w.heap.size
  ·by_cases hlv:liveO b
   ·exact .inl (hlive b hlv).1
   ·exact absurd ⟨hlt',hlv⟩ hb
  ·exact .inr (by omega)
 have fin: ∀(st:LoopState) (pend:Option Code),Mid p0 ρ tmps mb σb l (recOfA asg fn tmps #[t] body d st pend) (grow p w (w'.putObj l (.loop (recOfA asg fn tmps #[t] body d st pend)))) (w'.putObj l (.loop (recOfA asg fn tmps #[t] body d st pend))) p2 σ2 H3∧
   (∀ c,c<w.heap.size→ ¬p.f c→c≠l→(w'.putObj l (.loop (recOfA asg fn tmps #[t] body d st pend))).heap[c]? =w.heap[c]?)∧Shape w (w'.putObj l (.loop (recOfA asg fn tmps #[t] body d st pend))):=fun st pend=>by
  have hsh3:Shape w' (w'.putObj l (.loop (recOfA asg fn tmps #[t] body d st pend))):=Shape.putLoop hrec _
  have oth3: ∀b,b≠l→(w'.putObj l (.loop (recOfA asg fn tmps #[t] body d st pend))).heap[b]? =w'.heap[b]? :=fun b hb=>World.putObj_heap_other hb
  have sz3:(w'.putObj l (.loop (recOfA asg fn tmps #[t] body d st pend))).heap.size=w'.heap.size:=by simp
  have rec3:(w'.putObj l (.loop (recOfA asg fn tmps #[t] body d st pend))).heap[l]? =some (.loop (recOfA asg fn tmps #[t] body d st pend)):=World.putObj_heap_same hll'
  generalize w'.putObj l (.loop (recOfA asg fn tmps #[t] body d st pend))=w3 at *
  have hshA:Shape w w3:=(hsh2.trans g2.shape).trans hsh3
  have grown: ∀b,¬pR.u b→b<w'.heap.size→(grow p w w3).f b:=fun b hb hbl=>(new b hb).imp id fun h=>⟨h,by omega,fun hr=>by have:=hlt b (p.sub b hr);omega⟩
  have rsame: ∀b,p2.r b→w3.heap[b]? =w'.heap[b]? :=fun b hb=>oth3 b fun e=>h2l (e▸hb)
  have osame: ∀b,pO.r b→w3.heap[b]? =w.heap[b]? :=fun b hb=>(oth3 b fun e=>hlr (e▸hb)).trans ((g2.same b (pR.sub b hb) (fun h=>h)).trans (oth2 b fun e=>hlr (e▸hb)))
  have lv: ∀(i:Nat) (q:Blk) (r:Nat),H3[i]? =some (some q)→σ2[i]? =some r→ ¬p2.u r∧r<w'.heap.size:=fun i q r h1 h2=>by
   obtain ⟨r',z1,z2,z3,_⟩:=r1.heap.blk i q h1
   rw[h2] at z1
   injection z1 with z1
   subst z1
   exact⟨z2,z3⟩
  refine⟨⟨hM.bl,hl3,r1.heap.same hY3 (fun _ h=>h) rsame hsh3 (fun b hb=>by rw[sz3];exact r1.heap.lt b hb) fun i q r h1 h2=>⟨(lv i q r h1 h2).1,oth3 r fun e=>(lv i q r h1 h2).1 (e▸hex.subu l hpl)⟩,fun i hi=>(hnam i hi).trans (hM.nam i hi),hY3,
   fun b hb=>hex.subr b (hM.subr b hb),fun b hb=>?_,fun i r q h1 h2=>grown r (fun h=>(lv i q r h1 h2).1 (hex.subu r h)) (lv i q r h1 h2).2,hM.p0r,fun u=>(hM.env u).mono' (p:=pO) (p':=p2) (fun b hb=>hex.subr b hb) osame hshA (fun _ _ h=>h),rec3⟩,fun c hc hcf hcl=>?_,hshA⟩
  ·rcases hex.back b hb with h|h
   ·exact(hM.back b h).imp id .inl
   ·exact .inr (grown b h (r1.heap.lt b (p2.sub b hb)))
  ·exact(oth3 c hcl).trans ((g2.same c ⟨hc,fun h=>hcf (hlive c h).1⟩ (fun h=>h)).trans (oth2 c hcl))
 cases ae with
 |normal=>
  obtain ⟨f1,f2,f3⟩:=fin .ready none
  exact⟨_,_,run_endRound none hrec,true,rfl,fun _=>⟨p2,σ2,H3,hJ3,f1⟩,fun h=>by simp at h,f2,f3⟩
 |exit i=>
  obtain ⟨f1,f2,f3⟩:=fin .done (some (.exit i))
  exact⟨_,_,run_endRound (some (.exit i)) hrec,false,rfl,fun h=>by simp at h,fun _=>⟨p2,σ2,H3,.exit i,_,hJ3,rfl,f1⟩,f2,f3⟩
 |goto i=>
  obtain ⟨f1,f2,f3⟩:=fin .done (some (.goto i))
  exact⟨_,_,run_endRound (some (.goto i)) hrec,false,rfl,fun h=>by simp at h,fun _=>⟨p2,σ2,H3,.goto i,_,hJ3,rfl,f1⟩,f2,f3⟩
 |ret=>
  obtain ⟨f1,f2,f3⟩:=fin .done (some .ret)
  exact⟨_,_,run_endRound (some .ret) hrec,false,rfl,fun h=>by simp at h,fun _=>⟨p2,σ2,H3,.ret,_,hJ3,rfl,f1⟩,f2,f3⟩
theorem W_rangeA {gop:Operand} {f:FuncId} {fs cs fs0 cs0:List AV} (gl:List Nat) {H H0:Heap} {ρ:Env} {n m:Nat} {df:List DF} {t u0:Tmp} {asg:Code} {body:Code} {Q:AEx→St→Prop} (xs:List AV) (J:Nat→Heap→Prop) (JZ:AEx→Heap→Prop)
  (hg:evalO (get ρ) gop=.clos (.func f) fs cs) (hlt:(gl.all fun x=>Nat.blt x H.length)=true) (hnd:noDup gl=true) (hle:HLe gl gl.length H H0 gl) (hfs:fs=renL (gOf gl) fs0) (hcs:cs=renL (gOf gl) cs0)
  (hlf:lowL gl.length fs0=true) (hlc:lowL gl.length cs0=true) (ht:t<n) (hu0:u0<n) (hasg:AsgOk P asg t u0) (hY:noY H=true) (hxs: ∀(k:Nat) (x:AV),xs[k]? =some x→plain x=true)
  (hcall: ∀Y:Ysp,Y.xs=xs→YLaw P Y→Tri P f (fs0++[.clos (.yield Y.l) [] []]++cs0) (H0++[some (.yl Y 0)]) fun v H1=>H1[gl.length]? =some (some (.yl Y xs.length))∨H1[gl.length]? =some (some (.yz Y)))
  (hJ0:J 0 (hide gl H 0++[some .dfr]))
  (hround: ∀(l k:Nat) (x:AV) (H':Heap),xs[k]? =some x→J k H'→H.length+1≤H'.length→noY H'=true→W P (some l) body (RdBack J JZ k n (H.length+1)) ⟨(u0,x)::(t,x)::ρ,n,H',H.length+1,[]⟩)
  (hend: ∀H',J xs.length H'→H.length+1≤H'.length→noY H'=true→Q .normal ⟨ρ,n,H',m,.mk H.length::df⟩)
  (hZ: ∀e H' c,isExit e c→JZ e H'→H.length+1≤H'.length→noY H'=true→Q e ⟨ρ,n,H',m,.mk H.length::df⟩):
  W P none (.rangeFunc gop #[t] asg body) Q ⟨ρ,n,H,m,df⟩:=by
 rw[W_eq]
 intro p σ a w hR
 have hsz:a.tmps.size=n:=hR.size
 have hH:HRel p σ H w:=hR.heap
 have hlt': ∀x∈gl,x<H.length:=fun x hx=>by simpa [Nat.blt_eq] using List.all_eq_true.1 hlt x hx
 refine wpIn_rangeFunc fun fn _=>?_
 have hv:=evalO_rel hR gop
 simp only[hg] at hv
 generalize hve:a.eval gop=v at hv
 cases hv with
 |clos _ _ _ fs' cs' h1 h2 h3 h4=>
 let rec_:Loop:=recOfA asg fn a.tmps #[t] body w.heap.size .ready none
 let wd:World:=pushW w (.deferred (some []))
 let w1:World:=pushW wd (.loop rec_)
 let l:Nat:=w.heap.size+1
 let σb:=σ++[w.heap.size]
 have hszd:wd.heap.size=w.heap.size+1:=pushW_size
 have hsz1:w1.heap.size=w.heap.size+2:=by simp[w1,pushW_size,hszd]
 have exd:Ext p w p wd:=.push hH.lt _
 have hltd: ∀b,p.u b→b<wd.heap.size:=fun b hb=>by have:=hH.lt b hb;omega
 have ex1:Ext p wd p w1:=.push hltd _
 have exA:Ext p w p w1:=exd.trans ex1
 have old: ∀b,b<w.heap.size→w1.heap[b]? =w.heap[b]? :=fun b hb=>(pushW_old (by omega)).trans (pushW_old hb)
 have hlrec:w1.heap[l]? =some (.loop rec_):=by
  show w1.heap[w.heap.size+1]? =_
  rw[← hszd]
  exact pushW_new
 have hHd:HRel p σb (H++[some .dfr]) wd:=hH.push _ .dfr pushW_new
 have hlive: ∀(i r:Nat) (k:Blk),(H++[some Blk.dfr])[i]? =some (some k)→σb[i]? =some r→ ¬p.u r∧r<wd.heap.size:=fun i r k hk hr=>by
  obtain ⟨r',z1,z2,z3,_⟩:=hHd.blk i k hk
  rw[hr] at z1
  injection z1 with z1
  subst z1
  exact⟨z2,z3⟩
 have hYd:noY (H++[some .dfr])=true:=noY_of fun i k hk=>by
  rcases Nat.lt_or_ge i H.length with hi|hi
  ·rw[List.getElem?_append_left hi] at hk
   exact noY_get hY hk
  ·rw[List.getElem?_append_right hi] at hk
   cases hj:i-H.length with
   |zero=>rw[hj] at hk;simp at hk;subst hk;rfl
   |succ j=>rw[hj] at hk;simp at hk
 have hH1:HRel p σb (H++[some .dfr]) w1:=hHd.same hYd (fun _ h=>h) (fun b hb=>ex1.same b (p.sub b hb) fun hf=>p.fr b hf hb) ex1.shape (fun b hb=>by have:=hltd b hb;omega) fun i k r hk hr=>
  ⟨(hlive i r k hk hr).1,pushW_old (hlive i r k hk hr).2⟩
 let Hb:Heap:=hide gl H 0++[some .dfr]
 obtain ⟨hhl,hhg⟩:=hide_get gl H 0
 have hbl:Hb.length=H.length+1:=by simp[Hb,hhl]
 have hbg: ∀(i:Nat) (k:Blk),Hb[i]? =some (some k)→i∉gl∧(H++[some Blk.dfr])[i]? =some (some k):=fun i k hk=>by
  rcases Nat.lt_or_ge i H.length with hi|hi
  ·rw[List.getElem?_append_left (by rw[hhl];exact hi)] at hk
   obtain ⟨z1,z2⟩:=hhg i k hk
   exact⟨by simpa using z1,by rw[List.getElem?_append_left hi];exact z2⟩
  ·rw[List.getElem?_append_right (by rw[hhl];exact hi),hhl] at hk
   exact⟨fun hm=>by have:=hlt' i hm;omega,by rw[List.getElem?_append_right hi];exact hk⟩
 have hHb:HRel p σb Hb w1:=hH1.less (by rw[hbl];simp) fun i k hk=>(hbg i k hk).2
 let L:Nat→Prop:=fun r=> ∃(i:Nat) (k:Blk),Hb[i]? =some (some k)∧σb[i]? =some r
 have hL: ∀r,L r→ ¬p.u r∧r<wd.heap.size:=fun r ⟨i,k,z1,z2⟩=>hlive i r k (hbg i k z1).2 z2
 let p0:PQ:=⟨p.r,fun b=>p.u b∨L b,L,fun b h=>.inl (p.sub b h),fun b h=>.inr h,fun b h hr=>(hL b h).1 (p.sub b hr)⟩
 have hσl:σ.length=H.length:=hH.len
 have σleft: ∀(i r:Nat),σ[i]? =some r→σb[i]? =some r:=mono_append _
 let Y:=mkYA asg p ρ a.tmps (H.length+1) σb l fn t body w.heap.size xs J JZ
 have hMid:Mid p ρ a.tmps (H.length+1) σb l rec_ p0 w1 p σb Hb:=
  ⟨by simp[σb,hσl],Nat.le_of_eq hbl.symm,hHb,fun _ _=>rfl,noY_of fun i k hk=>noY_get hYd (hbg i k hk).2,fun _ h=>h,fun b h=>.inl h,fun i r k hk hr=>⟨i,k,hk,hr⟩,fun _ h=>h,fun u=>(hR.env u).mono exA σleft,hlrec⟩
 have hlaw:YLaw P Y:=mkYA_law (by rw[hsz];exact ht) (by rw[hsz];exact hu0) hasg hxs fun k x H' e1 e2 e3 e4=>by rw[hsz];exact hround l k x H' e1 e2 e3 e4
 have hT:=hcall Y rfl hlaw
 rw[Tri_eq] at hT
 obtain ⟨hent,hT⟩:=hT
 have hlen0:H0.length=gl.length:=(HLe_get H0 gl hle).1
 have hget0:=(HLe_get H0 gl hle).2
 have hsg:=renS_get (σ:=σ) (g:=gl) rfl (by rw[hσl];exact hlt')
 have hgi: ∀(i j:Nat),gl[i]? =some j→(renS gl σ)[i]? =σ[j]? :=fun i j h=>by
  have hi:=(List.getElem?_eq_some_iff.1 h).1
  rw[hsg i hi]
  simp[gOf,List.getD_eq_getElem?_getD,h]
 have hY0:noY H0=true:=noY_of fun i k hk=>by
  obtain ⟨j,z1,z2,_⟩:=hget0 i k hk
  have:=noY_get hY z2
  cases k <;> first|rfl|simp[renB,isY] at this
 have hH0:HRel p (renS gl σ) H0 wd:=(hH.ren hlt' hnd hle).same hY0 (fun _ h=>h) (fun b hb=>exd.same b (p.sub b hb) fun hf=>p.fr b hf hb) exd.shape hltd fun i k r hk hr=>by
  obtain ⟨r',z1,z2,z3,_⟩:=(hH.ren hlt' hnd hle).blk i k hk
  rw[hr] at z1
  injection z1 with z1
  subst z1
  exact⟨z2,pushW_old z3⟩
 have hH0':HRel p0 (renS gl σ) H0 wd:=hH0.same hY0 (fun _ h=>h) (fun _ _=>rfl) (.refl wd) (fun b hb=>hb.elim (hltd b) fun h=>(hL b h).2) fun i k r hk hr=>by
  obtain ⟨r',z1,z2,z3,_⟩:=hH0.blk i k hk
  rw[hr] at z1
  injection z1 with z1
  subst z1
  refine⟨fun hu=>hu.elim z2 fun ⟨j,q,y1,y2⟩=>?_,rfl⟩
  obtain ⟨j0,e1,e2,_⟩:=hget0 i k hk
  rw[hgi i j0 e1] at hr
  obtain ⟨f1,f2⟩:=hbg j q y1
  have hj0:j0<H.length:=(List.getElem?_eq_some_iff.1 e2).1
  have:=hHd.inj j j0 r q _ f2 (by rw[List.getElem?_append_left hj0];exact e2) y2 (σleft _ _ hr)
  subst this
  exact f1 (List.mem_iff_getElem?.2 ⟨i,e1⟩)
 have hHc:HRel p0 (renS gl σ++[wd.heap.size]) (H0++[some (.yl Y 0)]) w1:=hH0'.push _ (.yl Y 0) ⟨hszd,p,σb,Hb,hJ0,hMid⟩
 let yv:Value:=.func (.yield l) #[] #[]
 refine⟨l,[{ target:=.collected w.heap.size,args:= #[]}],w1,{ target:=.fn (.func f) cs',args:=fs'++ #[yv]},w1,f,fs'++ #[yv]++cs',w1,run_enterLoop_outer fn a.tmps #[t] asg body,?_,fun _ _=>trivial,?_,fun h=>by simp[Fr,Fence.wide] at h,?_⟩
 ·have hconst:a.eval (.const (.func (.yield l) #[] #[]))=yv:=rfl
  simp[resolve,rangeCall,hve,Deferred.ofValue,hconst]
 ·simp only[invoke]
  exact enter_run hent
 have hargs:(fs'++ #[yv]++cs').size=(fs0++[AV.clos (.yield Y.l) [] []]++cs0).length∧
   ∀(i:Nat) (x:AV) (v:Value),(fs0++[AV.clos (.yield Y.l) [] []]++cs0)[i]? =some x→(fs'++ #[yv]++cs')[i]? =some v→VRel p0 (renS gl σ++[wd.heap.size]) w1 x v:=by
  have part: ∀(xs xs0:List AV) (vs:Array Value),xs=renL (gOf gl) xs0→lowL gl.length xs0=true→vs.size=xs.length→(∀ (i:Nat) (x:AV) (v:Value),xs[i]? =some x→vs[i]? =some v→VRel p σ w x v)→
    vs.size=xs0.length∧ ∀(i:Nat) (x:AV) (v:Value),xs0[i]? =some x→vs[i]? =some v→VRel p0 (renS gl σ++[wd.heap.size]) w1 x v:=fun xs xs0 vs hx hl hs hr=>by
   subst hx
   rw[renL_length] at hs
   refine⟨hs,fun i x v hx hv=>?_⟩
   have z:=hr i (Eng.ren (gOf gl) x) v (by rw[renL_get,hx];rfl) hv
   exact(z.ren hsg x rfl (lowL_get hl hx)).mono' (p:=p) (p':=p0) (fun _ h=>h) (fun b hb=>exA.same b (p.sub b hb) fun hf=>p.fr b hf hb) exA.shape (mono_append _)
  obtain ⟨q1,q2⟩:=part fs fs0 fs' hfs hlf h1 h3
  obtain ⟨r1,r2⟩:=part cs cs0 cs' hcs hlc h2 h4
  obtain ⟨u1,u2⟩:=rel_append (p:=p0) (σ:=renS gl σ++[wd.heap.size]) (w:=w1) (xs:=fs0) (ys:=[AV.clos (.yield Y.l) [] []]) (us:=fs') (vs:= #[yv]) q1 q2 rfl (fun i x v hx hv=>by
   cases i with
   |zero=>
    simp at hx hv
    subst hx hv
    exact .clos (.yield l) [] [] #[] #[] rfl rfl (fun i x v h=>by simp at h) (fun i x v h=>by simp at h)
   |succ i=>simp at hx)
  exact rel_append u1 u2 r1 r2
 show CallsIn (Fr none) 0 P f _ w1 _
 refine callsIn_of ((hT p0 _ w1 _ hHc hargs.1 hargs.2).mono ?_)
 rintro e w2 ⟨v,x,p1,σ1,H1,rfl,hex,hm1,hHR1,_,hq⟩
 have hl1:σ1[gl.length]? =some l:=hm1 _ _ (by
  rw[List.getElem?_append_right (by simp[renS])]
  simp[renS,hszd,l])
 have hul1: ∀(k:Blk),H1[gl.length]? =some (some k)→ ¬p1.u l∧BRel p1 σ1 w2 k l:=fun k hk=>by
  obtain ⟨r,z1,z2,_,z4⟩:=hHR1.blk _ k hk
  rw[hl1] at z1
  injection z1 with z1
  subst z1
  exact⟨z2,z4⟩
 have fin: ∀(st:LoopState) (pend:Option Code) (pO:PQ) (σO:List Nat) (H':Heap) (o:Obj),¬p1.u l→Mid p ρ a.tmps (H.length+1) σb l (recOfA asg fn a.tmps #[t] body w.heap.size st pend) p1 w2 pO σO H'→H.length+1≤H'.length∧noY H'=true∧
   ∃pf,Ext p w pf (w2.putObj l o)∧(∀ i,i<m→σO[i]? =σ[i]?)∧Rel pf σO ⟨ρ,n,H',m,.mk H.length::df⟩ { a with defers:=[{ target:=.collected w.heap.size,args:= #[]}]++a.defers } (w2.putObj l o):=fun st pend pO σO H' o hul hM=>by
  have hsh4:Shape w2 (w2.putObj l o):=Shape.putLoop hM.lrec o
  have oth4: ∀b,b≠l→(w2.putObj l o).heap[b]? =w2.heap[b]? :=fun b hb=>World.putObj_heap_other hb
  have sz4:(w2.putObj l o).heap.size=w2.heap.size:=by simp
  generalize w2.putObj l o=w4 at *
  have p1f: ∀b,p1.f b→ ¬p.u b:=fun b hb hu=>(hex.backf b hb).elim (fun h=>(hL b h).1 hu) fun h=>h (.inl hu)
  have hlr: ¬pO.r l:=fun h=>(hM.back l h).elim (fun h=>by have:=hH.lt l (p.sub l h);omega) fun h=>hul (p1.fu l h)
  have lv: ∀(i r:Nat) (k:Blk),H'[i]? =some (some k)→σO[i]? =some r→ ¬pO.u r:=fun i r k hk hr=>by
   obtain ⟨r',z1,z2,_⟩:=hM.heap.blk i k hk
   rw[hr] at z1
   injection z1 with z1
   subst z1
   exact z2
  let pf:PQ:=⟨pO.r,fun b=>p.u b∨pO.r b,p.f,fun _ h=>.inr h,fun b h=>.inl (p.fu b h),fun b h hr=>(hM.back b hr).elim (p.fr b h) fun h1=>p1f b h1 (p.fu b h)⟩
  have σfin: ∀(i r:Nat),σb[i]? =some r→σO[i]? =some r:=fun i r hi=>by
   rw[hM.nam i (by rw[← hM.bl];exact(List.getElem?_eq_some_iff.1 hi).1)]
   exact hi
  have rsame: ∀b,pO.r b→w4.heap[b]? =w2.heap[b]? :=fun b hb=>oth4 b fun e=>hlr (e▸hb)
  refine⟨hM.len,hM.noY,pf,⟨fun b hb=>hM.subr b hb,fun b hb=>.inl hb,fun b hb=>(hM.back b hb).imp id (p1f b),fun _ h=>h,fun _ h=>.inl h,fun b hb hf=>?_,(exA.shape.trans hex.shape).trans hsh4⟩,fun i hi=>?_,⟨hsz,?_,fun u=>?_,?_,?_⟩⟩
  ·have hbw:=hH.lt b hb
   exact(oth4 b (by omega)).trans ((hex.same b (.inl hb) fun h=>(hL b h).1 hb).trans (old b hbw))
  ·have hi':i<H.length:=Nat.lt_of_lt_of_le hi hR.m
   rw[hM.nam i (by omega),List.getElem?_append_left (by rw[hσl];exact hi')]
  ·refine⟨⟨w.heap.size,σfin _ _ ?_,rfl⟩,DRel.mono (fun i r h=>σfin i r (σleft i r h)) _ _ hR.df⟩
   rw[← hσl]
   simp[σb]
  ·exact(hM.env u).mono' (p:=pO) (p':=pf) (fun _ h=>h) rsame hsh4 σfin
  ·refine hM.heap.same hM.noY (fun _ h=>h) rsame hsh4 (fun b hb=>?_) fun i k r hk hr=>⟨fun h=>h.elim (p1f r (hM.live i r k hk hr)) fun h=>lv i r k hk hr (pO.sub r h),oth4 r fun e=>hul (p1.fu l (e▸hM.live i r k hk hr))⟩
   rw[sz4]
   exact hb.elim (fun h=>by have:=hH.lt b h;have:=(exA.shape.trans hex.shape).1;omega) fun h=>hM.heap.lt b (pO.sub b h)
  ·exact Nat.le_trans hR.m (Nat.le_trans (Nat.le_succ _) hM.len)
 rcases hq with hq|hq
 ·obtain ⟨hul,hb⟩:=hul1 _ hq
  obtain ⟨_,pO,σO,H',hJ,hM⟩:=hb
  obtain ⟨f1,f2,pf,f3,f4,f5⟩:=fin _ _ pO σO H' (.loop { recOfA asg fn a.tmps #[t] body w.heap.size .ready none with state:=.exhausted }) hul hM
  refine⟨none,_,run_endLoop hM.lrec (by simp[recOfA]),?_⟩
  exact⟨.normal,pf,σO,_,rfl,f3,f4,f5,rfl,rfl,hend H' hJ f1 f2⟩
 ·obtain ⟨hul,hb⟩:=hul1 _ hq
  obtain ⟨_,pO,σO,H',e,c,hJ,hc,hM⟩:=hb
  obtain ⟨f1,f2,pf,f3,f4,f5⟩:=fin _ _ pO σO H' (.loop { recOfA asg fn a.tmps #[t] body w.heap.size .done (some c) with state:=.exhausted }) hul hM
  refine⟨some c,_,run_endLoop hM.lrec (by simp[recOfA]),?_⟩
  have post:Post p w σ ⟨ρ,n,H,m,df⟩ Q (exR e) { a with defers:=[{ target:=.collected w.heap.size,args:= #[]}]++a.defers } (w2.putObj l (.loop { recOfA asg fn a.tmps #[t] body w.heap.size .done (some c) with state:=.exhausted })):=
   ⟨e,pf,σO,_,rfl,f3,f4,f5,rfl,rfl,hZ e H' c hc hJ f1 f2⟩
  cases e with
  |normal=>exact hc.elim
  |exit i=>obtain rfl:=hc;exact wpIn_exit post
  |goto i=>obtain rfl:=hc;exact wpIn_goto post
  |ret=>obtain rfl:=hc;exact wpIn_ret post
end
end Go.Eng
namespace Go.Eng
open Go Go.Proofs
def baseH (x:AV):Heap:=[some (.row [.nsl]),some (.row [.i 0]),some (.row [x]),none,none,none,some .dfr]
theorem cs3 {l:List Step}: ∀r∈l.map Step.cs,r.length=3:=by
 intro r hr;obtain ⟨x,_,rfl⟩:=List.mem_map.1 hr;rfl
set_option maxHeartbeats 2000000 in
theorem prog_Parse (s:List UInt8) (hs:s.length≤1000000):Fn Tryz.prog 36 [.d (str s)] (.tup [.d (stepsD (parseV s).1),.i (parseV s).2]):=by
 refine Fn_of tt_ok Tryz.func36 rfl (by decide) Tryz.ntmps36 rfl ?_
 by_cases hn:s=[]
 ·subst hn
  have e:parseV []=([],0):=by unfold parseV;rfl
  rw[e]
  have hb:((⟨#[]⟩:ByteArray).toList==(⟨#[]⟩:ByteArray).toList)=true:=by simp
  repeat' ((conv=>whnf);(first
   |refine Br_true hb ?_
   |refine finD (F:=[]) (FV_tup2 .nsl (.same _ rfl))))
 have hb:((⟨s.toArray⟩:ByteArray).toList==(⟨#[]⟩:ByteArray).toList)=false:=by
  rw[str_toListP,show (⟨#[]⟩:ByteArray).toList=[] from str_toListP []]
  simpa using hn
 have hsl:=split_mem_len 59 s
 have hnl:=splitL_ne 59 s
 have hsq:=split_seq 59 s
 have hsq1:=split_seq1 59 s hs
 have e:parseV s=if (splitL 59 s).length≤16∧ ∀w∈splitL 59 s,(readV w).2=true then ((splitL 59 s).map fun w=>(readV w).1,0) else ([],13):=by unfold parseV;rw[if_neg hn]
 generalize splitL 59 s=ws at *
 repeat' ((conv=>whnf);(first
  |refine Br_false hb ?_))
 refine Tri.call hsq [] rfl rfl trivial rfl rfl rfl rfl (r:=.clos (.func 75) [] [.ptr 4 0,.ptr 3 0,.ptr 5 0]) (H':=[some (.row [.nsl]),some (.row [.i 0]),some (.row [.nsl]),some (.row [.d (str s)]),some (.row [.d (str [59])]),some (.row [.i 0])]) rfl rfl ?_
 conv=>whnf
 refine W_rangeA [3,4,5] (fs0:=[]) (cs0:=[.ptr 1 0,.ptr 0 0,.ptr 2 0]) (H0:=seqH 59 s) (ws.map fun w=>.d (str w))
  (fun k H=>k≤16∧(∀ x∈ws.take k,(readV x).2=true)∧((k=0∧H=baseH .nsl)∨(0<k∧H=baseH (AccV 7 3 (((ws.take k).map fun x=>(readV x).1).map Step.cs))++[AccB (((ws.take k).map fun x=>(readV x).1).map Step.cs)])))
  (fun e H=>e=.ret∧parseV s=([],13)∧ ∃x more,H=[some (.row [.nsl]),some (.row [.i 13]),some (.row [x]),none,none,none,some .dfr]++more) rfl rfl rfl
  (by repeat (first|exact trivial|refine⟨⟨rfl,rfl⟩,?_⟩)) rfl rfl rfl rfl (by decide) (by decide) AsgOk_in rfl ?_ ?_ ⟨by omega,by simp,.inl ⟨rfl,rfl⟩⟩ ?_ ?_ ?_
 ·intro k x hx
  rw[List.getElem?_map] at hx
  cases h:ws[k]? with
  |none=>rw[h] at hx;simp at hx
  |some c=>rw[h] at hx;simp at hx;subst hx;rfl
 ·intro Y hx hY
  have:=hsq1 Y hx hY
  rw[hx] at this
  exact this
 ·rintro l k x H' hx ⟨hk16,hok,hH⟩ hl hY
  obtain ⟨wd,hwd,rfl⟩: ∃wd,ws[k]? =some wd∧x=.d (str wd):=by
   rw[List.getElem?_map] at hx
   cases h:ws[k]? with
   |none=>rw[h] at hx;simp at hx
   |some c=>rw[h] at hx;simp at hx;exact⟨c,rfl,hx.symm⟩
  have hlt:k<ws.length:=(List.getElem?_eq_some_iff.1 hwd).1
  have hwe:ws[k]=wd:=(List.getElem?_eq_some_iff.1 hwd).2
  have hmem:wd∈ws:=hwe▸List.getElem_mem hlt
  have hlen:=hsl wd hmem
  have hrd:=prog_read wd (by omega)
  have htk:ws.take (k+1)=ws.take k++[wd]:=by rw[List.take_succ_eq_append_getElem hlt,hwe]
  have hrl:(((ws.take k).map fun x=>(readV x).1).map Step.cs).length=k:=by simp;omega
  refine W_padH (H2:=baseH (AccV 7 3 (((ws.take k).map fun x=>(readV x).1).map Step.cs))++[AccB (((ws.take k).map fun x=>(readV x).1).map Step.cs)]) ?_ ?_
  ·rcases hH with ⟨rfl,rfl⟩|⟨_,rfl⟩
   ·exact .inr (by rw[List.take_zero,List.map_nil,List.map_nil,AccV_nil,AccB_nil])
   ·exact .inl rfl
  have hro:(((ws.take (k+1)).map fun x=>(readV x).1).map Step.cs)=(((ws.take k).map fun x=>(readV x).1).map Step.cs)++[(readV wd).1.cs]:=by rw[htk];simp
  have hok1:(readV wd).2=true→ ∀x∈ws.take (k+1),(readV x).2=true:=fun h x hx=>by
   rw[htk] at hx
   rcases List.mem_append.1 hx with hx|hx
   ·exact hok x hx
   ·simp at hx;subst hx;exact h
  have hbad:(readV wd).2=false∨k=16→parseV s=([],13):=fun h=>by
   rw[e,if_neg]
   rintro ⟨g1,g2⟩
   rcases h with h|h
   ·rw[g2 wd hmem] at h;simp at h
   ·omega
  generalize hrw:(((ws.take k).map fun x=>(readV x).1).map Step.cs)=rows at *
  have hr3: ∀r∈rows,r.length=3:=by rw[← hrw];exact cs3
  generalize readV wd=xv at *
  obtain ⟨xs,ok⟩:=xv
  dsimp only at hrd hro hok1 hbad
  refine W_run tt_ok ?_
  cases ok
  ·repeat' ((conv=>whnf);(first
   |refine Fn.use (hrd) rfl rfl ?_
   |refine Rd_ret ([some (.row [.nsl]),some (.row [.i 13]),some (.row [AccV 7 3 rows]),none,none,none,some .dfr]++[AccB rows,some (.row (xs.cs.map .d))]) (Wk_env (by repeat (first|exact trivial|refine⟨rfl,?_⟩))) (noY_accB rfl) (by simp) ⟨rfl,hbad (.inl rfl),_,_,rfl⟩))
  ·repeat' ((conv=>whnf);(first
   |refine Br_beq (fun h=>?_) (fun h=>?_)
   |refine Fn.use (hrd) rfl rfl ?_
   |refine force_in ?_
   |refine lenM_acc (fun h0=>?_) (fun h0=>Len_in fun _=>?_)
   |refine Rd_ret ([some (.row [.nsl]),some (.row [.i 13]),some (.row [AccV 7 3 rows]),none,none,none,some .dfr]++[AccB rows,some (.row (xs.cs.map .d))]) (Wk_env (by repeat (first|exact trivial|refine⟨rfl,?_⟩))) (noY_accB rfl) (by simp) ⟨rfl,hbad (.inr (by omega)),_,_,rfl⟩))
   all_goals
    have hk15:k<16:=by (try rw[h0] at hrl);simp at *;omega
    have ha:=Acc_app (b:=7) (sz:=3) (rows:=rows) (new:=[xs.cs]) (by simp)
    refine Ch_r ?_
    conv=>whnf
    refine App_acc rows [xs.cs] rfl rfl rfl rfl (by simp) hr3 (by intro r hr;simp at hr;subst hr;rfl) (by rw[hrl];simp only[List.length_cons,List.length_nil];omega) (Nat.le_of_ble_eq_true rfl) ?_
    skip
    conv=>whnf
    refine Rd_next (baseH (.msl 7 0 (rows.length+1) (rows.length+1) 3)++[some (.row ((rows++[xs.cs]).flatten.map .d))]) (Wk_ren [0,1,2,3,4,5,6,9] rfl rfl (by refine⟨⟨rfl,rfl⟩,⟨rfl,rfl⟩,⟨rfl,rfl⟩,⟨rfl,rfl⟩,⟨by rw[renB_row];rfl,lowB_row _ _⟩,trivial⟩) (by repeat (first|exact trivial|refine⟨⟨rfl,rfl⟩,?_⟩)) (by show 7≤8;decide) (by show∀i,i<7→gOf [0,1,2,3,4,5,6,9] i=i;decide)) rfl (by simp[baseH]) ⟨by omega,hok1 rfl,.inr ⟨by omega,?_⟩⟩
    rw[hro,ha.1,ha.2]
    rfl
 ·rintro H' ⟨hk16,hok,hH⟩ hl hY
  rw[List.length_map] at hk16 hok hH
  rw[List.take_length] at hok hH
  rcases hH with ⟨h0,_⟩|⟨h0,rfl⟩
  ·exact absurd (List.length_eq_zero_iff.1 h0) hnl
  ·rw[e,if_pos ⟨hk16,hok⟩]
   have hne:((ws.map fun x=>(readV x).1).map Step.cs)≠[]:=by simpa using hnl
   rw[AccV_cons hne,AccB_cons hne]
   repeat' ((conv=>whnf);(first
    |refine finD (F:=[7]) (FV_tup2 (FV_tab _ rfl rfl rfl cs3) (.same _ rfl))))
 ·rintro e' H' c _ ⟨rfl,hp,x,more,rfl⟩ hl hY
  rw[hp]
  repeat' ((conv=>whnf);(first
   |refine finD (F:=[]) (FV_tup2 .nsl (.same _ rfl))))
end Go.Eng
namespace Go.Eng
open Go Go.RowKit Go.ChangeShapes Go.WideShapes
inductive Sh where
 |int (k:IntKind)|bool|str|sl (row:List Sh)
inductive HasSh:Sh→D→Prop
 |int (k:IntKind) (n:Int) (h:(Lit.int k n).wf=true):HasSh (.int k) (.int k n)
 |bool (b:Bool):HasSh .bool (.bool b)
 |str (s:ByteArray):HasSh .str (.str s)
 |sl (row:List Sh) (rows:List (List D)) (hl: ∀r∈rows,r.length=row.length) (h: ∀r∈rows,∀(j:Nat) (s:Sh) (d:D),row[j]? =some s→r[j]? =some d→HasSh s d):HasSh (.sl row) (.sl rows)
def Row (shs:List Sh) (ds:List D):Prop:=ds.length=shs.length∧ ∀(j:Nat) (s:Sh) (d:D),shs[j]? =some s→ds[j]? =some d→HasSh s d
theorem Row.one {s:Sh} {d:D} (h:HasSh s d):Row [s] [d]:=⟨rfl,fun j s' d' h1 h2=>by
 cases j with
 |zero=>simp at h1 h2;subst h1 h2;exact h
 |succ j=>simp at h1⟩
def places (P:Program):List Field→List (List Sh)→Nat→Bool
 |[],[],_=>true
 |f::fs,r::rs,o=>Nat.beq f.offset o&&(Nat.beq (P.cellsOf f.type) r.length&&places P fs rs (o+r.length))
 |_,_,_=>false
def flat (P:Program):Nat→TypeId→Option (List Sh)
 |0,_=>none
 |n+1,t=>match P.underlying t with
  |some (.int k)=>some [.int k]
  |some .bool=>some [.bool]
  |some .string=>some [.str]
  |some (.slice e)=>match flat P n e with
   |some r=>if 0<P.bytesOf e∧P.cellsOf e=r.length∧0<r.length then some [.sl r] else none
   |none=>none
  |some (.struct fs)=>match fs.toList.mapM fun f=>flat P n f.type with
   |some rs=>if places P fs.toList rs 0=true∧P.cellsOf t=rs.flatten.length then some rs.flatten else none
   |none=>none
  |_=>none
def pAll (w:World):PQ:=⟨fun b=>b<w.heap.size,fun b=>b<w.heap.size,fun _=>False,fun _ h=>h,fun _ h=>h.elim,fun _ h=>h.elim⟩
section
variable {H:Type} {enc:TypeId×Value→H} {P:Program} {w:World} {base:Nat} {spare:Nat→Bool} {held:Bool}
theorem ex_list {α:Type} (n:Nat) (Q:Nat→α→Prop) (h: ∀i,i<n→ ∃x,Q i x): ∃l:List α,l.length=n∧ ∀i x,l[i]? =some x→Q i x:=by
 induction n with
 |zero=>exact⟨[],rfl,fun i x hx=>by simp at hx⟩
 |succ n ih=>
  obtain ⟨l,hl,hq⟩:=ih fun i hi=>h i (by omega)
  obtain ⟨x,hx⟩:=h n (by omega)
  refine⟨l++[x],by simp[hl],fun i y hy=>?_⟩
  by_cases hi:i<n
  ·rw[List.getElem?_append_left (by omega)] at hy;exact hq i y hy
  ·have:i=n:=by
    have:=(List.getElem?_eq_some_iff.1 hy).1
    simp at this;omega
   subst this
   rw[List.getElem?_append_right (by omega)] at hy
   simp[hl] at hy
   subst hy;exact hx
theorem weightsAll_mem {P:Program} {e:TypeId}: ∀(l:List (DataW H)) (d:DataW H),d∈l→ ∀m∈d.weights P e,m∈DataW.weightsAll P e l:=by
 intro l
 induction l with
 |nil=>intro d h;simp at h
 |cons a r ih=>
  intro d h m hm
  simp only[DataW.weightsAll,List.mem_append]
  rcases List.mem_cons.1 h with rfl|h
  ·exact .inl hm
  ·exact .inr (ih d h m hm)
theorem reach_LB {m:Nat} (h:m≤reachBytes):m≤LB:=by
 unfold reachBytes at h;unfold LB;omega
theorem read_flat (n:Nat): ∀(t:TypeId) (shs:List Sh) (fuel:Nat) (cs:List Value) (x:DataW H×List MemPlace),flat P n t=some shs→DataW.trod enc P w base spare held fuel t cs=some x→
  (∀ m∈x.1.weights P t,m≤reachBytes)→ ∃ds:List D,Row shs ds∧cs.length=ds.length∧ ∀(j:Nat) (d:D) (v:Value),ds[j]? =some d→cs[j]? =some v→VRel (pAll w) [] w (.d d) v∧one v=true:=by
 induction n with
 |zero=>intro t shs fuel cs x h;simp[flat] at h
 |succ n ih=>
  intro t shs fuel cs x h ht hw
  unfold flat at h
  have single: ∀(s:Sh) (d:D) (v:Value),shs=[s]→cs=[v]→HasSh s d→VRel (pAll w) [] w (.d d) v→one v=true→ ∃ds:List D,Row shs ds∧cs.length=ds.length∧ ∀(j:Nat) (d:D) (v:Value),ds[j]? =some d→cs[j]? =some v→VRel (pAll w) [] w (.d d) v∧one v=true:=by
   rintro s d v rfl rfl h1 h2 h3
   refine⟨[d],.one h1,rfl,fun j d' v' hd hv=>?_⟩
   cases j with
   |zero=>simp at hd hv;subst hd hv;exact⟨h2,h3⟩
   |succ j=>simp at hd
  split at h
  ·rename_i k hu
   obtain ⟨z,rfl,rfl,hwf⟩:=DataW.trod_int hu ht
   injection h with h
   exact single _ _ _ h.symm rfl (.int k z hwf) (.int k z) rfl
  ·rename_i hu
   obtain ⟨z,rfl,rfl⟩:=DataW.trod_bool hu ht
   injection h with h
   exact single _ _ _ h.symm rfl (.bool z) (.bool z) rfl
  ·rename_i hu
   obtain ⟨z,rfl,rfl,hsz⟩:=DataW.trod_string hu ht
   injection h with h
   refine single _ _ _ h.symm rfl (.str z) (.str z ?_) rfl
   have:=hw z.size (by simp only[DataW.weights];exact List.mem_singleton.2 (show z.data.size=z.data.toList.length from Array.length_toList.symm))
   exact reach_LB this
  ·rename_i e hu
   split at h
   ·rename_i r hr
    split at h
    ·rename_i hc
     obtain ⟨hc1,hc2,hc3⟩:=hc
     injection h with h
     rcases DataW.trod_slice hu ht with ⟨rfl,rfl⟩|⟨a,len,cap,elems,rest,n',hfu,rfl,rfl,hb,hlc,hcm,hel,hget,_,_⟩
     ·exact single _ _ _ h.symm rfl (.sl r [] (fun _ h=>by simp at h) (fun _ h=>by simp at h)) (.sl [] none 0 0 0 (fun _ _=>undef) rfl (Nat.zero_le _) (Nat.le_refl _) (fun i row h=>by simp at h) (fun h=>absurd rfl h) (fun i row j x h=>by simp at h)) rfl
     ·have hel2: ∀i,i<len→ ∃y csi,elems[i]? =some y∧w.cells? base (a.add (i * P.cellsOf e)) (P.cellsOf e)=some csi∧DataW.trod enc P w base spare held n' e csi=some y:=by
       intro i hi
       have h1:=hget i hi
       have hy:elems[i]? =some (elems[i]'(by omega)):=List.getElem?_eq_getElem (by omega)
       rw[hy,Option.bind_eq_some_iff] at h1
       obtain ⟨csi,h2,h3⟩:=h1
       exact⟨_,csi,hy,h2,h3⟩
      obtain ⟨rows,hrl,hrq⟩:=ex_list len (fun i (ds:List D)=>Row r ds∧ ∀csi,w.cells? base (a.add (i * P.cellsOf e)) (P.cellsOf e)=some csi→csi.length=ds.length∧ ∀(j:Nat) (d:D) (v:Value),ds[j]? =some d→csi[j]? =some v→VRel (pAll w) [] w (.d d) v∧one v=true) (fun i hi=>by
       obtain ⟨y,csi,h1,h2,h3⟩:=hel2 i hi
       obtain ⟨ds,g1,g2,g3⟩:=ih e r n' csi y hr h3 (fun m hm=>hw m (by
        simp only[DataW.weights,hu,List.mem_cons,List.mem_append]
        exact .inr (.inl (weightsAll_mem _ y.1 (List.mem_map.2 ⟨y,List.mem_of_getElem? h1,rfl⟩) m hm))))
       exact⟨ds,g1,fun csi' h'=>by rw[h2] at h';injection h' with h';subst h';exact⟨g2,g3⟩⟩)
      have hlenB:len≤LB:=by
       have h1:=hw ((elems.length+rest.length) * P.bytesOf e) (by simp[DataW.weights,hu])
       have h2:elems.length * 1≤(elems.length+rest.length) * P.bytesOf e:=Nat.mul_le_mul (by omega) hc1
       exact reach_LB (by omega)
      have hcell: ∀i j,i<len→j<r.length→ ∃v,w.cell? ((a.add (i * P.cellsOf e)).add j)=some v∧ ∀csi,w.cells? base (a.add (i * P.cellsOf e)) (P.cellsOf e)=some csi→csi[j]? =some v:=by
       intro i j hi hj
       obtain ⟨y,csi,h1,h2,h3⟩:=hel2 i hi
       obtain ⟨_,k1,k2⟩:=World.cells?_some h2
       refine⟨csi[j]'(by omega),?_,fun csi' h'=>?_⟩
       ·have:=k2 j (by omega)
        rw[this,List.getElem?_eq_getElem (by omega)]
       ·rw[h2] at h';injection h' with h';subst h';exact List.getElem?_eq_getElem _
      refine single _ _ _ h.symm rfl (.sl r rows (fun q hq=>?_) (fun q hq=>?_)) ?_ rfl
      ·obtain ⟨i,hi⟩:=List.mem_iff_getElem?.1 hq
       exact(hrq i q hi).1.1
      ·obtain ⟨i,hi⟩:=List.mem_iff_getElem?.1 hq
       exact(hrq i q hi).1.2
      ·by_cases h0:len=0
       ·have:rows=[]:=List.length_eq_zero_iff.1 (by omega)
        subst this
        exact .sl [] _ len cap r.length (fun _ _=>undef) (by omega) hlenB hlc (fun i row h=>by simp at h) (fun h=>absurd h0 h) (fun i row j x h=>by simp at h)
       ·have hspot:a.spot=none:=by
         obtain ⟨v,hv,_⟩:=hcell 0 0 (by omega) hc3
         unfold World.cell? at hv
         split at hv
         ·split at hv
          ·simp at hv
          ·rename_i hs
           cases hsp:a.spot with
           |none=>rfl
           |some z=>
            exfalso;apply hs
            unfold Addr.add
            split <;> split <;> simp_all
         ·simp at hv
        have hadd: ∀i j:Nat,(a.add (i * P.cellsOf e)).add j=⟨a.block,a.off+i * r.length+j,none⟩:=by
         intro i j
         obtain ⟨ab,ao,sp⟩:=a
         simp only at hspot
         subst hspot
         rw[addr_add,addr_add,hc2]
        have hbl:a.block<w.heap.size:=by
         obtain ⟨v,hv,_⟩:=hcell 0 0 (by omega) hc3
         rw[hadd] at hv
         unfold World.cell? at hv
         split at hv
         ·rename_i hh;exact(Array.getElem?_eq_some_iff.1 hh).1
         ·simp at hv
        refine .sl rows (some a) len cap r.length (fun i j=>(w.cell? ⟨a.block,a.off+i * r.length+j,none⟩).getD undef) hrl hlenB hlc (fun i row hi=>(hrq i row hi).1.1) (fun _=>⟨a.block,a.off,by
         obtain ⟨ab,ao,sp⟩:=a
         simp only at hspot
         subst hspot;rfl,hbl,fun i j hi hj=>?_⟩) (fun i row j x hi hx=>?_)
        ·obtain ⟨v,hv,_⟩:=hcell i j hi hj
         rw[hadd] at hv
         rw[hv];rfl
        ·have hil:i<len:=by have:=(List.getElem?_eq_some_iff.1 hi).1;omega
         obtain ⟨g1,g2⟩:=hrq i row hi
         have hj:j<r.length:=by have:=(List.getElem?_eq_some_iff.1 hx).1;rw[g1.1] at this;exact this
         obtain ⟨v,hv,hv2⟩:=hcell i j hil hj
         obtain ⟨y,csi,h1,h2,h3⟩:=hel2 i hil
         rw[hadd] at hv
         rw[hv]
         exact((g2 csi h2).2 j x v hx (hv2 csi h2)).1
    ·simp at h
   ·simp at h
  ·rename_i fs hu
   split at h
   ·rename_i rs hrs
    split at h
    ·rename_i hc
     obtain ⟨hpl,hcells⟩:=hc
     injection h with h
     subst h
     obtain ⟨xs,n',hfu,rfl,hcl,hxl,hget⟩:=DataW.trod_struct hu ht
     simp only[DataW.weights,hu] at hw
     have key: ∀(fs':List Field) (rs':List (List Sh)) (xs':List (DataW H×List MemPlace)) (o:Nat),places P fs' rs' o=true→(fs'.mapM fun f=>flat P n f.type)=some rs'→xs'.length=fs'.length→
       (∀ (i:Nat) (f:Field),fs'[i]? =some f→DataW.trod enc P w base spare held n' f.type ((cs.drop f.offset).take (P.cellsOf f.type))=xs'[i]?)→
       (∀ m∈DataW.weightsEach P (fs'.map (·.type)) (xs'.map (·.1)),m≤reachBytes)→
       ∃ds:List D,Row rs'.flatten ds∧ ∀(j:Nat) (d:D) (v:Value),ds[j]? =some d→cs[o+j]? =some v→VRel (pAll w) [] w (.d d) v∧one v=true:=by
      intro fs'
      induction fs' with
      |nil=>
       intro rs' xs' o hp hm hx hg hw
       simp at hm
       subst hm
       exact⟨[],⟨rfl,fun j s d h=>by simp at h⟩,fun j d v h=>by simp at h⟩
      |cons f fs' ihf=>
       intro rs' xs' o hp hm hx hg hw
       cases xs' with
       |nil=>simp at hx
       |cons x0 xs'=>
        cases rs' with
        |nil=>simp[places] at hp
        |cons r0 rs'=>
         simp only[places,Bool.and_eq_true] at hp
         obtain ⟨p1,p2,p3⟩:=hp
         have p1:=Nat.eq_of_beq_eq_true p1
         have p2:=Nat.eq_of_beq_eq_true p2
         simp only[List.mapM_cons,Option.bind_eq_bind,Option.bind_eq_some_iff,Option.pure_def,Option.some.injEq] at hm
         obtain ⟨r1,m1,rs1,m2,m3⟩:=hm
         injection m3 with m3 m4
         subst m3 m4
         have h0:=hg 0 f rfl
         simp only[List.getElem?_cons_zero] at h0
         simp only[List.map_cons,DataW.weightsEach,List.mem_append] at hw
         obtain ⟨d0,a1,a2,a3⟩:=ih f.type r1 n' _ x0 m1 h0 (fun m hm=>hw m (.inl hm))
         obtain ⟨d1,b1,b2⟩:=ihf rs1 xs' (o+r1.length) p3 m2 (by simpa using hx) (fun i f' hf'=>by have:=hg (i+1) f' (by simpa using hf');simpa using this) (fun m hm=>hw m (.inr hm))
         have hd0:d0.length=r1.length:=a1.1
         refine⟨d0++d1,⟨by simp[a1.1,b1.1],fun j s d hs hd=>?_⟩,fun j d v hd hv=>?_⟩
         ·simp only[List.flatten_cons] at hs
          by_cases hj:j<r1.length
          ·rw[List.getElem?_append_left hj] at hs
           rw[List.getElem?_append_left (by omega)] at hd
           exact a1.2 j s d hs hd
          ·rw[List.getElem?_append_right (by omega)] at hs
           rw[List.getElem?_append_right (by omega),hd0] at hd
           exact b1.2 _ s d hs hd
         ·by_cases hj:j<r1.length
          ·rw[List.getElem?_append_left (by omega)] at hd
           refine a3 j d v hd ?_
           rw[List.getElem?_take,if_pos (by omega),List.getElem?_drop,p1]
           exact hv
          ·rw[List.getElem?_append_right (by omega),hd0] at hd
           refine b2 _ d v hd ?_
           rw[show o+r1.length+(j-r1.length)=o+j by omega]
           exact hv
     obtain ⟨ds,k1,k2⟩:=key fs.toList rs xs 0 hpl hrs (by simpa using hxl) (fun i f hf=>hget i f (by simpa using hf)) hw
     refine⟨ds,k1,by rw[hcl,hcells,k1.1],fun j d v hd hv=>k2 j d v hd (by rw[Nat.zero_add];exact hv)⟩
    ·simp at h
   ·simp at h
  ·simp at h
end
end Go.Eng
namespace Go.Eng
open Go Go.RowKit Go.ChangeShapes Go.WideShapes
def hd1:List D→AV
 |d::_=>.d d
 |[]=>.any
def topAV (P:Program) (t:TypeId) (ds:List D):AV:=
 match P.underlying t with
 |some (.struct _)=>.agg (ds.map .d)
 |_=>hd1 ds
def ArgOk (P:Program) (t:TypeId) (x:AV):Prop:= ∃shs ds,flat P 8 t=some shs∧Row shs ds∧x=topAV P t ds
def ArgsOk (P:Program):List TypeId→List AV→Prop
 |[],[]=>True
 |t::ts,x::xs=>ArgOk P t x∧ArgsOk P ts xs
 |_,_=>False
section
variable {H:Type} {enc:TypeId×Value→H} {P:Program} {w:World} {base b0:Nat} {spare:Nat→Bool} {held:Bool}
theorem open_arg {t:TypeId} {v:Value} {d:DataW H} {ps:List MemPlace} (hf:(flat P 8 t).isSome=true) (hval:Value.okWide P w .any b0 t v) (h:DataW.Trod enc P w base spare held t v d ps)
  (hw: ∀m∈d.weights P t,m≤reachBytes): ∃x,ArgOk P t x∧VRel (pAll w) [] w x v:=by
 obtain ⟨shs,hshs⟩:=Option.isSome_iff_exists.1 hf
 obtain ⟨fuel,h⟩:=h
 obtain ⟨ds,h1,h2,h3⟩:=read_flat 8 t shs fuel _ _ hshs h hw
 refine⟨topAV P t ds,⟨shs,ds,hshs,h1,rfl⟩,?_⟩
 have hf2:=hshs
 unfold flat at hf2
 unfold topAV
 have lone: ∀s:Sh,shs=[s]→(∀ cs,v≠.agg cs)→VRel (pAll w) [] w (hd1 ds) v:=by
  rintro s rfl hna
  have hcells:v.cells.toList=[v]:=by cases v <;> first|rfl|exact absurd rfl (hna _)
  rw[hcells] at h2 h3
  match ds,h1.1,h3 with
  |[d0],_,h3=>exact(h3 0 d0 v rfl rfl).1
 unfold Value.okWide at hval
 split at hf2
 ·rename_i k hu
  injection hf2 with hf2
  rw[hu] at hval⊢
  exact lone _ hf2.symm (fun cs e=>by subst e;simp[Cell.okWide,Cell.ok,hu] at hval)
 ·rename_i hu
  injection hf2 with hf2
  rw[hu] at hval⊢
  exact lone _ hf2.symm (fun cs e=>by subst e;simp[Cell.okWide,Cell.ok,hu] at hval)
 ·rename_i hu
  injection hf2 with hf2
  rw[hu] at hval⊢
  exact lone _ hf2.symm (fun cs e=>by subst e;simp[Cell.okWide,Cell.ok,hu] at hval)
 ·rename_i e hu
  rw[hu] at hval⊢
  split at hf2
  ·split at hf2
   ·injection hf2 with hf2
    exact lone _ hf2.symm (fun cs e=>by subst e;simp[Cell.okWide,Cell.ok,hu] at hval)
   ·simp at hf2
  ·simp at hf2
 ·rename_i fs hu
  rw[hu] at hval⊢
  simp only at hval⊢
  obtain ⟨cs,rfl,hsz,_⟩:=hval
  refine .agg _ cs (by simpa [Value.cells] using h2) (fun i v hv=>?_) (fun i x v hx hv=>?_)
  ·have hi:=(Array.getElem?_eq_some_iff.1 hv).1
   have hlt:i<ds.length:=by rw[← h2];simpa [Value.cells] using hi
   exact(h3 i ds[i] v (List.getElem?_eq_getElem hlt) (by simpa [Value.cells] using hv)).2
  ·rw[List.getElem?_map] at hx
   cases hd:ds[i]? with
   |none=>rw[hd] at hx;simp at hx
   |some d0=>
    rw[hd] at hx
    simp at hx
    subst hx
    exact(h3 i d0 v hd (by simpa [Value.cells] using hv)).1
 ·simp at hf2
theorem open_args: ∀(ts:List TypeId) (vs:List Value) (ds:List (DataW H)) (ps:List MemPlace),(ts.all fun t=>(flat P 8 t).isSome)=true→(∀ (j:Nat) (t:TypeId) (v:Value),ts[j]? =some t→vs[j]? =some v→Value.okWide P w .any b0 t v)→
  DataW.TrodAll enc P w base spare held ts vs ds ps→(∀ m∈DataW.weightsEach P ts ds,m≤reachBytes)→
  ∃xs:List AV,ArgsOk P ts xs∧vs.length=xs.length∧ ∀(i:Nat) (x:AV) (v:Value),xs[i]? =some x→vs[i]? =some v→VRel (pAll w) [] w x v:=by
 intro ts
 induction ts with
 |nil=>
  intro vs ds ps _ _ h _
  cases vs with
  |nil=>exact⟨[],trivial,rfl,fun i x v hx=>by simp at hx⟩
  |cons v vs=>cases ds <;> exact h.elim
 |cons t ts ih=>
  intro vs ds ps hf hval h hw
  cases vs with
  |nil=>cases ds <;> exact h.elim
  |cons v vs=>
   cases ds with
   |nil=>exact h.elim
   |cons d ds=>
    obtain ⟨p,q,h1,h2,_⟩:=h
    simp only[List.all_cons,Bool.and_eq_true] at hf
    simp only[DataW.weightsEach,List.mem_append] at hw
    obtain ⟨x,x1,x2⟩:=open_arg hf.1 (hval 0 t v rfl rfl) h1 (fun m hm=>hw m (.inl hm))
    obtain ⟨xs,y1,y2,y3⟩:=ih vs ds q hf.2 (fun j t v h1 h2=>hval (j+1) t v (by simpa using h1) (by simpa using h2)) h2 (fun m hm=>hw m (.inr hm))
    refine⟨x::xs,⟨x1,y1⟩,by simp[y2],fun i z u hz hu=>?_⟩
    cases i with
    |zero=>simp at hz hu;subst hz hu;exact x2
    |succ i=>exact y3 i z u (by simpa using hz) (by simpa using hu)
theorem trodAll_stays (hl:laidOutB P=true) {W W':World} (hb:Below W.heap.size W W'): ∀(ts:List TypeId) (vs:List Value) (ds:List (DataW H)) (ps:List MemPlace),(ts.all fun t=>P.readableRec t&&decide (t<P.types.size))=true→
  DataW.TrodAll enc P W 0 (fun _=>true) true ts vs ds ps→(∀ x∈ps,x.block<W.heap.size)→DataW.TrodAll enc P W' 0 (fun b=>decide (b<W.heap.size)) true ts vs ds ps:=by
 intro ts
 induction ts with
 |nil=>
  intro vs ds ps _ h _
  cases vs with
  |nil=>cases ds with
   |nil=>exact h
   |cons d ds=>exact h.elim
  |cons v vs=>cases ds <;> exact h.elim
 |cons t ts ih=>
  intro vs ds ps ht h hlt
  cases vs with
  |nil=>cases ds <;> exact h.elim
  |cons v vs=>
   cases ds with
   |nil=>exact h.elim
   |cons d ds=>
    obtain ⟨p,q,h1,h2,rfl⟩:=h
    simp only[List.all_cons,Bool.and_eq_true,decide_eq_true_eq] at ht
    exact⟨p,q,Below.trod hl ht.1.1 ht.1.2 h1 hb (fun x hx=>hlt x (by simp[hx])),ih vs ds q ht.2 h2 (fun x hx=>hlt x (by simp[hx])),rfl⟩
theorem weightsEach_left (us:List TypeId) (gs:List (DataW H)): ∀(ts:List TypeId) (ds:List (DataW H)),ts.length=ds.length→ ∀m∈DataW.weightsEach P ts ds,m∈DataW.weightsEach P (ts++us) (ds++gs):=by
 intro ts
 induction ts with
 |nil=>intro ds hl m hm;cases ds <;> simp[DataW.weightsEach] at hm
 |cons t ts ih=>
  intro ds hl m hm
  cases ds with
  |nil=>simp at hl
  |cons d ds=>
   simp only[List.cons_append,DataW.weightsEach,List.mem_append] at hm⊢
   rcases hm with hm|hm
   ·exact .inl hm
   ·exact .inr (ih ds (by simpa using hl) m hm)
theorem Fn_calls {f:FuncId} {xs:List AV} (h:Fn P f xs (.d (.bool true))) {vs:Array Value} {W:World} (hs:vs.size=xs.length) (hv: ∀(i:Nat) (x:AV) (v:Value),xs[i]? =some x→vs[i]? =some v→VRel (pAll W) [] W x v) (hG:GlobW W):
  Calls P f vs W fun e W'=>e=.returned (.bool true)∧Below W.heap.size W W':=by
 unfold Fn at h
 rw[Tri_eq] at h
 have hH:HRel (pAll W) [] [] W:=⟨rfl,fun b hb=>hb,fun i k hk=>by simp at hk,fun i j r k l hk=>by simp at hk,fun w' hw _=>GlobW_st hG hw⟩
 refine(h.2 (pAll W) [] W vs hH hs hv).mono ?_
 rintro e W' ⟨v,x,p',σ',H',rfl,he,_,_,hx,rfl,_⟩
 cases hx
 obtain ⟨s1,s2,s3,s4,s5⟩:=he.shape
 exact⟨rfl,s3,s4,s5,s1,fun k hk=>he.same k hk (fun h=>h)⟩
theorem trodAll_len: ∀(ts:List TypeId) (vs:List Value) (ds:List (DataW H)) (ps:List MemPlace),DataW.TrodAll enc P w base spare held ts vs ds ps→ts.length=ds.length∧vs.length=ds.length:=by
 intro ts
 induction ts with
 |nil=>
  intro vs ds ps h
  cases vs with
  |nil=>cases ds with
   |nil=>exact⟨rfl,rfl⟩
   |cons d ds=>exact h.elim
  |cons v vs=>cases ds <;> exact h.elim
 |cons t ts ih=>
  intro vs ds ps h
  cases vs with
  |nil=>cases ds <;> exact h.elim
  |cons v vs=>
   cases ds with
   |nil=>exact h.elim
   |cons d ds=>
    obtain ⟨p,q,_,h2,_⟩:=h
    obtain ⟨a,b⟩:=ih vs ds q h2
    exact⟨by simp[a],by simp[b]⟩
theorem law_contract {fn:Func} {f:FuncId} {s:ChangeSpec} (hl:laidOutB P=true) (hrd:(fn.params.toList.all fun t=>P.readableRec t&&decide (t<P.types.size))=true) (hfl:(fn.params.toList.all fun t=>(flat P 8 t).isSome)=true)
  {tb:TypeId} (hres:fn.resultTypes= #[tb]) (hb:P.underlying tb=some .bool) (hvars:s.vars=[])
  (hs: ∀ds:List (DataW H),ds.length=fn.params.toList.length→s.fn H ds={ results:=[.lit (.bool true)],args:=ds })
  (law: ∀xs:List AV,ArgsOk P fn.params.toList xs→Fn P f xs (.d (.bool true))) {W:World} {base:Nat} {args:Array Value} {ds gs:List (DataW H)} {before:List MemPlace} {us:List TypeId}
  (hval: ∀(j:Nat) t v,fn.params[j]? =some t→args[j]? =some v→Value.okWide P W .any base t v)
  (hG:GlobW W) (hW:DataW.Whole enc P fn.params.toList s.vars false W args.toList ds gs before)
  (hw:(DataW.weightsEach P (fn.params.toList++us) (ds++gs)).all (· ≤reachBytes)=true):
  Calls P f args W fun e W'=> ∃v,e=.returned v∧s.post enc P fn false true false false W args v W':=by
 have hW':=hW
 obtain ⟨p,q,hA,hV,rfl,hfz,_⟩:=hW
 rw[hvars] at hV
 obtain ⟨rfl,rfl⟩:gs=[]∧q=[]:=by
  cases gs with
  |nil=>exact⟨rfl,hV⟩
  |cons g r=>exact absurd hV (by intro h;cases h)
 obtain ⟨l1,l2⟩:=trodAll_len _ _ _ _ hA
 simp only[List.append_nil] at hw hW' hfz
 have hww: ∀m∈DataW.weightsEach P fn.params.toList ds,m≤reachBytes:=fun m hm=>by
  have h1:=weightsEach_left (P:=P) us ([]:List (DataW H)) fn.params.toList ds l1 m hm
  rw[List.append_nil] at h1
  simpa using List.all_eq_true.1 hw m h1
 obtain ⟨xs,x1,x2,x3⟩:=open_args fn.params.toList args.toList ds p hfl (fun j t v h1 h2=>hval j t v (by simpa using h1) (by simpa using h2)) hA hww
 refine(Fn_calls (law xs x1) (vs:=args) (W:=W) (by simpa using x2) (fun i x v hx hv=>x3 i x v hx (by simpa using hv)) hG).mono ?_
 rintro e W' ⟨rfl,hbw⟩
 have hlt: ∀x∈p,x.block<W.heap.size:=fun x hx=>hW'.lt x hx
 have hsp:=hs ds (by rw[l1])
 refine⟨_,rfl,ds,[],p,[],p,[],hW',?_,?_,?_,hbw.frame _,fun h=>by cases h⟩
 ·rw[List.append_nil,hsp,hres]
  exact trodAll_mk1 (shut_bool hb true)
 ·rw[List.append_nil,hsp]
  exact trodAll_stays hl hbw _ _ _ _ hrd hA hlt
 ·rw[List.append_nil,hsp,hvars]
  rfl
end
end Go.Eng
namespace Go.Eng
open Go
variable {H:Type} {enc:TypeId×Value→H}
theorem returnsInHanded_andS {a:Assume} {C:Checked} {os:Os} {f:FuncId} {fn:Func} {s:ChangeSpec} {conds:List PathCond} {apart fresh handsOn again:Bool} {X:World→Array Value→Prop}
  (hX: ∀(w w':World) (args:Array Value),w.heap=w'.heap→X w args→X w' args)
  (own:ownKnob C.prog.godebug=none) (started:os.Started) (noInit:C.prog.inits.idxOf? f=none) (hfn:C.prog.funcs[f]? =some fn)
  (witness: ∃(w:World) (tape:Tape) (i:Input),w.os=os∧(w.forCall tape i).Shaped C.prog∧i.vars=[]∧Input.okWide C.prog (w.forCall tape i) .any w.heap.size f i∧
   ((s.pre enc C.prog fn conds apart (w.forCall tape i).memory i.args∧X (w.forCall tape i).memory i.args)∧sizedMet enc C.prog fn (OpenSpec.ofChange s) apart (w.forCall tape i).memory i.args)∧a.holds C.prog (lone (Frame.enter C.prog f i.args .normal) [] (w.forCall tape i)))
  (contract: ∀(W:World) (base:Nat) (args:Array Value) (ds gs:List (DataW H)) (before:List MemPlace),
   (∀ (j:Nat) t v,fn.params[j]? =some t→args[j]? =some v→Value.okWide C.prog W .any base t v)→
   DataW.Whole enc C.prog fn.params.toList s.vars apart W args.toList ds gs before→
   (DataW.weightsEach C.prog (fn.params.toList++s.plain.varTypes C.prog) (ds++gs)).all (· ≤reachBytes)=true→X W args→W.ShapedOpen C.prog→
   Calls C.prog f args W fun e W'=> ∃v,e=.returned v∧s.post enc C.prog fn apart fresh handsOn again W args v W'):
  ReturnsInHanded a C os f .any (fun w args=>(s.pre enc C.prog fn conds apart w args∧X w args)∧sizedMet enc C.prog fn (OpenSpec.ofChange s) apart w args) (s.post enc C.prog fn apart fresh handsOn again):=by
 refine returnsInHanded_of_calls own started noInit witness ?_
 intro w tape i _ hsh _ hok hpre hholds
 obtain ⟨_,_,_,fn',hfn',_,_,_,_,hval⟩:=hok
 have e:fn'=fn:=Option.some.inj (hfn'.symm.trans hfn)
 subst e
 obtain ⟨⟨⟨ds,gs,before,hw,hc⟩,hx⟩,hz⟩:=hpre
 have hw':=DataW.Whole.of_heap (w':=w.forCall tape i) (by rfl) hw
 refine(contract (w.forCall tape i) w.heap.size i.args ds gs before hval hw' (hz.weights hw) (hX _ _ _ (by rfl) hx) hsh).mono fun e W' ⟨v,he,hp⟩=>?_
 subst he
 exact ChangeSpec.post_blind hp
theorem laidVars_iface {P:Program} {w:World} {n name:String} {d:DataW Unit} {g:Nat} {t:TypeId} {ms:Array (String×TypeId)} (hg:P.globalNamed n=some g) (ht:(P.globals[g]?).map (·.type)=some t)
  (hi:P.underlying t=some (.interface ms)): ∀(l:List (String×DataW Unit)) (ps:List MemPlace),DataW.LaidVars P w l ps→(n,DataW.iface name d)∈l→ ∃u v,w.cell? ⟨g,0,none⟩=some (.iface u v):=by
 intro l
 induction l with
 |nil=>intro ps _ h;simp at h
 |cons x r ih=>
  intro ps h hm
  obtain ⟨n1,d1⟩:=x
  obtain ⟨g1,t1,cs,fuel,p,q,h1,h2,h3,h4,h5,h6⟩:=h
  rcases List.mem_cons.1 hm with e|hm
  ·injection e with e1 e2
   subst e1 e2
   obtain rfl:=Option.some.inj (hg.symm.trans h1)
   obtain rfl:=Option.some.inj (ht.symm.trans h2)
   obtain ⟨_,u,v,hcs,_,_⟩:=iface_of_trod hi h4
   refine⟨u,v,?_⟩
   rw[World.var?_cell h1 h3 0]
   have:=congrArg (·[0]?) hcs
   simpa using this
  ·exact ih _ h5 hm
theorem laid_iface {P:Program} {l:List (String×DataW Unit)} {w:World} (h:laidMetH P l w) (hp:(l.all fun x=>x.2.handleName?.isNone)=true) {n name:String} {d:DataW Unit} (hx:(n,DataW.iface name d)∈l) {g:Nat} {t:TypeId} {ms:Array (String×TypeId)}
  (hg:P.globalNamed n=some g) (ht:(P.globals[g]?).map (·.type)=some t) (hi:P.underlying t=some (.interface ms)): ∃u v,w.cell? ⟨g,0,none⟩=some (.iface u v):=by
 rw[MakeChecks.laidMetH_plain _ _ _ hp] at h
 obtain ⟨ps,hl,_⟩:=h
 exact laidVars_iface hg ht hi l ps hl hx
end Go.Eng
namespace Go.Eng
open Go
def FVs (g F:List Nat) (H:Heap):List AV→List AV→Prop
 |[],[]=>True
 |x::xs,y::ys=>FV g F H x y∧FVs g F H xs ys
 |_,_=>False
theorem FVs_get {g F:List Nat} {H:Heap}: ∀{xs ys:List AV},FVs g F H xs ys→xs.length=ys.length∧ ∀(i:Nat) (x y:AV),xs[i]? =some x→ys[i]? =some y→FV g F H x y:=by
 intro xs
 induction xs with
 |nil=>
  intro ys h
  cases ys with
  |nil=>exact⟨rfl,fun i x y h=>by simp at h⟩
  |cons=>exact h.elim
 |cons a t ih=>
  intro ys h
  cases ys with
  |nil=>exact h.elim
  |cons b u=>
   obtain ⟨h1,h2⟩:=h
   obtain ⟨g1,g2⟩:=ih h2
   refine⟨by simp[g1],fun i x y hx hy=>?_⟩
   cases i with
   |zero=>simp at hx hy;subst hx hy;exact h1
   |succ i=>exact g2 i x y (by simpa using hx) (by simpa using hy)
theorem FV_aggs {g F:List Nat} {H:Heap} {xs ys:List AV} (h:FVs g F H xs ys):FV g F H (.agg xs) (.agg ys):=.agg xs ys (FVs_get h).1 (FVs_get h).2
theorem FV_tups {g F:List Nat} {H:Heap} {xs ys:List AV} (h:FVs g F H xs ys):FV g F H (.tup xs) (.tup ys):=.tup xs ys (FVs_get h).1 (FVs_get h).2
theorem FB_rows {g F:List Nat} {H:Heap} {xs ys:List AV} (h:FVs g F H xs ys):FB g F H (.row xs) (.row ys):=.row xs ys (Nat.le_of_eq (FVs_get h).1.symm) (FVs_get h).2
theorem FV_accF {g F:List Nat} {H:Heap} {b sz:Nat} (rows:List (List D)) (hF:b∈F) (hb:H[b]? =some (AccB rows)) (hs: ∀r∈rows,r.length=sz):FV g F H (AccV b sz rows) (.d (.sl rows)):=by
 by_cases hr:rows=[]
 ·subst hr;rw[AccV_nil];exact .nsl
 ·rw[AccV_cons hr]
  rw[AccB_cons hr] at hb
  have hfl:rows.flatten.length=rows.length * sz:=flatten_len rows hs
  refine .frz b 0 _ _ _ (rows.flatten.map .d) rows hF (by unfold rowOf;rw[hb]) rfl hs (by rw[List.length_map,hfl];omega) fun i x y _ hx hy=>?_
  rw[Nat.zero_add,List.getElem?_map,hy] at hx
  simp at hx
  subst hx
  exact .same _ rfl
end Go.Eng
namespace Go.Eng
open Go Go.RowKit
theorem laidVars_tab {P:Program} {w:World} {n:String} {k:IntKind} {zs:List Int} {g:Nat} {t e:TypeId} {m:Nat} (hg:P.globalNamed n=some g) (ht:(P.globals[g]?).map (·.type)=some t)
  (hi:P.underlying t=some (.array m e)) (he:P.underlying e=some (.int k)) (hce:P.cellsOf e=1) (hct:P.cellsOf t=m): ∀(l:List (String×DataW Unit)) (ps:List MemPlace),DataW.LaidVars P w l ps→(n,Lib.tabData k zs)∈l→Lib.TabIs P w n k zs:=by
 intro l
 induction l with
 |nil=>intro ps _ h;simp at h
 |cons x r ih=>
  intro ps h hm
  obtain ⟨n1,d1⟩:=x
  obtain ⟨g1,t1,cs,fuel,p,q,h1,h2,h3,h4,h5,h6⟩:=h
  rcases List.mem_cons.1 hm with e|hm
  ·injection e with e1 e2
   subst e1 e2
   obtain rfl:=Option.some.inj (hg.symm.trans h1)
   obtain rfl:=Option.some.inj (ht.symm.trans h2)
   unfold Lib.TabIs
   rw[h3,←Lib.cells_of_tab hi he hce hct h4]
  ·exact ih _ h5 hm
theorem laid_tab {P:Program} {l:List (String×DataW Unit)} {w:World} (h:laidMetH P l w) (hp:(l.all fun x=>x.2.handleName?.isNone)=true) {n:String} {k:IntKind} {zs:List Int} (hx:(n,Lib.tabData k zs)∈l) {g:Nat} {t e:TypeId} {m:Nat}
  (hg:P.globalNamed n=some g) (ht:(P.globals[g]?).map (·.type)=some t) (hi:P.underlying t=some (.array m e)) (he:P.underlying e=some (.int k)) (hce:P.cellsOf e=1) (hct:P.cellsOf t=m):Lib.TabIs P w n k zs:=by
 rw[MakeChecks.laidMetH_plain _ _ _ hp] at h
 obtain ⟨ps,hl,_⟩:=h
 exact laidVars_tab hg ht hi he hce hct l ps hl hx
end Go.Eng
namespace Go.Eng
open Go
section
variable {P:Program} {b:Frame} {a:Act} {k:List Item} {cs:List Frame} {w:World} {n:Nat}
theorem stepR_scope {c:Code}:step P (lone (b.atR a (.code (.scope c)::k)) cs w)=.next (lone (b.atR a (.code c::.inScope c::k)) cs w):=
 step_lone_go (by simp[stepG,stepG.exec,Frame.atR])
theorem stepR_inScope {c:Code}:step P (lone (b.atR a (.inScope c::k)) cs w)=.next (lone (b.atR a k) cs w):=
 step_lone_go (by simp[stepG,stepG.exec,Frame.atR])
def jumpX (l:Nat) (J:Act→World→Prop) (Q:Exit→Act→World→Prop):Exit→Act→World→Prop
 |.goto l',a,w=>l'=l∧J a w
 |.normal,a,w=>Q .normal a w
 |.exit i,a,w=>Q (.exit i) a w
 |.ret,a,w=>Q .ret a w
 |.panic c,a,w=>Q (.panic c) a w
 |.outgrown,a,w=>Q .outgrown a w
theorem wpIn_scope_ix {F:Fence} {c rest:Code} {Q:Exit→Act→World→Prop} (l:Nat) (R:Nat→Act→World→Prop) (hf:findLabel c l=some rest)
  (first:c.wpIn F n P (jumpX l (fun a' w'=> ∃j,R j a' w') Q) a w)
  (pass: ∀j a w,R j a w→rest.wpIn F n P (jumpX l (fun a' w'=> ∃j',R j' a' w'∧j'<j) Q) a w):(Code.scope c).wpIn F n P Q a w:=by
 intro b k cs hro hb hr
 have hg:gotoIn l (.inScope c::k)=some (.code rest::.inScope c::k):=by simp[gotoIn,hf]
 have key: ∀(j:Nat) a w,R j a w→
   ∃e a' w',Q e a' w'∧ArrivesIn (Machine.fenced P F) P (lone (b.atR a (.code rest::.inScope c::k)) cs w) b k cs e a' w':=by
  intro j
  induction j using Nat.strongRecOn with
  |_ j ih=>
   intro a w hI
   obtain ⟨e,a₁,w₁,hq,harr⟩:=pass j a w hI b (.inScope c::k) cs hro hb hr
   cases e with
   |normal=>exact⟨.normal,a₁,w₁,hq,StepsIn.trans harr (.one (fenced_calm hb hr rfl) stepR_inScope)⟩
   |goto l'=>
    obtain ⟨rfl,j',hI',hlt⟩:=hq
    obtain ⟨e₂,a₂,w₂,hq₂,harr₂⟩:=ih j' hlt a₁ w₁ hI'
    exact⟨e₂,a₂,w₂,hq₂,.of_steps (harr.1 _ hg) harr₂⟩
   |exit id=>exact⟨_,a₁,w₁,hq,⟨fun k' hk=>harr.1 k' (by simp[exitTo,hk]),fun hr hk=>harr.2 hr (by simp[exitTo,hk])⟩⟩
   |ret=>exact⟨_,a₁,w₁,hq,harr⟩
   |panic ch=>exact⟨_,a₁,w₁,hq,harr⟩
   |outgrown=>exact⟨_,a₁,w₁,hq,harr⟩
 obtain ⟨e,a₁,w₁,hq,harr⟩:=first b (.inScope c::k) cs hro hb hr
 have h0:=stepR_scope (P:=P) (b:=b) (a:=a) (k:=k) (cs:=cs) (w:=w) (c:=c)
 cases e with
 |normal=>exact⟨.normal,a₁,w₁,hq,StepsIn.trans (.one (fenced_calm hb hr rfl) h0) (StepsIn.trans harr (.one (fenced_calm hb hr rfl) stepR_inScope))⟩
 |goto l'=>
  obtain ⟨rfl,j',hI'⟩:=hq
  obtain ⟨e₂,a₂,w₂,hq₂,harr₂⟩:=key j' a₁ w₁ hI'
  exact⟨e₂,a₂,w₂,hq₂,.of_steps (StepsIn.trans (.one (fenced_calm hb hr rfl) h0) (harr.1 _ hg)) harr₂⟩
 |exit id=>exact⟨_,a₁,w₁,hq,.of_steps (.one (fenced_calm hb hr rfl) h0) ⟨fun k' hk=>harr.1 k' (by simp[exitTo,hk]),fun hr hk=>harr.2 hr (by simp[exitTo,hk])⟩⟩
 |ret=>exact⟨_,a₁,w₁,hq,.of_steps (.one (fenced_calm hb hr rfl) h0) harr⟩
 |panic ch=>exact⟨_,a₁,w₁,hq,.of_steps (.one (fenced_calm hb hr rfl) h0) harr⟩
 |outgrown=>exact⟨_,a₁,w₁,hq,.of_steps (.one (fenced_calm hb hr rfl) h0) harr⟩
end
section
variable {P:Program} {ro:Option Nat} {s:St}
def jumpQ (l:Nat) (J:St→Prop) (Q:AEx→St→Prop) (e:AEx) (s':St):Prop:=
 match e with
 |.goto l'=>match Nat.beq l' l with
  |true=>J s'
  |false=>False
 |.normal=>Q .normal s'
 |.exit i=>Q (.exit i) s'
 |.ret=>Q .ret s'
structure Jump (I:Nat→St→Prop) (s:St):Prop where
 out: ∃s3 k',Wk s s3∧I k' s3
theorem Jump_in {I:Nat→St→Prop} {s:St} (s3:St) (k':Nat) (h1:I k' s3) (h3:Wk s s3):Jump I s:=⟨s3,k',h3,h1⟩
theorem W_scope {c rest:Code} {Q:AEx→St→Prop} (l:Nat) (I:Nat→St→Prop) (hf:findLabel c l=some rest) (first:W P ro c (jumpQ l (fun s2=>Jump I s2) Q) s)
  (pass: ∀k s1,I k s1→W P ro rest (jumpQ l (fun s2=>Back I k s2) Q) s1):W P ro (.scope c) Q s:=by
 rw[W_eq]
 intro p σ a w hR
 rw[W_eq] at first
 have step: ∀(s0:St) (p1:PQ) (σ1:List Nat) (w1:World) (J:St→Prop) (R:Act→World→Prop) (e:Exit) (a':Act) (w':World),s0.m=s.m→s0.n=s.n→Ext p w p1 w1→(∀ i,i<s.m→σ1[i]? =σ[i]?)→
   (∀ s2,J s2→s2.m=s.m→s2.n=s.n→ ∀p2 σ2,Ext p w p2 w'→(∀ i,i<s.m→σ2[i]? =σ[i]?)→Rel p2 σ2 s2 a' w'→R a' w')→
   Post p1 w1 σ1 s0 (jumpQ l J Q) e a' w'→jumpX l R (Post p w σ s Q) e a' w':=by
  rintro s0 p1 σ1 w1 J R e a' w' hm hn he hσ hJ ⟨ae,p',σ',s',rfl,g2,g3,g4,g5,g6,g7⟩
  have e1:Ext p w p' w':=he.trans g2
  have e2: ∀i,i<s.m→σ'[i]? =σ[i]? :=fun i hi=>(g3 i (by rw[hm];exact hi)).trans (hσ i hi)
  cases ae with
  |normal=>exact⟨.normal,p',σ',s',rfl,e1,e2,g4,g5.trans hm,g6.trans hn,g7⟩
  |exit i=>exact⟨.exit i,p',σ',s',rfl,e1,e2,g4,g5.trans hm,g6.trans hn,g7⟩
  |ret=>exact⟨.ret,p',σ',s',rfl,e1,e2,g4,g5.trans hm,g6.trans hn,g7⟩
  |goto l'=>
   have g7':(match Nat.beq l' l with|true=>J s'|false=>False):=g7
   split at g7'
   ·rename_i hb
    exact⟨Nat.eq_of_beq_eq_true hb,hJ s' g7' (g5.trans hm) (g6.trans hn) p' σ' e1 e2 g4⟩
   ·exact g7'.elim
 refine wpIn_scope_ix l (fun k a1 w1=> ∃s1 p1 σ1,I k s1∧s1.m=s.m∧s1.n=s.n∧Ext p w p1 w1∧(∀ i,i<s.m→σ1[i]? =σ[i]?)∧Rel p1 σ1 s1 a1 w1) hf ?_ ?_
 ·refine wpIn_mono (first p σ a w hR) fun e a' w' h=>step s p σ w _ _ e a' w' rfl rfl (.refl p w) (fun _ _=>rfl) ?_ h
  rintro s2 ⟨s3,k',hk,hI⟩ hm hn p2 σ2 e1 e2 hR2
  rw[Wk_eq] at hk
  obtain ⟨k1,k2,k3⟩:=hk
  obtain ⟨p3,σ3,f1,m1,r1⟩:=k3 p2 σ2 a' w' hR2
  exact⟨k',s3,p3,σ3,hI,k1.trans hm,k2.trans hn,e1.trans f1,fun i hi=>(m1 i (by rw[hm];exact hi)).trans (e2 i hi),r1⟩
 ·rintro k a1 w1 ⟨s1,p1,σ1,hI,hm,hn,he,hσ,hR1⟩
  have hp:=pass k s1 hI
  rw[W_eq] at hp
  refine wpIn_mono (hp p1 σ1 a1 w1 hR1) fun e a' w' h=>step s1 p1 σ1 w1 _ _ e a' w' hm hn he hσ ?_ h
  rintro s2 hb hm hn p2 σ2 e1 e2 hR2
  rw[Back_eq] at hb
  obtain ⟨s3,k',hk,hI',hlt⟩:=hb
  rw[Wk_eq] at hk
  obtain ⟨k1,k2,k3⟩:=hk
  obtain ⟨p3,σ3,f1,m1,r1⟩:=k3 p2 σ2 a' w' hR2
  exact⟨k',⟨s3,p3,σ3,hI',k1.trans hm,k2.trans hn,e1.trans f1,fun i hi=>(m1 i (by rw[hm];exact hi)).trans (e2 i hi),r1⟩,hlt⟩
end
end Go.Eng
namespace Go.Eng
open Go
section
variable {P:Program}
def asgQ (P:Program) (l:Nat) (body:Code) (Q:AEx→St→Prop) (e:AEx) (s:St):Prop:=
 match e with
 |.normal=>NeedK (noY s.H=true) (W P (some l) body Q s)
 |_=>False
theorem asgQ_in {l:Nat} {body:Code} {Q:AEx→St→Prop} {e:AEx} {s:St} (h:asgQ P l body Q e s):e=.normal∧noY s.H=true∧W P (some l) body Q s:=by
 cases e with
 |normal=>obtain ⟨h1,h2⟩:=h;exact⟨rfl,h1,h2⟩
 |exit i=>exact h.elim
 |goto l=>exact h.elim
 |ret=>exact h.elim
theorem mkYB_law {p0:PQ} {ρ:Env} {tmps:Array Value} {mb:Nat} {σb:List Nat} {l:Nat} {fn:FuncId} {t:Tmp} {asg:Code} {body:Code} {d:Nat} {xs:List AV} {J:Nat→Heap→Prop} {JZ:AEx→Heap→Prop}
  (ht:t<tmps.size) (hxs: ∀(k:Nat) (x:AV),xs[k]? =some x→plain x=true)
  (hround: ∀(k:Nat) (x:AV) (H:Heap),xs[k]? =some x→J k H→mb≤H.length→noY H=true→W P (some l) asg (asgQ P l body (RdBack J JZ k tmps.size mb)) ⟨(t,x)::ρ,tmps.size,H,mb,[]⟩):
  YLaw P (mkYA asg p0 ρ tmps mb σb l fn t body d xs J JZ):=by
 rintro k x vs p σ w ⟨pO,σO,H,hJ,hM⟩ hx hvs hlt hul hll
 obtain ⟨v,rfl,hv⟩:=one_val (plain_one (hxs k x hx)) hvs
 have hul: ¬p.u l:=hul
 have hll:l<w.heap.size:=hll
 refine⟨fn,tmps.setIfInBounds t v,asg,body,?_,?_⟩
 ·show (Instr.yield l #[v]).run P w=.ok (.round l fn (tmps.setIfInBounds t v) asg body) w
  rw[run_yield hM.lrec (by simp[recOfA])]
  simp[recOfA]
 show RoundIn Fence.wide 0 P l fn (tmps.setIfInBounds t v) asg body w _
 let w2:=w.putObj l (.loop (recOfA asg fn tmps #[t] body d .busy none))
 have hsh2:Shape w w2:=Shape.putLoop hM.lrec _
 have hlr: ¬pO.r l:=fun h=>(hM.back l h).elim (fun h=>hul (p.sub l (hM.p0r l h))) fun h=>hul (p.fu l h)
 let liveO:Nat→Prop:=fun b=> ∃(i:Nat) (q:Blk),H[i]? =some (some q)∧σO[i]? =some b
 have hlive: ∀b,liveO b→p.f b∧ ¬pO.u b∧b<w.heap.size:=fun b ⟨i,q,h1,h2⟩=>by
  obtain ⟨r',g1,g2,g3,_⟩:=hM.heap.blk i q h1
  rw[h2] at g1
  injection g1 with g1
  subst g1
  exact⟨hM.live i b q h1 h2,g2,g3⟩
 have hll2: ¬liveO l:=fun h=>hul (p.fu l (hlive l h).1)
 have sz2:w2.heap.size=w.heap.size:=by simp[w2]
 have oth2: ∀b,b≠l→w2.heap[b]? =w.heap[b]? :=fun b hb=>World.putObj_heap_other hb
 let pR:PQ:=⟨pO.r,fun b=>b<w.heap.size∧ ¬liveO b,fun _=>False,fun b hb=>⟨hM.heap.lt b (pO.sub b hb),fun h=>(hlive b h).2.1 (pO.sub b hb)⟩,fun _ h=>h.elim,fun _ h=>h.elim⟩
 have hHR:HRel pR σO H w:=hM.heap.same hM.noY (fun _ h=>h) (fun _ _=>rfl) (.refl w) (fun b hb=>hb.1) fun i q r h1 h2=>
  ⟨fun h=>h.2 ⟨i,q,h1,h2⟩,rfl⟩
 have σmono: ∀(i r:Nat),σb[i]? =some r→σO[i]? =some r:=fun i r hi=>by
  rw[hM.nam i (by rw[← hM.bl];exact(List.getElem?_eq_some_iff.1 hi).1)]
  exact hi
 have hRel0:Rel pR σO ⟨(t,x)::ρ,tmps.size,H,mb,[]⟩ { tmps:=tmps.setIfInBounds t v,defers:=[]} w:=by
  refine⟨by simp,trivial,fun u=>?_,hHR,hM.len⟩
  simp only[get]
  by_cases hu:t=u
  ·subst hu
   rw[Nat.beq_refl]
   simp only[cond_true]
   have:(tmps.setIfInBounds t v).getD t undef=v:=by simp[Array.getD_eq_getD_getElem?,ht]
   rw[this]
   exact hv.ofPlain (hxs k x hx)
  ·rw[beq_ne hu]
   simp only[cond_false]
   have:(tmps.setIfInBounds t v).getD u undef=tmps.getD u undef:=by simp[Array.getD_eq_getD_getElem?,Array.getElem?_setIfInBounds_ne hu]
   rw[this]
   exact(hM.env u).mono' (p:=pO) (p':=pR) (fun _ h=>h) (fun _ _=>rfl) (.refl w) σmono
 have hpl:pR.u l:=⟨hll,hll2⟩
 have hA:=hround k x H hx hJ hM.len hM.noY
 rw[W_eq] at hA
 refine roundIn_of_wpIn trivial (wpIn_mono (F:=Fr (some l)) (hA pR σO _ w hRel0) ?_)
 rintro e1 a1 w1 ⟨ae1,p1,σ1,s1,rfl,q2,q3,q4,q5,q6,q7⟩
 obtain ⟨rfl,hY1,hW⟩:=asgQ_in q7
 have hrec1:w1.heap[l]? =some (.loop (recOfA asg fn tmps #[t] body d .ready none)):=(q2.same l hpl (fun h=>h)).trans hM.lrec
 refine⟨_,run_beginRound hrec1 rfl,?_⟩
 have hll1:l<w1.heap.size:=(Array.getElem?_eq_some_iff.1 hrec1).1
 let w2b:=w1.putObj l (.loop (recOfA asg fn tmps #[t] body d .busy none))
 show body.wpIn (Fr (some l)) 0 P _ _ w2b
 have hsh2b:Shape w1 w2b:=Shape.putLoop hrec1 _
 have oth2b: ∀b,b≠l→w2b.heap[b]? =w1.heap[b]? :=fun b hb=>World.putObj_heap_other hb
 have h1l: ¬p1.r l:=fun h=>(q2.back l h).elim hlr fun h=>h hpl
 have h1ul:p1.u l:=q2.subu l hpl
 have exB:Ext pR w2 p1 w2b:=by
  refine⟨q2.subr,q2.subu,q2.back,q2.subf,q2.backf,fun b hb hf=>?_,?_⟩
  ·by_cases hbl:b=l
   ·subst hbl
    rw[show w2b.heap[b]? =some (.loop (recOfA asg fn tmps #[t] body d .busy none)) from World.putObj_heap_same hll1,show w2.heap[b]? =some (.loop (recOfA asg fn tmps #[t] body d .busy none)) from World.putObj_heap_same hll]
   ·rw[oth2b b hbl,oth2 b hbl];exact q2.same b hb hf
  ·refine⟨by rw[sz2];exact Nat.le_trans q2.shape.1 hsh2b.1,fun r c e fr h=>?_,hsh2b.2.2.1.trans (q2.shape.2.2.1.trans hsh2.2.2.1.symm),hsh2b.2.2.2.1.trans (q2.shape.2.2.2.1.trans hsh2.2.2.2.1.symm),hsh2b.2.2.2.2.trans (q2.shape.2.2.2.2.trans hsh2.2.2.2.2.symm)⟩
   have hrl:r≠l:=fun e=>by
    subst e
    rw[show w2.heap[r]? =some (.loop (recOfA asg fn tmps #[t] body d .busy none)) from World.putObj_heap_same hll] at h
    simp at h
   rw[oth2 r hrl] at h
   obtain ⟨c1,fr1,z1,z2⟩:=q2.shape.2.1 r c e fr h
   exact⟨c1,fr1,by rw[oth2b r hrl];exact z1,z2⟩
 have hRel:Rel p1 σ1 s1 a1 w2b:=by
  refine⟨q4.size,q4.df,fun u=>(q4.env u).same (fun b hb=>oth2b b fun e=>h1l (e▸hb)) hsh2b,q4.heap.same hY1 (fun _ h=>h) (fun b hb=>oth2b b fun e=>h1l (e▸hb)) hsh2b (fun b hb=>Nat.lt_of_lt_of_le (q4.heap.lt b hb) hsh2b.1) fun i q r h1 h2=>?_,q4.m⟩
  obtain ⟨r',z1,z2,_⟩:=q4.heap.blk i q h1
  rw[h2] at z1
  injection z1 with z1
  subst z1
  exact⟨z2,oth2b r fun e=>z2 (e▸h1ul)⟩
 rw[W_eq] at hW
 refine wpIn_mono (hW p1 σ1 _ w2b hRel) ?_
 rintro e a' w' ⟨ae,p',σ',s',rfl,g2z,g3z,g4,g5z,g6z,g7⟩
 have g2:Ext pR w2 p' w':=exB.trans g2z
 have g5:s'.m=mb:=g5z.trans q5
 have g3: ∀i,i<mb→σ'[i]? =σO[i]? :=fun i hi=>(g3z i (by rw[q5];exact hi)).trans (q3 i hi)
 rw[RdBack_eq] at g7
 obtain ⟨H3,hwk,hY3,hl3,hJ3⟩:=g7
 rw[Wk_eq] at hwk
 obtain ⟨k1,k2,k3⟩:=hwk
 obtain ⟨p2,σ2,e1,m1,r1⟩:=k3 p' σ' a' w' g4
 have hex:=g2.trans e1
 have hnam: ∀i,i<mb→σ2[i]? =σO[i]? :=fun i hi=>(m1 i (by rw[g5];exact hi)).trans (g3 i hi)
 have hrec:w'.heap[l]? =some (.loop (recOfA asg fn tmps #[t] body d .busy none)):=(g2.same l hpl (fun h=>h)).trans (World.putObj_heap_same hll)
 have hll':l<w'.heap.size:=(Array.getElem?_eq_some_iff.1 hrec).1
 have h2l: ¬p2.r l:=fun h=>(hex.back l h).elim hlr fun h=>h hpl
 have new: ∀b,¬pR.u b→p.f b∨w.heap.size≤b:=fun b hb=>by
  by_cases hlt':b<w.heap.size
  ·by_cases hlv:liveO b
   ·exact .inl (hlive b hlv).1
   ·exact absurd ⟨hlt',hlv⟩ hb
  ·exact .inr (by omega)
 have fin: ∀(st:LoopState) (pend:Option Code),Mid p0 ρ tmps mb σb l (recOfA asg fn tmps #[t] body d st pend) (grow p w (w'.putObj l (.loop (recOfA asg fn tmps #[t] body d st pend)))) (w'.putObj l (.loop (recOfA asg fn tmps #[t] body d st pend))) p2 σ2 H3∧
   (∀ c,c<w.heap.size→ ¬p.f c→c≠l→(w'.putObj l (.loop (recOfA asg fn tmps #[t] body d st pend))).heap[c]? =w.heap[c]?)∧Shape w (w'.putObj l (.loop (recOfA asg fn tmps #[t] body d st pend))):=fun st pend=>by
  have hsh3:Shape w' (w'.putObj l (.loop (recOfA asg fn tmps #[t] body d st pend))):=Shape.putLoop hrec _
  have oth3: ∀b,b≠l→(w'.putObj l (.loop (recOfA asg fn tmps #[t] body d st pend))).heap[b]? =w'.heap[b]? :=fun b hb=>World.putObj_heap_other hb
  have sz3:(w'.putObj l (.loop (recOfA asg fn tmps #[t] body d st pend))).heap.size=w'.heap.size:=by simp
  have rec3:(w'.putObj l (.loop (recOfA asg fn tmps #[t] body d st pend))).heap[l]? =some (.loop (recOfA asg fn tmps #[t] body d st pend)):=World.putObj_heap_same hll'
  generalize w'.putObj l (.loop (recOfA asg fn tmps #[t] body d st pend))=w3 at *
  have hshA:Shape w w3:=(hsh2.trans g2.shape).trans hsh3
  have grown: ∀b,¬pR.u b→b<w'.heap.size→(grow p w w3).f b:=fun b hb hbl=>(new b hb).imp id fun h=>⟨h,by omega,fun hr=>by have:=hlt b (p.sub b hr);omega⟩
  have rsame: ∀b,p2.r b→w3.heap[b]? =w'.heap[b]? :=fun b hb=>oth3 b fun e=>h2l (e▸hb)
  have osame: ∀b,pO.r b→w3.heap[b]? =w.heap[b]? :=fun b hb=>(oth3 b fun e=>hlr (e▸hb)).trans ((g2.same b (pR.sub b hb) (fun h=>h)).trans (oth2 b fun e=>hlr (e▸hb)))
  have lv: ∀(i:Nat) (q:Blk) (r:Nat),H3[i]? =some (some q)→σ2[i]? =some r→ ¬p2.u r∧r<w'.heap.size:=fun i q r h1 h2=>by
   obtain ⟨r',z1,z2,z3,_⟩:=r1.heap.blk i q h1
   rw[h2] at z1
   injection z1 with z1
   subst z1
   exact⟨z2,z3⟩
  refine⟨⟨hM.bl,hl3,r1.heap.same hY3 (fun _ h=>h) rsame hsh3 (fun b hb=>by rw[sz3];exact r1.heap.lt b hb) fun i q r h1 h2=>⟨(lv i q r h1 h2).1,oth3 r fun e=>(lv i q r h1 h2).1 (e▸hex.subu l hpl)⟩,fun i hi=>(hnam i hi).trans (hM.nam i hi),hY3,
   fun b hb=>hex.subr b (hM.subr b hb),fun b hb=>?_,fun i r q h1 h2=>grown r (fun h=>(lv i q r h1 h2).1 (hex.subu r h)) (lv i q r h1 h2).2,hM.p0r,fun u=>(hM.env u).mono' (p:=pO) (p':=p2) (fun b hb=>hex.subr b hb) osame hshA (fun _ _ h=>h),rec3⟩,fun c hc hcf hcl=>?_,hshA⟩
  ·rcases hex.back b hb with h|h
   ·exact(hM.back b h).imp id .inl
   ·exact .inr (grown b h (r1.heap.lt b (p2.sub b hb)))
  ·exact(oth3 c hcl).trans ((g2.same c ⟨hc,fun h=>hcf (hlive c h).1⟩ (fun h=>h)).trans (oth2 c hcl))
 cases ae with
 |normal=>
  obtain ⟨f1,f2,f3⟩:=fin .ready none
  exact⟨_,_,run_endRound none hrec,true,rfl,fun _=>⟨p2,σ2,H3,hJ3,f1⟩,fun h=>by simp at h,f2,f3⟩
 |exit i=>
  obtain ⟨f1,f2,f3⟩:=fin .done (some (.exit i))
  exact⟨_,_,run_endRound (some (.exit i)) hrec,false,rfl,fun h=>by simp at h,fun _=>⟨p2,σ2,H3,.exit i,_,hJ3,rfl,f1⟩,f2,f3⟩
 |goto i=>
  obtain ⟨f1,f2,f3⟩:=fin .done (some (.goto i))
  exact⟨_,_,run_endRound (some (.goto i)) hrec,false,rfl,fun h=>by simp at h,fun _=>⟨p2,σ2,H3,.goto i,_,hJ3,rfl,f1⟩,f2,f3⟩
 |ret=>
  obtain ⟨f1,f2,f3⟩:=fin .done (some .ret)
  exact⟨_,_,run_endRound (some .ret) hrec,false,rfl,fun h=>by simp at h,fun _=>⟨p2,σ2,H3,.ret,_,hJ3,rfl,f1⟩,f2,f3⟩
theorem W_rangeS {gop:Operand} {f:FuncId} {fs cs fs0 cs0:List AV} (gl:List Nat) {H H0:Heap} {ρ:Env} {n m:Nat} {df:List DF} {t:Tmp} {asg:Code} {body:Code} {Q:AEx→St→Prop} (xs:List AV) (J:Nat→Heap→Prop) (JZ:AEx→Heap→Prop)
  (hg:evalO (get ρ) gop=.clos (.func f) fs cs) (hlt:(gl.all fun x=>Nat.blt x H.length)=true) (hnd:noDup gl=true) (hle:HLe gl gl.length H H0 gl) (hfs:fs=renL (gOf gl) fs0) (hcs:cs=renL (gOf gl) cs0)
  (hlf:lowL gl.length fs0=true) (hlc:lowL gl.length cs0=true) (ht:t<n) (hY:noY H=true) (hxs: ∀(k:Nat) (x:AV),xs[k]? =some x→plain x=true)
  (hcall: ∀Y:Ysp,Y.xs=xs→YLaw P Y→Tri P f (fs0++[.clos (.yield Y.l) [] []]++cs0) (H0++[some (.yl Y 0)]) fun v H1=>H1[gl.length]? =some (some (.yl Y xs.length))∨H1[gl.length]? =some (some (.yz Y)))
  (hJ0:J 0 (hide gl H 0++[some .dfr]))
  (hround: ∀(l k:Nat) (x:AV) (H':Heap),xs[k]? =some x→J k H'→H.length+1≤H'.length→noY H'=true→W P (some l) asg (asgQ P l body (RdBack J JZ k n (H.length+1))) ⟨(t,x)::ρ,n,H',H.length+1,[]⟩)
  (hend: ∀H',J xs.length H'→H.length+1≤H'.length→noY H'=true→Q .normal ⟨ρ,n,H',m,.mk H.length::df⟩)
  (hZ: ∀e H' c,isExit e c→JZ e H'→H.length+1≤H'.length→noY H'=true→Q e ⟨ρ,n,H',m,.mk H.length::df⟩):
  W P none (.rangeFunc gop #[t] asg body) Q ⟨ρ,n,H,m,df⟩:=by
 rw[W_eq]
 intro p σ a w hR
 have hsz:a.tmps.size=n:=hR.size
 have hH:HRel p σ H w:=hR.heap
 have hlt': ∀x∈gl,x<H.length:=fun x hx=>by simpa [Nat.blt_eq] using List.all_eq_true.1 hlt x hx
 refine wpIn_rangeFunc fun fn _=>?_
 have hv:=evalO_rel hR gop
 simp only[hg] at hv
 generalize hve:a.eval gop=v at hv
 cases hv with
 |clos _ _ _ fs' cs' h1 h2 h3 h4=>
 let rec_:Loop:=recOfA asg fn a.tmps #[t] body w.heap.size .ready none
 let wd:World:=pushW w (.deferred (some []))
 let w1:World:=pushW wd (.loop rec_)
 let l:Nat:=w.heap.size+1
 let σb:=σ++[w.heap.size]
 have hszd:wd.heap.size=w.heap.size+1:=pushW_size
 have hsz1:w1.heap.size=w.heap.size+2:=by simp[w1,pushW_size,hszd]
 have exd:Ext p w p wd:=.push hH.lt _
 have hltd: ∀b,p.u b→b<wd.heap.size:=fun b hb=>by have:=hH.lt b hb;omega
 have ex1:Ext p wd p w1:=.push hltd _
 have exA:Ext p w p w1:=exd.trans ex1
 have old: ∀b,b<w.heap.size→w1.heap[b]? =w.heap[b]? :=fun b hb=>(pushW_old (by omega)).trans (pushW_old hb)
 have hlrec:w1.heap[l]? =some (.loop rec_):=by
  show w1.heap[w.heap.size+1]? =_
  rw[← hszd]
  exact pushW_new
 have hHd:HRel p σb (H++[some .dfr]) wd:=hH.push _ .dfr pushW_new
 have hlive: ∀(i r:Nat) (k:Blk),(H++[some Blk.dfr])[i]? =some (some k)→σb[i]? =some r→ ¬p.u r∧r<wd.heap.size:=fun i r k hk hr=>by
  obtain ⟨r',z1,z2,z3,_⟩:=hHd.blk i k hk
  rw[hr] at z1
  injection z1 with z1
  subst z1
  exact⟨z2,z3⟩
 have hYd:noY (H++[some .dfr])=true:=noY_of fun i k hk=>by
  rcases Nat.lt_or_ge i H.length with hi|hi
  ·rw[List.getElem?_append_left hi] at hk
   exact noY_get hY hk
  ·rw[List.getElem?_append_right hi] at hk
   cases hj:i-H.length with
   |zero=>rw[hj] at hk;simp at hk;subst hk;rfl
   |succ j=>rw[hj] at hk;simp at hk
 have hH1:HRel p σb (H++[some .dfr]) w1:=hHd.same hYd (fun _ h=>h) (fun b hb=>ex1.same b (p.sub b hb) fun hf=>p.fr b hf hb) ex1.shape (fun b hb=>by have:=hltd b hb;omega) fun i k r hk hr=>
  ⟨(hlive i r k hk hr).1,pushW_old (hlive i r k hk hr).2⟩
 let Hb:Heap:=hide gl H 0++[some .dfr]
 obtain ⟨hhl,hhg⟩:=hide_get gl H 0
 have hbl:Hb.length=H.length+1:=by simp[Hb,hhl]
 have hbg: ∀(i:Nat) (k:Blk),Hb[i]? =some (some k)→i∉gl∧(H++[some Blk.dfr])[i]? =some (some k):=fun i k hk=>by
  rcases Nat.lt_or_ge i H.length with hi|hi
  ·rw[List.getElem?_append_left (by rw[hhl];exact hi)] at hk
   obtain ⟨z1,z2⟩:=hhg i k hk
   exact⟨by simpa using z1,by rw[List.getElem?_append_left hi];exact z2⟩
  ·rw[List.getElem?_append_right (by rw[hhl];exact hi),hhl] at hk
   exact⟨fun hm=>by have:=hlt' i hm;omega,by rw[List.getElem?_append_right hi];exact hk⟩
 have hHb:HRel p σb Hb w1:=hH1.less (by rw[hbl];simp) fun i k hk=>(hbg i k hk).2
 let L:Nat→Prop:=fun r=> ∃(i:Nat) (k:Blk),Hb[i]? =some (some k)∧σb[i]? =some r
 have hL: ∀r,L r→ ¬p.u r∧r<wd.heap.size:=fun r ⟨i,k,z1,z2⟩=>hlive i r k (hbg i k z1).2 z2
 let p0:PQ:=⟨p.r,fun b=>p.u b∨L b,L,fun b h=>.inl (p.sub b h),fun b h=>.inr h,fun b h hr=>(hL b h).1 (p.sub b hr)⟩
 have hσl:σ.length=H.length:=hH.len
 have σleft: ∀(i r:Nat),σ[i]? =some r→σb[i]? =some r:=mono_append _
 let Y:=mkYA asg p ρ a.tmps (H.length+1) σb l fn t body w.heap.size xs J JZ
 have hMid:Mid p ρ a.tmps (H.length+1) σb l rec_ p0 w1 p σb Hb:=
  ⟨by simp[σb,hσl],Nat.le_of_eq hbl.symm,hHb,fun _ _=>rfl,noY_of fun i k hk=>noY_get hYd (hbg i k hk).2,fun _ h=>h,fun b h=>.inl h,fun i r k hk hr=>⟨i,k,hk,hr⟩,fun _ h=>h,fun u=>(hR.env u).mono exA σleft,hlrec⟩
 have hlaw:YLaw P Y:=mkYB_law (by rw[hsz];exact ht) hxs fun k x H' e1 e2 e3 e4=>by rw[hsz];exact hround l k x H' e1 e2 e3 e4
 have hT:=hcall Y rfl hlaw
 rw[Tri_eq] at hT
 obtain ⟨hent,hT⟩:=hT
 have hlen0:H0.length=gl.length:=(HLe_get H0 gl hle).1
 have hget0:=(HLe_get H0 gl hle).2
 have hsg:=renS_get (σ:=σ) (g:=gl) rfl (by rw[hσl];exact hlt')
 have hgi: ∀(i j:Nat),gl[i]? =some j→(renS gl σ)[i]? =σ[j]? :=fun i j h=>by
  have hi:=(List.getElem?_eq_some_iff.1 h).1
  rw[hsg i hi]
  simp[gOf,List.getD_eq_getElem?_getD,h]
 have hY0:noY H0=true:=noY_of fun i k hk=>by
  obtain ⟨j,z1,z2,_⟩:=hget0 i k hk
  have:=noY_get hY z2
  cases k <;> first|rfl|simp[renB,isY] at this
 have hH0:HRel p (renS gl σ) H0 wd:=(hH.ren hlt' hnd hle).same hY0 (fun _ h=>h) (fun b hb=>exd.same b (p.sub b hb) fun hf=>p.fr b hf hb) exd.shape hltd fun i k r hk hr=>by
  obtain ⟨r',z1,z2,z3,_⟩:=(hH.ren hlt' hnd hle).blk i k hk
  rw[hr] at z1
  injection z1 with z1
  subst z1
  exact⟨z2,pushW_old z3⟩
 have hH0':HRel p0 (renS gl σ) H0 wd:=hH0.same hY0 (fun _ h=>h) (fun _ _=>rfl) (.refl wd) (fun b hb=>hb.elim (hltd b) fun h=>(hL b h).2) fun i k r hk hr=>by
  obtain ⟨r',z1,z2,z3,_⟩:=hH0.blk i k hk
  rw[hr] at z1
  injection z1 with z1
  subst z1
  refine⟨fun hu=>hu.elim z2 fun ⟨j,q,y1,y2⟩=>?_,rfl⟩
  obtain ⟨j0,e1,e2,_⟩:=hget0 i k hk
  rw[hgi i j0 e1] at hr
  obtain ⟨f1,f2⟩:=hbg j q y1
  have hj0:j0<H.length:=(List.getElem?_eq_some_iff.1 e2).1
  have:=hHd.inj j j0 r q _ f2 (by rw[List.getElem?_append_left hj0];exact e2) y2 (σleft _ _ hr)
  subst this
  exact f1 (List.mem_iff_getElem?.2 ⟨i,e1⟩)
 have hHc:HRel p0 (renS gl σ++[wd.heap.size]) (H0++[some (.yl Y 0)]) w1:=hH0'.push _ (.yl Y 0) ⟨hszd,p,σb,Hb,hJ0,hMid⟩
 let yv:Value:=.func (.yield l) #[] #[]
 refine⟨l,[{ target:=.collected w.heap.size,args:= #[]}],w1,{ target:=.fn (.func f) cs',args:=fs'++ #[yv]},w1,f,fs'++ #[yv]++cs',w1,run_enterLoop_outer fn a.tmps #[t] asg body,?_,fun _ _=>trivial,?_,fun h=>by simp[Fr,Fence.wide] at h,?_⟩
 ·have hconst:a.eval (.const (.func (.yield l) #[] #[]))=yv:=rfl
  simp[resolve,rangeCall,hve,Deferred.ofValue,hconst]
 ·simp only[invoke]
  exact enter_run hent
 have hargs:(fs'++ #[yv]++cs').size=(fs0++[AV.clos (.yield Y.l) [] []]++cs0).length∧
   ∀(i:Nat) (x:AV) (v:Value),(fs0++[AV.clos (.yield Y.l) [] []]++cs0)[i]? =some x→(fs'++ #[yv]++cs')[i]? =some v→VRel p0 (renS gl σ++[wd.heap.size]) w1 x v:=by
  have part: ∀(xs xs0:List AV) (vs:Array Value),xs=renL (gOf gl) xs0→lowL gl.length xs0=true→vs.size=xs.length→(∀ (i:Nat) (x:AV) (v:Value),xs[i]? =some x→vs[i]? =some v→VRel p σ w x v)→
    vs.size=xs0.length∧ ∀(i:Nat) (x:AV) (v:Value),xs0[i]? =some x→vs[i]? =some v→VRel p0 (renS gl σ++[wd.heap.size]) w1 x v:=fun xs xs0 vs hx hl hs hr=>by
   subst hx
   rw[renL_length] at hs
   refine⟨hs,fun i x v hx hv=>?_⟩
   have z:=hr i (Eng.ren (gOf gl) x) v (by rw[renL_get,hx];rfl) hv
   exact(z.ren hsg x rfl (lowL_get hl hx)).mono' (p:=p) (p':=p0) (fun _ h=>h) (fun b hb=>exA.same b (p.sub b hb) fun hf=>p.fr b hf hb) exA.shape (mono_append _)
  obtain ⟨q1,q2⟩:=part fs fs0 fs' hfs hlf h1 h3
  obtain ⟨r1,r2⟩:=part cs cs0 cs' hcs hlc h2 h4
  obtain ⟨u1,u2⟩:=rel_append (p:=p0) (σ:=renS gl σ++[wd.heap.size]) (w:=w1) (xs:=fs0) (ys:=[AV.clos (.yield Y.l) [] []]) (us:=fs') (vs:= #[yv]) q1 q2 rfl (fun i x v hx hv=>by
   cases i with
   |zero=>
    simp at hx hv
    subst hx hv
    exact .clos (.yield l) [] [] #[] #[] rfl rfl (fun i x v h=>by simp at h) (fun i x v h=>by simp at h)
   |succ i=>simp at hx)
  exact rel_append u1 u2 r1 r2
 show CallsIn (Fr none) 0 P f _ w1 _
 refine callsIn_of ((hT p0 _ w1 _ hHc hargs.1 hargs.2).mono ?_)
 rintro e w2 ⟨v,x,p1,σ1,H1,rfl,hex,hm1,hHR1,_,hq⟩
 have hl1:σ1[gl.length]? =some l:=hm1 _ _ (by
  rw[List.getElem?_append_right (by simp[renS])]
  simp[renS,hszd,l])
 have hul1: ∀(k:Blk),H1[gl.length]? =some (some k)→ ¬p1.u l∧BRel p1 σ1 w2 k l:=fun k hk=>by
  obtain ⟨r,z1,z2,_,z4⟩:=hHR1.blk _ k hk
  rw[hl1] at z1
  injection z1 with z1
  subst z1
  exact⟨z2,z4⟩
 have fin: ∀(st:LoopState) (pend:Option Code) (pO:PQ) (σO:List Nat) (H':Heap) (o:Obj),¬p1.u l→Mid p ρ a.tmps (H.length+1) σb l (recOfA asg fn a.tmps #[t] body w.heap.size st pend) p1 w2 pO σO H'→H.length+1≤H'.length∧noY H'=true∧
   ∃pf,Ext p w pf (w2.putObj l o)∧(∀ i,i<m→σO[i]? =σ[i]?)∧Rel pf σO ⟨ρ,n,H',m,.mk H.length::df⟩ { a with defers:=[{ target:=.collected w.heap.size,args:= #[]}]++a.defers } (w2.putObj l o):=fun st pend pO σO H' o hul hM=>by
  have hsh4:Shape w2 (w2.putObj l o):=Shape.putLoop hM.lrec o
  have oth4: ∀b,b≠l→(w2.putObj l o).heap[b]? =w2.heap[b]? :=fun b hb=>World.putObj_heap_other hb
  have sz4:(w2.putObj l o).heap.size=w2.heap.size:=by simp
  generalize w2.putObj l o=w4 at *
  have p1f: ∀b,p1.f b→ ¬p.u b:=fun b hb hu=>(hex.backf b hb).elim (fun h=>(hL b h).1 hu) fun h=>h (.inl hu)
  have hlr: ¬pO.r l:=fun h=>(hM.back l h).elim (fun h=>by have:=hH.lt l (p.sub l h);omega) fun h=>hul (p1.fu l h)
  have lv: ∀(i r:Nat) (k:Blk),H'[i]? =some (some k)→σO[i]? =some r→ ¬pO.u r:=fun i r k hk hr=>by
   obtain ⟨r',z1,z2,_⟩:=hM.heap.blk i k hk
   rw[hr] at z1
   injection z1 with z1
   subst z1
   exact z2
  let pf:PQ:=⟨pO.r,fun b=>p.u b∨pO.r b,p.f,fun _ h=>.inr h,fun b h=>.inl (p.fu b h),fun b h hr=>(hM.back b hr).elim (p.fr b h) fun h1=>p1f b h1 (p.fu b h)⟩
  have σfin: ∀(i r:Nat),σb[i]? =some r→σO[i]? =some r:=fun i r hi=>by
   rw[hM.nam i (by rw[← hM.bl];exact(List.getElem?_eq_some_iff.1 hi).1)]
   exact hi
  have rsame: ∀b,pO.r b→w4.heap[b]? =w2.heap[b]? :=fun b hb=>oth4 b fun e=>hlr (e▸hb)
  refine⟨hM.len,hM.noY,pf,⟨fun b hb=>hM.subr b hb,fun b hb=>.inl hb,fun b hb=>(hM.back b hb).imp id (p1f b),fun _ h=>h,fun _ h=>.inl h,fun b hb hf=>?_,(exA.shape.trans hex.shape).trans hsh4⟩,fun i hi=>?_,⟨hsz,?_,fun u=>?_,?_,?_⟩⟩
  ·have hbw:=hH.lt b hb
   exact(oth4 b (by omega)).trans ((hex.same b (.inl hb) fun h=>(hL b h).1 hb).trans (old b hbw))
  ·have hi':i<H.length:=Nat.lt_of_lt_of_le hi hR.m
   rw[hM.nam i (by omega),List.getElem?_append_left (by rw[hσl];exact hi')]
  ·refine⟨⟨w.heap.size,σfin _ _ ?_,rfl⟩,DRel.mono (fun i r h=>σfin i r (σleft i r h)) _ _ hR.df⟩
   rw[← hσl]
   simp[σb]
  ·exact(hM.env u).mono' (p:=pO) (p':=pf) (fun _ h=>h) rsame hsh4 σfin
  ·refine hM.heap.same hM.noY (fun _ h=>h) rsame hsh4 (fun b hb=>?_) fun i k r hk hr=>⟨fun h=>h.elim (p1f r (hM.live i r k hk hr)) fun h=>lv i r k hk hr (pO.sub r h),oth4 r fun e=>hul (p1.fu l (e▸hM.live i r k hk hr))⟩
   rw[sz4]
   exact hb.elim (fun h=>by have:=hH.lt b h;have:=(exA.shape.trans hex.shape).1;omega) fun h=>hM.heap.lt b (pO.sub b h)
  ·exact Nat.le_trans hR.m (Nat.le_trans (Nat.le_succ _) hM.len)
 rcases hq with hq|hq
 ·obtain ⟨hul,hb⟩:=hul1 _ hq
  obtain ⟨_,pO,σO,H',hJ,hM⟩:=hb
  obtain ⟨f1,f2,pf,f3,f4,f5⟩:=fin _ _ pO σO H' (.loop { recOfA asg fn a.tmps #[t] body w.heap.size .ready none with state:=.exhausted }) hul hM
  refine⟨none,_,run_endLoop hM.lrec (by simp[recOfA]),?_⟩
  exact⟨.normal,pf,σO,_,rfl,f3,f4,f5,rfl,rfl,hend H' hJ f1 f2⟩
 ·obtain ⟨hul,hb⟩:=hul1 _ hq
  obtain ⟨_,pO,σO,H',e,c,hJ,hc,hM⟩:=hb
  obtain ⟨f1,f2,pf,f3,f4,f5⟩:=fin _ _ pO σO H' (.loop { recOfA asg fn a.tmps #[t] body w.heap.size .done (some c) with state:=.exhausted }) hul hM
  refine⟨some c,_,run_endLoop hM.lrec (by simp[recOfA]),?_⟩
  have post:Post p w σ ⟨ρ,n,H,m,df⟩ Q (exR e) { a with defers:=[{ target:=.collected w.heap.size,args:= #[]}]++a.defers } (w2.putObj l (.loop { recOfA asg fn a.tmps #[t] body w.heap.size .done (some c) with state:=.exhausted })):=
   ⟨e,pf,σO,_,rfl,f3,f4,f5,rfl,rfl,hZ e H' c hc hJ f1 f2⟩
  cases e with
  |normal=>exact hc.elim
  |exit i=>obtain rfl:=hc;exact wpIn_exit post
  |goto i=>obtain rfl:=hc;exact wpIn_goto post
  |ret=>obtain rfl:=hc;exact wpIn_ret post
end
end Go.Eng
namespace Go.Eng
open Go
def datL (l:List AV):Bool:=l.all fun x=>match x with|.d _=>true|.nsl=>true|_=>false
def dat:AV→Bool
 |.d _=>true
 |.nsl=>true
 |.agg cs=>datL cs
 |_=>false
theorem VRel.ofD1 {p p':PQ} {σ σ':List Nat} {w:World} {x:AV} {v:Value} (h:VRel p σ w x v):((∃ d,x=.d d)∨x=.nsl)→(∀ b,p.r b→p'.r b)→VRel p' σ' w x v:=by
 induction h with
 |any v=>intro h;rcases h with ⟨_,h⟩|h <;> simp at h
 |int k n=>intro _ _;exact .int _ _
 |bool b=>intro _ _;exact .bool _
 |str s h=>intro _ _;exact .str _ h
 |fn f=>intro _ _;exact .fn _
 |nptr=>intro _ _;exact .nptr
 |nfn=>intro _ _;exact .nfn
 |nmap=>intro _ _;exact .nmap
 |sl rows a n cap sz vals hn hB hc hrow hcells hv ih=>
  intro _ hr
  refine .sl rows a n cap sz vals hn hB hc hrow (fun h0=>?_) fun i row j x h1 h2=>ih i row j x h1 h2 (.inl ⟨x,rfl⟩) hr
  obtain ⟨r,o,e1,e2,e3⟩:=hcells h0
  exact⟨r,o,e1,hr r e2,e3⟩
 |nsl=>intro _ _;exact .nsl
 |esl a=>intro h;rcases h with ⟨_,h⟩|h <;> simp at h
 |ptr b off r h=>intro h;rcases h with ⟨_,h⟩|h <;> simp at h
 |fptr row off r o vals hp hcells hv ih=>intro h;rcases h with ⟨_,h⟩|h <;> simp at h
 |msl b off len cl sz r cap h hB hc hcl hblk=>intro h;rcases h with ⟨_,h⟩|h <;> simp at h
 |mp b r h=>intro h;rcases h with ⟨_,h⟩|h <;> simp at h
 |clos fn first caps fs cs h1 h2 hf hcp ih1 ih2=>intro h;rcases h with ⟨_,h⟩|h <;> simp at h
 |agg cs vs h hl hv ih=>intro h;rcases h with ⟨_,h⟩|h <;> simp at h
 |tup as_ vs h hv ih=>intro h;rcases h with ⟨_,h⟩|h <;> simp at h
theorem datL_get {l:List AV} (h:datL l=true) {i:Nat} {x:AV} (hx:l[i]? =some x):(∃ d,x=.d d)∨x=.nsl:=by
 have:=List.all_eq_true.1 h x (List.mem_of_getElem? hx)
 cases x <;> simp at this <;> simp
theorem VRel.ofD {p p':PQ} {σ σ':List Nat} {w:World} {x:AV} {v:Value} (h:VRel p σ w x v) (hd:dat x=true) (hr: ∀b,p.r b→p'.r b):VRel p' σ' w x v:=by
 cases x with
 |d d=>exact h.ofD1 (.inl ⟨d,rfl⟩) hr
 |nsl=>exact h.ofD1 (.inr rfl) hr
 |agg cs=>
  cases h with
  |agg _ vs h hl hv=>exact .agg cs vs h hl fun i x v hx hv'=>(hv i x v hx hv').ofD1 (datL_get hd hx) hr
 |_=>simp[dat] at hd
def bindE:List Tmp→List AV→Env→Env
 |t::ts,x::xs,ρ=>bindE ts xs ((t,x)::ρ)
 |_,_,ρ=>ρ
theorem bind_env {R:AV→Value→Prop}: ∀(ps:List Tmp) (xs:List AV) (vs:List Value) {ρ:Env} {T:Array Value},(∀ u,R (get ρ u) (T.getD u undef))→ps.length=xs.length→vs.length=xs.length→
  (∀ (i:Nat) (x:AV) (v:Value),xs[i]? =some x→vs[i]? =some v→R x v)→(∀ t∈ps,t<T.size)→
  ((ps.zip vs).foldl (fun T (t,a)=>T.setIfInBounds t a) T).size=T.size∧ ∀u,R (get (bindE ps xs ρ) u) (((ps.zip vs).foldl (fun T (t,a)=>T.setIfInBounds t a) T).getD u undef):=by
 intro ps
 induction ps with
 |nil=>intro xs vs ρ T h h1 h2 _ _;cases xs with
  |nil=>exact⟨rfl,h⟩
  |cons x xs=>simp at h1
 |cons t ts ih=>
  intro xs vs ρ T h h1 h2 h3 h4
  cases xs with
  |nil=>simp at h1
  |cons x xs=>
   cases vs with
   |nil=>simp at h2
   |cons v vs=>
    have ht:t<T.size:=h4 t (by simp)
    have:=ih xs vs (ρ:=(t,x)::ρ) (T:=T.setIfInBounds t v) (fun u=>?_) (by simpa using h1) (by simpa using h2) (fun i y z e1 e2=>h3 (i+1) y z e1 e2) (fun s hs=>by simpa using h4 s (by simp[hs]))
    ·obtain ⟨a,b⟩:=this
     exact⟨by rw[List.zip_cons_cons,List.foldl_cons];simpa using a,b⟩
    ·simp only[get]
     by_cases hu:t=u
     ·subst hu
      rw[Nat.beq_refl]
      simp only[cond_true]
      have:(T.setIfInBounds t v).getD t undef=v:=by simp[Array.getD_eq_getD_getElem?,ht]
      rw[this]
      exact h3 0 x v rfl rfl
     ·rw[beq_ne hu]
      simp only[cond_false]
      have:(T.setIfInBounds t v).getD u undef=T.getD u undef:=by simp[Array.getD_eq_getD_getElem?,Array.getElem?_setIfInBounds_ne hu]
      rw[this]
      exact h u
theorem HRel.join {pf pO p1:PQ} {σO σ1:List Nat} {H H1:Heap} {w:World} {g:List Nat} (hO:HRel pO σO H w) (h1:HRel p1 σ1 H1 w) (hYO:noY H=true) (hY1:noY H1=true)
  (hg:g.length≤σ1.length) (hlt: ∀x∈g,x<H.length) (hgi: ∀(i j:Nat),g[i]? =some j→σO[j]? =σ1[i]?)
  (hrO: ∀b,pO.r b→pf.r b) (hr1: ∀b,p1.r b→pf.r b) (hlf: ∀b,pf.u b→b<w.heap.size)
  (hnO: ∀(i:Nat) (k:Blk) (r:Nat),H[i]? =some (some k)→σO[i]? =some r→ ¬pf.u r) (hn1: ∀(i:Nat) (k:Blk) (r:Nat),H1[i]? =some (some k)→σ1[i]? =some r→ ¬pf.u r)
  (hap: ∀(i j:Nat) (k l:Blk) (r:Nat),H[i]? =some (some k)→H1[j]? =some (some l)→σO[i]? =some r→σ1[j]? =some r→False):
  HRel pf (σO++σ1.drop g.length) (patch g H H1) w:=by
 have hlen1:=h1.len
 have hlenO:=hO.len
 let σ2:=σO++σ1.drop g.length
 have hleft: ∀(i r:Nat),σO[i]? =some r→σ2[i]? =some r:=fun i r hi=>by
  rw[List.getElem?_append_left (List.getElem?_eq_some_iff.1 hi).1]
  exact hi
 have hmono1: ∀(i r:Nat),σ1[i]? =some r→σ2[hmap g H.length i]? =some r:=fun i r hi=>by
  unfold hmap
  cases hb:Nat.blt i g.length with
  |true=>
   have hi':i<g.length:=by simpa [Nat.blt_eq] using hb
   have hj:g[i]? =some (g[i]'hi'):=List.getElem?_eq_getElem hi'
   have hgo:gOf g i=g[i]'hi':=by simp[gOf,List.getD_eq_getElem?_getD,hj]
   simp only[hgo]
   exact hleft _ _ ((hgi i _ hj).trans hi)
  |false=>
   have hi':g.length≤i:=by
    rcases Nat.lt_or_ge i g.length with h|h
    ·have:Nat.blt i g.length=true:=by simpa [Nat.blt_eq] using h
     rw[this] at hb;simp at hb
    ·exact h
   show (σO++σ1.drop g.length)[i-g.length+H.length]? =some r
   rw[← hlenO,List.getElem?_append_right (by omega),List.getElem?_drop]
   rw[show g.length+(i-g.length+σO.length-σO.length)=i by omega]
   exact hi
 obtain ⟨pl,pg⟩:=patch1_get (hmap g H.length) g H1 H 0
 obtain ⟨rl,rg⟩:=renH_get (hmap g H.length) (H1.drop g.length)
 have split: ∀(i:Nat) (k:Blk),(patch g H H1)[i]? =some (some k)→(i∉g∧H[i]? =some (some k))∨(∃ j k1,i=hmap g H.length j∧H1[j]? =some (some k1)∧k=renB (hmap g H.length) k1):=fun i k hk=>by
  unfold patch at hk
  rcases Nat.lt_or_ge i H.length with hi|hi
  ·rw[List.getElem?_append_left (by rw[pl];exact hi),pg,List.getElem?_eq_getElem hi] at hk
   simp only[Nat.zero_add,Option.map_some] at hk
   split at hk
   ·rename_i q hq
    have hgq:=pos_some hq
    have hqlt:=(List.getElem?_eq_some_iff.1 hgq).1
    split at hk
    ·rename_i k1 hk1
     simp only[Option.some.injEq] at hk
     refine .inr ⟨q,k1,?_,hk1,hk.symm⟩
     unfold hmap
     have:Nat.blt q g.length=true:=by simpa [Nat.blt_eq] using hqlt
     rw[this]
     simp[gOf,List.getD_eq_getElem?_getD,hgq]
    ·simp at hk
   ·rename_i hq
    simp only[Option.some.injEq] at hk
    exact .inl ⟨pos_none hq,by rw[List.getElem?_eq_getElem hi,hk]⟩
  ·rw[List.getElem?_append_right (by rw[pl];exact hi),rg,pl,List.getElem?_drop] at hk
   refine .inr ⟨g.length+(i-H.length),?_⟩
   cases hj:H1[g.length+(i-H.length)]? with
   |none=>simp[hj] at hk
   |some o=>
    cases o with
    |none=>simp[hj] at hk
    |some k1=>
     simp[hj] at hk
     refine⟨k1,?_,rfl,hk.symm⟩
     unfold hmap
     have:Nat.blt (g.length+(i-H.length)) g.length=false:=by
      cases hb:Nat.blt (g.length+(i-H.length)) g.length with
      |false=>rfl
      |true=>simp[Nat.blt_eq] at hb;omega
     rw[this]
     simp only
     omega
 have own: ∀(i r:Nat) (k:Blk),H[i]? =some (some k)→σ2[i]? =some r→σO[i]? =some r:=fun i r k hk hr=>by
  have hi:i<σO.length:=by rw[hlenO];exact(List.getElem?_eq_some_iff.1 hk).1
  rw[List.getElem?_append_left hi] at hr
  exact hr
 have back: ∀(j r:Nat) (k1:Blk),H1[j]? =some (some k1)→σ2[hmap g H.length j]? =some r→σ1[j]? =some r:=fun j r k1 hk hr=>by
  have hj:j<σ1.length:=by rw[hlen1];exact(List.getElem?_eq_some_iff.1 hk).1
  have e:σ1[j]? =some (σ1[j]'hj):=List.getElem?_eq_getElem hj
  have:=hmono1 j _ e
  rw[hr] at this
  rw[e,this]
 refine⟨by simp[patch,pl,rl,hlenO,hlen1],hlf,fun i k hk=>?_,fun i j r a b ha hb hi hj=>?_,hO.gl.same hrO (fun _ _=>rfl) (.refl w)⟩
 ·rcases split i k hk with ⟨hn,e1⟩|⟨j,k1,rfl,e1,rfl⟩
  ·obtain ⟨r,g1,g2,g3,g4⟩:=hO.blk i k e1
   refine⟨r,hleft i r g1,hnO i k r e1 g1,g3,?_⟩
   have hy:=noY_get hYO e1
   cases k with
   |row cs=>
    obtain ⟨c,e,fr,q1,q2,q3,q4⟩:=g4
    exact⟨c,e,fr,q1,q2,q3,fun i x v hx hv=>⟨(q4 i x v hx hv).1.mono' hrO (fun _ _=>rfl) (.refl w) hleft,(q4 i x v hx hv).2⟩⟩
   |iter s pos=>exact g4
   |dfr=>exact g4
   |raw o=>exact g4
   |bytes e bs=>exact g4
   |mp ks vs=>obtain ⟨es,cl,z1,z2,z3,z4,z5⟩:=g4;exact⟨es,cl,z1,z2,z3,z4,fun i x e hx he=>(z5 i x e hx he).mono' hrO (fun _ _=>rfl) (.refl w) hleft⟩
   |yl Y k=>simp[isY] at hy
   |yz Y=>simp[isY] at hy
  ·obtain ⟨r,g1,g2,g3,g4⟩:=h1.blk j k1 e1
   refine⟨r,hmono1 j r g1,hn1 j k1 r e1 g1,g3,?_⟩
   have hy:=noY_get hY1 e1
   cases k1 with
   |row cs=>
    obtain ⟨c,e,fr,q1,q2,q3,q4⟩:=g4
    refine⟨c,e,fr,q1,by rw[renL_length];exact q2,q3,fun i x v hx hv=>?_⟩
    rw[renL_get] at hx
    cases hy:cs[i]? with
    |none=>simp[hy] at hx
    |some z=>
     simp only[hy,Option.map_some,Option.some.injEq] at hx
     subst hx
     obtain ⟨z1,z2⟩:=q4 i z v hy hv
     exact⟨(z1.renF hmono1).mono' hr1 (fun _ _=>rfl) (.refl w) (fun _ _ h=>h),z2⟩
   |iter s pos=>exact g4
   |dfr=>exact g4
   |raw o=>exact g4
   |bytes e bs=>exact g4
   |mp ks vs=>
    obtain ⟨es,cl,z1,z2,z3,z4,z5⟩:=g4
    refine⟨es,cl,z1,z2,by rw[renL_length];exact z3,z4,fun i x e hx he=>?_⟩
    rw[renL_get] at hx
    cases hy:vs[i]? with
    |none=>simp[hy] at hx
    |some z=>
     simp only[hy,Option.map_some,Option.some.injEq] at hx
     subst hx
     exact((z5 i z e hy he).renF hmono1).mono' hr1 (fun _ _=>rfl) (.refl w) (fun _ _ h=>h)
   |yl Y k=>simp[isY] at hy
   |yz Y=>simp[isY] at hy
 ·rcases split i a ha with ⟨hn1',e1⟩|⟨i',a1,rfl,e1,rfl⟩ <;> rcases split j b hb with ⟨hn2,e2⟩|⟨j',b1,rfl,e2,rfl⟩
  ·exact hO.inj i j r a b e1 e2 (own i r a e1 hi) (own j r b e2 hj)
  ·exact(hap i j' a b1 r e1 e2 (own i r a e1 hi) (back j' r b1 e2 hj)).elim
  ·exact(hap j i' b a1 r e2 e1 (own j r b e2 hj) (back i' r a1 e1 hi)).elim
  ·rw[h1.inj i' j' r a1 b1 e1 e2 (back i' r a1 e1 hi) (back j' r b1 e2 hj)]
section
variable {P:Program}
structure MidG (p0:PQ) (ρ:Env) (tmps:Array Value) (mb:Nat) (σb:List Nat) (l:Nat) (rec_:Loop) (p:PQ) (w:World) (pO:PQ) (σO:List Nat) (H:Heap):Prop where
 bl:σb.length=mb
 len:mb≤H.length
 heap:HRel pO σO H w
 nam: ∀i,i<mb→σO[i]? =σb[i]?
 noY:noY H=true
 subr: ∀b,p0.r b→pO.r b
 back: ∀b,pO.r b→p.r b∨p.f b
 live: ∀(i r:Nat) (k:Blk),H[i]? =some (some k)→σO[i]? =some r→p.f r
 env: ∀t,VRel pO σb w (get ρ t) (tmps.getD t undef)
 lrec:w.heap[l]? =some (.loop rec_)
theorem MidG.stab {p0:PQ} {ρ:Env} {tmps:Array Value} {mb:Nat} {σb:List Nat} {l:Nat} {rec_:Loop} {p p' pO:PQ} {w w':World} {σO:List Nat} {H:Heap} (h:MidG p0 ρ tmps mb σb l rec_ p w pO σO H)
  (hf:p'.f=p.f) (hr: ∀b,p.r b→p'.r b) (hs: ∀b,p.r b∨p.f b∨b=l→w'.heap[b]? =w.heap[b]?) (hsh:Shape w w'):MidG p0 ρ tmps mb σb l rec_ p' w' pO σO H:=by
 have hro: ∀b,pO.r b→w'.heap[b]? =w.heap[b]? :=fun b hb=>hs b ((h.back b hb).elim .inl fun h1=>.inr (.inl h1))
 refine⟨h.bl,h.len,h.heap.same h.noY (fun _ h=>h) hro hsh (fun b hb=>Nat.lt_of_lt_of_le (h.heap.lt b hb) hsh.1) fun i k r hk hr2=>?_,h.nam,h.noY,h.subr,fun b hb=>(h.back b hb).imp (hr b) (fun h=>by rw[hf];exact h),fun i r k hk hr2=>by rw[hf];exact h.live i r k hk hr2,fun t=>(h.env t).same hro hsh,(hs l (.inr (.inr rfl))).trans h.lrec⟩
 refine⟨?_,hs r (.inr (.inl (h.live i r k hk hr2)))⟩
 obtain ⟨r',g1,g2,_⟩:=h.heap.blk i k hk
 rw[hr2] at g1
 injection g1 with g1
 subst g1
 exact g2
def mkYG (asg:Code) (p0:PQ) (ρ:Env) (tmps:Array Value) (mb:Nat) (σb:List Nat) (l:Nat) (fn:FuncId) (ps:List Tmp) (body:Code) (d:Nat) (xs:List AV) (J:Nat→Heap→Prop) (JZ:AEx→Heap→Prop):Ysp where
 l:=l
 xs:=xs
 I k p w:= ∃pO σO H,J k H∧MidG p0 ρ tmps mb σb l (recOfA asg fn tmps ps.toArray body d .ready none) p w pO σO H
 Z p w:= ∃pO σO H e c,JZ e H∧isExit e c∧MidG p0 ρ tmps mb σb l (recOfA asg fn tmps ps.toArray body d .done (some c)) p w pO σO H
 stI:=fun k p p' w w' ⟨pO,σO,H,h1,h2⟩ hf hr hs hsh=>⟨pO,σO,H,h1,h2.stab hf hr hs hsh⟩
 stZ:=fun p p' w w' ⟨pO,σO,H,e,c,h1,h2,h3⟩ hf hr hs hsh=>⟨pO,σO,H,e,c,h1,h2,h3.stab hf hr hs hsh⟩
theorem mkYG_law {p0:PQ} {ρ:Env} {tmps:Array Value} {mb:Nat} {σb:List Nat} {l:Nat} {fn:FuncId} {ps:List Tmp} {asg:Code} {body:Code} {d:Nat} {xs:List AV} {J:Nat→Heap→Prop} {JZ:AEx→Heap→Prop}
  (ht: ∀t∈ps,t<tmps.size) (hxs: ∀(k:Nat) (x:AV),xs[k]? =some x→(argsY x).length=ps.length∧ ∀y∈argsY x,dat y=true)
  (hround: ∀(k:Nat) (x:AV) (H:Heap),xs[k]? =some x→J k H→mb≤H.length→noY H=true→W P (some l) asg (asgQ P l body (RdBack J JZ k tmps.size mb)) ⟨bindE ps (argsY x) ρ,tmps.size,H,mb,[]⟩):
  YLaw P (mkYG asg p0 ρ tmps mb σb l fn ps body d xs J JZ):=by
 rintro k x vs p σ w ⟨pO,σO,H,hJ,hM⟩ hx hvs hlt hul hll
 have hul: ¬p.u l:=hul
 have hll:l<w.heap.size:=hll
 obtain ⟨hxl,hxd⟩:=hxs k x hx
 obtain ⟨hv1,hv2⟩:=hvs
 let T':=(ps.zip vs.toList).foldl (fun T (t,a)=>T.setIfInBounds t a) tmps
 refine⟨fn,T',asg,body,?_,?_⟩
 ·rw[show (Instr.yield (mkYG asg p0 ρ tmps mb σb l fn ps body d xs J JZ).l vs)=Instr.yield l vs from rfl]
  rw[run_yield hM.lrec (by simp[recOfA];omega)]
  have:((recOfA asg fn tmps ps.toArray body d .ready none).params.zip vs).foldl (fun tmps (t,a)=>tmps.setIfInBounds t a) (recOfA asg fn tmps ps.toArray body d .ready none).tmps=T':=by
   rw[← Array.foldl_toList,Array.toList_zip]
   rfl
  rw[this]
  rfl
 show RoundIn Fence.wide 0 P l fn T' asg body w _
 let w2:=w.putObj l (.loop (recOfA asg fn tmps ps.toArray body d .busy none))
 have hsh2:Shape w w2:=Shape.putLoop hM.lrec _
 have hlr0: ¬pO.r l:=fun h=>(hM.back l h).elim (fun h=>hul (p.sub l h)) fun h=>hul (p.fu l h)
 let liveO:Nat→Prop:=fun b=> ∃(i:Nat) (q:Blk),H[i]? =some (some q)∧σO[i]? =some b
 have hlive: ∀b,liveO b→p.f b∧ ¬pO.u b∧b<w.heap.size:=fun b ⟨i,q,h1,h2⟩=>by
  obtain ⟨r',g1,g2,g3,_⟩:=hM.heap.blk i q h1
  rw[h2] at g1
  injection g1 with g1
  subst g1
  exact⟨hM.live i b q h1 h2,g2,g3⟩
 have hll2: ¬liveO l:=fun h=>hul (p.fu l (hlive l h).1)
 have sz2:w2.heap.size=w.heap.size:=by simp[w2]
 have oth2: ∀b,b≠l→w2.heap[b]? =w.heap[b]? :=fun b hb=>World.putObj_heap_other hb
 let pR:PQ:=⟨fun b=>pO.r b∨p.r b,fun b=>b<w.heap.size∧ ¬liveO b,fun _=>False,fun b hb=>hb.elim (fun hb=>⟨hM.heap.lt b (pO.sub b hb),fun h=>(hlive b h).2.1 (pO.sub b hb)⟩) fun hb=>⟨hlt b (p.sub b hb),fun h=>p.fr b (hlive b h).1 hb⟩,fun _ h=>h.elim,fun _ h=>h.elim⟩
 have hlr: ¬pR.r l:=fun h=>h.elim hlr0 fun h=>hul (p.sub l h)
 have hHR:HRel pR σO H w:=hM.heap.same hM.noY (fun _ h=>.inl h) (fun _ _=>rfl) (.refl w) (fun b hb=>hb.1) fun i q r h1 h2=>
  ⟨fun h=>h.2 ⟨i,q,h1,h2⟩,rfl⟩
 have σmono: ∀(i r:Nat),σb[i]? =some r→σO[i]? =some r:=fun i r hi=>by
  rw[hM.nam i (by rw[← hM.bl];exact(List.getElem?_eq_some_iff.1 hi).1)]
  exact hi
 have hbind:=bind_env (R:=VRel pR σO w) (T:=tmps) (ρ:=ρ) ps (argsY x) vs.toList (fun u=>(hM.env u).mono' (p:=pO) (p':=pR) (fun _ h=>.inl h) (fun _ _=>rfl) (.refl w) σmono) hxl.symm (by simpa using hv1) (fun i y v h1 h2=>(hv2 i y v h1 (by simpa using h2)).ofD (hxd y (List.mem_of_getElem? h1)) (fun _ h=>.inr h)) ht
 have hRel0:Rel pR σO ⟨bindE ps (argsY x) ρ,tmps.size,H,mb,[]⟩ { tmps:=T',defers:=[]} w:=⟨hbind.1,trivial,hbind.2,hHR,hM.len⟩
 have hpl:pR.u l:=⟨hll,hll2⟩
 have hA:=hround k x H hx hJ hM.len hM.noY
 rw[W_eq] at hA
 refine roundIn_of_wpIn trivial (wpIn_mono (F:=Fr (some l)) (hA pR σO _ w hRel0) ?_)
 rintro e1 a1 w1 ⟨ae1,p1,σ1,s1,rfl,q2,q3,q4,q5,q6,q7⟩
 obtain ⟨rfl,hY1,hW⟩:=asgQ_in q7
 have hrec1:w1.heap[l]? =some (.loop (recOfA asg fn tmps ps.toArray body d .ready none)):=(q2.same l hpl (fun h=>h)).trans hM.lrec
 refine⟨_,run_beginRound hrec1 rfl,?_⟩
 have hll1:l<w1.heap.size:=(Array.getElem?_eq_some_iff.1 hrec1).1
 let w2b:=w1.putObj l (.loop (recOfA asg fn tmps ps.toArray body d .busy none))
 show body.wpIn (Fr (some l)) 0 P _ _ w2b
 have hsh2b:Shape w1 w2b:=Shape.putLoop hrec1 _
 have oth2b: ∀b,b≠l→w2b.heap[b]? =w1.heap[b]? :=fun b hb=>World.putObj_heap_other hb
 have h1l: ¬p1.r l:=fun h=>(q2.back l h).elim hlr fun h=>h hpl
 have h1ul:p1.u l:=q2.subu l hpl
 have exB:Ext pR w2 p1 w2b:=by
  refine⟨q2.subr,q2.subu,q2.back,q2.subf,q2.backf,fun b hb hf=>?_,?_⟩
  ·by_cases hbl:b=l
   ·subst hbl
    rw[show w2b.heap[b]? =some (.loop (recOfA asg fn tmps ps.toArray body d .busy none)) from World.putObj_heap_same hll1,show w2.heap[b]? =some (.loop (recOfA asg fn tmps ps.toArray body d .busy none)) from World.putObj_heap_same hll]
   ·rw[oth2b b hbl,oth2 b hbl];exact q2.same b hb hf
  ·refine⟨by rw[sz2];exact Nat.le_trans q2.shape.1 hsh2b.1,fun r c e fr h=>?_,hsh2b.2.2.1.trans (q2.shape.2.2.1.trans hsh2.2.2.1.symm),hsh2b.2.2.2.1.trans (q2.shape.2.2.2.1.trans hsh2.2.2.2.1.symm),hsh2b.2.2.2.2.trans (q2.shape.2.2.2.2.trans hsh2.2.2.2.2.symm)⟩
   have hrl:r≠l:=fun e=>by
    subst e
    rw[show w2.heap[r]? =some (.loop (recOfA asg fn tmps ps.toArray body d .busy none)) from World.putObj_heap_same hll] at h
    simp at h
   rw[oth2 r hrl] at h
   obtain ⟨c1,fr1,z1,z2⟩:=q2.shape.2.1 r c e fr h
   exact⟨c1,fr1,by rw[oth2b r hrl];exact z1,z2⟩
 have hRel:Rel p1 σ1 s1 a1 w2b:=by
  refine⟨q4.size,q4.df,fun u=>(q4.env u).same (fun b hb=>oth2b b fun e=>h1l (e▸hb)) hsh2b,q4.heap.same hY1 (fun _ h=>h) (fun b hb=>oth2b b fun e=>h1l (e▸hb)) hsh2b (fun b hb=>Nat.lt_of_lt_of_le (q4.heap.lt b hb) hsh2b.1) fun i q r h1 h2=>?_,q4.m⟩
  obtain ⟨r',z1,z2,_⟩:=q4.heap.blk i q h1
  rw[h2] at z1
  injection z1 with z1
  subst z1
  exact⟨z2,oth2b r fun e=>z2 (e▸h1ul)⟩
 rw[W_eq] at hW
 refine wpIn_mono (hW p1 σ1 _ w2b hRel) ?_
 rintro e a' w' ⟨ae,p',σ',s',rfl,g2z,g3z,g4,g5z,g6z,g7⟩
 have g2:Ext pR w2 p' w':=exB.trans g2z
 have g5:s'.m=mb:=g5z.trans q5
 have g3: ∀i,i<mb→σ'[i]? =σO[i]? :=fun i hi=>(g3z i (by rw[q5];exact hi)).trans (q3 i hi)
 rw[RdBack_eq] at g7
 obtain ⟨H3,hwk,hY3,hl3,hJ3⟩:=g7
 rw[Wk_eq] at hwk
 obtain ⟨k1,k2,k3⟩:=hwk
 obtain ⟨p2,σ2,e1,m1,r1⟩:=k3 p' σ' a' w' g4
 have hex:=g2.trans e1
 have hnam: ∀i,i<mb→σ2[i]? =σO[i]? :=fun i hi=>(m1 i (by rw[g5];exact hi)).trans (g3 i hi)
 have hrec:w'.heap[l]? =some (.loop (recOfA asg fn tmps ps.toArray body d .busy none)):=(g2.same l hpl (fun h=>h)).trans (World.putObj_heap_same hll)
 have hll':l<w'.heap.size:=(Array.getElem?_eq_some_iff.1 hrec).1
 have h2l: ¬p2.r l:=fun h=>(hex.back l h).elim hlr fun h=>h hpl
 have new: ∀b,¬pR.u b→p.f b∨w.heap.size≤b:=fun b hb=>by
  by_cases hlt':b<w.heap.size
  ·by_cases hlv:liveO b
   ·exact .inl (hlive b hlv).1
   ·exact absurd ⟨hlt',hlv⟩ hb
  ·exact .inr (by omega)
 have fin: ∀(st:LoopState) (pend:Option Code),MidG p0 ρ tmps mb σb l (recOfA asg fn tmps ps.toArray body d st pend) (grow p w (w'.putObj l (.loop (recOfA asg fn tmps ps.toArray body d st pend)))) (w'.putObj l (.loop (recOfA asg fn tmps ps.toArray body d st pend))) p2 σ2 H3∧
   (∀ c,c<w.heap.size→ ¬p.f c→c≠l→(w'.putObj l (.loop (recOfA asg fn tmps ps.toArray body d st pend))).heap[c]? =w.heap[c]?)∧Shape w (w'.putObj l (.loop (recOfA asg fn tmps ps.toArray body d st pend))):=fun st pend=>by
  have hsh3:Shape w' (w'.putObj l (.loop (recOfA asg fn tmps ps.toArray body d st pend))):=Shape.putLoop hrec _
  have oth3: ∀b,b≠l→(w'.putObj l (.loop (recOfA asg fn tmps ps.toArray body d st pend))).heap[b]? =w'.heap[b]? :=fun b hb=>World.putObj_heap_other hb
  have sz3:(w'.putObj l (.loop (recOfA asg fn tmps ps.toArray body d st pend))).heap.size=w'.heap.size:=by simp
  have rec3:(w'.putObj l (.loop (recOfA asg fn tmps ps.toArray body d st pend))).heap[l]? =some (.loop (recOfA asg fn tmps ps.toArray body d st pend)):=World.putObj_heap_same hll'
  generalize w'.putObj l (.loop (recOfA asg fn tmps ps.toArray body d st pend))=w3 at *
  have hshA:Shape w w3:=(hsh2.trans g2.shape).trans hsh3
  have grown: ∀b,¬pR.u b→b<w'.heap.size→(grow p w w3).f b:=fun b hb hbl=>(new b hb).imp id fun h=>⟨h,by omega,fun hr=>by have:=hlt b (p.sub b hr);omega⟩
  have rsame: ∀b,p2.r b→w3.heap[b]? =w'.heap[b]? :=fun b hb=>oth3 b fun e=>h2l (e▸hb)
  have osame: ∀b,pO.r b→w3.heap[b]? =w.heap[b]? :=fun b hb=>(oth3 b fun e=>hlr0 (e▸hb)).trans ((g2.same b (pR.sub b (.inl hb)) (fun h=>h)).trans (oth2 b fun e=>hlr0 (e▸hb)))
  have lv: ∀(i:Nat) (q:Blk) (r:Nat),H3[i]? =some (some q)→σ2[i]? =some r→ ¬p2.u r∧r<w'.heap.size:=fun i q r h1 h2=>by
   obtain ⟨r',z1,z2,z3,_⟩:=r1.heap.blk i q h1
   rw[h2] at z1
   injection z1 with z1
   subst z1
   exact⟨z2,z3⟩
  refine⟨⟨hM.bl,hl3,r1.heap.same hY3 (fun _ h=>h) rsame hsh3 (fun b hb=>by rw[sz3];exact r1.heap.lt b hb) fun i q r h1 h2=>⟨(lv i q r h1 h2).1,oth3 r fun e=>(lv i q r h1 h2).1 (e▸hex.subu l hpl)⟩,fun i hi=>(hnam i hi).trans (hM.nam i hi),hY3,
   fun b hb=>hex.subr b (.inl (hM.subr b hb)),fun b hb=>?_,fun i r q h1 h2=>grown r (fun h=>(lv i q r h1 h2).1 (hex.subu r h)) (lv i q r h1 h2).2,fun u=>(hM.env u).mono' (p:=pO) (p':=p2) (fun b hb=>hex.subr b (.inl hb)) osame hshA (fun _ _ h=>h),rec3⟩,fun c hc hcf hcl=>?_,hshA⟩
  ·rcases hex.back b hb with h|h
   ·exact h.elim (fun h=>(hM.back b h).imp id .inl) fun h=>.inl h
   ·exact .inr (grown b h (r1.heap.lt b (p2.sub b hb)))
  ·exact(oth3 c hcl).trans ((g2.same c ⟨hc,fun h=>hcf (hlive c h).1⟩ (fun h=>h)).trans (oth2 c hcl))
 cases ae with
 |normal=>
  obtain ⟨f1,f2,f3⟩:=fin .ready none
  exact⟨_,_,run_endRound none hrec,true,rfl,fun _=>⟨p2,σ2,H3,hJ3,f1⟩,fun h=>by simp at h,f2,f3⟩
 |exit i=>
  obtain ⟨f1,f2,f3⟩:=fin .done (some (.exit i))
  exact⟨_,_,run_endRound (some (.exit i)) hrec,false,rfl,fun h=>by simp at h,fun _=>⟨p2,σ2,H3,.exit i,_,hJ3,rfl,f1⟩,f2,f3⟩
 |goto i=>
  obtain ⟨f1,f2,f3⟩:=fin .done (some (.goto i))
  exact⟨_,_,run_endRound (some (.goto i)) hrec,false,rfl,fun h=>by simp at h,fun _=>⟨p2,σ2,H3,.goto i,_,hJ3,rfl,f1⟩,f2,f3⟩
 |ret=>
  obtain ⟨f1,f2,f3⟩:=fin .done (some .ret)
  exact⟨_,_,run_endRound (some .ret) hrec,false,rfl,fun h=>by simp at h,fun _=>⟨p2,σ2,H3,.ret,_,hJ3,rfl,f1⟩,f2,f3⟩
theorem W_rangeG {gop:Operand} {f:FuncId} {fs cs fs0 cs0:List AV} (gl:List Nat) {H H0:Heap} {ρ:Env} {n m:Nat} {df:List DF} {ps:List Tmp} {asg:Code} {body:Code} {Q:AEx→St→Prop} (xs:List AV) (J:Nat→Heap→Prop) (JZ:AEx→Heap→Prop)
  (hg:evalO (get ρ) gop=.clos (.func f) fs cs) (hlt:(gl.all fun x=>Nat.blt x H.length)=true) (hnd:noDup gl=true) (hle:HLe gl gl.length H H0 gl) (hfs:fs=renL (gOf gl) fs0) (hcs:cs=renL (gOf gl) cs0)
  (hlf:lowL gl.length fs0=true) (hlc:lowL gl.length cs0=true) (ht: ∀t∈ps,t<n) (hY:noY H=true) (hxs: ∀(k:Nat) (x:AV),xs[k]? =some x→(argsY x).length=ps.length∧ ∀y∈argsY x,dat y=true) (S:Bool→Heap→Prop)
  (hcall: ∀Y:Ysp,Y.xs=xs→YLaw P Y→Tri P f (fs0++[.clos (.yield Y.l) [] []]++cs0) (H0++[some (.yl Y 0)]) fun v H1=>noY (H1.set gl.length none)=true∧((H1[gl.length]? =some (some (.yl Y xs.length))∧S true (H1.set gl.length none))∨(H1[gl.length]? =some (some (.yz Y))∧S false (H1.set gl.length none))))
  (hJ0:J 0 (hide gl H 0++[some .dfr]))
  (hround: ∀(l k:Nat) (x:AV) (H':Heap),xs[k]? =some x→J k H'→H.length+1≤H'.length→noY H'=true→W P (some l) asg (asgQ P l body (RdBack J JZ k n (H.length+1))) ⟨bindE ps (argsY x) ρ,n,H',H.length+1,[]⟩)
  (hend: ∀H' H1,J xs.length H'→S true H1→H.length+1≤H'.length→noY H'=true→Q .normal ⟨ρ,n,patch gl H' H1,m,.mk H.length::df⟩)
  (hZ: ∀e H' H1 c,isExit e c→JZ e H'→S false H1→H.length+1≤H'.length→noY H'=true→Q e ⟨ρ,n,patch gl H' H1,m,.mk H.length::df⟩):
  W P none (.rangeFunc gop ps.toArray asg body) Q ⟨ρ,n,H,m,df⟩:=by
 rw[W_eq]
 intro p σ a w hR
 have hsz:a.tmps.size=n:=hR.size
 have hH:HRel p σ H w:=hR.heap
 have hlt': ∀x∈gl,x<H.length:=fun x hx=>by simpa [Nat.blt_eq] using List.all_eq_true.1 hlt x hx
 refine wpIn_rangeFunc fun fn _=>?_
 have hv:=evalO_rel hR gop
 simp only[hg] at hv
 generalize hve:a.eval gop=v at hv
 cases hv with
 |clos _ _ _ fs' cs' h1 h2 h3 h4=>
 let rec_:Loop:=recOfA asg fn a.tmps ps.toArray body w.heap.size .ready none
 let wd:World:=pushW w (.deferred (some []))
 let w1:World:=pushW wd (.loop rec_)
 let l:Nat:=w.heap.size+1
 let σb:=σ++[w.heap.size]
 have hszd:wd.heap.size=w.heap.size+1:=pushW_size
 have hsz1:w1.heap.size=w.heap.size+2:=by simp[w1,pushW_size,hszd]
 have exd:Ext p w p wd:=.push hH.lt _
 have hltd: ∀b,p.u b→b<wd.heap.size:=fun b hb=>by have:=hH.lt b hb;omega
 have ex1:Ext p wd p w1:=.push hltd _
 have exA:Ext p w p w1:=exd.trans ex1
 have old: ∀b,b<w.heap.size→w1.heap[b]? =w.heap[b]? :=fun b hb=>(pushW_old (by omega)).trans (pushW_old hb)
 have hlrec:w1.heap[l]? =some (.loop rec_):=by
  show w1.heap[w.heap.size+1]? =_
  rw[← hszd]
  exact pushW_new
 have hHd:HRel p σb (H++[some .dfr]) wd:=hH.push _ .dfr pushW_new
 have hlive: ∀(i r:Nat) (k:Blk),(H++[some Blk.dfr])[i]? =some (some k)→σb[i]? =some r→ ¬p.u r∧r<wd.heap.size:=fun i r k hk hr=>by
  obtain ⟨r',z1,z2,z3,_⟩:=hHd.blk i k hk
  rw[hr] at z1
  injection z1 with z1
  subst z1
  exact⟨z2,z3⟩
 have hYd:noY (H++[some .dfr])=true:=noY_of fun i k hk=>by
  rcases Nat.lt_or_ge i H.length with hi|hi
  ·rw[List.getElem?_append_left hi] at hk
   exact noY_get hY hk
  ·rw[List.getElem?_append_right hi] at hk
   cases hj:i-H.length with
   |zero=>rw[hj] at hk;simp at hk;subst hk;rfl
   |succ j=>rw[hj] at hk;simp at hk
 have hH1:HRel p σb (H++[some .dfr]) w1:=hHd.same hYd (fun _ h=>h) (fun b hb=>ex1.same b (p.sub b hb) fun hf=>p.fr b hf hb) ex1.shape (fun b hb=>by have:=hltd b hb;omega) fun i k r hk hr=>
  ⟨(hlive i r k hk hr).1,pushW_old (hlive i r k hk hr).2⟩
 let Hb:Heap:=hide gl H 0++[some .dfr]
 obtain ⟨hhl,hhg⟩:=hide_get gl H 0
 have hbl:Hb.length=H.length+1:=by simp[Hb,hhl]
 have hbg: ∀(i:Nat) (k:Blk),Hb[i]? =some (some k)→i∉gl∧(H++[some Blk.dfr])[i]? =some (some k):=fun i k hk=>by
  rcases Nat.lt_or_ge i H.length with hi|hi
  ·rw[List.getElem?_append_left (by rw[hhl];exact hi)] at hk
   obtain ⟨z1,z2⟩:=hhg i k hk
   exact⟨by simpa using z1,by rw[List.getElem?_append_left hi];exact z2⟩
  ·rw[List.getElem?_append_right (by rw[hhl];exact hi),hhl] at hk
   exact⟨fun hm=>by have:=hlt' i hm;omega,by rw[List.getElem?_append_right hi];exact hk⟩
 have hHb:HRel p σb Hb w1:=hH1.less (by rw[hbl];simp) fun i k hk=>(hbg i k hk).2
 let L:Nat→Prop:=fun r=> ∃(i:Nat) (k:Blk),Hb[i]? =some (some k)∧σb[i]? =some r
 have hL: ∀r,L r→ ¬p.u r∧r<wd.heap.size:=fun r ⟨i,k,z1,z2⟩=>hlive i r k (hbg i k z1).2 z2
 let p0:PQ:=⟨p.r,fun b=>p.u b∨L b,L,fun b h=>.inl (p.sub b h),fun b h=>.inr h,fun b h hr=>(hL b h).1 (p.sub b hr)⟩
 have hσl:σ.length=H.length:=hH.len
 have σleft: ∀(i r:Nat),σ[i]? =some r→σb[i]? =some r:=mono_append _
 let Y:=mkYG asg p ρ a.tmps (H.length+1) σb l fn ps body w.heap.size xs J JZ
 have hMid:MidG p ρ a.tmps (H.length+1) σb l rec_ p0 w1 p σb Hb:=
  ⟨by simp[σb,hσl],Nat.le_of_eq hbl.symm,hHb,fun _ _=>rfl,noY_of fun i k hk=>noY_get hYd (hbg i k hk).2,fun _ h=>h,fun b h=>.inl h,fun i r k hk hr=>⟨i,k,hk,hr⟩,fun u=>(hR.env u).mono exA σleft,hlrec⟩
 have hlaw:YLaw P Y:=mkYG_law (by rw[hsz];exact ht) hxs fun k x H' e1 e2 e3 e4=>by rw[hsz];exact hround l k x H' e1 e2 e3 e4
 have hT:=hcall Y rfl hlaw
 rw[Tri_eq] at hT
 obtain ⟨hent,hT⟩:=hT
 have hlen0:H0.length=gl.length:=(HLe_get H0 gl hle).1
 have hget0:=(HLe_get H0 gl hle).2
 have hsg:=renS_get (σ:=σ) (g:=gl) rfl (by rw[hσl];exact hlt')
 have hgi: ∀(i j:Nat),gl[i]? =some j→(renS gl σ)[i]? =σ[j]? :=fun i j h=>by
  have hi:=(List.getElem?_eq_some_iff.1 h).1
  rw[hsg i hi]
  simp[gOf,List.getD_eq_getElem?_getD,h]
 have hY0:noY H0=true:=noY_of fun i k hk=>by
  obtain ⟨j,z1,z2,_⟩:=hget0 i k hk
  have:=noY_get hY z2
  cases k <;> first|rfl|simp[renB,isY] at this
 have hH0:HRel p (renS gl σ) H0 wd:=(hH.ren hlt' hnd hle).same hY0 (fun _ h=>h) (fun b hb=>exd.same b (p.sub b hb) fun hf=>p.fr b hf hb) exd.shape hltd fun i k r hk hr=>by
  obtain ⟨r',z1,z2,z3,_⟩:=(hH.ren hlt' hnd hle).blk i k hk
  rw[hr] at z1
  injection z1 with z1
  subst z1
  exact⟨z2,pushW_old z3⟩
 have hH0':HRel p0 (renS gl σ) H0 wd:=hH0.same hY0 (fun _ h=>h) (fun _ _=>rfl) (.refl wd) (fun b hb=>hb.elim (hltd b) fun h=>(hL b h).2) fun i k r hk hr=>by
  obtain ⟨r',z1,z2,z3,_⟩:=hH0.blk i k hk
  rw[hr] at z1
  injection z1 with z1
  subst z1
  refine⟨fun hu=>hu.elim z2 fun ⟨j,q,y1,y2⟩=>?_,rfl⟩
  obtain ⟨j0,e1,e2,_⟩:=hget0 i k hk
  rw[hgi i j0 e1] at hr
  obtain ⟨f1,f2⟩:=hbg j q y1
  have hj0:j0<H.length:=(List.getElem?_eq_some_iff.1 e2).1
  have:=hHd.inj j j0 r q _ f2 (by rw[List.getElem?_append_left hj0];exact e2) y2 (σleft _ _ hr)
  subst this
  exact f1 (List.mem_iff_getElem?.2 ⟨i,e1⟩)
 have hHc:HRel p0 (renS gl σ++[wd.heap.size]) (H0++[some (.yl Y 0)]) w1:=hH0'.push _ (.yl Y 0) ⟨hszd,p,σb,Hb,hJ0,hMid⟩
 let yv:Value:=.func (.yield l) #[] #[]
 refine⟨l,[{ target:=.collected w.heap.size,args:= #[]}],w1,{ target:=.fn (.func f) cs',args:=fs'++ #[yv]},w1,f,fs'++ #[yv]++cs',w1,run_enterLoop_outer fn a.tmps ps.toArray asg body,?_,fun _ _=>trivial,?_,fun h=>by simp[Fr,Fence.wide] at h,?_⟩
 ·have hconst:a.eval (.const (.func (.yield l) #[] #[]))=yv:=rfl
  simp[resolve,rangeCall,hve,Deferred.ofValue,hconst]
 ·simp only[invoke]
  exact enter_run hent
 have hargs:(fs'++ #[yv]++cs').size=(fs0++[AV.clos (.yield Y.l) [] []]++cs0).length∧
   ∀(i:Nat) (x:AV) (v:Value),(fs0++[AV.clos (.yield Y.l) [] []]++cs0)[i]? =some x→(fs'++ #[yv]++cs')[i]? =some v→VRel p0 (renS gl σ++[wd.heap.size]) w1 x v:=by
  have part: ∀(xs xs0:List AV) (vs:Array Value),xs=renL (gOf gl) xs0→lowL gl.length xs0=true→vs.size=xs.length→(∀ (i:Nat) (x:AV) (v:Value),xs[i]? =some x→vs[i]? =some v→VRel p σ w x v)→
    vs.size=xs0.length∧ ∀(i:Nat) (x:AV) (v:Value),xs0[i]? =some x→vs[i]? =some v→VRel p0 (renS gl σ++[wd.heap.size]) w1 x v:=fun xs xs0 vs hx hl hs hr=>by
   subst hx
   rw[renL_length] at hs
   refine⟨hs,fun i x v hx hv=>?_⟩
   have z:=hr i (Eng.ren (gOf gl) x) v (by rw[renL_get,hx];rfl) hv
   exact(z.ren hsg x rfl (lowL_get hl hx)).mono' (p:=p) (p':=p0) (fun _ h=>h) (fun b hb=>exA.same b (p.sub b hb) fun hf=>p.fr b hf hb) exA.shape (mono_append _)
  obtain ⟨q1,q2⟩:=part fs fs0 fs' hfs hlf h1 h3
  obtain ⟨r1,r2⟩:=part cs cs0 cs' hcs hlc h2 h4
  obtain ⟨u1,u2⟩:=rel_append (p:=p0) (σ:=renS gl σ++[wd.heap.size]) (w:=w1) (xs:=fs0) (ys:=[AV.clos (.yield Y.l) [] []]) (us:=fs') (vs:= #[yv]) q1 q2 rfl (fun i x v hx hv=>by
   cases i with
   |zero=>
    simp at hx hv
    subst hx hv
    exact .clos (.yield l) [] [] #[] #[] rfl rfl (fun i x v h=>by simp at h) (fun i x v h=>by simp at h)
   |succ i=>simp at hx)
  exact rel_append u1 u2 r1 r2
 show CallsIn (Fr none) 0 P f _ w1 _
 refine callsIn_of ((hT p0 _ w1 _ hHc hargs.1 hargs.2).mono ?_)
 rintro e w2 ⟨v,x,p1,σ1,H1,rfl,hex,hm1,hHR1,_,hq⟩
 have hl1:σ1[gl.length]? =some l:=hm1 _ _ (by
  rw[List.getElem?_append_right (by simp[renS])]
  simp[renS,hszd,l])
 have hul1: ∀(k:Blk),H1[gl.length]? =some (some k)→ ¬p1.u l∧BRel p1 σ1 w2 k l:=fun k hk=>by
  obtain ⟨r,z1,z2,_,z4⟩:=hHR1.blk _ k hk
  rw[hl1] at z1
  injection z1 with z1
  subst z1
  exact⟨z2,z4⟩
 obtain ⟨hYz,hq⟩:=hq
 have hlen1:=hHR1.len
 have hgl1:gl.length<σ1.length:=(List.getElem?_eq_some_iff.1 hl1).1
 have hg1: ∀(i j:Nat),gl[i]? =some j→σ1[i]? =σ[j]? :=fun i j h=>by
  have hj:j<σ.length:=by rw[hσl];exact hlt' j (List.mem_of_getElem? h)
  have e:σ[j]? =some (σ[j]'hj):=List.getElem?_eq_getElem hj
  rw[e]
  refine hm1 i _ ?_
  rw[List.getElem?_append_left (by simp[renS];exact(List.getElem?_eq_some_iff.1 h).1),hgi i j h,e]
 have fin: ∀(st:LoopState) (pend:Option Code) (pO:PQ) (σO:List Nat) (H':Heap) (o:Obj) (kb:Blk),H1[gl.length]? =some (some kb)→ ¬p1.u l→MidG p ρ a.tmps (H.length+1) σb l (recOfA asg fn a.tmps ps.toArray body w.heap.size st pend) p1 w2 pO σO H'→H.length+1≤H'.length∧noY H'=true∧
   ∃pf σF,Ext p w pf (w2.putObj l o)∧(∀ i,i<m→σF[i]? =σ[i]?)∧Rel pf σF ⟨ρ,n,patch gl H' (H1.set gl.length none),m,.mk H.length::df⟩ { a with defers:=[{ target:=.collected w.heap.size,args:= #[]}]++a.defers } (w2.putObj l o):=fun st pend pO σO H' o kb hkb hul hM=>by
  have hsh4:Shape w2 (w2.putObj l o):=Shape.putLoop hM.lrec o
  have oth4: ∀b,b≠l→(w2.putObj l o).heap[b]? =w2.heap[b]? :=fun b hb=>World.putObj_heap_other hb
  have sz4:(w2.putObj l o).heap.size=w2.heap.size:=by simp
  generalize w2.putObj l o=w4 at *
  have p1f: ∀b,p1.f b→ ¬p.u b:=fun b hb hu=>(hex.backf b hb).elim (fun h=>(hL b h).1 hu) fun h=>h (.inl hu)
  have hlr: ¬pO.r l:=fun h=>(hM.back l h).elim (fun h=>hul (p1.sub l h)) fun h=>hul (p1.fu l h)
  have hlr1: ¬p1.r l:=fun h=>hul (p1.sub l h)
  have lv: ∀(i r:Nat) (k:Blk),H'[i]? =some (some k)→σO[i]? =some r→ ¬pO.u r:=fun i r k hk hr=>by
   obtain ⟨r',z1,z2,_⟩:=hM.heap.blk i k hk
   rw[hr] at z1
   injection z1 with z1
   subst z1
   exact z2
  have lv1: ∀(i r:Nat) (k:Blk),H1[i]? =some (some k)→σ1[i]? =some r→ ¬p1.u r:=fun i r k hk hr=>by
   obtain ⟨r',z1,z2,_⟩:=hHR1.blk i k hk
   rw[hr] at z1
   injection z1 with z1
   subst z1
   exact z2
  have back1: ∀b,p1.r b→p.r b∨ ¬p.u b:=fun b hb=>(hex.back b hb).imp id fun h hu=>h (.inl hu)
  have backO: ∀b,pO.r b→p.r b∨ ¬p.u b:=fun b hb=>(hM.back b hb).elim (back1 b) fun h=>.inr (p1f b h)
  have frx: ∀b,p.f b→(p.r b∨ ¬p.u b)→False:=fun b hf h=>h.elim (p.fr b hf) fun h=>h (p.fu b hf)
  let pf:PQ:=⟨fun b=>pO.r b∨p1.r b,fun b=>p.u b∨pO.r b∨p1.r b,p.f,fun _ h=>.inr h,fun b h=>.inl (p.fu b h),fun b h hr=>frx b h (hr.elim (backO b) (back1 b))⟩
  have σfin: ∀(i r:Nat),σb[i]? =some r→σO[i]? =some r:=fun i r hi=>by
   rw[hM.nam i (by rw[← hM.bl];exact(List.getElem?_eq_some_iff.1 hi).1)]
   exact hi
  have rsame: ∀b,pO.r b→w4.heap[b]? =w2.heap[b]? :=fun b hb=>oth4 b fun e=>hlr (e▸hb)
  have r1same: ∀b,p1.r b→w4.heap[b]? =w2.heap[b]? :=fun b hb=>oth4 b fun e=>hlr1 (e▸hb)
  have hOl:σO.length=H'.length:=hM.heap.len
  let H1z:=H1.set gl.length none
  have z_get: ∀(i:Nat) (k:Blk),H1z[i]? =some (some k)→i≠gl.length∧H1[i]? =some (some k):=fun i k hk=>by
   have hne:i≠gl.length:=fun e=>by
    subst e
    rw[List.getElem?_set_self (by omega)] at hk
    simp at hk
   exact⟨hne,by rwa [List.getElem?_set_ne (fun e=>hne e.symm)] at hk⟩
  have hz:HRel p1 σ1 H1z w4:=(hHR1.kill gl.length).same hYz (fun _ h=>h) r1same hsh4 (fun b hb=>by rw[sz4];exact hHR1.lt b hb) fun i k r hk hr=>by
   obtain ⟨hne,hk'⟩:=z_get i k hk
   exact⟨lv1 i r k hk' hr,oth4 r fun e=>hne (hHR1.inj i gl.length l k kb hk' hkb (e▸hr) hl1)⟩
  have hO4:HRel pO σO H' w4:=hM.heap.same hM.noY (fun _ h=>h) rsame hsh4 (fun b hb=>by rw[sz4];exact hM.heap.lt b hb) fun i k r hk hr=>⟨lv i r k hk hr,oth4 r fun e=>hul (p1.fu l (e▸hM.live i r k hk hr))⟩
  have hgO: ∀(i j:Nat),gl[i]? =some j→σO[j]? =σ1[i]? :=fun i j h=>by
   have hj:=hlt' j (List.mem_of_getElem? h)
   rw[hg1 i j h,hM.nam j (by omega),List.getElem?_append_left (by rw[hσl];exact hj)]
  have hJn:HRel pf (σO++σ1.drop gl.length) (patch gl H' H1z) w4:=by
   refine hO4.join hz hM.noY hYz (by omega) (fun x hx=>by have:=hlt' x hx;have:=hM.len;omega) hgO (fun _ h=>.inl h) (fun _ h=>.inr h) (fun b hb=>?_) (fun i k r hk hr hu=>?_) (fun i k r hk hr hu=>?_) fun i j k k2 r hk hk2 hr hr2=>?_
   ·rw[sz4]
    exact hb.elim (fun h=>by have:=hH.lt b h;have:=(exA.shape.trans hex.shape).1;omega) fun h=>h.elim (fun h=>hM.heap.lt b (pO.sub b h)) fun h=>hHR1.lt b (p1.sub b h)
   ·have hf:=hM.live i r k hk hr
    exact hu.elim (p1f r hf) fun h=>h.elim (fun h=>lv i r k hk hr (pO.sub r h)) fun h=>p1.fr r hf h
   ·have hnu:=lv1 i r k (z_get i k hk).2 hr
    exact hu.elim (fun h=>hnu (hex.subu r (.inl h))) fun h=>h.elim (fun h=>(hM.back r h).elim (fun h=>hnu (p1.sub r h)) fun h=>hnu (p1.fu r h)) fun h=>hnu (p1.sub r h)
   ·exact lv1 j r k2 (z_get j k2 hk2).2 hr2 (p1.fu r (hM.live i r k hk hr))
  have hleft: ∀(i r:Nat),σO[i]? =some r→(σO++σ1.drop gl.length)[i]? =some r:=fun i r hi=>by
   rw[List.getElem?_append_left (List.getElem?_eq_some_iff.1 hi).1]
   exact hi
  refine⟨hM.len,hM.noY,pf,σO++σ1.drop gl.length,⟨fun b hb=>.inl (hM.subr b hb),fun b hb=>.inl hb,fun b hb=>hb.elim (backO b) (back1 b),fun _ h=>h,fun _ h=>.inl h,fun b hb hf=>?_,(exA.shape.trans hex.shape).trans hsh4⟩,fun i hi=>?_,⟨hsz,?_,fun u=>?_,hJn,?_⟩⟩
  ·have hbw:=hH.lt b hb
   exact(oth4 b (by omega)).trans ((hex.same b (.inl hb) fun h=>(hL b h).1 hb).trans (old b hbw))
  ·have hi':i<H.length:=Nat.lt_of_lt_of_le hi hR.m
   have:=hM.len
   rw[List.getElem?_append_left (by omega),hM.nam i (by omega),List.getElem?_append_left (by rw[hσl];exact hi')]
  ·refine⟨⟨w.heap.size,hleft _ _ (σfin _ _ ?_),rfl⟩,DRel.mono (fun i r h=>hleft i r (σfin i r (σleft i r h))) _ _ hR.df⟩
   rw[← hσl]
   simp[σb]
  ·exact(hM.env u).mono' (p:=pO) (p':=pf) (fun _ h=>.inl h) rsame hsh4 (fun i r h=>hleft i r (σfin i r h))
  ·have:=hM.len
   have h1:=hR.m
   show m≤(patch gl H' H1z).length
   rw[← hJn.len,List.length_append]
   show m≤_
   have h2:m≤H.length:=h1
   omega
 rcases hq with ⟨hq,hS⟩|⟨hq,hS⟩
 ·obtain ⟨hul,hb⟩:=hul1 _ hq
  obtain ⟨_,pO,σO,H',hJ,hM⟩:=hb
  obtain ⟨f1,f2,pf,σF,f3,f4,f5⟩:=fin _ _ pO σO H' (.loop { recOfA asg fn a.tmps ps.toArray body w.heap.size .ready none with state:=.exhausted }) _ hq hul hM
  refine⟨none,_,run_endLoop hM.lrec (by simp[recOfA]),?_⟩
  exact⟨.normal,pf,σF,_,rfl,f3,f4,f5,rfl,rfl,hend H' _ hJ hS f1 f2⟩
 ·obtain ⟨hul,hb⟩:=hul1 _ hq
  obtain ⟨_,pO,σO,H',e,c,hJ,hc,hM⟩:=hb
  obtain ⟨f1,f2,pf,σF,f3,f4,f5⟩:=fin _ _ pO σO H' (.loop { recOfA asg fn a.tmps ps.toArray body w.heap.size .done (some c) with state:=.exhausted }) _ hq hul hM
  refine⟨some c,_,run_endLoop hM.lrec (by simp[recOfA]),?_⟩
  have post:Post p w σ ⟨ρ,n,H,m,df⟩ Q (exR e) { a with defers:=[{ target:=.collected w.heap.size,args:= #[]}]++a.defers } (w2.putObj l (.loop { recOfA asg fn a.tmps ps.toArray body w.heap.size .done (some c) with state:=.exhausted })):=
   ⟨e,pf,σF,_,rfl,f3,f4,f5,rfl,rfl,hZ e H' _ c hc hJ hS f1 f2⟩
  cases e with
  |normal=>exact hc.elim
  |exit i=>obtain rfl:=hc;exact wpIn_exit post
  |goto i=>obtain rfl:=hc;exact wpIn_goto post
  |ret=>obtain rfl:=hc;exact wpIn_ret post
end
end Go.Eng
namespace Go.Eng
open Go
theorem Tri.fz {P:Program} {f:FuncId} {args:List AV} {v0 r:AV} {HH:Heap} {F:List Nat} (h:Tri P f args [] fun v H=>v=v0∧H=HH) (hv:FV [] F HH v0 r):Fn P f args r:=by
 have hF:=Fin_all hv
 rw[Fin_eq] at hF
 (unfold Fn;simp only[Tri_eq] at *)
 refine⟨h.1,fun p σ w vs hH hs hvs=>(h.2 p σ w vs hH hs hvs).mono ?_⟩
 rintro e w' ⟨v,x,p1,σ1,H1,rfl,hex,hm,hH1,hx,rfl,rfl⟩
 obtain ⟨p2,σ2,e2,m2,h2,v2⟩:=hF p1 σ1 w' v (Nat.zero_le _) hH1 hx
 have h0:σ=[]:=List.eq_nil_of_length_eq_zero hH.len
 subst h0
 exact⟨v,r,p2,σ2,[],rfl,hex.trans e2,fun i r h=>by simp at h,h2,v2,rfl,rfl⟩
theorem sameB {g F:List Nat} {H:Heap} {x y:Bool} (h:x=y):FV g F H (.d (.bool x)) (.d (.bool y)):=by subst h;exact .same _ rfl
theorem sameI {g F:List Nat} {H:Heap} {k:IntKind} {x y:Int} (h:x=y):FV g F H (.d (.int k x)) (.d (.int k y)):=by subst h;exact .same _ rfl
end Go.Eng
namespace Go.Eng
open Go
theorem HLe_acc {g:List Nat} {k:Nat} {H H':Heap} {g':List Nat} {j:Nat} {rows:List (List D)} (hj:H[j]? =some (AccB rows)) (h:HLe g k H H' g'):HLe g k H (AccB rows::H') (j::g'):=by
 by_cases hr:rows=[]
 ·subst hr;rw[AccB_nil];exact h
 ·rw[AccB_cons hr] at hj ⊢;exact⟨⟨by rw[hj,renB_row],lowB_row _ _⟩,h⟩
theorem ren_acc {g:Nat→Nat} {b b' sz:Nat} {rows:List (List D)} (h:g b'=b):AccV b sz rows=Eng.ren g (AccV b' sz rows):=by
 by_cases hr:rows=[]
 ·subst hr;rw[AccV_nil,AccV_nil];rfl
 ·rw[AccV_cons hr,AccV_cons hr];simp[Eng.ren,h]
theorem low_acc {k b' sz:Nat} {rows:List (List D)} (h:b'<k):low k (AccV b' sz rows)=true:=by
 by_cases hr:rows=[]
 ·subst hr;rw[AccV_nil];rfl
 ·rw[AccV_cons hr];simpa [low,Nat.blt_eq] using h
theorem HFz_acc {g F:List Nat} {H H':Heap} {g':List Nat} {j:Nat} {rows:List (List D)} (hj:H[j]? =some (AccB rows)) (h:HFz g F H H' g'):HFz g F H (AccB rows::H') (j::g'):=by
 by_cases hr:rows=[]
 ·subst hr;rw[AccB_nil];exact h
 ·rw[AccB_cons hr] at hj⊢
  exact⟨⟨_,hj,.row _ _ (Nat.le_refl _) fun i x y hx hy=>by rw[hx] at hy;injection hy with hy;subst hy;rw[List.getElem?_map] at hx;cases hd:(rows.flatten)[i]? with
   |none=>rw[hd] at hx;simp at hx
   |some d=>rw[hd] at hx;simp at hx;subst hx;exact .same _ rfl⟩,h⟩
end Go.Eng
namespace Go.Eng
open Go
def dfFix (g:List Nat):List DF→Bool
 |[]=>true
 |.mk b::t=>(Nat.blt b g.length&&Nat.beq (gOf g b) b)&&dfFix g t
 |.fn _ caps::t=>(caps.all fun x=>Nat.blt x.1 g.length&&Nat.beq (gOf g x.1) x.1)&&dfFix g t
theorem DRel.fix {g:List Nat} {σ σ':List Nat} (hs: ∀i,i<g.length→σ'[i]? =σ[gOf g i]?): ∀(df:List DF) (ds:List Deferred),dfFix g df=true→DRel σ df ds→DRel σ' df ds:=by
 have one: ∀b,(Nat.blt b g.length&&Nat.beq (gOf g b) b)=true→σ'[b]? =σ[b]? :=fun b h=>by
  simp only[Bool.and_eq_true] at h
  have h1:b<g.length:=by simpa [Nat.blt_eq] using h.1
  have h2:=Nat.eq_of_beq_eq_true h.2
  rw[hs b h1,h2]
 intro df
 induction df with
 |nil=>intro ds _ h;cases ds with
  |nil=>trivial
  |cons d ds=>exact h.elim
 |cons x t ih=>
  intro ds hf h
  cases ds with
  |nil=>cases x <;> exact h.elim
  |cons d ds=>
   cases x with
   |mk b=>
    simp only[dfFix,Bool.and_eq_true] at hf
    obtain ⟨⟨r,h1,h2⟩,h3⟩:=h
    exact⟨⟨r,(one b (by simp only[Bool.and_eq_true];exact hf.1)).trans h1,h2⟩,ih ds hf.2 h3⟩
   |fn f caps=>
    simp only[dfFix,Bool.and_eq_true] at hf
    obtain ⟨⟨cs,h1,h2,h3⟩,h4⟩:=h
    refine⟨⟨cs,h1,h2,fun i x v hx hv=>?_⟩,ih ds hf.2 h4⟩
    obtain ⟨r,e1,e2⟩:=h3 i x v hx hv
    exact⟨r,(one x.1 (List.all_eq_true.1 hf.1 x (List.mem_of_getElem? hx))).trans e1,e2⟩
theorem Wk_renD (g:List Nat) {ρ ρ':Env} {n m:Nat} {H H':Heap} {df:List DF} (hlt:(g.all fun x=>Nat.blt x H.length)=true) (hnd:noDup g=true) (hle:HLe g g.length H H' g) (hρ:EnvLe g g.length ρ ρ') (hm:m≤g.length)
  (hid: ∀i,i<m→gOf g i=i) (hdf:dfFix g df=true):Wk ⟨ρ,n,H,m,df⟩ ⟨ρ',n,H',m,df⟩:=by
 rw[Wk_eq]
 refine⟨rfl,rfl,fun p σ a w hR=>?_⟩
 have hlt': ∀x∈g,x<H.length:=fun x hx=>by simpa [Nat.blt_eq] using List.all_eq_true.1 hlt x hx
 have hlen:=hR.heap.len
 simp only at hlen
 have hs:=renS_get (σ:=σ) (g:=g) rfl (by rw[hlen];exact hlt')
 obtain ⟨hl,_⟩:=HLe_get H' g hle
 refine⟨p,renS g σ,.refl p w,fun i hi=>by rw[hs i (Nat.lt_of_lt_of_le hi hm),hid i hi],hR.size,hR.df.fix hs _ _ hdf,fun t=>?_,hR.heap.ren hlt' hnd hle,by simp only;omega⟩
 rcases EnvLe_get ρ' hρ t with h|⟨h1,h2⟩
 ·rw[h];exact .any _
 ·have:=hR.env t
  simp only at this
  exact this.ren hs _ h1 h2
theorem HLe_cell {g:List Nat} {k:Nat} {H H':Heap} {g':List Nat} {j b b' sz:Nat} {rows:List (List D)} (hj:H[j]? =some (some (.row [AccV b sz rows]))) (hg:gOf g b'=b) (hb:b'<k) (h:HLe g k H H' g'):
  HLe g k H (some (.row [AccV b' sz rows])::H') (j::g'):=by
 refine⟨⟨?_,?_⟩,h⟩
 ·rw[hj]
  show _=some (some (Blk.row [Eng.ren (gOf g) (AccV b' sz rows)]))
  rw[← ren_acc hg]
 ·show (low k (AccV b' sz rows)&&true)=true
  rw[low_acc hb]
  rfl
end Go.Eng
namespace Go.Eng
open Go
def Agr:Heap→List Nat→List Nat→Prop
 |[],_,_=>True
 |b::t,x::g,y::h=>(b=none∨x=y)∧Agr t g h
 |_::_,_,_=>False
theorem Agr_get: ∀{H:Heap} {g h:List Nat},Agr H g h→ ∀{i:Nat} {k:Blk},H[i]? =some (some k)→h[i]? =g[i]? :=by
 intro H
 induction H with
 |nil=>intro g h _ i k hk;simp at hk
 |cons b t ih=>
  intro g h ha i k hk
  cases g with
  |nil=>exact ha.elim
  |cons x g=>
   cases h with
   |nil=>exact ha.elim
   |cons y h=>
    obtain ⟨h1,h2⟩:=ha
    cases i with
    |zero=>
     simp at hk
     subst hk
     rcases h1 with h1|h1
     ·simp at h1
     ·subst h1;rfl
    |succ i=>exact ih h2 (by simpa using hk)
theorem Agr_inj {H:Heap} {g g2:List Nat} (hnd:noDup g2=true) (hag:Agr H g g2) {i j x:Nat} {k l:Blk} (hi:H[i]? =some (some k)) (hj:H[j]? =some (some l)) (h1:g[i]? =some x) (h2:g[j]? =some x):i=j:=
 noDup_inj g2 hnd i j x ((Agr_get hag hi).trans h1) ((Agr_get hag hj).trans h2)
section
variable {p:PQ} {σ:List Nat} {w:World} {H:Heap} {g F:List Nat}
theorem HRel.fzI (hH:HRel p σ H w) {H':Heap} {g2:List Nat} (hlt: ∀x∈g,x<H.length) (hnd:noDup g2=true) (hag:Agr H' g g2) (hap:apartL g F=true) (hle:HFz g F H H' g):HRel (pfz p σ H F) (renS g σ) H' w:=by
 obtain ⟨hlen,hget⟩:=HFz_get H' g hle
 have hs:=renS_get (σ:=σ) (g:=g) rfl (by rw[hH.len];exact hlt)
 have hg: ∀(i j:Nat),g[i]? =some j→(renS g σ)[i]? =σ[j]? :=fun i j h=>by
  have hi:=(List.getElem?_eq_some_iff.1 h).1
  rw[hs i hi]
  simp[gOf,List.getD_eq_getElem?_getD,h]
 have nfz: ∀(i j r:Nat) (k:Blk),g[i]? =some j→H[j]? =some (some k)→σ[j]? =some r→ ¬Frozen σ H F r:=fun i j r k h1 h2 h3 ⟨b,cs,hb,hcs,hr⟩=>by
  have:=hH.inj b j r _ k hcs h2 hr h3
  subst this
  have:=List.all_eq_true.1 (List.all_eq_true.1 hap b hb) b (List.mem_iff_getElem?.2 ⟨i,h1⟩)
  simp at this
 refine⟨by simp[renS,hlen],fun b hb=>hb.elim (hH.lt b) fun ⟨⟨i,cs,_,h2,h3⟩,_⟩=>?_,fun i b hb=>?_,fun i j r a b ha hb hi hj=>?_,hH.gl.part fun _ h=>.inl h⟩
 ·obtain ⟨r,g1,g2,g3,_⟩:=hH.blk i _ h2
  rw[h3] at g1
  injection g1 with g1
  subst g1
  exact g3
 ·obtain ⟨j,b0,h1,h2,h3⟩:=hget i b hb
  obtain ⟨r,g1,g2,g3,g4⟩:=hH.blk j _ h2
  refine⟨r,by rw[hg i j h1];exact g1,fun hu=>hu.elim g2 (fun h=>nfz i j r _ h1 h2 g1 h.1),g3,?_⟩
  cases h3 with
  |row xs ys hl hv=>
   obtain ⟨c,e,fr,q1,q2,q3,q4⟩:=g4
   refine⟨c,e,fr,q1,by omega,q3,fun k y v hy hcv=>?_⟩
   have hk:k<xs.length:=by have:=(List.getElem?_eq_some_iff.1 hy).1;omega
   have e1:xs[k]? =some xs[k]:=List.getElem?_eq_getElem hk
   obtain ⟨z1,z2⟩:=q4 k _ v e1 hcv
   exact⟨VRel.fz hH hg (hv k _ y e1 hy) v z1,z2⟩
  |iter s pos=>exact g4
  |dfr=>exact g4
  |raw o=>exact g4
  |bytes e bs=>exact g4
  |mp ks xs ys hl hv=>
   obtain ⟨es,cl,z1,z2,z3,z4,z5⟩:=g4
   refine⟨es,cl,z1,z2,by omega,z4,fun k y e hy hc=>?_⟩
   have hk:k<xs.length:=by have:=(List.getElem?_eq_some_iff.1 hy).1;omega
   have e1:xs[k]? =some xs[k]:=List.getElem?_eq_getElem hk
   exact VRel.fz hH hg (hv k _ y e1 hy) e.val (z5 k _ e e1 hc)
  |yl Y k=>exact⟨g4.1,Y.stI k p _ w w g4.2 rfl (fun _ h=>.inl h) (fun _ _=>rfl) (.refl w)⟩
  |yz Y=>exact⟨g4.1,Y.stZ p _ w w g4.2 rfl (fun _ h=>.inl h) (fun _ _=>rfl) (.refl w)⟩
 ·obtain ⟨i1,a0,a1,a2,_⟩:=hget i a ha
  obtain ⟨j1,b0,b1,b2,_⟩:=hget j b hb
  rw[hg i i1 a1] at hi
  rw[hg j j1 b1] at hj
  have:=hH.inj i1 j1 r _ _ a2 b2 hi hj
  subst this
  exact Agr_inj hnd hag ha hb a1 b1
end
theorem Wk_fzI (g g2 F:List Nat) {ρ ρ':Env} {n m:Nat} {H H':Heap} {df:List DF} (hlt:(g.all fun x=>Nat.blt x H.length)=true) (hnd:noDup g2=true) (hag:Agr H' g g2) (hap:apartL g F=true) (hle:HFz g F H H' g) (hρ:EFz g F H ρ ρ') (hm:m≤g.length)
  (hid: ∀i,i<m→gOf g i=i) (hdf:dfFix g df=true):Wk ⟨ρ,n,H,m,df⟩ ⟨ρ',n,H',m,df⟩:=by
 rw[Wk_eq]
 refine⟨rfl,rfl,fun p σ a w hR=>?_⟩
 have hlt': ∀x∈g,x<H.length:=fun x hx=>by simpa [Nat.blt_eq] using List.all_eq_true.1 hlt x hx
 have hlen:=hR.heap.len
 simp only at hlen
 have hs:=renS_get (σ:=σ) (g:=g) rfl (by rw[hlen];exact hlt')
 have hg: ∀(i j:Nat),g[i]? =some j→(renS g σ)[i]? =σ[j]? :=fun i j h=>by
  have hi:=(List.getElem?_eq_some_iff.1 h).1
  rw[hs i hi]
  simp[gOf,List.getD_eq_getElem?_getD,h]
 obtain ⟨hl,_⟩:=HFz_get H' g hle
 exact⟨pfz p σ H F,renS g σ,ext_fz hR.heap,fun i hi=>by rw[hs i (Nat.lt_of_lt_of_le hi hm),hid i hi],hR.size,hR.df.fix hs _ _ hdf,fun t=>VRel.fz hR.heap hg (EFz_get ρ' hρ t) _ (hR.env t),hR.heap.fzI hlt' hnd hag hap hle,by simp only;omega⟩
theorem Fin_fzI (g g2 F:List Nat) {m:Nat} {v v':AV} {H H':Heap} (hlt:(g.all fun x=>Nat.blt x H.length)=true) (hnd:noDup g2=true) (hag:Agr H' g g2) (hap:apartL g F=true) (hle:HFz g F H H' g) (hv:FV g F H v v') (hm:m≤g.length)
  (hid: ∀i,i<m→gOf g i=i):Fin m v H v' H':=by
 rw[Fin_eq]
 intro p σ w x hmH hH hx
 have hlt': ∀x∈g,x<H.length:=fun x hx=>by simpa [Nat.blt_eq] using List.all_eq_true.1 hlt x hx
 have hs:=renS_get (σ:=σ) (g:=g) rfl (by rw[hH.len];exact hlt')
 have hg: ∀(i j:Nat),g[i]? =some j→(renS g σ)[i]? =σ[j]? :=fun i j h=>by
  have hi:=(List.getElem?_eq_some_iff.1 h).1
  rw[hs i hi]
  simp[gOf,List.getD_eq_getElem?_getD,h]
 exact⟨pfz p σ H F,renS g σ,ext_fz hH,fun i hi=>by rw[hs i (Nat.lt_of_lt_of_le hi hm),hid i hi],hH.fzI hlt' hnd hag hap hle,VRel.fz hH hg hv x hx⟩
theorem FV_accM {g F:List Nat} {H:Heap} {b b' sz:Nat} {rows:List (List D)} (h:g[b']? =some b):FV g F H (AccV b sz rows) (AccV b' sz rows):=by
 by_cases hr:rows=[]
 ·subst hr;rw[AccV_nil,AccV_nil];exact .same _ rfl
 ·rw[AccV_cons hr,AccV_cons hr];exact .msl _ _ _ _ _ _ h
end Go.Eng
