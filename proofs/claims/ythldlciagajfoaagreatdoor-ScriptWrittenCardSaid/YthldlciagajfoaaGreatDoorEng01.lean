/- What the seat's proofs lean on, part 1: the executor over abstract values, its soundness, and what the program's functions answer (Eng7, Eng8, Eng9, Eng10, Eng11, Eng12, Eng12m). -/
import Derived.Test.YthldlciagajfoaaGreatDoorEng00
import Derived.Laws.BytesArg
import Derived.LaidEql
set_option linter.all false
set_option linter.unusedVariables false
set_option linter.unusedSimpArgs false
set_option maxRecDepth 100000
namespace Go.Eng
open Go
section
variable {P:Program} {tt:TT} {p:PQ} {σ:List Nat} {s:St} {a:Act} {w:World} {F:Fence} {n:Nat} {o:Oper} {Q:Exit→Act→World→Prop} {next:Act→World→Prop} {K:AV→Heap→Prop}
theorem eqIn_nil1 (d:Nat) {t e:TypeId} (h:P.underlying t=some (.slice e)) (n c:Nat) (b:Option Addr) (n' c':Nat):(Op.equalIn (d+1) t (.slice none n c) (.slice b n' c')).run P w=.ok b.isNone w:=by
 simp[Op.equalIn,run_under h]
theorem eqIn_nil2 (d:Nat) {t e:TypeId} (h:P.underlying t=some (.slice e)) (ad:Addr) (n c:Nat) (n' c':Nat):(Op.equalIn (d+1) t (.slice (some ad) n c) (.slice none n' c')).run P w=.ok false w:=by
 simp[Op.equalIn,run_under h]
theorem eqIn_bool (d:Nat) {t:TypeId} (h:P.underlying t=some .bool) (x y:Bool):(Op.equalIn (d+1) t (.bool x) (.bool y)).run P w=.ok (x==y) w:=by
 simp[Op.equalIn,run_under h]
theorem eq_succ (t:TypeId) (x y:Value):Op.equal t x y=Op.equalIn (9999+1) t x y:=rfl
theorem g_int (op:BinOp) (t:TypeId) (X Y:Operand) (k k':IntKind) (a b:Int):eqGuard op t X Y (.int k a) (.int k' b)=pure ():=by cases op <;> rfl
theorem g_str (op:BinOp) (t:TypeId) (X Y:Operand) (a b:ByteArray):eqGuard op t X Y (.string a) (.string b)=pure ():=by cases op <;> rfl
theorem g_bool (op:BinOp) (t:TypeId) (X Y:Operand) (a b:Bool):eqGuard op t X Y (.bool a) (.bool b)=pure ():=by cases op <;> rfl
theorem g_sl (op:BinOp) (t:TypeId) (X Y:Operand) (a b:Option Addr) (n c n' c':Nat):eqGuard op t X Y (.slice a n c) (.slice b n' c')=pure ():=by cases op <;> rfl
theorem nil_run (hT:TTok P tt) {t:Nat} {ti:TI} (ht:tt t=some ti) {e:Nat} (hk:ti.k=.slice e) {x:AV} {v:Value} (hv:VRel p σ w x v) {K:Bool→Prop} (hK:nilK x K):
  ∃b,(Op.equal t v (.slice none 0 0)).run P w=.ok b w∧K b:=by
 obtain ⟨u,hu,hag⟩:=tt_und hT ht
 rw[hk] at hag
 cases u with
 |slice e'=>
  unfold nilK at hK
  simp only[NilK_eq] at hK
  split at hK
  ·cases hv
   exact⟨true,by rw[eq_succ,eqIn_nil1 _ hu];rfl,hK⟩
  ·cases hv
   exact⟨false,by rw[eq_succ,eqIn_nil2 _ hu],hK⟩
  ·cases hv with
   |esl ao=>cases ao with
    |none=>exact⟨true,by rw[eq_succ,eqIn_nil1 _ hu];rfl,hK true fun h=>absurd rfl h⟩
    |some ad=>exact⟨false,by rw[eq_succ,eqIn_nil2 _ hu],hK false fun h=>absurd rfl h⟩
  ·rename_i rows
   cases hv with
   |sl _ a n cap sz vals hn hB hc hrow hcells hv=>
   cases a with
   |none=>
    refine⟨true,by rw[eq_succ,eqIn_nil1 _ hu];rfl,hK true fun h=>?_⟩
    exfalso
    obtain ⟨r,o,h1,_⟩:=hcells (by rw[← hn];cases rows <;> simp_all)
    simp at h1
   |some ad=>exact⟨false,by rw[eq_succ,eqIn_nil2 _ hu],hK false fun _=>rfl⟩
  ·exact hK.elim
 |_=>simp[agreeK] at hag
theorem ptr_run (hT:TTok P tt) {t:Nat} {ti ei:TI} (ht:tt t=some ti) {e:Nat} (hk:ti.k=.ptr e) (he:tt e=some ei) (hs:Nat.beq ei.size 0=false) {x y:AV} {u v:Value} (hu:VRel p σ w x u) (hv:VRel p σ w y v) {b:Bool} (hb:ptrEqV x y=some b):
  ∃a1 a2,u=.pointer a1∧v=.pointer a2∧ ∀d:Nat,(Op.equalIn (d+1) t (.pointer a1) (.pointer a2)).run P w=.ok b w:=by
 obtain ⟨uu,huu,hag⟩:=tt_und hT ht
 rw[hk] at hag
 cases uu with
 |pointer e'=>
  simp only[agreeK] at hag
  have hee:=Nat.eq_of_beq_eq_true hag
  subst hee
  have hz:ei.size≠0:=fun h=>by rw[h] at hs;simp at hs
  have hsize:=run_size hT he
  have und:=run_under huu
  have n1: ∀(q:Option Addr) (d:Nat),(Op.equalIn (d+1) t (.pointer none) (.pointer q)).run P w=.ok q.isNone w:=fun q d=>by simp[Op.equalIn,und]
  have n2: ∀(q:Addr) (d:Nat),(Op.equalIn (d+1) t (.pointer (some q)) (.pointer none)).run P w=.ok false w:=fun q d=>by simp[Op.equalIn,und]
  unfold ptrEqV at hb
  split at hb
  ·cases hu
   split at hb <;> first|(simp at hb;done)|(injection hb with hb;subst hb;cases hv;exact⟨_,_,rfl,rfl,fun d=>n1 _ d⟩)
  ·cases hu with
   |ptr _ _ r h1=>
   split at hb
   ·injection hb with hb;subst hb;cases hv;exact⟨_,_,rfl,rfl,fun d=>n2 _ d⟩
   ·split at hb
    ·rename_i hbb
     split at hb
     ·rename_i hoo
      injection hb with hb
      subst hb
      have e1:=Nat.eq_of_beq_eq_true hbb
      have e2:=Nat.eq_of_beq_eq_true hoo
      subst e1 e2
      cases hv with
      |ptr _ _ r2 h2=>
      rw[h1] at h2
      injection h2 with h2
      subst h2
      exact⟨_,_,rfl,rfl,fun d=>by simp[Op.equalIn,und,hsize,hz,run_sameAddr_same]⟩
     ·simp at hb
    ·simp at hb
   ·simp at hb
  ·cases hu
   split at hb <;> first|(simp at hb;done)|(injection hb with hb;subst hb;cases hv;exact⟨_,_,rfl,rfl,fun d=>n2 _ d⟩)
  ·simp at hb
 |_=>simp[agreeK] at hag
theorem bin_run (hT:TTok P tt) {t:Nat} {op:BinOp} {x y:AV} {u v:Value} (hu:VRel p σ w x u) (hv:VRel p σ w y v) {X Y:Operand} {K:AV→Prop} (hK:binK tt (tt t) op x y K):
  ∃z r,(do eqGuard op t X Y u v;binOp op t u v:Sem Value).run P w=.ok r w∧VRel p σ w z r∧K z:=by
 unfold binK at hK
 simp only[NeedK_eq] at hK
 split at hK
 ·rename_i k a
  cases hu
  split at hK
  ·rename_i k' b
   cases hv
   split at hK
   ·rename_i hk
    obtain rfl:=of_decide_eq_true hk
    have ar: ∀e,ArK k e (fun n=>K (.d (.int k n)))→K (.d (.int k (k.wrap e))):=fun e h=>by simp only[ArK_eq] at h;exact h
    cases op with
    |add=>exact⟨_,_,by simp[g_int,binOp,Op.intArith],.int k _,ar _ hK⟩
    |sub=>exact⟨_,_,by simp[g_int,binOp,Op.intArith],.int k _,ar _ hK⟩
    |mul=>exact⟨_,_,by simp[g_int,binOp,Op.intArith],.int k _,ar _ hK⟩
    |quo=>exact⟨_,_,by simp[g_int,binOp,Op.intDiv,hK.1],.int k _,ar _ hK.2⟩
    |rem=>exact⟨_,_,by simp[g_int,binOp,Op.intDiv,hK.1],.int k _,hK.2⟩
    |eql=>exact⟨_,.bool _,by simp[g_int,binOp,Op.intCmp],.bool _,hK⟩
    |neq=>exact⟨_,.bool _,by simp[g_int,binOp,Op.intCmp],.bool _,hK⟩
    |lss=>exact⟨_,.bool _,by simp[g_int,binOp,Op.intCmp],.bool _,hK⟩
    |leq=>exact⟨_,.bool _,by simp[g_int,binOp,Op.intCmp],.bool _,hK⟩
    |gtr=>exact⟨_,.bool _,by simp[g_int,binOp,Op.intCmp],.bool _,hK⟩
    |geq=>exact⟨_,.bool _,by simp[g_int,binOp,Op.intCmp],.bool _,hK⟩
    |shr=>
     have hn: ¬b<0:=by have:=hK.1;omega
     exact⟨_,_,by simp[g_int,binOp,Op.shift,hn],.int k _,hK.2⟩
    |_=>exact hK.elim
   ·exact hK.elim
  ·exact hK.elim
 ·rename_i s1
  cases hu with
  |str _ hs1=>
  split at hK
  ·rename_i s2
   cases hv with
   |str _ hs2=>
   split at hK
   ·refine⟨_,.string (s1++s2),?_,.str _ (by simp;exact hK.1),hK.2⟩
    have hle: ¬(IntKind.i64.max<(s1.size:Int)+(s2.size:Int)):=by
     have h:=hK.1
     have h1:LB≤1000000000000000:=by decide
     have h2:(1000000000000000:Int)≤IntKind.i64.max:=by decide
     omega
    have hle2:(s1.size:Int)+(s2.size:Int)≤9223372036854775807:=by
     have h:=hK.1
     have h1:LB≤1000000000000000:=by decide
     omega
    simp[g_str,binOp,Op.stringOp,hle,hle2]
   ·exact⟨_,_,by simp[g_str,binOp,Op.stringOp],.bool _,hK⟩
   ·exact⟨_,_,by simp[g_str,binOp,Op.stringOp],.bool _,hK⟩
   ·exact hK.elim
  ·exact hK.elim
 ·rename_i b1
  cases hu
  split at hK
  ·exact hK.elim
  rename_i ti hti
  split at hK
  ·rename_i hk
   split at hK
   ·rename_i b2
    cases hv
    obtain ⟨u,hu,hag⟩:=tt_und hT hti
    rw[hk] at hag
    cases u with
    |bool=>
     split at hK
     ·exact⟨_,_,by simp[g_bool,binOp,eq_succ,eqIn_bool _ hu],.bool _,hK⟩
     ·exact⟨_,_,by simp[g_bool,binOp,eq_succ,eqIn_bool _ hu],.bool _,hK⟩
     ·exact hK.elim
    |_=>simp[agreeK] at hag
   ·exact hK.elim
  ·exact hK.elim
 ·rename_i xs
  split at hK
  ·exact hK.elim
  rename_i ti hti
  split at hK
  ·rename_i fs hk
   split at hK
   ·rename_i ys
    split at hK
    ·rename_i heq
     split at hK
     ·rename_i bs hbs
      obtain ⟨us,vs,rfl,rfl,hg,hr⟩:=agg_run hT hti hk heq hu hv hbs
      have hg1: ∀op,(eqGuard op t X Y (.agg us) (.agg vs)).run P w=.ok () w:=fun op=>by
       cases op <;> first
        |rfl
        |(simp [eqGuard,program,hg,Sem.run_bind,Sem.run_pure,show∀w:World,(Sem.program Sem.pure:Sem Program).run P w=.ok P w from fun _=>rfl])
      split at hK
      ·exact⟨_,_,by rw[Sem.run_bind,hg1];simp[binOp,hr],.bool _,hK⟩
      ·exact⟨_,_,by rw[Sem.run_bind,hg1];simp[binOp,hr],.bool _,hK⟩
      ·exact hK.elim
     ·exact hK.elim
    ·exact hK.elim
   ·exact hK.elim
  ·exact hK.elim
 ·split at hK
  ·exact hK.elim
  rename_i ti hti
  split at hK
  ·rename_i e hk
   split at hK
   ·cases hv
    have hsl: ∀K',nilK x K'→ ∃a n c,u=.slice a n c:=by
     intro K' h
     unfold nilK at h
     split at h
     ·cases hu;exact⟨_,_,_,rfl⟩
     ·cases hu;exact⟨_,_,_,rfl⟩
     ·cases hu;exact⟨_,_,_,rfl⟩
     ·cases hu;exact⟨_,_,_,rfl⟩
     ·exact h.elim
    split at hK
    ·obtain ⟨b,h1,h2⟩:=nil_run hT hti hk hu hK
     obtain ⟨aa,nn,cc,rfl⟩:=hsl _ hK
     exact⟨_,_,by simp[g_sl,binOp,h1],.bool _,h2⟩
    ·obtain ⟨b,h1,h2⟩:=nil_run hT hti hk hu hK
     obtain ⟨aa,nn,cc,rfl⟩:=hsl _ hK
     exact⟨_,_,by simp[g_sl,binOp,h1],.bool _,h2⟩
    ·exact hK.elim
   ·exact hK.elim
  ·rename_i e hk
   unfold ptrK at hK
   split at hK
   ·exact hK.elim
   rename_i ei hei
   split at hK
   ·exact hK.elim
   rename_i hsz
   split at hK
   ·exact hK.elim
   rename_i b hpe
   obtain ⟨a1,a2,rfl,rfl,hr⟩:=ptr_run hT hti hk hei hsz hu hv hpe
   have hg1: ∀op,(eqGuard op t X Y (.pointer a1) (.pointer a2)).run P w=.ok () w:=fun op=>by cases op <;> rfl
   split at hK
   ·exact⟨_,.bool b,by rw[Sem.run_bind,hg1];simp[binOp,eq_succ,hr],.bool _,hK⟩
   ·exact⟨_,.bool (!b),by rw[Sem.run_bind,hg1];simp[binOp,eq_succ,hr],.bool _,hK⟩
   ·exact hK.elim
  ·exact hK.elim
theorem snd_bin (hT:TTok P tt) (hR:Rel p σ s a w) (hN:Nx p σ w K o a next) {op:BinOp} {t u:TypeId} {x y:Operand} (hop:o.op=.binOp op t x y u) (hK:opK P tt (.binOp op t x y u) (get s.ρ) s.H K):
  o.uponIn F n P a next Q ((execOp a.eval o).run P w):=by
 simp only[opK] at hK
 obtain ⟨z,r,h1,h2,h3⟩:=bin_run hT (X:=x) (Y:=y) (evalO_rel hR x) (evalO_rel hR y) hK
 refine up_pure hR hN (v:=r) ?_ h2 h3
 unfold execOp
 rw[hop]
 show (Sem.bind _ _).run P w=_
 rw[Sem.run_bind',h1]
 rfl
theorem snd_un (hR:Rel p σ s a w) (hN:Nx p σ w K o a next) {op:UnOp} {t:TypeId} {x:Operand} (hop:o.op=.unOp op t x) (hK:opK P tt (.unOp op t x) (get s.ρ) s.H K):
  o.uponIn F n P a next Q ((execOp a.eval o).run P w):=by
 simp only[opK,unK] at hK
 have hx:=evalO_rel hR x
 split at hK
 ·rename_i k m hb
  rw[hb] at hx
  generalize hv:a.eval x=v at hx
  cases hx
  split at hK
  ·simp only[ArK_eq] at hK
   exact up_pure hR hN (by simp[execOp,hop,hv,Op.unary,Op.intArith]) (.int _ _) hK
  ·exact hK.elim
 ·rename_i b hb
  rw[hb] at hx
  generalize hv:a.eval x=v at hx
  cases hx
  split at hK
  ·exact up_pure hR hN (by simp[execOp,hop,hv,Op.unary]) (.bool _) hK
  ·exact hK.elim
 ·exact hK.elim
theorem snd_conv (hT:TTok P tt) (hR:Rel p σ s a w) (hN:Nx p σ w K o a next) {t u:TypeId} {x:Operand} (hop:o.op=.convert u t x)
  (hK:opK P tt (.convert u t x) (get s.ρ) s.H K):
  o.uponIn F n P a next Q ((execOp a.eval o).run P w):=by
 simp only[opK] at hK
 have hx:=evalO_rel hR x
 split at hK
 ·exact hK.elim
 rename_i ui hui
 obtain ⟨d,hd,_⟩:=tt_und hT hui
 split at hK
 ·exact hK.elim
 rename_i ti ht
 obtain ⟨e,he,hag⟩:=tt_und hT ht
 split at hK
 ·rename_i k hk
  rw[hk] at hag
  split at hK
  ·rename_i k' m hb
   rw[hb] at hx
   generalize hv:a.eval x=v at hx
   cases hx
   simp only[ArK_eq] at hK
   cases e with
   |int k2=>
    simp[agreeK] at hag
    subst hag
    exact up_pure hR hN (by simp[execOp,hop,hv,convert,run_under hd,run_under he,Conv.intToInt]) (.int _ _) hK
   |_=>simp[agreeK] at hag
  ·exact hK.elim
 ·rename_i hk
  rw[hk] at hag
  split at hK
  ·rename_i st hb
   rw[hb] at hx
   generalize hv:a.eval x=v at hx
   cases hx with
   |str _ hs=>
   cases e with
   |string=>exact up_pure hR hN (by simp[execOp,hop,hv,convert,run_under hd,run_under he]) (.str _ hs) hK
   |_=>simp[agreeK] at hag
  ·rename_i rows hb
   rw[hb] at hx
   generalize hv:a.eval x=v at hx
   rw[hui] at hK
   simp only at hK
   split at hK
   ·rename_i e0 hk0
    split at hK
    ·rename_i ei hei
     split at hK
     ·rename_i hki
      obtain ⟨d',hd',hagd⟩:=tt_und hT hui
      rw[hd] at hd'
      injection hd' with hd'
      subst hd'
      rw[hk0] at hagd
      obtain ⟨de,hde,hage⟩:=tt_und hT hei
      rw[hki] at hage
      cases e with
      |string=>
       cases d with
       |slice e1=>
        simp[agreeK] at hagd
        subst hagd
        cases de with
        |int k9=>
         simp[agreeK] at hage
         subst hage
         obtain ⟨l,hl,hK⟩:=hK
         have hrun: ∃w0,(convert u t v).run P w=.ok (.string ⟨l.toArray⟩) w∧w0=w∧l.length≤LB:=by
          cases hx with
          |sl _ ad n cap sz vals hn hB hc hrow hcells hvs=>
           have hlen:l.length=n:=by rw[← hn,hl];simp
           refine⟨w,?_,rfl,by omega⟩
           by_cases h0:n=0
           ·have hl0:l=[]:=List.length_eq_zero_iff.1 (by omega)
            subst hl0
            cases ad with
            |none=>rw[run_convert_bytes_nil w u _ hd hde n cap t he];rfl
            |some ad=>
             subst h0
             rw[run_convert_bytes_string w u t _ _ _ _ hd hde he,run_bytesToString w _ _ _ [] (by simpa using run_loadCells_list (P:=P) w ad [] (fun j v hj=>by simp at hj))]
             rfl
           ·obtain ⟨r,o,rfl,hpr,hcs⟩:=hcells h0
            have h1:sz=1:=by
             have hr0: ∃x,rows[0]? =some [x]:=by
              cases l with
              |nil=>simp at hlen;omega
              |cons a l2=>exact⟨_,by rw[hl];rfl⟩
             obtain ⟨x0,hr0⟩:=hr0
             exact(hrow 0 _ hr0).symm
            subst h1
            have:=run_convert_bytes_arg (P:=P) w u _ hd hde r o n cap (l.map fun c=>(c.toNat:Int)) (by simpa using hlen) (fun i hi=>by
             have hi':i<l.length:=by omega
             have hri:rows[i]? =some [.int .u8 (l[i]).toNat]:=by rw[hl];simp[hi']
             have hvi:=hvs i _ 0 _ hri rfl
             have hci:=hcs i 0 hi (by omega)
             generalize hvv:vals i 0=vv at hvi hci
             cases hvi
             simp only[Nat.mul_one,Nat.add_zero] at hci
             rw[hci]
             simp[List.getD,hi']) t he
            rw[this]
            have e3:strOfNums (l.map fun c=>(c.toNat:Int))=⟨l.toArray⟩:=by
             unfold strOfNums
             congr 2
             rw[List.map_map]
             have:(fun n:Int=>UInt8.ofNat n.toNat) ∘ (fun c:UInt8=>(c.toNat:Int))=id:=by funext c;simp
             rw[this,List.map_id]
            rw[e3]
         obtain ⟨_,hrun,_,hle⟩:=hrun
         exact up_pure hR hN (by simp only[execOp,hop,hv,hrun,Sem.run_bind,Sem.run_map,Sem.run_pure,Result.andThen_ok]) (.str _ (by simpa [ByteArray.size] using hle)) hK
        |_=>simp[agreeK] at hage
       |_=>simp[agreeK] at hagd
      |_=>simp[agreeK] at hag
     ·exact hK.elim
    ·exact hK.elim
   ·exact hK.elim
  ·exact hK.elim
 ·exact hK.elim
end
end Go.Eng
namespace Go.Eng
open Go
section
variable {P:Program} {tt:TT} {p:PQ} {σ:List Nat} {s:St} {a:Act} {w:World} {F:Fence} {n:Nat} {o:Oper} {Q:Exit→Act→World→Prop} {next:Act→World→Prop} {K:AV→Heap→Prop}
theorem args_rel (hR:Rel p σ s a w) (l:Array Operand):(l.map a.eval).size=(mapO (get s.ρ) l.toList).length∧
  ∀(i:Nat) (x:AV) (v:Value),(mapO (get s.ρ) l.toList)[i]? =some x→(l.map a.eval)[i]? =some v→VRel p σ w x v:=by
 refine⟨by simp[mapO],fun i x v hx hv=>?_⟩
 simp only[mapO,List.getElem?_map,Array.getElem?_toList] at hx
 simp only[Array.getElem?_map] at hv
 cases h:l[i]? with
 |none=>simp[h] at hx
 |some y=>
  simp[h] at hx hv
  subst hx hv
  exact evalO_rel hR y
theorem snd_func (hR:Rel p σ s a w) (hN:Nx p σ w K o a next) {fn:Fn} {fs cs:Array Operand} (hop:o.op=.makeFunc fn fs cs) (hK:opK P tt (.makeFunc fn fs cs) (get s.ρ) s.H K):
  o.uponIn F n P a next Q ((execOp a.eval o).run P w):=by
 simp only[opK] at hK
 have hrun:(execOp a.eval o).run P w=.ok (.value (.func fn (fs.map a.eval) (cs.map a.eval))) w:=by simp[execOp,hop,Instr.makeFunc]
 obtain ⟨f1,f2⟩:=args_rel hR fs
 obtain ⟨c1,c2⟩:=args_rel hR cs
 split at hK
 ·rename_i g
  split at hK
  ·rename_i h1 h2
   have e1:fs= #[]:=by simpa using h1
   have e2:cs= #[]:=by simpa using h2
   subst e1 e2
   exact up_pure hR hN hrun (by simpa using VRel.fn g) hK
  ·simp only[forceL_eq] at hK
   exact up_pure hR hN hrun (.clos _ _ _ _ _ f1 c1 f2 c2) hK
 ·exact hK.elim
theorem fld_agree (hT:TTok P tt) {t:Nat} {ti:TI} (ht:tt t=some ti) {f ft fo:Nat} (hf:fldOf ti f=some (ft,fo)):
  ∃(gs:Array Field) (g:Field),P.underlying t=some (.struct gs)∧gs[f]? =some g∧g.type=ft∧g.offset=fo∧ ∃i,P.info? ft=some i∧i.size≠0:=by
 obtain ⟨u,hu,hag⟩:=tt_und hT ht
 unfold fldOf at hf
 split at hf
 ·rename_i fs hk
  rw[hk] at hag
  cases u with
  |struct gs=>
   simp only[agreeK,Bool.and_eq_true] at hag
   obtain ⟨h1,h2⟩:=hag
   have h1:=Nat.eq_of_beq_eq_true h1
   have hlt:=(List.getElem?_eq_some_iff.1 hf).1
   have hg:gs[f]? =some (gs[f]'(by omega)):=Array.getElem?_eq_getElem (by omega)
   have:=List.all_eq_true.1 h2 ((ft,fo),gs[f]'(by omega)) (List.mem_iff_getElem?.2 ⟨f,by
    rw[List.getElem?_zip_eq_some]
    exact⟨hf,by rw[Array.getElem?_toList];exact hg⟩⟩)
   simp only[Bool.and_eq_true] at this
   obtain ⟨⟨h3,h4⟩,h5⟩:=this
   refine⟨gs,_,hu,hg,(Nat.eq_of_beq_eq_true h3).symm,(Nat.eq_of_beq_eq_true h4).symm,?_⟩
   cases hi:P.info? (gs[f]'(by omega)).type with
   |none=>simp[hi] at h5
   |some i=>
    rw[← Nat.eq_of_beq_eq_true h3] at hi
    refine⟨i,hi,?_⟩
    rw[Nat.eq_of_beq_eq_true h3] at hi
    rw[hi] at h5
    intro h0
    simp[h0] at h5
  |_=>simp[agreeK] at hag
 ·simp at hf
theorem run_place (hT:TTok P tt) {g:Field} {i:TypeInfo} (hi:P.info? g.type=some i) (h0:i.size≠0) (ad:Addr):(fieldPlace ad g).run P w=.ok (ad.add g.offset) w:=by
 simp[fieldPlace,sizeOf,run_info hi,h0]
theorem snd_fieldAddr (hT:TTok P tt) (hR:Rel p σ s a w) (hN:Nx p σ w K o a next) {t:TypeId} {x:Operand} {f:Nat} (hop:o.op=.fieldAddr t x f) (hK:opK P tt (.fieldAddr t x f) (get s.ρ) s.H K):
  o.uponIn F n P a next Q ((execOp a.eval o).run P w):=by
 simp only[opK] at hK
 split at hK
 ·exact hK.elim
 rename_i ti ht
 split at hK
 ·exact hK.elim
 rename_i ft fo hf
 obtain ⟨gs,g,h1,h2,h3,h4,i,h5,h6⟩:=fld_agree hT ht hf
 subst h3 h4
 have hx:=evalO_rel hR x
 have hrun: ∀ad,a.eval x=.pointer (some ad)→(execOp a.eval o).run P w=.ok (.value (.pointer (some (ad.add g.offset)))) w:=fun ad hv=>by
  simp[execOp,hop,Instr.fieldAt,hv,run_under h1,h2,Instr.sureAddr,run_place hT h5 h6]
 split at hK
 ·rename_i b off hb
  rw[hb] at hx
  generalize hv:a.eval x=v at hx
  cases hx with
  |ptr _ _ r hr=>exact up_pure hR hN (hrun _ hv) (by rw[addr_add];exact .ptr _ _ r hr) hK
 ·rename_i row off hb
  rw[hb] at hx
  generalize hv:a.eval x=v at hx
  cases hx with
  |fptr _ _ r base vals hp hcells hvs=>exact up_pure hR hN (hrun _ hv) (by rw[addr_add,Nat.add_assoc];exact .fptr _ _ r base vals hp hcells hvs) hK
 ·exact hK.elim
theorem snd_field (hT:TTok P tt) (hR:Rel p σ s a w) (hN:Nx p σ w K o a next) {t:TypeId} {x:Operand} {f:Nat} (hop:o.op=.field t x f) (hK:opK P tt (.field t x f) (get s.ρ) s.H K):
  o.uponIn F n P a next Q ((execOp a.eval o).run P w):=by
 simp only[opK] at hK
 split at hK
 ·exact hK.elim
 rename_i ti ht
 split at hK
 ·exact hK.elim
 rename_i ft fo hf
 obtain ⟨gs,g,h1,h2,h3,h4,_⟩:=fld_agree hT ht hf
 subst h3 h4
 split at hK
 ·exact hK.elim
 rename_i fi hfi
 have hx:=evalO_rel hR x
 split at hK
 ·rename_i cs hb
  rw[hb] at hx
  generalize hv:a.eval x=v at hx
  cases hx with
  |agg _ vs hs hone hvs=>
  obtain ⟨v,y,hrun,hrel,hk⟩:=part_run hT hfi hs hone hvs hK
  exact up_pure hR hN (by simp[execOp,hop,Instr.field,hv,run_under h1,h2,asAgg,hrun]) hrel hk
 ·exact hK.elim
theorem und_slice (hT:TTok P tt) {t e:Nat} {ti:TI} (ht:tt t=some ti) (hk:ti.k=.slice e):P.underlying t=some (.slice e):=by
 obtain ⟨u,hu,hag⟩:=tt_und hT ht
 rw[hk] at hag
 cases u with
 |slice e'=>simp[agreeK] at hag;subst hag;exact hu
 |_=>simp[agreeK] at hag
theorem und_arr (hT:TTok P tt) {t n e:Nat} {ti:TI} (ht:tt t=some ti) (hk:ti.k=.arr n e):P.underlying t=some (.array n e):=by
 obtain ⟨u,hu,hag⟩:=tt_und hT ht
 rw[hk] at hag
 cases u with
 |array n' e'=>simp[agreeK] at hag;obtain ⟨h1,h2⟩:=hag;subst h1 h2;exact hu
 |_=>simp[agreeK] at hag
theorem und_str (hT:TTok P tt) {t:Nat} {ti:TI} (ht:tt t=some ti) (hk:ti.k=.str):P.underlying t=some .string:=by
 obtain ⟨u,hu,hag⟩:=tt_und hT ht
 rw[hk] at hag
 cases u with
 |string=>exact hu
 |_=>simp[agreeK] at hag
theorem snd_indexAddr (hT:TTok P tt) (hR:Rel p σ s a w) (hN:Nx p σ w K o a next) {t:TypeId} {x i:Operand} (hop:o.op=.indexAddr t x i) (hK:opK P tt (.indexAddr t x i) (get s.ρ) s.H K):
  o.uponIn F n P a next Q ((execOp a.eval o).run P w):=by
 simp only[opK,IdxK_eq] at hK
 split at hK
 ·exact hK.elim
 rename_i ti ht
 have hi:=evalO_rel hR i
 split at hK
 ·rename_i k m hb
  rw[hb] at hi
  generalize hvi:a.eval i=vi at hi
  cases hi
  have hx:=evalO_rel hR x
  split at hK
  ·rename_i e hk
   have hu:=und_slice hT ht hk
   split at hK
   ·exact hK.elim
   rename_i ei he
   split at hK
   ·rename_i rows hbx
    rw[hbx] at hx
    generalize hv:a.eval x=v at hx
    cases hx with
    |sl _ ad nn cap sz vals hn hB hc hrow hcells hvs=>
    obtain ⟨row,hr,h0,hl,hK⟩:=hK
    have hlt:=(List.getElem?_eq_some_iff.1 hr).1
    obtain ⟨r,base,rfl,hp,hcs⟩:=hcells (by omega)
    have hsz:ei.size=sz:=by rw[← hl];exact hrow _ _ hr
    have hm:m<(nn:Int):=by omega
    refine up_pure hR hN (v:=.pointer (some ⟨r,base+m.toNat * sz,none⟩)) ?_ ?_ hK
    ·simp[execOp,hop,Instr.indexAt,hv,hvi,asIntOf,run_under hu,h0,hm,run_size hT he,addr_add,hsz]
    ·have:=VRel.fptr (p:=p) (σ:=σ) (w:=w) row 0 r (base+m.toNat * sz) (fun j=>vals m.toNat j) hp (fun j hj=>by
      rw[hrow _ _ hr] at hj
      exact hcs m.toNat j (by omega) hj) (fun j x hx=>hvs _ _ j x hr hx)
     simpa using this
   ·rename_i b off len cl sz hbx
    rw[hbx] at hx
    generalize hv:a.eval x=v at hx
    cases hx with
    |msl _ _ _ _ _ r cap hr hB hc hcl hblk=>
    simp only[Br] at hK
    split at hK
    ·rename_i hsz
     have hsz:=Nat.eq_of_beq_eq_true hsz
     split at hK
     ·rename_i hd
      obtain ⟨h0,hm⟩:=of_decide_eq_true hd
      refine up_pure hR hN (v:=.pointer (some ⟨r,off+m.toNat * sz,none⟩)) ?_ (.ptr _ _ r hr) hK
      simp[execOp,hop,Instr.indexAt,hv,hvi,asIntOf,run_under hu,h0,hm,run_size hT he,addr_add,hsz]
     ·exact hK.elim
    ·exact hK.elim
   ·exact hK.elim
  ·rename_i len e hk
   have hu:=und_arr hT ht hk
   split at hK
   ·exact hK.elim
   rename_i ei he
   simp only[Br] at hK
   split at hK
   ·rename_i hd
    obtain ⟨h0,hm⟩:=of_decide_eq_true hd
    have hrun: ∀ad,a.eval x=.pointer (some ad)→(execOp a.eval o).run P w=.ok (.value (.pointer (some (ad.add (m.toNat * ei.size))))) w:=fun ad hv=>by
     simp[execOp,hop,Instr.indexAt,hv,hvi,asIntOf,run_under hu,Instr.sureAddr,h0,hm,run_size hT he]
    split at hK
    ·rename_i b off hbx
     rw[hbx] at hx
     generalize hv:a.eval x=v at hx
     cases hx with
     |ptr _ _ r hr=>exact up_pure hR hN (hrun _ hv) (by rw[addr_add];exact .ptr _ _ r hr) hK
    ·rename_i row off hbx
     rw[hbx] at hx
     generalize hv:a.eval x=v at hx
     cases hx with
     |fptr _ _ r base vals hp hcells hvs=>exact up_pure hR hN (hrun _ hv) (by rw[addr_add,Nat.add_assoc];exact .fptr _ _ r base vals hp hcells hvs) hK
    ·exact hK.elim
   ·exact hK.elim
  ·exact hK.elim
 ·exact hK.elim
theorem snd_index (hT:TTok P tt) (hR:Rel p σ s a w) (hN:Nx p σ w K o a next) {t:TypeId} {x i:Operand} (hop:o.op=.index t x i) (hK:opK P tt (.index t x i) (get s.ρ) s.H K):
  o.uponIn F n P a next Q ((execOp a.eval o).run P w):=by
 simp only[opK,ByteK_eq] at hK
 split at hK
 ·exact hK.elim
 rename_i ti ht
 have hi:=evalO_rel hR i
 split at hK
 ·rename_i k m hb
  rw[hb] at hi
  generalize hvi:a.eval i=vi at hi
  cases hi
  have hx:=evalO_rel hR x
  split at hK
  ·rename_i len e hk
   have hu:=und_arr hT ht hk
   split at hK
   ·exact hK.elim
   rename_i ei he
   split at hK
   ·rename_i cs hbx
    rw[hbx] at hx
    generalize hv:a.eval x=v at hx
    cases hx with
    |agg _ vs hs hone hvs=>
    simp only[Br] at hK
    split at hK
    ·rename_i hd
     obtain ⟨h0,hm⟩:=of_decide_eq_true hd
     obtain ⟨v,y,hrun,hrel,hk⟩:=part_run hT he hs hone hvs hK
     exact up_pure hR hN (by simp[execOp,hop,Instr.index,hv,hvi,asIntOf,run_under hu,h0,hm,run_size hT he,hrun]) hrel hk
    ·exact hK.elim
   ·exact hK.elim
  ·rename_i hk
   have hu:=und_str hT ht hk
   split at hK
   ·rename_i st hbx
    rw[hbx] at hx
    generalize hv:a.eval x=v at hx
    cases hx with
    |str _ hs=>
    obtain ⟨c,hc,h0,hK⟩:=hK
    have hc':st[m.toNat]? =some c:=by
     have hlt:=(List.getElem?_eq_some_iff.1 hc).1
     have hlt':m.toNat<st.size:=by simpa using hlt
     rw[List.getElem?_eq_getElem hlt] at hc
     injection hc with hc
     rw[getElem?_pos st m.toNat hlt',←hc]
     rfl
    exact up_pure hR hN (by simp[execOp,hop,Instr.index,hv,hvi,asIntOf,run_under hu,h0,hc']) (.int _ _) hK
   ·exact hK.elim
  ·exact hK.elim
 ·exact hK.elim
theorem snd_extract (hR:Rel p σ s a w) (hN:Nx p σ w K o a next) {x:Operand} {i:Nat} (hop:o.op=.extract x i) (hK:opK P tt (.extract x i) (get s.ρ) s.H K):
  o.uponIn F n P a next Q ((execOp a.eval o).run P w):=by
 simp only[opK] at hK
 have hx:=evalO_rel hR x
 split at hK
 ·rename_i vs hb
  rw[hb] at hx
  generalize hv:a.eval x=v at hx
  cases hx with
  |tup _ us hs hvs=>
  split at hK
  ·rename_i y hy
   rw[force_eq] at hK
   have hlt:=(List.getElem?_eq_some_iff.1 hy).1
   have hu:us[i]? =some (us[i]'(by omega)):=Array.getElem?_eq_getElem (by omega)
   exact up_pure hR hN (by simp[execOp,hop,Instr.extract,hv,hu]) (hvs i y _ hy hu) hK
  ·exact hK.elim
 ·exact hK.elim
end
end Go.Eng
namespace Go.Eng
open Go
section
variable {P:Program} {tt:TT} {p:PQ} {σ:List Nat} {s:St} {a:Act} {w:World} {F:Fence} {n:Nat} {o:Oper} {Q:Exit→Act→World→Prop} {next:Act→World→Prop} {K:AV→Heap→Prop}
def bndO (ρ:Nat→AV) (dflt:Int) (x:Option Operand):Option Int:=
 match x with
 |none=>some dflt
 |some l=>match evalO ρ l with
  |.d (.int _ n)=>some n
  |_=>none
theorem bnd_val (hR:Rel p σ s a w) {x:Operand} {m:Int} (h:(match evalO (get s.ρ) x with|.d (.int _ n)=>some n|_=>none)=some m): ∃k,a.eval x=.int k m:=by
 have hx:=evalO_rel hR x
 split at h
 ·rename_i k n' hb
  rw[hb] at hx
  generalize a.eval x=v at hx
  cases hx
  injection h with h
  subst h
  exact⟨k,rfl⟩
 ·simp at h
theorem run_bound {k:IntKind} {m:Int} {y:Nat} (c:BoundsCode) (h0:0≤m) (h1:m≤y):(Instr.sliceBound (.int k m) y c).run P w=.ok m.toNat w:=by
 unfold Instr.sliceBound
 simp only[asIntOf,Sem.run_bind,Sem.run_pure,Result.andThen_ok]
 rw[if_pos ⟨h0,h1⟩]
 rfl
theorem run_bounds (hR:Rel p σ s a w) {lo hi:Option Operand} {isS:Bool} {len cap:Nat} {l h:Int}
  (hl:(match lo with|none=>some 0|some l=>match evalO (get s.ρ) l with|.d (.int _ n)=>some n|_=>none)=some l)
  (hh:(match hi with|none=>some (len:Int)|some h=>match evalO (get s.ρ) h with|.d (.int _ n)=>some n|_=>none)=some h)
  (h0:0≤l) (h1:l≤h) (h2:h≤cap):(Instr.sliceBounds isS len cap (lo.map a.eval) (hi.map a.eval) none).run P w=.ok (l.toNat,h.toNat,cap) w:=by
 have hh0:0≤h:=by omega
 have hlh:l≤(h.toNat:Int):=by omega
 cases hi with
 |none=>
  simp at hh
  subst hh
  cases lo with
  |none=>simp at hl;subst hl;simp[Instr.sliceBounds]
  |some x=>
   obtain ⟨k,hv⟩:=bnd_val hR hl
   have:=run_bound (P:=P) (w:=w) (k:=k) (y:=len) .sliceB h0 (by omega)
   simp[Instr.sliceBounds,hv,this]
 |some y=>
  obtain ⟨k2,hv2⟩:=bnd_val hR hh
  have e2:=fun c=>run_bound (P:=P) (w:=w) (k:=k2) (y:=cap) c hh0 h2
  cases lo with
  |none=>simp at hl;subst hl;simp[Instr.sliceBounds,hv2,e2]
  |some x=>
   obtain ⟨k,hv⟩:=bnd_val hR hl
   have:=run_bound (P:=P) (w:=w) (k:=k) (y:=h.toNat) .sliceB h0 hlh
   simp[Instr.sliceBounds,hv,hv2,e2,this]
theorem int_val (hR:Rel p σ s a w) {x:Operand} {k:IntKind} {m:Int} (h:evalO (get s.ρ) x=.d (.int k m)):a.eval x=.int k m:=by
 have hx:=evalO_rel hR x
 rw[h] at hx
 generalize a.eval x=v at hx
 cases hx
 rfl
theorem run_bounds3 (hR:Rel p σ s a w) {lo:Option Operand} {y z:Operand} {ky kz:IntKind} {isS:Bool} {len cap:Nat} {l h m:Int}
  (hl:(match lo with|none=>some 0|some l=>match evalO (get s.ρ) l with|.d (.int _ n)=>some n|_=>none)=some l) (hh:evalO (get s.ρ) y=.d (.int ky h)) (hm:evalO (get s.ρ) z=.d (.int kz m))
  (h0:0≤l) (h1:l≤h) (h2:h≤m) (h3:m≤cap):(Instr.sliceBounds isS len cap (lo.map a.eval) (some (a.eval y)) (some (a.eval z))).run P w=.ok (l.toNat,h.toNat,m.toNat) w:=by
 have e1:=int_val hR hh
 have e2:=int_val hR hm
 have b1:=fun c=>run_bound (P:=P) (w:=w) (k:=kz) (y:=cap) c (by omega:0≤m) h3
 have b2:=fun c=>run_bound (P:=P) (w:=w) (k:=ky) (y:=m.toNat) c (by omega:0≤h) (by omega)
 cases lo with
 |none=>simp at hl;subst hl;simp[Instr.sliceBounds,e1,e2,b1,b2]
 |some x=>
  obtain ⟨k,hv⟩:=bnd_val hR hl
  have b3:=fun c=>run_bound (P:=P) (w:=w) (k:=k) (y:=h.toNat) c h0 (by omega)
  simp[Instr.sliceBounds,e1,e2,b1,b2,hv,b3]
theorem extract_size (st:ByteArray) (l h:Nat):(st.extract l h).size≤st.size:=by
 simp[ByteArray.size_extract];omega
theorem snd_slice (hT:TTok P tt) (hR:Rel p σ s a w) (hN:Nx p σ w K o a next) {t:TypeId} {x:Operand} {lo hi mx:Option Operand} (hop:o.op=.slice t x lo hi mx) (hK:opK P tt (.slice t x lo hi mx) (get s.ρ) s.H K):
  o.uponIn F n P a next Q ((execOp a.eval o).run P w):=by
 simp only[opK,NeedK_eq] at hK
 split at hK
 ·exact hK.elim
 rename_i ti ht
 split at hK
 ·
  split at hK
  ·rename_i zo _ kz m hm
   split at hK
   ·exact hK.elim
   rename_i l hl
   split at hK
   ·exact hK.elim
   rename_i yo
   split at hK
   ·rename_i ky h hh
    split at hK
    ·rename_i e hk
     have hu:=und_slice hT ht hk
     split at hK
     ·exact hK.elim
     rename_i ei he
     have hx:=evalO_rel hR x
     split at hK
     ·rename_i rows hbx
      rw[hbx] at hx
      generalize hv:a.eval x=v at hx
      cases hx with
      |sl _ ad nn cap sz vals hn hB hc hrow hcells hvs=>
      obtain ⟨⟨rfl,rfl,rfl⟩,hK⟩:=hK
      have hb:=run_bounds3 (P:=P) (isS:=true) (len:=nn) (cap:=cap) hR hl hh hm (by omega) (by omega) (by omega) (by omega)
      refine up_pure hR hN (v:=.slice ad 0 0) ?_ (.esl ad) hK
      simp only[execOp,hop,Instr.sliceAt,Sem.run_bind,run_under hu,Result.andThen_ok,Instr.slice,hv]
      simp only[Sem.run_bind,run_under hu,Result.andThen_ok,Option.map_some]
      simp[hb,run_size hT he]
     ·rename_i hbx
      rw[hbx] at hx
      generalize hv:a.eval x=v at hx
      cases hx
      obtain ⟨⟨rfl,rfl,rfl⟩,hK⟩:=hK
      have hb:=run_bounds3 (P:=P) (isS:=true) (len:=0) (cap:=0) hR hl hh hm (by omega) (by omega) (by omega) (by omega)
      refine up_pure hR hN (v:=.slice none 0 0) ?_ .nsl hK
      simp only[execOp,hop,Instr.sliceAt,Sem.run_bind,run_under hu,Result.andThen_ok,Instr.slice,hv]
      simp only[Sem.run_bind,run_under hu,Result.andThen_ok,Option.map_some]
      simp[hb,run_size hT he]
     ·rename_i b off len cl sz hbx
      rw[hbx] at hx
      generalize hv:a.eval x=v at hx
      cases hx with
      |msl _ _ _ _ _ r cap hr hB hc hcl hblk=>
      obtain ⟨⟨h0,h1,h2,h3,hsz,hor⟩,hK⟩:=hK
      have hb:=run_bounds3 (P:=P) (isS:=true) (len:=len) (cap:=cap) hR hl hh hm h0 h1 h2 (by omega)
      refine up_pure hR hN (v:=.slice (some ⟨r,off+l.toNat * sz,none⟩) (h.toNat-l.toNat) (m.toNat-l.toNat)) ?_ ?_ hK
      ·simp only[execOp,hop,Instr.sliceAt,Sem.run_bind,run_under hu,Result.andThen_ok,Instr.slice,hv]
       simp only[Sem.run_bind,run_under hu,Result.andThen_ok,Option.map_some]
       have:(if m.toNat=l.toNat then some (⟨r,off,none⟩:Addr) else some (⟨r,off+l.toNat * ei.size,none⟩:Addr))=some ⟨r,off+l.toNat * sz,none⟩:=by
        rcases hor with hlt|h00
        ·rw[if_neg (by omega),hsz]
        ·subst h00
         simp
       simp only[hb,Result.andThen_ok,run_size hT he,Sem.run_pure,Option.map_some,addr_add]
       rw[this]
      ·obtain ⟨c,e',fr,g1,g2⟩:=hblk
       refine .msl _ _ _ _ _ r _ hr (by omega) (by omega) (by omega) ⟨c,e',fr,g1,?_⟩
       have e1:off+l.toNat * sz+(m.toNat-l.toNat) * sz=off+m.toNat * sz:=by
        rw[Nat.add_assoc,←Nat.add_mul]
        congr 2
        omega
       have:m.toNat * sz≤cap * sz:=Nat.mul_le_mul_right _ (by omega)
       omega
     ·exact hK.elim
    ·exact hK.elim
   ·exact hK.elim
  ·exact hK.elim
 split at hK
 ·exact hK.elim
 rename_i l hl
 have hx:=evalO_rel hR x
 split at hK
 ·rename_i hk
  have hu:=und_str hT ht hk
  split at hK
  ·rename_i st hbx
   rw[hbx] at hx
   generalize hv:a.eval x=v at hx
   cases hx with
   |str _ hs=>
   split at hK
   ·exact hK.elim
   rename_i h hh
   obtain ⟨⟨h0,h1,h2⟩,hK⟩:=hK
   have hb:=run_bounds (P:=P) hR (isS:=false) (cap:=st.size) hl hh h0 h1 h2
   refine up_pure hR hN (v:=.string (st.extract l.toNat h.toNat)) ?_ (.str _ (Nat.le_trans (extract_size _ _ _) hs)) hK
   simp only[execOp,hop,Instr.sliceAt,Sem.run_bind,run_under hu,Result.andThen_ok,Instr.slice,hv]
   simp only[Sem.run_bind,run_under hu,Result.andThen_ok,Option.map_none]
   simp[hb]
  ·exact hK.elim
 ·rename_i e hk
  have hu:=und_slice hT ht hk
  split at hK
  ·exact hK.elim
  rename_i ei he
  split at hK
  ·rename_i rows hbx
   rw[hbx] at hx
   generalize hv:a.eval x=v at hx
   cases hx with
   |sl _ ad nn cap sz vals hn hB hc hrow hcells hvs=>
   split at hK
   ·exact hK.elim
   rename_i h hh
   obtain ⟨⟨h0,h1,h2,hsz⟩,hK⟩:=hK
   rw[hn] at hh h2
   have hb:=run_bounds (P:=P) hR (isS:=true) (cap:=cap) hl hh h0 h1 (by omega)
   refine up_pure hR hN (v:=.slice (if cap=l.toNat then ad else ad.map (·.add (l.toNat * ei.size))) (h.toNat-l.toNat) (cap-l.toNat)) ?_ ?_ hK
   ·simp only[execOp,hop,Instr.sliceAt,Sem.run_bind,run_under hu,Result.andThen_ok,Instr.slice,hv]
    simp only[Sem.run_bind,run_under hu,Result.andThen_ok,Option.map_none]
    simp[hb,run_size hT he]
   ·refine .sl _ _ _ _ sz (fun i j=>vals (l.toNat+i) j) (by simp;omega) (by omega) (by omega) (fun i row hr=>?_) (fun hne=>?_) (fun i row j x hr hx=>?_)
    ·rw[List.getElem?_drop,List.getElem?_take] at hr
     split at hr
     ·exact hrow _ _ hr
     ·simp at hr
    ·obtain ⟨r,base,rfl,hp,hcs⟩:=hcells (by omega)
     have hpos:0<rows.length:=by omega
     have hsz':ei.size=sz:=by
      have h1:=hsz (rows[0]'hpos) (List.getElem_mem _)
      have h2:=hrow 0 (rows[0]'hpos) (List.getElem?_eq_getElem hpos)
      omega
     refine⟨r,base+l.toNat * sz,?_,hp,fun i j hi hj=>?_⟩
     ·rw[if_neg (by omega)]
      simp[addr_add,hsz']
     ·rw[show base+l.toNat * sz+i * sz+j=base+(l.toNat+i) * sz+j by rw[Nat.add_mul];omega]
      exact hcs (l.toNat+i) j (by omega) hj
    ·rw[List.getElem?_drop,List.getElem?_take] at hr
     split at hr
     ·exact hvs _ _ j x hr hx
     ·simp at hr
  ·rename_i b off len cl sz hbx
   rw[hbx] at hx
   generalize hv:a.eval x=v at hx
   cases hx with
   |msl _ _ _ _ _ r cap hr hB hc hcl hblk=>
   split at hK
   ·exact hK.elim
   rename_i h hh
   simp only[ChK_eq] at hK
   rcases hK with hK|hK
   ·obtain ⟨⟨h0,h1,h2,hsz,hor⟩,hK⟩:=hK
    have hb:=run_bounds (P:=P) hR (isS:=true) (cap:=cap) hl hh h0 h1 (by omega)
    refine up_pure hR hN (v:=.slice (some ⟨r,off+l.toNat * sz,none⟩) (h.toNat-l.toNat) (cap-l.toNat)) ?_ ?_ hK
    ·simp only[execOp,hop,Instr.sliceAt,Sem.run_bind,run_under hu,Result.andThen_ok,Instr.slice,hv]
     simp only[Sem.run_bind,run_under hu,Result.andThen_ok,Option.map_none]
     have:(if cap=l.toNat then some (⟨r,off,none⟩:Addr) else some (⟨r,off+l.toNat * ei.size,none⟩:Addr))=some ⟨r,off+l.toNat * sz,none⟩:=by
      rcases hor with hlt|h00
      ·rw[if_neg (by omega),hsz]
      ·subst h00
       simp
     simp only[hb,Result.andThen_ok,run_size hT he,Sem.run_pure,Option.map_some,addr_add]
     rw[this]
    ·obtain ⟨c,e',fr,g1,g2⟩:=hblk
     refine .msl _ _ _ _ _ r _ hr (by omega) (by omega) (by omega) ⟨c,e',fr,g1,?_⟩
     have:l.toNat≤cap:=by omega
     have e1:off+l.toNat * sz+(cap-l.toNat) * sz=off+cap * sz:=by
      rw[Nat.add_assoc,←Nat.add_mul]
      congr 2
      omega
     omega
   ·obtain ⟨⟨h0,rfl,h2⟩,hK⟩:=hK
    have hb:=run_bounds (P:=P) hR (isS:=true) (cap:=cap) hl hh h0 (by omega) (by omega)
    refine up_pure hR hN (v:=.slice (if cap=l.toNat then some ⟨r,off,none⟩ else some ⟨r,off+l.toNat * ei.size,none⟩) 0 (cap-l.toNat)) ?_ ?_ hK
    ·simp only[execOp,hop,Instr.sliceAt,Sem.run_bind,run_under hu,Result.andThen_ok,Instr.slice,hv]
     simp only[Sem.run_bind,run_under hu,Result.andThen_ok,Option.map_none]
     simp only[hb,Result.andThen_ok,run_size hT he,Sem.run_pure,Option.map_some,addr_add,Nat.sub_self]
    ·exact .sl [] _ 0 _ 0 (fun _ _=>undef) rfl (Nat.zero_le _) (Nat.zero_le _) (fun i row h=>by simp at h) (fun h=>absurd rfl h) (fun i row j x h=>by simp at h)
  ·rename_i hbx
   rw[hbx] at hx
   generalize hv:a.eval x=v at hx
   cases hx with
   |esl ad=>
   split at hK
   ·exact hK.elim
   rename_i h hh
   obtain ⟨⟨rfl,rfl⟩,hK⟩:=hK
   have hb:=run_bounds (P:=P) hR (isS:=true) (len:=0) (cap:=0) hl hh (by omega) (by omega) (by omega)
   refine up_pure hR hN (v:=.slice ad 0 0) ?_ (.esl ad) hK
   simp only[execOp,hop,Instr.sliceAt,Sem.run_bind,run_under hu,Result.andThen_ok,Instr.slice,hv]
   simp only[Sem.run_bind,run_under hu,Result.andThen_ok,Option.map_none]
   simp[hb,run_size hT he]
  ·exact hK.elim
 ·rename_i len e hk
  have hu:=und_arr hT ht hk
  split at hK
  ·exact hK.elim
  rename_i ei he
  split at hK
  ·split at hK
   ·rename_i b off hbx
    rw[hbx] at hx
    generalize hv:a.eval x=v at hx
    cases hx with
    |ptr _ _ r hr=>
    split at hK
    ·rename_i cs hcs
     simp only[Br] at hK
     split at hK
     ·rename_i hb
      have hb:=Nat.le_of_ble_eq_true hb
      obtain ⟨hB,hK⟩:=hK
      obtain ⟨r',c,e',fr,g1,g2,g3,g4,g5,g6⟩:=row_at hR.heap hcs
      rw[hr] at g1
      injection g1 with g1
      subst g1
      have hbd:=run_bounds (P:=P) hR (lo:=none) (hi:=none) (isS:=false) (len:=len) (cap:=len) (l:=0) (h:=len) rfl rfl (by omega) (by omega) (by omega)
      simp only[Option.map_none] at hbd
      refine up_pure hR hN (v:=.slice (some ⟨r,off,none⟩) len len) ?_ (.msl _ _ _ _ _ r _ hr hB (Nat.le_refl _) ⟨Nat.le_refl _,hB⟩ ⟨c,e',fr,g3,by omega⟩) hK
      simp[execOp,hop,Instr.sliceAt,run_under hu,hv,Instr.sureAddr,hbd,run_size hT he]
      simp[Addr.add]
     ·exact hK.elim
    ·exact hK.elim
   ·exact hK.elim
  ·split at hK
   ·rename_i b off hbx
    rw[hbx] at hx
    generalize hv:a.eval x=v at hx
    cases hx with
    |ptr _ _ r hr=>
    split at hK
    ·rename_i cs hcs
     obtain ⟨⟨hb,hB,h0,h1⟩,hK⟩:=hK
     obtain ⟨r',c,e',fr,g1,g2,g3,g4,g5,g6⟩:=row_at hR.heap hcs
     rw[hr] at g1
     injection g1 with g1
     subst g1
     have hbd:=run_bounds (P:=P) hR (lo:=some _) (l:=l) (hi:=none) (isS:=false) (len:=len) (cap:=len) (h:=len) hl rfl h0 (by omega) (by omega)
     simp only[Option.map_none] at hbd
     refine up_pure hR hN (v:=.slice (some ⟨r,off+l.toNat * ei.size,none⟩) (len-l.toNat) (len-l.toNat)) ?_ (.msl _ _ _ _ _ r _ hr (by omega) (Nat.le_refl _) ⟨Nat.le_refl _,by omega⟩ ⟨c,e',fr,g3,?_⟩) hK
     ·simp only[execOp,hop,Instr.sliceAt,Sem.run_bind,run_under hu,Result.andThen_ok,hv]
      simp only[Option.map_some] at hbd
      simp[Instr.sureAddr,run_under hu,run_size hT he]
      simp only[hbd,Result.andThen_ok,addr_add]
      rw[if_neg (by omega)]
      simp
     ·have:(off+l.toNat * ei.size)+(len-l.toNat) * ei.size=off+len * ei.size:=by
       rw[Nat.add_assoc,←Nat.add_mul]
       congr 2
       omega
      omega
    ·exact hK.elim
   ·exact hK.elim
  ·exact hK.elim
 ·exact hK.elim
end
end Go.Eng
namespace Go.Eng
open Go
section
variable {P:Program} {tt:TT} {p:PQ} {σ:List Nat} {s:St} {a:Act} {w:World} {F:Fence} {n:Nat} {o:Oper} {Q:Exit→Act→World→Prop} {next:Act→World→Prop} {K:AV→Heap→Prop}
def CRel (p:PQ) (σ:List Nat) (w:World) (cs:List AV) (c:Array Value):Prop:=
 c.size=cs.length∧ ∀(i:Nat) (x:AV) (v:Value),cs[i]? =some x→c[i]? =some v→VRel p σ w x v∧one v=true
theorem foldl_splice (vs:List Value): ∀(c:Array Value) (off i:Nat),
  ((vs.zipIdx i).foldl (fun cs (x:Value×Nat)=>cs.setIfInBounds (off+x.2) x.1) c)=spliceA c (off+i) vs:=by
 induction vs with
 |nil=>intro c off i;rfl
 |cons v t ih=>
  intro c off i
  simp only[List.zipIdx_cons,List.foldl_cons,spliceA]
  rw[ih]
  rw[show off+(i+1)=off+i+1 by omega]
theorem fill_run {place:Nat→Option (Nat×Nat)} (parts:List (Nat×Operand)) (hR:Rel p σ s a w): ∀(cs:List AV) (c:Array Value) (K:List AV→Prop),CRel p σ w cs c→
  fillK place cs (partsO (get s.ρ) parts) K→ ∃c' cs',Instr.fill place c (parts.map fun (i,x)=>(i,a.eval x))=some c'∧CRel p σ w cs' c'∧K cs':=by
 induction parts with
 |nil=>intro cs c K hc hK;exact⟨c,cs,rfl,hc,hK⟩
 |cons y t ih=>
  obtain ⟨i,x⟩:=y
  intro cs c K hc hK
  simp only[partsO,List.map_cons,fillK] at hK
  split at hK
  ·exact hK.elim
  rename_i off size hpl
  obtain ⟨vs,hK,hlen,hcell⟩:=cells_of (cs:=[]) (evalO_rel hR x) hK
  split at hK
  ·rename_i h1
   have h1:=Nat.eq_of_beq_eq_true h1
   split at hK
   ·rename_i h2
    have h2:=Nat.le_of_ble_eq_true h2
    obtain ⟨c',cs',e1,e2,e3⟩:=ih (splice cs off vs) (spliceA c off (a.eval x).cells.toList) K ⟨by rw[spliceA_size,splice_length];exact hc.1,fun j z v hz hv=>by
     rw[splice_get _ _ _ _ h2] at hz
     rw[spliceA_get _ _ _ _ (by simp[hlen,hc.1];omega)] at hv
     simp only[Array.length_toList,hlen] at hv
     split at hz
     ·rename_i hj
      rw[if_pos hj] at hv
      exact hcell _ z v hz (by simpa using hv)
     ·rename_i hj
      rw[if_neg hj] at hv
      exact hc.2 j z v hz hv⟩ hK
    refine⟨c',cs',?_,e2,e3⟩
    simp only[List.map_cons,Instr.fill,hpl]
    rw[if_neg (by simp[hlen,h1,hc.1];omega)]
    have:=foldl_splice (a.eval x).cells.toList c off 0
    rw[← Array.foldl_toList,Array.toList_zipIdx]
    rw[show (0:Nat)=0 from rfl] at this
    simp only[Nat.add_zero] at this
    rw[this]
    exact e1
   ·exact hK.elim
  ·exact hK.elim
theorem zero_CRel (hT:TTok P tt) {t:Nat} {ti:TI} (ht:tt t=some ti) (p:PQ) (σ:List Nat) (w:World): ∃z,(zeroValue t).run P w=.ok z w∧CRel p σ w ti.zero z.cells:=by
 obtain ⟨z,h1,h2,h3⟩:=run_zero hT ht w
 exact⟨z,h1,h2,fun i x v hx hv=>cRel_rel (h3 i x v hx hv) p σ w⟩
theorem agg_of_CRel {cs:List AV} {c:Array Value} (h:CRel p σ w cs c):VRel p σ w (.agg cs) (.agg c):=
 .agg cs c h.1 (fun i v hv=>by
  have hlt:=(Array.getElem?_eq_some_iff.1 hv).1
  have hl:i<cs.length:=by rw[← h.1];exact hlt
  exact(h.2 i (cs[i]'hl) v (List.getElem?_eq_getElem hl) hv).2) (fun i x v hx hv=>(h.2 i x v hx hv).1)
theorem places_run (fields:List Field): ∀(w:World),(∀ f∈fields,∃ti:TypeInfo,P.info? f.type=some ti)→
  ∃l:List (Nat×Nat),(fields.mapM fun f=>do pure (f.offset,←sizeOf f.type):Sem (List (Nat×Nat))).run P w=.ok l w∧l.length=fields.length∧
   ∀(i:Nat) (f:Field) (ti:TypeInfo),fields[i]? =some f→P.info? f.type=some ti→l[i]? =some (f.offset,ti.size):=by
 induction fields with
 |nil=>intro w _;exact⟨[],by simp,rfl,fun i f ti h=>by simp at h⟩
 |cons g t ih=>
  intro w h
  obtain ⟨ti,hti⟩:=h g (by simp)
  obtain ⟨l,h1,h2,h3⟩:=ih w (fun f hf=>h f (by simp[hf]))
  refine⟨(g.offset,ti.size)::l,?_,by simp[h2],fun i f ti' hf ht'=>?_⟩
  ·simp at h1
   simp[List.mapM_cons,sizeOf,run_info hti]
   simp[sizeOf] at h1
   simp[h1]
  ·cases i with
   |zero=>
    simp at hf
    subst hf
    rw[hti] at ht'
    injection ht' with ht'
    simp[ht']
   |succ i=>simp at hf ⊢;exact h3 i f ti' hf ht'
theorem fill_congr {pl pl':Nat→Option (Nat×Nat)} (parts:List (Nat×Value)): ∀(c:Array Value),(∀ x∈parts,pl x.1=pl' x.1)→Instr.fill pl c parts=Instr.fill pl' c parts:=by
 induction parts with
 |nil=>intro c _;rfl
 |cons y t ih=>
  intro c h
  simp only[Instr.fill]
  rw[← h y (by simp)]
  split
  ·rfl
  ·split
   ·rfl
   ·exact ih _ fun x hx=>h x (by simp[hx])
theorem fill_places {place:Nat→Option (Nat×Nat)} {K:List AV→Prop} (l:List (Nat×AV)): ∀(cs:List AV),fillK place cs l K→ ∀x∈l,∃q,place x.1=some q:=by
 induction l with
 |nil=>intro cs _ x hx;simp at hx
 |cons y t ih=>
  intro cs h x hx
  obtain ⟨i,v⟩:=y
  simp only[fillK] at h
  split at h
  ·exact h.elim
  rename_i off size hpl
  rcases List.mem_cons.1 hx with e|e
  ·subst e;exact⟨_,hpl⟩
  ·have key: ∀{v:AV} {K':List AV→Prop},cellsK v K'→ ∃vs,K' vs:=fun {v K'} h=>by
    unfold cellsK at h
    split at h
    ·exact⟨_,h⟩
    ·split at h
     ·exact⟨_,h⟩
     ·exact h.elim
   obtain ⟨vs,h⟩:=key h
   split at h
   ·split at h
    ·exact ih _ h x e
    ·exact h.elim
   ·exact h.elim
theorem snd_build (hT:TTok P tt) (hR:Rel p σ s a w) (hN:Nx p σ w K o a next) {t:TypeId} {parts:Array (Nat×Operand)} (hop:o.op=.build t parts) (hK:opK P tt (.build t parts) (get s.ρ) s.H K):
  o.uponIn F n P a next Q ((execOp a.eval o).run P w):=by
 simp only[opK] at hK
 split at hK
 ·exact hK.elim
 rename_i ti ht
 obtain ⟨z,hz,hzc⟩:=zero_CRel hT ht p σ w
 have hparts:(parts.map fun (x:Nat×Operand)=>(x.1,a.eval x.2)).toList=parts.toList.map fun (i,x)=>(i,a.eval x):=by simp
 split at hK
 ·rename_i fs hk
  obtain ⟨u,hu,hag⟩:=tt_und hT ht
  rw[hk] at hag
  cases u with
  |struct gs=>
   simp only[agreeK,Bool.and_eq_true] at hag
   obtain ⟨g1,g2⟩:=hag
   have g1:=Nat.eq_of_beq_eq_true g1
   have hall: ∀(i:Nat) (g:Field),gs.toList[i]? =some g→ ∃f,fs[i]? =some f∧f.1=g.type∧f.2=g.offset∧ ∃j,P.info? g.type=some j:=by
    intro i g hg
    have hlt:=(List.getElem?_eq_some_iff.1 hg).1
    simp at hlt
    have hf:fs[i]? =some (fs[i]'(by omega)):=List.getElem?_eq_getElem (by omega)
    have:=List.all_eq_true.1 g2 (fs[i]'(by omega),g) (List.mem_iff_getElem?.2 ⟨i,by
     rw[List.getElem?_zip_eq_some]
     exact⟨hf,hg⟩⟩)
    simp only[Bool.and_eq_true] at this
    obtain ⟨⟨h3,h4⟩,h5⟩:=this
    refine⟨_,hf,Nat.eq_of_beq_eq_true h3,Nat.eq_of_beq_eq_true h4,?_⟩
    cases hi:P.info? g.type with
    |none=>simp[hi] at h5
    |some j=>exact⟨j,rfl⟩
   obtain ⟨l,e1,e2,e3⟩:=places_run gs.toList w (fun f hf=>by
    obtain ⟨i,hi⟩:=List.mem_iff_getElem?.1 hf
    obtain ⟨_,_,_,_,j⟩:=hall i f hi
    exact j)
   have hpl: ∀i q,fldPlaces tt fs i=some q→l[i]? =some q:=by
    intro i q hq
    unfold fldPlaces at hq
    split at hq
    ·rename_i ft fo hf
     split at hq
     ·rename_i fi hfi
      injection hq with hq
      subst hq
      have hlt:=(List.getElem?_eq_some_iff.1 hf).1
      have hg:gs.toList[i]? =some (gs.toList[i]'(by simp;omega)):=List.getElem?_eq_getElem (by simp;omega)
      obtain ⟨f,q1,q2,q3,j,q4⟩:=hall i _ hg
      rw[hf] at q1
      injection q1 with q1
      subst q1
      obtain ⟨j',z',r1,r2,_⟩:=tt_info hT hfi
      rw[e3 i _ j hg q4,←q3]
      simp only at q2
      rw[← q2,r1] at q4
      injection q4 with q4
      rw[← q4,r2]
     ·simp at hq
    ·simp at hq
   have hex:=fill_places _ _ hK
   obtain ⟨c',cs',f1,f2,f3⟩:=fill_run parts.toList hR ti.zero z.cells _ hzc hK
   rw[forceL_eq] at f3
   refine up_pure hR hN (v:=.agg c') ?_ (agg_of_CRel f2) f3
   have hfill:Instr.fill (fun i=>l[i]?) z.cells (parts.toList.map fun (i,x)=>(i,a.eval x))=some c':=by
    rw[← f1]
    refine fill_congr _ _ fun x hx=>?_
    simp only[List.mem_map] at hx
    obtain ⟨y,hy,rfl⟩:=hx
    obtain ⟨q,hq⟩:=hex (y.1,evalO (get s.ρ) y.2) (by simp only[partsO,List.mem_map];exact⟨y,hy,rfl⟩)
    simp only at hq⊢
    rw[hq]
    exact hpl _ _ hq
   have harr:(gs.mapM fun f=>do pure (f.offset,←sizeOf f.type):Sem (Array (Nat×Nat))).run P w=.ok l.toArray w:=by
    rw[Array.mapM_eq_mapM_toList]
    rw[Sem.run_map,e1]
    rfl
   simp only[execOp,hop,Instr.build,Sem.run_bind,hz,Result.andThen_ok,run_under hu,harr]
   simp only[List.getElem?_toArray,hparts,hfill]
   rfl
  |_=>simp[agreeK] at hag
 ·rename_i len e hk
  have hu:=und_arr hT ht hk
  split at hK
  ·exact hK.elim
  rename_i ei he
  obtain ⟨c',cs',f1,f2,f3⟩:=fill_run parts.toList hR ti.zero z.cells _ hzc hK
  rw[forceL_eq] at f3
  refine up_pure hR hN (v:=.agg c') ?_ (agg_of_CRel f2) f3
  simp only[execOp,hop,Instr.build,Sem.run_bind,hz,Result.andThen_ok,run_under hu,run_size hT he,hparts,f1]
  rfl
 ·exact hK.elim
theorem repRow_get (z:List AV) (hz:0<z.length) (n:Nat): ∀i,(repRow z n)[i]? =if i<n * z.length then z[i % z.length]? else none:=by
 induction n with
 |zero=>intro i;simp[repRow]
 |succ n ih=>
  intro i
  simp only[repRow]
  by_cases h:i<z.length
  ·rw[List.getElem?_append_left h,if_pos (by rw[Nat.add_mul];omega),Nat.mod_eq_of_lt h]
  ·rw[List.getElem?_append_right (by omega),ih]
   rw[Nat.mod_eq_sub_mod (by omega:i≥z.length)]
   by_cases h2:i-z.length<n * z.length
   ·rw[if_pos h2,if_pos (by rw[Nat.add_mul];omega)]
   ·rw[if_neg h2,if_neg (by rw[Nat.add_mul];omega)]
theorem repRow_length (z:List AV) (n:Nat):(repRow z n).length=n * z.length:=by
 induction n with
 |zero=>simp[repRow]
 |succ n ih=>simp[repRow,ih,Nat.add_mul];omega
def PQ.addR (p:PQ) (r0:Nat) (h: ¬p.u r0):PQ:=
 ⟨fun b=>p.r b∨b=r0,fun b=>p.u b∨b=r0,p.f,fun b hb=>hb.imp (p.sub b) id,fun b hb=>.inl (p.fu b hb),fun b hb hr=>hr.elim (p.fr b hb) fun e=>h (e▸p.fu b hb)⟩
theorem add_rel {H:Heap} (hH:HRel p σ H w) (ob:Obj): ∃h,Ext p w (p.addR w.heap.size h) (pushW w ob)∧HRel (p.addR w.heap.size h) σ H (pushW w ob):=by
 have h0: ¬p.u w.heap.size:=fun h=>Nat.lt_irrefl _ (hH.lt _ h)
 have he:Ext p w (p.addR w.heap.size h0) (pushW w ob):=
  ⟨fun b h=>.inl h,fun b h=>.inl h,fun b (h:p.r b∨b=w.heap.size)=>h.imp id (fun (e:b=w.heap.size)=>by rw[e];exact h0),fun b h=>h,fun b h=>.inl h,fun b h _=>pushW_old (hH.lt b h),.push w ob⟩
 refine⟨h0,he,hH.keep he ⟨rfl,fun b hb=>pushW_old (hH.lt b (p.fu b hb))⟩ (fun b hb=>?_) fun i k r hk hr=>?_⟩
 ·rw[pushW_size]
  rcases hb with hb|rfl
  ·have:=hH.lt b hb;omega
  ·omega
 ·obtain ⟨r',h1,h2,h3,h4⟩:=hH.blk i k hk
  rw[hr] at h1
  injection h1 with h1
  subst h1
  exact⟨fun h=>h.elim h2 (fun e=>by omega),pushW_old h3⟩
theorem datRel {cs:List AV} {c:Array Value} {e:TypeId} {l:List D} (w0:World) (hsz:w0.heap.size=w.heap.size) (hcl:cs.length≤c.size) (hc: ∀(i:Nat) (x:AV) (v:Value),cs[i]? =some x→c[i]? =some v→VRel p σ w0 x v∧one v=true) (hl:toDL cs=some l) {n sz cap:Nat} (hn:cs.length=n * sz) (hB:n≤LB) (hcap:n≤cap) (h0: ¬p.u w.heap.size)
  (he:Ext p w0 (p.addR w.heap.size h0) (pushW w (.cells c e))):VRel (p.addR w.heap.size h0) σ (pushW w (.cells c e)) (.d (.sl (chunkD sz n l))) (.slice (some ⟨w.heap.size,0,none⟩) n cap):=by
 obtain ⟨g1,g2⟩:=toDL_get hl
 have hlt: ∀i j,i<n→j<sz→i * sz+j<n * sz:=fun i j hi hj=>by
  have:(i+1) * sz≤n * sz:=Nat.mul_le_mul_right _ hi
  rw[Nat.add_mul] at this
  omega
 refine .sl _ _ n cap sz (fun i j=>c.getD (i * sz+j) undef) (chunkD_length sz n l) hB hcap (fun i row h=>?_) (fun hn0=>⟨w.heap.size,0,rfl,.inr rfl,fun i j hi hj=>?_⟩) (fun i row j x h hx=>?_)
 ·rw[chunkD_get] at h
  split at h
  ·rename_i hi
   injection h with h
   subst h
   have:(i+1) * sz≤n * sz:=Nat.mul_le_mul_right _ hi
   rw[Nat.add_mul] at this
   simp[g1,hn]
   omega
  ·simp at h
 ·have:=hlt i j hi hj
  simp only[World.cell?,pushW_new,Nat.zero_add]
  rw[Array.getD_eq_getD_getElem?,Array.getElem?_eq_getElem (by omega)]
  simp
 ·rw[chunkD_get] at h
  split at h
  ·rename_i hi
   injection h with h
   subst h
   rw[List.getElem?_take] at hx
   split at hx
   ·rename_i hj
    rw[List.getElem?_drop] at hx
    have:=hlt i j hi hj
    have hx':cs[i * sz+j]? =some (cs[i * sz+j]'(by omega)):=List.getElem?_eq_getElem _
    have hy:=g2 _ _ _ hx' hx
    have hv:c[i * sz+j]? =some (c.getD (i * sz+j) undef):=by
     rw[Array.getD_eq_getD_getElem?,Array.getElem?_eq_getElem (by omega)]
     simp
    exact toD1_rel hy ((hc _ _ _ hx' hv).1.mono he (fun _ _ h=>h))
   ·simp at hx
  ·simp at h
theorem snd_buildSlice (hT:TTok P tt) (hR:Rel p σ s a w) (hN:Nx p σ w K o a next) {t:TypeId} {len:Nat} {parts:Array (Nat×Operand)} (hop:o.op=.buildSlice t len parts) (hK:opK P tt (.buildSlice t len parts) (get s.ρ) s.H K):
  o.uponIn F n P a next Q ((execOp a.eval o).run P w):=by
 simp only[opK] at hK
 split at hK
 ·exact hK.elim
 rename_i ti ht
 have hparts:(parts.map fun (x:Nat×Operand)=>(x.1,a.eval x.2)).toList=parts.toList.map fun (i,x)=>(i,a.eval x):=by simp
 split at hK
 ·rename_i e hk
  have hu:=und_slice hT ht hk
  split at hK
  ·exact hK.elim
  rename_i ei he
  obtain ⟨z,hz,hzc⟩:=zero_CRel hT he p σ w
  split at hK
  ·rename_i hb
   have hb:=Nat.le_of_ble_eq_true hb
   split at hK
   ·rename_i hzl
    have hzl:=Nat.eq_of_beq_eq_true hzl
    let z':Array Value:=if len * ei.size=0 then #[] else z.cells
    have hcr:CRel p σ w (repRow ei.zero len) ((Array.range (len * ei.size)).map (z'[· % z'.size]!)):=by
     refine⟨by simp[repRow_length,hzl],fun i x v hx hv=>?_⟩
     by_cases h0:len * ei.size=0
     ·have:=(Array.getElem?_eq_some_iff.1 hv).1
      simp[h0] at this
     ·have hpos:0<ei.zero.length:=by
       rw[hzl]
       rcases Nat.eq_zero_or_pos ei.size with h|h
       ·simp[h] at h0
       ·exact h
      rw[repRow_get _ hpos] at hx
      split at hx
      ·rename_i hi
       have hz':z'=z.cells:=by simp[z',h0]
       rw[hz'] at hv
       simp only[Array.getElem?_map] at hv
       rw[Array.getElem?_eq_getElem (by simp;rw[← hzl];exact hi)] at hv
       simp only[Array.getElem_range,Option.map_some,Option.some.injEq] at hv
       have hsz:z.cells.size=ei.zero.length:=hzc.1
       have hlt:i % z.cells.size<z.cells.size:=Nat.mod_lt _ (by omega)
       rw[getElem!_pos z.cells _ hlt] at hv
       refine hzc.2 (i % ei.zero.length) x v hx ?_
       rw[← hv]
       simp only[hsz]
       rw[Array.getElem?_eq_getElem (by rw[hsz];exact Nat.mod_lt _ hpos)]
      ·simp at hx
    obtain ⟨c',cs',f1,f2,f3⟩:=fill_run parts.toList hR _ _ _ hcr hK
    rw[forceL_eq] at f3
    have hcs':cs'.length=len * ei.size:=by
     rw[← f2.1]
     have key: ∀(pl:Nat→Option (Nat×Nat)) (ps:List (Nat×Value)) (c c':Array Value),Instr.fill pl c ps=some c'→c'.size=c.size:=by
      intro pl ps
      induction ps with
      |nil=>intro c c' h;simp[Instr.fill] at h;rw[h]
      |cons y t ih=>
       intro c c' h
       simp only[Instr.fill] at h
       split at h
       ·simp at h
       ·split at h
        ·simp at h
        ·rw[ih _ _ h,←Array.foldl_toList,Array.toList_zipIdx,foldl_splice,spliceA_size]
     rw[key _ _ _ _ f1]
     simp
    have hlenB:len≤LB:=by
     have h2:(1000:Nat)≤LB:=by decide
     omega
    have hrun:(execOp a.eval o).run P w=.ok (.value (.slice (some ⟨w.heap.size,0,none⟩) len len)) (pushW w (.cells c' e)):=by
     have h24: ¬(2 ^ 24<len * ei.size):=by omega
     simp only[execOp,hop,Instr.buildSlice,Sem.run_bind,run_under hu,Result.andThen_ok,run_size hT he]
     rw[if_neg (by omega)]
     by_cases h0:len * ei.size=0
     ·have hz0:z'= #[]:=by simp[z',h0]
      rw[hz0] at f1
      rw[if_pos h0]
      simp[h0] at f1
      simp[h0,hparts,f1,newRow,pushW]
     ·have hz0:z'=z.cells:=by simp[z',h0]
      rw[hz0] at f1
      rw[if_neg h0]
      simp only[Sem.run_bind,Sem.run_pure,hz,Result.andThen_ok,hparts,f1]
      simp[newRow,pushW]
    rcases Ch_e f3 with f3|f3
    ·rw[pushK_eq] at f3
     exact up_push (ob:=.cells c' e) hR hN (v:=.slice (some ⟨w.heap.size,0,none⟩) len len) hrun
      (brel_new (by rw[f2.1];exact Nat.le_refl _) fun i x v hx hv=>⟨(f2.2 i x v hx hv).1.mono (.push hR.heap.lt _) (mono_append _),(f2.2 i x v hx hv).2⟩)
      (.msl _ _ _ _ _ w.heap.size len (new_name hR) hlenB (Nat.le_refl _) ⟨Nat.le_refl _,hlenB⟩ ⟨c',e,(0,0),pushW_new,by rw[f2.1,hcs'];omega⟩) f3
    ·unfold datK at f3
     split at f3
     ·exact up_val hrun (hN _ .esl _ p σ s.H (.push hR.heap.lt _) (.refl σ) (.esl _) (hR.heap.keep (.push hR.heap.lt _) ⟨rfl,fun b hb=>pushW_old (hR.heap.lt b (p.fu b hb))⟩ (fun b hb=>by rw[pushW_size];have:=hR.heap.lt b hb;omega) fun i k r hk hr=>by
       obtain ⟨r',g1,g2,g3,_⟩:=hR.heap.blk i k hk
       rw[hr] at g1
       injection g1 with g1
       subst g1
       exact⟨g2,pushW_old g3⟩) f3)
     split at f3
     ·rename_i l hl
      obtain ⟨h0,he,hH'⟩:=add_rel hR.heap (.cells c' e)
      exact up_val hrun (hN _ _ _ _ σ s.H he (.refl σ) (datRel w rfl (by rw[f2.1];exact Nat.le_refl _) f2.2 hl hcs' hlenB (Nat.le_refl _) h0 he) hH' f3)
     ·exact f3.elim
   ·exact hK.elim
  ·exact hK.elim
 ·exact hK.elim
theorem snd_range (hT:TTok P tt) (hR:Rel p σ s a w) (hN:Nx p σ w K o a next) {t:TypeId} {x:Operand} (hop:o.op=.range t x) (hK:opK P tt (.range t x) (get s.ρ) s.H K):
  o.uponIn F n P a next Q ((execOp a.eval o).run P w):=by
 simp only[opK] at hK
 split at hK
 ·exact hK.elim
 rename_i ti ht
 split at hK
 ·rename_i hk
  have hu:=und_str hT ht hk
  have hx:=evalO_rel hR x
  split at hK
  ·rename_i st hbx
   rw[hbx] at hx
   generalize hv:a.eval x=v at hx
   cases hx with
   |str _ hs=>
   rw[pushK_eq] at hK
   refine up_push (ob:=.stringIter st 0) hR hN (v:=.pointer (some ⟨w.heap.size,0,none⟩)) ?_ (k:=.iter st 0) pushW_new (.ptr _ _ _ (new_name hR)) hK
   simp[execOp,hop,Instr.range,run_under hu,hv,pushW]
  ·exact hK.elim
 ·exact hK.elim
theorem snd_next (hR:Rel p σ s a w) (hN:Nx p σ w K o a next) {it:Operand} {isS:Bool} (hop:o.op=.next it isS) (hK:opK P tt (.next it isS) (get s.ρ) s.H K):
  o.uponIn F n P a next Q ((execOp a.eval o).run P w):=by
 simp only[opK] at hK
 split at hK
 ·exact hK.elim
 have hx:=evalO_rel hR it
 split at hK
 ·rename_i b hbx
  rw[hbx] at hx
  generalize hv:a.eval it=v at hx
  cases hx with
  |ptr _ _ r hr=>
  split at hK
  ·rename_i st pos hb
   obtain ⟨r',h1,h2,h3,h4⟩:=hR.heap.blk b _ hb
   rw[hr] at h1
   injection h1 with h1
   subst h1
   have h4':w.heap[r]? =some (.stringIter st pos):=h4
   simp only[Br] at hK
   split at hK
   ·rename_i hd
    have hd:=of_decide_eq_true hd
    rw[setK_eq] at hK
    have hsh:Shape w (setW w r (.stringIter st (pos+(Utf8.decode st pos).2))):=.setOther h4' (fun _ _ _ h=>by simp at h)
    have hH:=hR.heap.set hb hr (.stringIter st (pos+(Utf8.decode st pos).2)) hsh (.iter st (pos+(Utf8.decode st pos).2)) (setW_same h3)
    refine up_val (w':=setW w r (.stringIter st (pos+(Utf8.decode st pos).2))) (v:=.tuple #[.bool true,goInt pos,.int .i32 (Utf8.decode st pos).1]) ?_ (hN _ _ _ p σ _ (.set h2 hsh) (.refl σ) ?_ hH hK)
    ·simp[execOp,hop,Instr.next,hv,getObj,setObj,Sem.run,h4',hd,setW]
    ·refine .tup _ _ rfl (fun i x v hx hv=>?_)
     rcases i with _|_|_|i
     ·simp at hx hv;subst hx hv;exact .bool _
     ·simp at hx hv;subst hx hv;exact .int _ _
     ·simp at hx hv;subst hx hv;exact .int _ _
     ·simp at hx
   ·rename_i hd
    have hd:=of_decide_eq_false hd
    refine up_pure hR hN (v:=.tuple #[.bool false]) ?_ (.tup _ _ rfl (fun i x v hx hv=>?_)) hK
    ·simp[execOp,hop,Instr.next,hv,getObj,Sem.run,h4',hd]
    ·rcases i with _|i
     ·simp at hx hv;subst hx hv;exact .bool _
     ·simp at hx
  ·exact hK.elim
 ·exact hK.elim
end
end Go.Eng
namespace Go.Eng
open Go
section
variable {P:Program} {tt:TT} {p:PQ} {σ:List Nat} {s:St} {a:Act} {w:World} {F:Fence} {n:Nat} {o:Oper} {Q:Exit→Act→World→Prop} {next:Act→World→Prop} {K:AV→Heap→Prop}
theorem arg_at (hR:Rel p σ s a w) {l:Array Operand} {x:AV} {r:List AV} (h:mapO (get s.ρ) l.toList=x::r): ∃v,(l.map a.eval)[0]? =some v∧VRel p σ w x v:=by
 obtain ⟨h1,h2⟩:=args_rel hR l
 have hlt:0<(l.map a.eval).size:=by rw[h1,h];simp
 exact⟨_,Array.getElem?_eq_getElem hlt,h2 0 x _ (by rw[h];rfl) (Array.getElem?_eq_getElem hlt)⟩
theorem arg_at1 (hR:Rel p σ s a w) {l:Array Operand} {x y:AV} {r:List AV} (h:mapO (get s.ρ) l.toList=x::y::r): ∃v,(l.map a.eval)[1]? =some v∧VRel p σ w y v:=by
 obtain ⟨h1,h2⟩:=args_rel hR l
 have hlt:1<(l.map a.eval).size:=by rw[h1,h];simp
 exact⟨_,Array.getElem?_eq_getElem hlt,h2 1 y _ (by rw[h];rfl) (Array.getElem?_eq_getElem hlt)⟩
theorem len_run (hT:TTok P tt) {t:Nat} {ti:TI} (ht:tt t=some ti) {x:AV} {v:Value} (hv:VRel p σ w x v) {ts vs:Array Value} {ats:Array TypeId} {ty:TypeId} (h0:ats[0]? =some t) (h1:vs[0]? =some v)
  {K:AV→Prop} (hK:lenK ti x K): ∃r z,(Builtin.len_ ats ty vs).run P w=.ok r w∧VRel p σ w z r∧K z:=by
 unfold lenK at hK
 simp only[LenK_eq] at hK
 split at hK
 ·rename_i hk
  have hu:=und_str hT ht hk
  split at hK
  ·cases hv with
   |str _ hs=>exact⟨_,_,by simp[Builtin.len_,h0,h1,run_under hu,goInt],.int _ _,hK hs⟩
  ·exact hK.elim
 ·rename_i e hk
  have hu:=und_slice hT ht hk
  split at hK
  ·cases hv with
   |sl _ ad nn cap sz vals hn hB hc hrow hcells hvs=>
   refine⟨.int .i64 nn,_,by simp[Builtin.len_,h0,h1,run_under hu,goInt],.int _ _,?_⟩
   rw[← hn]
   exact hK (by omega)
  ·cases hv
   exact⟨_,_,by simp[Builtin.len_,h0,h1,run_under hu,goInt],.int _ _,hK⟩
  ·cases hv with
   |msl _ _ _ _ _ r cap hr hB hc hcl hblk=>exact⟨_,_,by simp[Builtin.len_,h0,h1,run_under hu,goInt],.int _ _,hK hB⟩
  ·cases hv
   exact⟨_,_,by simp[Builtin.len_,h0,h1,run_under hu,goInt],.int _ _,hK⟩
  ·exact hK.elim
 ·rename_i len e hk
  have hu:=und_arr hT ht hk
  exact⟨_,_,by simp[Builtin.len_,h0,h1,run_under hu,goInt],.int _ _,hK⟩
 ·exact hK.elim
theorem mm_run (mx:Bool) (l:List AV): ∀(x:AV) (v:Value) (us:List Value) (K:AV→Prop),VRel p σ w x v→us.length=l.length→(∀ (i:Nat) (y:AV) (u:Value),l[i]? =some y→us[i]? =some u→VRel p σ w y u)→
  mmK mx x l K→ ∃r z,(us.foldlM (if mx then Builtin.max2 else Builtin.min2) v:Sem Value).run P w=.ok r w∧VRel p σ w z r∧K z:=by
 induction l with
 |nil=>
  intro x v us K hv hl _ hK
  have:us=[]:=List.eq_nil_of_length_eq_zero hl
  subst this
  rw[mmK,force_eq] at hK
  exact⟨v,x,by simp,hv,hK⟩
 |cons y t ih=>
  intro x v us K hv hl hr hK
  cases us with
  |nil=>simp at hl
  |cons u us=>
   have hu:=hr 0 y u rfl rfl
   unfold mmK at hK
   split at hK
   ·rename_i k a
    cases hv
    split at hK
    ·rename_i k' b
     cases hu
     split at hK
     ·obtain ⟨r,z,h1,h2,h3⟩:=ih _ (.int k (if b>a then b else a)) us K (.int _ _) (by simpa using hl) (fun i y u hy hu=>hr (i+1) y u hy hu) hK
      exact⟨r,z,by simpa [List.foldlM_cons,Builtin.max2] using h1,h2,h3⟩
     ·obtain ⟨r,z,h1,h2,h3⟩:=ih _ (.int k (if b<a then b else a)) us K (.int _ _) (by simpa using hl) (fun i y u hy hu=>hr (i+1) y u hy hu) hK
      exact⟨r,z,by simpa [List.foldlM_cons,Builtin.min2] using h1,h2,h3⟩
    ·exact hK.elim
   ·exact hK.elim
theorem flatten_get {α:Type} (sz:Nat) (hs:0<sz) (rows:List (List α)):(∀ (i:Nat) (row:List α),rows[i]? =some row→row.length=sz)→ ∀(k:Nat),rows.flatten[k]? =(rows[k / sz]?).bind (·[k % sz]?):=by
 induction rows with
 |nil=>intro _ k;simp
 |cons r t ih=>
  intro h k
  have hr:r.length=sz:=h 0 r rfl
  rw[List.flatten_cons]
  by_cases hk:k<sz
  ·rw[List.getElem?_append_left (by omega),Nat.div_eq_of_lt hk,Nat.mod_eq_of_lt hk]
   rfl
  ·rw[List.getElem?_append_right (by omega),ih (fun i row hi=>h (i+1) row hi),hr]
   rw[Nat.mod_eq_sub_mod (by omega:k≥sz)]
   have:k / sz=(k-sz) / sz+1:=by
    rw[Nat.div_eq_sub_div hs (by omega)]
   rw[this]
   rfl
theorem flatten_length {α:Type} (sz:Nat) (rows:List (List α)):(∀ (i:Nat) (row:List α),rows[i]? =some row→row.length=sz)→rows.flatten.length=rows.length * sz:=by
 induction rows with
 |nil=>intro _;simp
 |cons r t ih=>
  intro h
  rw[List.flatten_cons,List.length_append,ih (fun i row hi=>h (i+1) row hi),h 0 r rfl,List.length_cons,Nat.add_mul]
  omega
theorem und_ni (hT:TTok P tt) {u:Nat} {ui:TI} (hu:tt u=some ui) (huk:(∃ e,ui.k=.slice e)∨ui.k=.str): ∃uu,P.underlying u=some uu∧(Builtin.append_.match_1 (fun _=>Bool) uu (fun _=>true) fun _=>false)=false:=by
 obtain ⟨uu,h1,hag⟩:=tt_und hT hu
 refine⟨uu,h1,?_⟩
 rcases huk with ⟨e,hk⟩|hk <;> rw[hk] at hag <;> cases uu <;> first|rfl|simp[agreeK] at hag
theorem new_run (hR:HRel p σ s.H w) {sz m:Nat} {x:AV} {v:Value} {cs:List AV} (hv:VRel p σ w x v) (hm:newLen x=some m) (hc:newCells s.H sz x=some cs) (hl:cs.length=m * sz):
  (Builtin.lenOf v).run P w=.ok m w∧ ∃nc,(Builtin.firstCells sz m v).run P w=.ok nc w∧CRel p σ w cs nc:=by
 unfold newLen at hm
 unfold newCells at hc
 split at hm
 ·cases hv
  injection hm with hm
  subst hm
  injection hc with hc
  subst hc
  exact⟨by simp[Builtin.lenOf],#[],by simp[Builtin.firstCells],rfl,fun i x v hx=>by simp at hx⟩
 ·rename_i rows
  injection hm with hm
  injection hc with hc
  subst hc
  cases hv with
  |sl _ ad nn cap sz0 vals hn hB hcap hrow hcells hvs=>
  subst hm
  rw[← hn] at hcells⊢
  refine⟨by simp[Builtin.lenOf],?_⟩
  by_cases h0:rows.length=0
  ·have:rows=[]:=List.eq_nil_of_length_eq_zero h0
   subst this
   refine⟨#[],?_,rfl,fun i x v hx=>by simp at hx⟩
   cases ad <;> simp[Builtin.firstCells,loadCells,loadCellsFrom]
  ·obtain ⟨r,o,rfl,hp,hcs⟩:=hcells h0
   have hfl:rows.flatten.length=rows.length * sz0:=flatten_length sz0 rows hrow
   rw[List.length_map,hfl] at hl
   have hsz:sz0=sz:=Nat.eq_of_mul_eq_mul_left (by omega) hl
   subst hsz
   rcases Nat.eq_zero_or_pos sz0 with hz|hz
   ·subst hz
    refine⟨#[],by simp[Builtin.firstCells,loadCells,loadCellsFrom],?_,fun i x v hx hv=>?_⟩
    ·rw[List.length_map,hfl];simp
    ·simp at hv
   ·have hrun:=run_loadFrom P (w:=w) (r:=r) (o:=o) (vals:=fun k=>vals (k / sz0) (k % sz0)) (rows.length * sz0) 0 #[] (fun k _ hk=>by
     have h1:k / sz0<rows.length:=Nat.div_lt_of_lt_mul (by rw[Nat.mul_comm];simpa using hk)
     have h2:k % sz0<sz0:=Nat.mod_lt _ hz
     have:=hcs (k / sz0) (k % sz0) h1 h2
     rwa [show o+k / sz0 * sz0+k % sz0=o+k by rw[Nat.add_assoc,Nat.div_add_mod']] at this)
    refine⟨_,by simp only[Builtin.firstCells,loadCells];exact hrun,by rw[List.length_map,hfl];simp,fun k x v hx hv=>?_⟩
    rw[List.getElem?_map,flatten_get sz0 hz rows hrow] at hx
    simp only[Array.empty_append,List.getElem?_toArray,rmap_get] at hv
    split at hv
    ·injection hv with hv
     subst hv
     cases hr:rows[k / sz0]? with
     |none=>simp[hr] at hx
     |some row=>
      simp only[hr,Option.bind_some] at hx
      cases hd:row[k % sz0]? with
      |none=>simp[hd] at hx
      |some d=>
       simp only[hd,Option.map_some,Option.some.injEq] at hx
       subst hx
       exact⟨hvs _ _ _ _ hr hd,(hvs _ _ _ _ hr hd).d_one⟩
    ·simp at hv
 ·rename_i st
  injection hm with hm
  have hc2:(match Nat.beq sz 1 with
   |true=>some (st.data.toList.map fun c=>AV.d (.int .u8 c.toNat))
   |false=>none)=some cs:=hc
  clear hc
  split at hc2
  ·rename_i hsz
   injection hc2 with hc
   subst hc
   have hsz:=Nat.eq_of_beq_eq_true hsz
   subst hsz hm
   cases hv with
   |str _ hs=>
   refine⟨by simp[Builtin.lenOf],_,by simp only[Builtin.firstCells];rfl,by simp,fun i x v hx hv=>?_⟩
   rw[ByteArray.extract_zero_size] at hv
   rw[List.getElem?_map] at hx
   rw[Array.getElem?_map] at hv
   cases hq:st.data.toList[i]? with
   |none=>rw[hq] at hx;simp at hx
   |some c=>
    rw[hq] at hx
    rw[Array.getElem?_toList] at hq
    rw[hq] at hv
    simp at hx hv
    subst hx hv
    exact⟨.int _ _,rfl⟩
  ·simp at hc2
 ·rename_i b off len cl sz'
  injection hm with hm
  subst hm
  cases hv with
  |msl _ _ _ _ _ r cap hr hB hcap hcl hblk=>
  simp only at hc
  split at hc
  ·rename_i cs0 hcs0
   split at hc
   ·rename_i hb
    have hb:=Nat.le_of_ble_eq_true hb
    injection hc with hc
    subst hc
    obtain ⟨r',c,e',fr,g1,g2,g3,g4,g5,g6⟩:=row_at hR hcs0
    rw[hr] at g1
    injection g1 with g1
    subst g1
    refine⟨by simp[Builtin.lenOf],c.extract off (off+len * sz),?_,?_,fun i x v hx hv=>?_⟩
    ·have:=run_loadCells P (o:=off) g3 (len * sz) 0 #[] (by omega)
     simp only[Builtin.firstCells,loadCells]
     simpa using this
    ·simp[sub]
     omega
    ·rw[sub_get] at hx
     rw[Array.getElem?_extract] at hv
     split at hx
     ·split at hv
      ·exact g6 _ x v hx hv
      ·simp at hv
     ·simp at hx
   ·simp at hc
  ·simp at hc
 ·injection hm with hm
  subst hm
  injection hc with hc
  subst hc
  cases hv with
  |esl ao=>exact⟨by simp[Builtin.lenOf],#[],by cases ao <;> simp[Builtin.firstCells,loadCells,loadCellsFrom],rfl,fun i x v hx=>by simp at hx⟩
 ·simp at hm
theorem growBy_le (newLen:Nat) (r:Nat): ∀c,c≤newLen+(newLen+768) / 4→Builtin.growBy newLen r c≤newLen+(newLen+768) / 4:=by
 induction r with
 |zero=>intro c h;exact h
 |succ r ih=>
  intro c h
  unfold Builtin.growBy
  split
  ·exact h
  ·exact ih _ (by omega)
theorem nextcap_le {need cap:Nat} (h:cap<need):Builtin.nextslicecap need cap≤2 * need+200:=by
 unfold Builtin.nextslicecap
 split
 ·omega
 ·split
  ·omega
  ·have:=growBy_le need 4 cap (by omega)
   omega
theorem HRel.adopt {p:PQ} {σ:List Nat} {H:Heap} {w:World} (h:HRel p σ H w) {r:Nat} (hp: ¬p.u r) (hlt:r<w.heap.size)
  (hn: ∀(i:Nat) (k:Blk),H[i]? =some (some k)→σ[i]? ≠some r) (k:Blk) (hk:BRel p (σ++[r]) w k r):HRel p (σ++[r]) (H++[some k]) w:=by
 have he:=Ext.refl p w
 refine⟨by simp[h.len],h.lt,fun i q hq=>?_,fun i j r2 a b ha hb hi hj=>?_,h.gl⟩
 ·rcases Nat.lt_or_ge i H.length with hi|hi
  ·rw[List.getElem?_append_left hi] at hq
   obtain ⟨r3,h1,h2,h3,h4⟩:=h.blk i q hq
   exact⟨r3,mono_append _ i r3 h1,h2,h3,h4.mono he (mono_append _) rfl (fun _=>⟨rfl,fun _ _=>rfl⟩)⟩
  ·have:i=H.length:=by
    have:=(List.getElem?_eq_some_iff.1 hq).1
    simp at this
    omega
   subst this
   simp at hq
   subst hq
   exact⟨r,by rw[← h.len];simp,hp,hlt,hk⟩
 ·have li:=(List.getElem?_eq_some_iff.1 ha).1
  have lj:=(List.getElem?_eq_some_iff.1 hb).1
  simp at li lj
  have key: ∀(i r2:Nat),i<H.length+1→(σ++[r])[i]? =some r2→(i=H.length∧r2=r)∨(i<H.length∧σ[i]? =some r2):=by
   intro i r2 hi hr
   rcases Nat.lt_or_ge i H.length with hl|hl
   ·right
    rw[List.getElem?_append_left (by rw[h.len];exact hl)] at hr
    exact⟨hl,hr⟩
   ·left
    have:i=H.length:=by omega
    subst this
    rw[← h.len] at hr
    simp at hr
    exact⟨rfl,hr.symm⟩
  rcases key i r2 li hi with ⟨e1,e2⟩|⟨e1,e2⟩ <;> rcases key j r2 lj hj with ⟨f1,f2⟩|⟨f1,f2⟩
  ·omega
  ·exfalso
   rw[List.getElem?_append_left f1] at hb
   exact hn j b hb (by rw[f2,e2])
  ·exfalso
   rw[List.getElem?_append_left e1] at ha
   exact hn i a ha (by rw[e2,f2])
  ·rw[List.getElem?_append_left e1] at ha
   rw[List.getElem?_append_left f1] at hb
   exact h.inj i j r2 a b ha hb e2 f2
end
end Go.Eng
namespace Go.Eng
open Go
section
variable {P:Program} {tt:TT} {p:PQ} {σ:List Nat} {s:St} {a:Act} {w:World} {F:Fence} {n:Nat} {o:Oper} {Q:Exit→Act→World→Prop} {next:Act→World→Prop} {K:AV→Heap→Prop}
theorem VRel.drawn {x:AV} {v:Value} (h:VRel p σ w x v) (k:Nat):VRel p σ { w with drawn:=k } x v:=h.mono (.drawn p w k) fun _ _ h=>h
theorem HRel.drawn {H:Heap} (h:HRel p σ H w) (k:Nat):HRel p σ H { w with drawn:=k }:=
 h.keep (.drawn p w k) ⟨rfl,fun _ _=>rfl⟩ h.lt fun i q r hq hr=>by
  obtain ⟨r',h1,h2,_⟩:=h.blk i q hq
  rw[hr] at h1
  injection h1 with h1
  subst h1
  exact⟨h2,rfl⟩
theorem zeroCells_size (z:Array Value) (n:Nat):(Builtin.zeroCells z n).size=n * z.size:=by simp[Builtin.zeroCells]
theorem zeroCells_get (z:Array Value) (n i:Nat) (h:i<n * z.size):(Builtin.zeroCells z n)[i]? =z[i % z.size]? :=by
 have h0:0<z.size:=by
  rcases Nat.eq_zero_or_pos z.size with h1|h1
  ·simp[h1] at h
  ·exact h1
 simp only[Builtin.zeroCells,Array.getElem?_map]
 rw[Array.getElem?_eq_getElem (by simp;exact h)]
 have hlt:i % z.size<z.size:=Nat.mod_lt _ h0
 simp only[Array.getElem_range,Option.map_some]
 rw[getElem!_pos z _ hlt,Array.getElem?_eq_getElem hlt]
theorem clear_run (hT:TTok P tt) (hH:HRel p σ s.H w) {t e:Nat} {ti ei:TI} (ht:tt t=some ti) (hk:ti.k=.slice e) (he:tt e=some ei) {b off len cl sz:Nat} {v:Value} (hv:VRel p σ w (.msl b off len cl sz) v)
  {ats:Array TypeId} {vs:Array Value} {ty:TypeId} (a0:ats[0]? =some t) (b0:vs[0]? =some v) {cs:List AV} (hold:rowOf s.H b=some cs) (h2:sz=ei.size) (hle:off+len * sz≤cs.length):
  ∃w',(Builtin.clear_ ats ty vs).run P w=.ok (.tuple #[]) w'∧Ext p w p w'∧HRel p σ (s.H.set b (some (.row (splice cs off (repRow ei.zero len))))) w':=by
 have hund:=und_slice hT ht hk
 subst h2
 cases hv with
 |msl _ _ _ _ _ r cap hr hB hc hcl hblk=>
 rcases Nat.eq_zero_or_pos len with h0|h0
 ·subst h0
  have hset:s.H.set b (some (.row (splice cs off (repRow ei.zero 0))))=s.H:=by
   simp only[repRow,splice]
   have hb:=rowOf_some hold
   apply List.ext_getElem?
   intro i
   rw[List.getElem?_set]
   split
   ·subst_vars
    rw[if_pos (List.getElem?_eq_some_iff.1 hb).1]
    exact hb.symm
   ·rfl
  rw[hset]
  refine⟨w,?_,.refl p w,hH⟩
  simp[Builtin.clear_,a0,b0,run_under hund]
 ·obtain ⟨z,hz,hzc⟩:=zero_CRel hT he p σ w
  obtain ⟨r',c,e',fr,h1,h2,h3,h4,h5,h6⟩:=row_at hH hold
  rw[hr] at h1
  injection h1 with h1
  subst h1
  have hzl:=tt_zlen hT he
  have hzs:z.cells.size=ei.size:=hzc.1.trans hzl
  have hrl:(repRow ei.zero len).length=len * ei.size:=by rw[repRow_length,hzl]
  have hus:(Builtin.zeroCells z.cells len).toList.length=len * ei.size:=by simp[zeroCells_size,hzs]
  have hu: ∀(i:Nat) (x:AV) (v:Value),(repRow ei.zero len)[i]? =some x→(Builtin.zeroCells z.cells len).toList[i]? =some v→VRel p σ w x v∧one v=true:=fun i x v hx hv=>by
   have hi:i<len * ei.size:=by rw[← hrl];exact(List.getElem?_eq_some_iff.1 hx).1
   have hpos:0<ei.zero.length:=by
    rw[hzl]
    rcases Nat.eq_zero_or_pos ei.size with h|h
    ·simp[h] at hi
    ·exact h
   rw[repRow_get _ hpos,if_pos (by rw[hzl];exact hi)] at hx
   have hv2:=hv
   rw[Array.getElem?_toList,zeroCells_get _ _ _ (by rw[hzs];exact hi),hzs,←hzl] at hv2
   exact hzc.2 _ x v hx hv2
  obtain ⟨hE,hH'⟩:=store_row hH hold hr h3 h4 h5 h6 (off:=off) (vs:=repRow ei.zero len) (us:=(Builtin.zeroCells z.cells len).toList) (by rw[hus,hrl]) (by rw[hrl];exact hle) hu
  refine⟨_,?_,hE,hH'⟩
  have hrun:=run_storeCells P (r:=r) (o:=off) (Builtin.zeroCells z.cells len).toList w c e' fr 0 h3 h5 (by rw[hus];omega) (fun v hv=>by
   obtain ⟨i,hi⟩:=List.mem_iff_getElem?.1 hv
   have hi':i<(repRow ei.zero len).length:=by rw[hrl,←hus];exact(List.getElem?_eq_some_iff.1 hi).1
   exact(hu i _ v (List.getElem?_eq_getElem hi') hi).2)
  obtain ⟨k,rfl⟩: ∃k,len=k+1:=⟨len-1,by omega⟩
  simp only[Builtin.clear_,a0,b0,run_under hund,Sem.run_bind,Sem.run_pure,Result.andThen_ok,hz,hrun]
  rfl
theorem app_new (hT:TTok P tt) (hH:HRel p σ s.H w) {t u e:Nat} {ti ui ei:TI} (ht:tt t=some ti) (hk:ti.k=.slice e) (hu:tt u=some ui) (huk:(∃ e,ui.k=.slice e)∨ui.k=.str) (he:tt e=some ei)
  {y:AV} {ao:Option Addr} {v':Value} (hy:VRel p σ w y v') {ats:Array TypeId} {vs:Array Value} {ty:TypeId} (a0:ats[0]? =some t) (a1:ats[1]? =some u) (b0:vs[0]? =some (.slice ao 0 0)) (b1:vs[1]? =some v')
  {m:Nat} {cs:List AV} (hm:newLen y=some m) (hcs:newCells s.H ei.size y=some cs) (hm0:0<m) (hb:(m+200) * ei.bytes≤2 ^ 46) (hB:m≤LB) (hl:cs.length=m * ei.size):
  ∃(cells:Array Value) (newCap:Nat),(Builtin.append_ ats ty vs).run P w=.ok (.slice (some ⟨w.heap.size,0,none⟩) m newCap) (pushW { w with drawn:=w.drawn+1 } (.cells cells e))∧m≤newCap∧cells.size=newCap * ei.size∧
   ∀(i:Nat) (x:AV) (v:Value),cs[i]? =some x→cells[i]? =some v→VRel p σ { w with drawn:=w.drawn+1 } x v∧one v=true:=by
 have hund:=und_slice hT ht hk
 obtain ⟨uu,hund2,hni⟩:=und_ni hT hu huk
 obtain ⟨j,zz,hj,_,hjb,hjz,_⟩:=tt_info hT he
 have hzl:=tt_zlen hT he
 have hLB:(LB:Int)≤IntKind.i64.max:=by decide
 obtain ⟨hlen,nc,hnc,hcr⟩:=new_run (P:=P) hH hy hm hcs hl
 let newCap:Nat:=(Question.appendCap m 0 e).cut (w.tape w.drawn (Question.appendCap m 0 e))
 have hcap:m≤newCap:=by simp only[newCap,Question.cut];omega
 let w1:World:={ w with drawn:=w.drawn+1 }
 have hnc1:=(new_run (P:=P) (s:=s) (w:=w1) (hH.drawn (w.drawn+1)) (hy.drawn (w.drawn+1)) hm hcs hl).2
 obtain ⟨nc1,hnc1,hcr1⟩:=hnc1
 obtain ⟨z,hz,hzs,_⟩:=run_zero hT he w1
 let cells:Array Value:= #[]++nc1++Builtin.zeroCells z.cells (newCap-m)
 have hsize:cells.size=newCap * ei.size:=by
  simp only[cells,Array.size_append,zeroCells_size,hcr1.1,hl,hzs,hzl]
  simp
  rw[← Nat.add_mul]
  congr 1
  omega
 have hnext: ¬(Builtin.nextslicecap m 0 * j.bytes>2 ^ 48):=by
  have:=nextcap_le (need:=m) (cap:=0) hm0
  have h2:Builtin.nextslicecap m 0 * j.bytes≤(2 * m+200) * j.bytes:=Nat.mul_le_mul_right _ this
  rw[← hjb] at hb
  have h3:(2 * m+200) * j.bytes≤2 * ((m+200) * j.bytes):=by
   rw[← Nat.mul_assoc]
   exact Nat.mul_le_mul_right _ (by omega)
  omega
 have hrun:(Builtin.append_ ats ty vs).run P w=.ok (.slice (some ⟨w.heap.size,0,none⟩) m newCap) (pushW w1 (.cells cells e)):=by
  have hi64: ¬((m:Int)>IntKind.i64.max):=by omega
  simp only[Builtin.append_,a0,a1,b0,b1]
  simp only[Sem.run_bind,run_under hund,Result.andThen_ok,run_size hT he,run_under hund2,hni,Sem.run_pure,hlen,run_info hj]
  simp only[Bool.false_eq_true,if_false,Nat.zero_add,false_and,Sem.run_bind,hlen,Result.andThen_ok]
  rw[if_neg (by omega)]
  simp only[Sem.run_bind,Sem.run_pure,Result.andThen_ok,run_info hj,hi64,false_and,if_false]
  rw[if_neg hnext]
  have hnil: ∀W:World,(Builtin.firstCells ei.size 0 (.slice ao 0 0)).run P W=.ok #[] W:=fun W=>by cases ao <;> simp[Builtin.firstCells,loadCells,loadCellsFrom]
  simp only[Sem.run_bind,run_choose,Question.forced,Bool.false_eq_true,if_false,Result.andThen_ok,run_info hj,run_askRoom,hnil,Sem.run_pure,hz,run_newObj,newRow,run_size hT he,Bool.not_false,if_true]
  rw[show (Sem.run P (Builtin.firstCells ei.size m v') w1)=_ from hnc1]
  simp only[Result.andThen_ok,hz]
  rfl
 refine⟨cells,newCap,hrun,hcap,hsize,fun i x v hx hv=>?_⟩
 have hi:=(List.getElem?_eq_some_iff.1 hx).1
 simp only[cells,Array.empty_append] at hv
 rw[Array.getElem?_append_left (by rw[hcr1.1];exact hi)] at hv
 exact hcr1.2 i x v hx hv
theorem app_fresh (hT:TTok P tt) (hH:HRel p σ s.H w) {t u e:Nat} {ti ui ei:TI} (ht:tt t=some ti) (hk:ti.k=.slice e) (hu:tt u=some ui) (huk:(∃ e,ui.k=.slice e)∨ui.k=.str) (he:tt e=some ei)
  {y:AV} {ao:Option Addr} {v':Value} (hy:VRel p σ w y v') {ats:Array TypeId} {vs:Array Value} {ty:TypeId} (a0:ats[0]? =some t) (a1:ats[1]? =some u) (b0:vs[0]? =some (.slice ao 0 0)) (b1:vs[1]? =some v')
  {m:Nat} {cs:List AV} (hm:newLen y=some m) (hcs:newCells s.H ei.size y=some cs)
  (hK:(0<m∧(m+200) * ei.bytes≤2 ^ 46∧m≤LB∧cs.length=m * ei.size)∧pushK s.H (.row cs) fun n H'=>K (.msl n 0 m m ei.size) H'):
  ∃r z w' σ' H',(Builtin.append_ ats ty vs).run P w=.ok r w'∧Ext p w p w'∧Mono σ σ'∧VRel p σ' w' z r∧HRel p σ' H' w'∧K z H':=by
 obtain ⟨⟨hm0,hb,hB,hl⟩,hK⟩:=hK
 rw[pushK_eq] at hK
 obtain ⟨cells,newCap,hrun,hcap,hsize,hcr1⟩:=app_new (ty:=ty) hT hH ht hk hu huk he hy a0 a1 b0 b1 hm hcs hm0 hb hB hl
 let w1:World:={ w with drawn:=w.drawn+1 }
 have he1:Ext p w p w1:=.drawn p w _
 have hH1:=hH.drawn (w.drawn+1)
 have hsz1:w1.heap.size=w.heap.size:=rfl
 refine⟨_,_,_,σ++[w1.heap.size],_,hrun,he1.trans (.push hH1.lt _),mono_append _,?_,hH1.push (.cells cells e) (.row cs) ?_,hK⟩
 ·refine .msl _ _ _ _ _ w.heap.size newCap (by rw[← hH.len];simp[w1]) hB hcap ⟨hcap,hB⟩ ⟨cells,e,(0,0),pushW_new (w:=w1),by rw[hsize];omega⟩
 ·refine brel_new (w:=w1) (by rw[hsize,hl];exact Nat.mul_le_mul_right _ hcap) fun i x v hx hv=>?_
  exact⟨(hcr1 i x v hx hv).1.mono (.push hH1.lt _) (mono_append _),(hcr1 i x v hx hv).2⟩
theorem toDL_d (l:List D):toDL (l.map .d)=some l:=by
 induction l with
 |nil=>rfl
 |cons x t ih=>simp[toDL,toD1,ih]
theorem chunk_flat {sz:Nat}: ∀(rows:List (List D)),(∀ row∈rows,row.length=sz)→chunkD sz rows.length rows.flatten=rows:=by
 intro rows
 induction rows with
 |nil=>intro _;rfl
 |cons r t ih=>
  intro h
  have hr:=h r (by simp)
  simp only[List.length_cons,chunkD,List.flatten_cons]
  rw[List.take_left' hr,List.drop_left' hr,ih fun row hx=>h row (by simp[hx])]
theorem appD_run (hT:TTok P tt) (hH:HRel p σ s.H w) {t u e:Nat} {ti ui ei:TI} (ht:tt t=some ti) (hk:ti.k=.slice e) (hu:tt u=some ui) (huk:(∃ e,ui.k=.slice e)∨ui.k=.str) (he:tt e=some ei)
  {x y:AV} {v v':Value} (hv:VRel p σ w x v) (hy:VRel p σ w y v') {ats:Array TypeId} {vs:Array Value} {ty:TypeId} (a0:ats[0]? =some t) (a1:ats[1]? =some u) (b0:vs[0]? =some v) (b1:vs[1]? =some v')
  {K:AV→Prop} (hK:appD ei x y K): ∃r z w' p',(Builtin.append_ ats ty vs).run P w=.ok r w'∧Ext p w p' w'∧VRel p' σ w' z r∧HRel p' σ s.H w'∧K z:=by
 have hund:=und_slice hT ht hk
 obtain ⟨uu,hund2,hni⟩:=und_ni hT hu huk
 have key: ∀(ao:Option Addr) (rows:List (List D)),(ao=none∨True)→v=.slice ao 0 0→y=.d (.sl rows)→(rows.length+200) * ei.bytes≤2 ^ 46∧rows.length≤LB∧(∀ row∈rows,row.length=ei.size)→K (.d (.sl rows))→
   ∃r z w' p',(Builtin.append_ ats ty vs).run P w=.ok r w'∧Ext p w p' w'∧VRel p' σ w' z r∧HRel p' σ s.H w'∧K z:=by
  rintro ao rows _ rfl rfl ⟨h1,h2,h3⟩ hK
  have hfl:(rows.flatten.map AV.d).length=rows.length * ei.size:=by rw[List.length_map];exact flatten_length ei.size rows fun i row h=>h3 row (List.mem_of_getElem? h)
  rcases Nat.eq_zero_or_pos rows.length with h0|h0
  ·have hr0:rows=[]:=List.eq_nil_of_length_eq_zero h0
   subst hr0
   have hy':=hy
   cases hy with
   |sl _ a n cap sz vals hn hB hc hrow hcells hv'=>
   simp only[List.length_nil] at hn
   subst hn
   have nil: ∀a:Option Addr,∀c:Nat,VRel p σ w (.d (.sl [])) (.slice a 0 c):=fun a c=>
    .sl [] a 0 c 0 (fun _ _=>undef) rfl (Nat.zero_le _) (Nat.zero_le _) (fun i row h=>by simp at h) (fun h=>absurd rfl h) (fun i row j x h=>by simp at h)
   refine⟨.slice ao 0 0,.d (.sl []),w,p,?_,.refl p w,nil _ _,hH,hK⟩
   cases ao <;> cases a <;> simp[Builtin.append_,a0,a1,b0,b1,run_under hund,run_under hund2,hni,run_size hT he,Builtin.lenOf,Builtin.firstCells,loadCells,loadCellsFrom,storeCells]
  ·obtain ⟨cells,newCap,hrun,hcap,hsize,hcr⟩:=app_new (ty:=ty) hT hH ht hk hu huk he hy a0 a1 b0 b1 (m:=rows.length) (cs:=rows.flatten.map .d) rfl rfl h0 h1 h2 hfl
   let w1:World:={ w with drawn:=w.drawn+1 }
   have he1:Ext p w p w1:=.drawn p w _
   have hH1:=hH.drawn (w.drawn+1)
   obtain ⟨g0,ge,gH⟩:=add_rel (w:=w1) hH1 (.cells cells e)
   have hd:=datRel (w:=w1) (e:=e) (c:=cells) w1 rfl (by rw[hfl,hsize];exact Nat.mul_le_mul_right _ hcap) hcr (toDL_d rows.flatten) (n:=rows.length) (sz:=ei.size) hfl h2 hcap g0 ge
   rw[chunk_flat rows h3] at hd
   exact⟨_,_,_,_,hrun,he1.trans ge,hd,gH,hK⟩
 unfold appD at hK
 simp only[NeedK_eq] at hK
 split at hK
 ·rename_i rows
  split at hK
  ·cases hv
   exact key none rows (.inl rfl) rfl rfl hK.1 hK.2
  ·cases hv with
   |esl ao=>exact key ao rows (.inr trivial) rfl rfl hK.1 hK.2
  ·obtain ⟨rfl,hK⟩:=hK
   have nil: ∀a:Option Addr,∀c:Nat,VRel p σ w (.d (.sl [])) (.slice a 0 c):=fun a c=>
    .sl [] a 0 c 0 (fun _ _=>undef) rfl (Nat.zero_le _) (Nat.zero_le _) (fun i row h=>by simp at h) (fun h=>absurd rfl h) (fun i row j x h=>by simp at h)
   cases hv with
   |sl _ a n cap sz vals hn _ _ _ _ _=>
   cases hy with
   |sl _ a' n' cap' sz' vals' hn' _ _ _ _ _=>
   simp only[List.length_nil] at hn hn'
   subst hn hn'
   refine⟨.slice a 0 cap,.d (.sl []),w,p,?_,.refl p w,nil _ _,hH,hK⟩
   cases a <;> cases a' <;> simp[Builtin.append_,a0,a1,b0,b1,run_under hund,run_under hund2,hni,run_size hT he,Builtin.lenOf,Builtin.firstCells,loadCells,loadCellsFrom,storeCells]
  ·exact hK.elim
 ·exact hK.elim
theorem app_inplace (hT:TTok P tt) (hH:HRel p σ s.H w) {t u e:Nat} {ti ui ei:TI} (ht:tt t=some ti) (hk:ti.k=.slice e) (hu:tt u=some ui) (huk:(∃ e,ui.k=.slice e)∨ui.k=.str) (he:tt e=some ei)
  {b off len cl sz:Nat} {y:AV} {v v':Value} (hv:VRel p σ w (.msl b off len cl sz) v) (hy:VRel p σ w y v') {ats:Array TypeId} {vs:Array Value} {ty:TypeId} (a0:ats[0]? =some t) (a1:ats[1]? =some u) (b0:vs[0]? =some v) (b1:vs[1]? =some v')
  {m:Nat} {cs old:List AV} (hm:newLen y=some m) (hcs:newCells s.H ei.size y=some cs) (hold:rowOf s.H b=some old) (h0:len+m≤cl) (h2:sz=ei.size)
  (hK:(off+(len+m) * sz≤old.length∧cs.length=m * sz∧len+m≤LB)∧setK s.H b (some (.row (splice old (off+len * sz) cs))) fun H'=>K (.msl b off (len+m) cl sz) H'):
  ∃r z w' σ' H',(Builtin.append_ ats ty vs).run P w=.ok r w'∧Ext p w p w'∧Mono σ σ'∧VRel p σ' w' z r∧HRel p σ' H' w'∧K z H':=by
 have hund:=und_slice hT ht hk
 obtain ⟨uu,hund2,hni⟩:=und_ni hT hu huk
 obtain ⟨⟨hol,hl,hB⟩,hK⟩:=hK
 rw[setK_eq] at hK
 cases hv with
 |msl _ _ _ _ _ r cap hr hB0 hc hcl hblk=>
 obtain ⟨r',c,e',fr,g1,g2,g3,g4,g5,g6⟩:=row_at hH hold
 rw[hr] at g1
 injection g1 with g1
 subst g1
 obtain ⟨c2,e2',fr2,q1,q2⟩:=hblk
 rw[g3] at q1
 injection q1 with q1
 injection q1 with q1 q4 q5
 subst q1 q4 q5
 subst h2
 obtain ⟨hlen,nc,hnc,hcr⟩:=new_run (P:=P) hH hy hm hcs hl
 have hncs:nc.size=m * ei.size:=by rw[hcr.1,hl]
 have hroom:len+m≤cap:=by omega
 have hmul:(len+m) * ei.size=len * ei.size+m * ei.size:=Nat.add_mul _ _ _
 obtain ⟨hex,hH2⟩:=store_row hH hold hr g3 g4 g5 g6 (off:=off+len * ei.size) (vs:=cs) (us:=nc.toList) (by simp[hcr.1]) (by omega) (fun i x v hx hv=>hcr.2 i x v hx (by simpa using hv))
 have hst:=run_storeCells P (r:=r) (o:=off+len * ei.size) nc.toList w c e' fr 0 g3 g5 (by simp[hncs];omega) (fun v hv=>by
  obtain ⟨i,hi,hv⟩:=List.mem_iff_getElem.1 hv
  simp at hi
  have hi':i<cs.length:=by rw[← hcr.1];exact hi
  exact(hcr.2 i (cs[i]'hi') v (List.getElem?_eq_getElem hi') (by rw[← hv];simp)).2)
 simp only[Nat.add_zero] at hst
 refine⟨.slice (some ⟨r,off,none⟩) (len+m) cap,_,_,σ,_,?_,hex,.refl σ,?_,hH2,hK⟩
 ·simp only[Builtin.append_,a0,a1,b0,b1]
  simp only[Sem.run_bind,run_under hund,Result.andThen_ok,run_size hT he,run_under hund2,hni,Sem.run_pure,hlen]
  simp only[Bool.false_eq_true,if_false,Sem.run_bind,Sem.run_pure,Result.andThen_ok,hlen]
  rw[if_pos hroom]
  simp only[Sem.run_bind,Bool.not_false,if_true,hnc,Result.andThen_ok,addr_add,hst,Sem.run_pure]
 ·exact .msl _ _ _ _ _ r cap hr hB hroom hcl ⟨_,e',fr,setW_same (lt_of_heap g3),by rw[spliceA_size];exact q2⟩
theorem app_run (hT:TTok P tt) (hH:HRel p σ s.H w) {t u e:Nat} {ti ui ei:TI} (ht:tt t=some ti) (hk:ti.k=.slice e) (hu:tt u=some ui) (huk:(∃ e,ui.k=.slice e)∨ui.k=.str) (he:tt e=some ei)
  {x y:AV} {v v':Value} (hv:VRel p σ w x v) (hy:VRel p σ w y v') {ats:Array TypeId} {vs:Array Value} {ty:TypeId} (a0:ats[0]? =some t) (a1:ats[1]? =some u) (b0:vs[0]? =some v) (b1:vs[1]? =some v')
  (hK:appK ei s.H x y K): ∃r z w' σ' H',(Builtin.append_ ats ty vs).run P w=.ok r w'∧Ext p w p w'∧Mono σ σ'∧VRel p σ' w' z r∧HRel p σ' H' w'∧K z H':=by
 have hund:=und_slice hT ht hk
 obtain ⟨uu,hund2,hni⟩:=und_ni hT hu huk
 obtain ⟨j,zz,hj,_,hjb,hjz,_⟩:=tt_info hT he
 have hzl:=tt_zlen hT he
 unfold appK at hK
 simp only[NeedK_eq] at hK
 split at hK
 ·exact hK.elim
 rename_i m hm
 split at hK
 ·exact hK.elim
 rename_i cs hcs
 have hLB:(LB:Int)≤IntKind.i64.max:=by decide
 split at hK
 ·
  cases hv
  split at hK
  ·cases hy
   refine⟨.slice none 0 0,.nsl,w,σ,s.H,?_,.refl p w,.refl σ,.nsl,hH,hK⟩
   simp[Builtin.append_,a0,a1,b0,b1,run_under hund,run_under hund2,hni,run_size hT he,Builtin.lenOf,Builtin.firstCells]
  ·exact app_fresh hT hH ht hk hu huk he hy a0 a1 b0 b1 hm hcs hK
 ·
  rename_i b off len cl sz
  split at hK
  ·exact hK.elim
  rename_i old hold
  simp only[Br] at hK
  split at hK
  ·rename_i h1
   have h1:=Nat.le_of_ble_eq_true h1
   split at hK
   ·rename_i h2
    exact app_inplace hT hH ht hk hu huk he hv hy a0 a1 b0 b1 hm hcs hold h1 (Nat.eq_of_beq_eq_true h2) hK
   ·exact hK.elim
  split at hK
  ·rename_i h1
   have h1:=Nat.eq_of_beq_eq_true h1
   subst h1
   split at hK
   ·rename_i h2
    have h2:=Nat.eq_of_beq_eq_true h2
    obtain ⟨⟨hol,hl,hb,hB⟩,hK⟩:=hK
    rw[setK_eq,pushK_eq] at hK
    cases hv with
    |msl _ _ _ _ _ r cap hr hB0 hc hcl hblk=>
    obtain ⟨r',c,e',fr,g1,g2,g3,g4,g5,g6⟩:=row_at hH hold
    rw[hr] at g1
    injection g1 with g1
    subst g1
    obtain ⟨c2,e2',fr2,q1,q2⟩:=hblk
    rw[g3] at q1
    injection q1 with q1
    injection q1 with q1 q4 q5
    subst q1 q4 q5
    rw[h2] at hl hol q2
    obtain ⟨hlen,nc,hnc,hcr⟩:=new_run (P:=P) hH hy hm hcs hl
    have hncs:nc.size=m * ei.size:=by rw[hcr.1,hl]
    have hlast: ∀(i:Nat) (q:Blk),(s.H.set b none)[i]? =some (some q)→σ[i]? ≠some r:=by
     intro i q hq hi
     by_cases hib:i=b
     ·subst hib
      have:i<s.H.length:=(List.getElem?_eq_some_iff.1 (rowOf_some hold)).1
      rw[List.getElem?_set_self this] at hq
      simp at hq
     ·rw[List.getElem?_set_ne (fun e=>hib e.symm)] at hq
      exact hib (hH.inj i b r q _ hq (rowOf_some hold) hi hr)
    have hHk:=hH.kill b
    have hlt:=lt_of_heap g3
    have hlenH:(s.H.set b none).length=s.H.length:=by simp
    by_cases hroom:len+m≤cap
    ·
     have hcapsz:len * ei.size+m * ei.size≤c.size:=by
      rw[← Nat.add_mul]
      exact Nat.le_trans (Nat.mul_le_mul_right _ hroom) (by omega)
     have hsh:Shape w (setW w r (.cells (spliceA c (len * ei.size) nc.toList) e' fr)):=.set g3 (spliceA_size _ _ _)
     have hex:Ext p w p (setW w r (.cells (spliceA c (len * ei.size) nc.toList) e' fr)):=.set g2 hsh
     have hrun:(Builtin.append_ ats ty vs).run P w=.ok (.slice (some ⟨r,0,none⟩) (len+m) cap) (setW w r (.cells (spliceA c (len * ei.size) nc.toList) e' fr)):=by
      have hst:=run_storeCells P (r:=r) (o:=len * ei.size) nc.toList w c e' fr 0 g3 g5 (by simp[hncs];omega) (fun v hv=>by
       obtain ⟨i,hi,hv⟩:=List.mem_iff_getElem.1 hv
       simp at hi
       have hi':i<cs.length:=by rw[← hcr.1];exact hi
       exact(hcr.2 i (cs[i]'hi') v (List.getElem?_eq_getElem hi') (by rw[← hv];simp)).2)
      simp only[Nat.add_zero] at hst
      simp only[Builtin.append_,a0,a1,b0,b1]
      simp only[Sem.run_bind,run_under hund,Result.andThen_ok,run_size hT he,run_under hund2,hni,Sem.run_pure,hlen]
      simp only[Bool.false_eq_true,if_false,Sem.run_bind,Sem.run_pure,Result.andThen_ok,hlen]
      rw[if_pos hroom]
      simp only[Sem.run_bind,Bool.not_false,if_true,hnc,Result.andThen_ok,addr_add,Nat.zero_add,hst,Sem.run_pure]
     have hH2:HRel p σ (s.H.set b none) (setW w r (.cells (spliceA c (len * ei.size) nc.toList) e' fr)):=
      hHk.keep hex ⟨rfl,fun b hb=>setW_other (fun e=>g2 (p.fu r (e▸hb)))⟩ (fun b hb=>by rw[setW_size];exact hH.lt b hb) fun i q r2 hq hr2=>by
       refine⟨?_,setW_other fun e=>hlast i q hq (by rw[hr2,e])⟩
       obtain ⟨r3,z1,z2,_⟩:=hHk.blk i q hq
       rw[hr2] at z1
       injection z1 with z1
       subst z1
       exact z2
     refine⟨_,_,_,σ++[r],_,hrun,hex,mono_append _,?_,hH2.adopt g2 (by rw[setW_size];exact hlt) hlast (.row (old++cs)) ?_,hK⟩
     ·exact .msl _ _ _ _ _ r cap (by rw[hlenH,←hH.len];simp) hB hroom ⟨hroom,hB⟩ ⟨_,e',fr,setW_same hlt,by rw[spliceA_size,h2];omega⟩
     ·refine⟨_,e',fr,setW_same hlt,by rw[spliceA_size,List.length_append,hol,hl];exact hcapsz,by unfold NoFreeze at *;rw[spliceA_size];exact g5,fun i x v hx hv=>?_⟩
      rw[spliceA_get _ _ _ _ (by simp[hncs];exact hcapsz)] at hv
      simp only[Array.length_toList,hncs] at hv
      rcases Nat.lt_or_ge i old.length with hi|hi
      ·rw[List.getElem?_append_left hi] at hx
       rw[if_neg (by omega)] at hv
       exact⟨(g6 i x v hx hv).1.mono hex (mono_append _),(g6 i x v hx hv).2⟩
      ·rw[List.getElem?_append_right hi] at hx
       have:=(List.getElem?_eq_some_iff.1 hx).1
       rw[if_pos (by omega)] at hv
       rw[hol] at hx
       exact⟨(hcr.2 _ x v hx (by simpa using hv)).1.mono hex (mono_append _),(hcr.2 _ x v hx (by simpa using hv)).2⟩
    ·
     let newCap:Nat:=(Question.appendCap (len+m) cap e).cut (w.tape w.drawn (Question.appendCap (len+m) cap e))
     have hcap:len+m≤newCap:=by simp only[newCap,Question.cut];omega
     let w1:World:={ w with drawn:=w.drawn+1 }
     have hH1:=hH.drawn (w.drawn+1)
     obtain ⟨nc1,hnc1,hcr1⟩:=(new_run (P:=P) (s:=s) (w:=w1) hH1 (hy.drawn (w.drawn+1)) hm hcs hl).2
     obtain ⟨z,hz,hzs,_⟩:=run_zero hT he w1
     let oldc:Array Value:=c.extract 0 (len * ei.size)
     have holdc:(Builtin.firstCells ei.size len (.slice (some ⟨r,0,none⟩) len cap)).run P w1=.ok oldc w1:=by
      have:=run_loadCells P (w:=w1) (o:=0) g3 (len * ei.size) 0 #[] (by omega)
      simp only[Builtin.firstCells,loadCells]
      simpa [oldc] using this
     have holds:oldc.size=len * ei.size:=by simp[oldc];omega
     let cells:Array Value:=oldc++nc1++Builtin.zeroCells z.cells (newCap-(len+m))
     have hsize:cells.size=newCap * ei.size:=by
      simp only[cells,Array.size_append,zeroCells_size,hcr1.1,hl,hzs,hzl,holds]
      rw[← Nat.add_mul,←Nat.add_mul]
      congr 1
      omega
     have hnext: ¬(Builtin.nextslicecap (len+m) cap * j.bytes>2 ^ 48):=by
      have:=nextcap_le (need:=len+m) (cap:=cap) (by omega)
      have h2:Builtin.nextslicecap (len+m) cap * j.bytes≤(2 * (len+m)+200) * j.bytes:=Nat.mul_le_mul_right _ this
      rw[← hjb] at hb
      have h3:(2 * (len+m)+200) * j.bytes≤2 * ((len+m+200) * j.bytes):=by
       rw[← Nat.mul_assoc]
       exact Nat.mul_le_mul_right _ (by omega)
      omega
     have hrun:(Builtin.append_ ats ty vs).run P w=.ok (.slice (some ⟨w.heap.size,0,none⟩) (len+m) newCap) (pushW w1 (.cells cells e)):=by
      have hi64: ¬(((len+m:Nat):Int)>IntKind.i64.max):=by omega
      simp only[Builtin.append_,a0,a1,b0,b1]
      simp only[Sem.run_bind,run_under hund,Result.andThen_ok,run_size hT he,run_under hund2,hni,Sem.run_pure,hlen,run_info hj]
      simp only[Bool.false_eq_true,if_false,false_and,Sem.run_bind,hlen,Result.andThen_ok]
      rw[if_neg hroom]
      simp only[Sem.run_bind,Sem.run_pure,Result.andThen_ok,run_info hj,hi64,false_and,if_false]
      rw[if_neg hnext]
      simp only[Sem.run_bind,run_choose,Question.forced,Bool.false_eq_true,if_false,Result.andThen_ok,run_info hj,run_askRoom,Sem.run_pure,hz,run_newObj,newRow,run_size hT he,Bool.not_false,if_true]
      rw[show (Sem.run P (Builtin.firstCells ei.size len (.slice (some ⟨r,0,none⟩) len cap)) w1)=_ from holdc]
      simp only[Result.andThen_ok]
      rw[show (Sem.run P (Builtin.firstCells ei.size m v') w1)=_ from hnc1]
      simp only[Result.andThen_ok,hz]
      rfl
     have he1:Ext p w p w1:=.drawn p w _
     have hHk1:=hHk.drawn (w.drawn+1)
     refine⟨_,_,_,σ++[w1.heap.size],_,hrun,he1.trans (.push hH1.lt _),mono_append _,?_,hHk1.push (.cells cells e) (.row (old++cs)) ?_,hK⟩
     ·refine .msl _ _ _ _ _ w.heap.size newCap (by rw[hlenH,←hH.len];simp[w1]) hB hcap ⟨hcap,hB⟩ ⟨cells,e,(0,0),pushW_new (w:=w1),by rw[hsize,h2];omega⟩
     ·refine brel_new (w:=w1) (by rw[hsize,List.length_append,hol,hl,←Nat.add_mul];exact Nat.mul_le_mul_right _ hcap) fun i x v hx hv=>?_
      have hex2:Ext p w p (pushW w1 (.cells cells e)):=he1.trans (.push hH1.lt _)
      have hi0:=(List.getElem?_eq_some_iff.1 hx).1
      simp only[List.length_append,hol,hl] at hi0
      simp only[cells] at hv
      rw[Array.getElem?_append_left (by rw[Array.size_append,holds,hcr1.1,hl];exact hi0)] at hv
      rcases Nat.lt_or_ge i old.length with hi|hi
      ·rw[List.getElem?_append_left hi] at hx
       rw[Array.getElem?_append_left (by rw[holds];omega)] at hv
       simp only[oldc] at hv
       rw[Array.getElem?_extract] at hv
       split at hv
       ·simp only[Nat.zero_add] at hv
        exact⟨(g6 i x v hx hv).1.mono hex2 (mono_append _),(g6 i x v hx hv).2⟩
       ·simp at hv
      ·rw[List.getElem?_append_right hi] at hx
       rw[Array.getElem?_append_right (by rw[holds];omega),holds] at hv
       rw[hol] at hx
       exact⟨(hcr1.2 _ x v hx hv).1.mono (.push hH1.lt _) (mono_append _),(hcr1.2 _ x v hx hv).2⟩
   ·exact hK.elim
  ·exact hK.elim
 ·
  cases hv with
  |esl ao=>
  split at hK
  ·obtain ⟨hl,hK⟩:=hK
   obtain ⟨hlen,nc,hnc,hcr⟩:=new_run (P:=P) hH hy hm hcs (by rw[hl];simp)
   have hnc0:nc= #[]:=Array.size_eq_zero_iff.1 (by rw[hcr.1,hl])
   subst hnc0
   refine⟨.slice ao 0 0,.esl,w,σ,s.H,?_,.refl p w,.refl σ,.esl ao,hH,hK⟩
   have hst: ∀ad:Addr,(storeCells ad []).run P w=.ok () w:=fun ad=>rfl
   simp only[Builtin.append_,a0,a1,b0,b1]
   simp only[Sem.run_bind,run_under hund,Result.andThen_ok,run_size hT he,run_under hund2,hni,Sem.run_pure,hlen]
   simp only[Bool.false_eq_true,if_false,Sem.run_bind,Sem.run_pure,Result.andThen_ok,hlen,Nat.zero_add,Nat.le_refl,if_true,Bool.not_false,hnc]
   cases ao with
   |none=>simp
   |some ad=>simp only[Sem.run_bind,hst,Result.andThen_ok,Sem.run_pure]
  ·exact app_fresh hT hH ht hk hu huk he hy a0 a1 b0 b1 hm hcs hK
 ·exact hK.elim
theorem bytes_of {p:PQ} {σ:List Nat} {w:World} {e:Nat} {cs:List AV} {bs:List UInt8} {r:Nat} (hcs:cs=bs.map fun c=>AV.d (.int .u8 c.toNat))
  (h: ∃(c:Array Value) (fr:Nat×Nat),w.heap[r]? =some (.cells c e fr)∧cs.length≤c.size∧NoFreeze c fr∧ ∀(i:Nat) (x:AV) (v:Value),cs[i]? =some x→c[i]? =some v→VRel p σ w x v∧one v=true):
  BRel p σ w (.bytes e bs) r:=by
 obtain ⟨c,fr,h1,h2,h3,h4⟩:=h
 subst hcs
 rw[List.length_map] at h2
 refine⟨c,fr,h1,h2,h3,fun i x v hx hv=>?_⟩
 have:=(h4 i (.d (.int .u8 x.toNat)) v (by rw[List.getElem?_map,hx];rfl) hv).1
 cases this
 rfl
theorem appS_run (hT:TTok P tt) (hH:HRel p σ s.H w) {t u e:Nat} {ti ui ei:TI} (ht:tt t=some ti) (hk:ti.k=.slice e) (hu:tt u=some ui) (huk:(∃ e,ui.k=.slice e)∨ui.k=.str) (he:tt e=some ei)
  {x y:AV} {v v':Value} (hv:VRel p σ w x v) (hy:VRel p σ w y v') {ats:Array TypeId} {vs:Array Value} {ty:TypeId} (a0:ats[0]? =some t) (a1:ats[1]? =some u) (b0:vs[0]? =some v) (b1:vs[1]? =some v')
  (hK:appS e ei s.H x y K): ∃r z w' σ' H',(Builtin.append_ ats ty vs).run P w=.ok r w'∧Ext p w p w'∧Mono σ σ'∧VRel p σ' w' z r∧HRel p σ' H' w'∧K z H':=by
 have hund:=und_slice hT ht hk
 obtain ⟨uu,hund2,hni⟩:=und_ni hT hu huk
 obtain ⟨j,zz,hj,_,hjb,hjz,_⟩:=tt_info hT he
 have hzl:=tt_zlen hT he
 have hLB:(LB:Int)≤IntKind.i64.max:=by decide
 unfold appS at hK
 simp only[NeedK_eq] at hK
 split at hK
 rotate_left
 ·exact hK.elim
 rename_i st
 split at hK
 ·
  obtain ⟨⟨h1,hm0,hb,hB⟩,hK⟩:=hK
  cases hv
  rw[pushK_eq] at hK
  have hcs:newCells s.H ei.size (.d (.str st))=some (st.data.toList.map fun c=>AV.d (.int .u8 c.toNat)):=by rw[h1];rfl
  have hl:(st.data.toList.map fun c=>AV.d (.int .u8 c.toNat)).length=st.size * ei.size:=by rw[h1];simp
  obtain ⟨cells,newCap,hrun,hcap,hsize,hcr1⟩:=app_new (ty:=ty) hT hH ht hk hu huk he hy a0 a1 b0 b1 (m:=st.size) rfl hcs hm0 hb hB hl
  let w1:World:={ w with drawn:=w.drawn+1 }
  have he1:Ext p w p w1:=.drawn p w _
  have hH1:=hH.drawn (w.drawn+1)
  refine⟨_,_,_,σ++[w1.heap.size],_,hrun,he1.trans (.push hH1.lt _),mono_append _,?_,hH1.push (.cells cells e) (.bytes e st.data.toList) ?_,hK⟩
  ·refine .msl _ _ _ _ _ w.heap.size newCap (by rw[← hH.len];simp[w1]) hB hcap ⟨hcap,hB⟩ ⟨cells,e,(0,0),pushW_new (w:=w1),by rw[hsize,h1];omega⟩
  ·refine bytes_of (p:=p) (σ:=σ++[w1.heap.size]) rfl ⟨cells,(0,0),pushW_new (w:=w1),by rw[hsize,hl];exact Nat.mul_le_mul_right _ hcap,noFreeze_zero _,fun i x v hx hv=>?_⟩
   exact⟨(hcr1 i x v hx hv).1.mono (.push hH1.lt _) (mono_append _),(hcr1 i x v hx hv).2⟩
 ·
  rename_i b off len cl sz
  split at hK
  ·exact hK.elim
  rename_i e0 bs hold
  obtain ⟨⟨rfl,rfl,h2,rfl,hbl,hb,hB⟩,hK⟩:=hK
  rw[setK_eq,pushK_eq] at hK
  have hold:s.H[b]? =some (some (.bytes e0 bs)):=by
   unfold bytesOf at hold
   split at hold
   ·rename_i hq;injection hold with hold;injection hold with q1 q2;subst q1 q2;exact hq
   ·simp at hold
  cases hv with
  |msl _ _ _ _ _ r cap hr hB0 hc hcl hblk=>
  obtain ⟨r',g1,g2,glt,c,fr,g3,g4,g5,g6'⟩:=hH.blk b _ hold
  rw[hr] at g1
  injection g1 with g1
  subst g1
  obtain ⟨c2,e2',fr2,q1,q2⟩:=hblk
  rw[g3] at q1
  injection q1 with q1
  injection q1 with q1 q4 q5
  subst q1 q4 q5
  generalize hmm:st.size=m at *
  have hm:newLen (.d (.str st))=some m:=by rw[← hmm];rfl
  have hcs:newCells s.H ei.size (.d (.str st))=some (st.data.toList.map fun c=>AV.d (.int .u8 c.toNat)):=by rw[h2];rfl
  generalize hcsd:(st.data.toList.map fun c=>AV.d (.int .u8 c.toNat))=cs at *
  have hl:cs.length=m * ei.size:=by rw[← hcsd,h2,←hmm];simp
  generalize holdd:(bs.map fun c=>AV.d (.int .u8 c.toNat))=old at *
  have hol:old.length=len * ei.size:=by rw[← holdd,h2];simp[hbl]
  have hsum:old++cs=(bs++st.data.toList).map fun c=>AV.d (.int .u8 c.toNat):=by rw[List.map_append,holdd,hcsd]
  have g6: ∀(i:Nat) (x:AV) (v:Value),old[i]? =some x→c[i]? =some v→VRel p σ w x v∧one v=true:=fun i x v hx hv=>by
   rw[← holdd,List.getElem?_map] at hx
   cases hq:bs[i]? with
   |none=>rw[hq] at hx;simp at hx
   |some q=>
    rw[hq] at hx
    simp at hx
    subst hx
    rw[g6' i q v hq hv]
    exact⟨.int _ _,rfl⟩
  have q2':len * ei.size≤c.size:=by rw[h2];have:=Nat.mul_le_mul_right 1 hc;omega
  rw[← h2] at q2
  obtain ⟨hlen,nc,hnc,hcr⟩:=new_run (P:=P) hH hy hm hcs hl
  have hncs:nc.size=m * ei.size:=by rw[hcr.1,hl]
  have hlast: ∀(i:Nat) (q:Blk),(s.H.set b none)[i]? =some (some q)→σ[i]? ≠some r:=by
   intro i q hq hi
   by_cases hib:i=b
   ·subst hib
    have:i<s.H.length:=(List.getElem?_eq_some_iff.1 hold).1
    rw[List.getElem?_set_self this] at hq
    simp at hq
   ·rw[List.getElem?_set_ne (fun e=>hib e.symm)] at hq
    exact hib (hH.inj i b r q _ hq hold hi hr)
  have hHk:=hH.kill b
  have hlt:=lt_of_heap g3
  have hlenH:(s.H.set b none).length=s.H.length:=by simp
  by_cases hroom:len+m≤cap
  ·
   have hcapsz:len * ei.size+m * ei.size≤c.size:=by
    rw[← Nat.add_mul]
    exact Nat.le_trans (Nat.mul_le_mul_right _ hroom) (by omega)
   have hsh:Shape w (setW w r (.cells (spliceA c (len * ei.size) nc.toList) e0 fr)):=.set g3 (spliceA_size _ _ _)
   have hex:Ext p w p (setW w r (.cells (spliceA c (len * ei.size) nc.toList) e0 fr)):=.set g2 hsh
   have hrun:(Builtin.append_ ats ty vs).run P w=.ok (.slice (some ⟨r,0,none⟩) (len+m) cap) (setW w r (.cells (spliceA c (len * ei.size) nc.toList) e0 fr)):=by
    have hst:=run_storeCells P (r:=r) (o:=len * ei.size) nc.toList w c e0 fr 0 g3 g5 (by simp[hncs];omega) (fun v hv=>by
     obtain ⟨i,hi,hv⟩:=List.mem_iff_getElem.1 hv
     simp at hi
     have hi':i<cs.length:=by rw[← hcr.1];exact hi
     exact(hcr.2 i (cs[i]'hi') v (List.getElem?_eq_getElem hi') (by rw[← hv];simp)).2)
    simp only[Nat.add_zero] at hst
    simp only[Builtin.append_,a0,a1,b0,b1]
    simp only[Sem.run_bind,run_under hund,Result.andThen_ok,run_size hT he,run_under hund2,hni,Sem.run_pure,hlen]
    simp only[Bool.false_eq_true,if_false,Sem.run_bind,Sem.run_pure,Result.andThen_ok,hlen]
    rw[if_pos hroom]
    simp only[Sem.run_bind,Bool.not_false,if_true,hnc,Result.andThen_ok,addr_add,Nat.zero_add,hst,Sem.run_pure]
   have hH2:HRel p σ (s.H.set b none) (setW w r (.cells (spliceA c (len * ei.size) nc.toList) e0 fr)):=
    hHk.keep hex ⟨rfl,fun b hb=>setW_other (fun e=>g2 (p.fu r (e▸hb)))⟩ (fun b hb=>by rw[setW_size];exact hH.lt b hb) fun i q r2 hq hr2=>by
     refine⟨?_,setW_other fun e=>hlast i q hq (by rw[hr2,e])⟩
     obtain ⟨r3,z1,z2,_⟩:=hHk.blk i q hq
     rw[hr2] at z1
     injection z1 with z1
     subst z1
     exact z2
   refine⟨_,_,_,σ++[r],_,hrun,hex,mono_append _,?_,hH2.adopt g2 (by rw[setW_size];exact hlt) hlast (.bytes e0 (bs++st.data.toList)) ?_,hK⟩
   ·exact .msl _ _ _ _ _ r cap (by rw[hlenH,←hH.len];simp) hB hroom ⟨hroom,hB⟩ ⟨_,e0,fr,setW_same hlt,by rw[spliceA_size];rw[h2] at q2;omega⟩
   ·refine bytes_of (p:=p) (σ:=σ++[r]) hsum ⟨_,fr,setW_same hlt,by rw[spliceA_size,List.length_append,hol,hl];exact hcapsz,by unfold NoFreeze at *;rw[spliceA_size];exact g5,fun i x v hx hv=>?_⟩
    rw[spliceA_get _ _ _ _ (by simp[hncs];exact hcapsz)] at hv
    simp only[Array.length_toList,hncs] at hv
    rcases Nat.lt_or_ge i old.length with hi|hi
    ·rw[List.getElem?_append_left hi] at hx
     rw[if_neg (by omega)] at hv
     exact⟨(g6 i x v hx hv).1.mono hex (mono_append _),(g6 i x v hx hv).2⟩
    ·rw[List.getElem?_append_right hi] at hx
     have:=(List.getElem?_eq_some_iff.1 hx).1
     rw[if_pos (by omega)] at hv
     rw[hol] at hx
     exact⟨(hcr.2 _ x v hx (by simpa using hv)).1.mono hex (mono_append _),(hcr.2 _ x v hx (by simpa using hv)).2⟩
  ·
   let newCap:Nat:=(Question.appendCap (len+m) cap e0).cut (w.tape w.drawn (Question.appendCap (len+m) cap e0))
   have hcap:len+m≤newCap:=by simp only[newCap,Question.cut];omega
   let w1:World:={ w with drawn:=w.drawn+1 }
   have hH1:=hH.drawn (w.drawn+1)
   obtain ⟨nc1,hnc1,hcr1⟩:=(new_run (P:=P) (s:=s) (w:=w1) hH1 (hy.drawn (w.drawn+1)) hm hcs hl).2
   obtain ⟨z,hz,hzs,_⟩:=run_zero hT he w1
   let oldc:Array Value:=c.extract 0 (len * ei.size)
   have holdc:(Builtin.firstCells ei.size len (.slice (some ⟨r,0,none⟩) len cap)).run P w1=.ok oldc w1:=by
    have:=run_loadCells P (w:=w1) (o:=0) g3 (len * ei.size) 0 #[] (by omega)
    simp only[Builtin.firstCells,loadCells]
    simpa [oldc] using this
   have holds:oldc.size=len * ei.size:=by simp[oldc];omega
   let cells:Array Value:=oldc++nc1++Builtin.zeroCells z.cells (newCap-(len+m))
   have hsize:cells.size=newCap * ei.size:=by
    simp only[cells,Array.size_append,zeroCells_size,hcr1.1,hl,hzs,hzl,holds]
    rw[← Nat.add_mul,←Nat.add_mul]
    congr 1
    omega
   have hnext: ¬(Builtin.nextslicecap (len+m) cap * j.bytes>2 ^ 48):=by
    have:=nextcap_le (need:=len+m) (cap:=cap) (by omega)
    have h2:Builtin.nextslicecap (len+m) cap * j.bytes≤(2 * (len+m)+200) * j.bytes:=Nat.mul_le_mul_right _ this
    rw[← hjb] at hb
    have h3:(2 * (len+m)+200) * j.bytes≤2 * ((len+m+200) * j.bytes):=by
     rw[← Nat.mul_assoc]
     exact Nat.mul_le_mul_right _ (by omega)
    omega
   have hrun:(Builtin.append_ ats ty vs).run P w=.ok (.slice (some ⟨w.heap.size,0,none⟩) (len+m) newCap) (pushW w1 (.cells cells e0)):=by
    have hi64: ¬(((len+m:Nat):Int)>IntKind.i64.max):=by omega
    simp only[Builtin.append_,a0,a1,b0,b1]
    simp only[Sem.run_bind,run_under hund,Result.andThen_ok,run_size hT he,run_under hund2,hni,Sem.run_pure,hlen,run_info hj]
    simp only[Bool.false_eq_true,if_false,false_and,Sem.run_bind,hlen,Result.andThen_ok]
    rw[if_neg hroom]
    simp only[Sem.run_bind,Sem.run_pure,Result.andThen_ok,run_info hj,hi64,false_and,if_false]
    rw[if_neg hnext]
    simp only[Sem.run_bind,run_choose,Question.forced,Bool.false_eq_true,if_false,Result.andThen_ok,run_info hj,run_askRoom,Sem.run_pure,hz,run_newObj,newRow,run_size hT he,Bool.not_false,if_true]
    rw[show (Sem.run P (Builtin.firstCells ei.size len (.slice (some ⟨r,0,none⟩) len cap)) w1)=_ from holdc]
    simp only[Result.andThen_ok]
    rw[show (Sem.run P (Builtin.firstCells ei.size m v') w1)=_ from hnc1]
    simp only[Result.andThen_ok,hz]
    rfl
   have he1:Ext p w p w1:=.drawn p w _
   have hHk1:=hHk.drawn (w.drawn+1)
   refine⟨_,_,_,σ++[w1.heap.size],_,hrun,he1.trans (.push hH1.lt _),mono_append _,?_,hHk1.push (.cells cells e0) (.bytes e0 (bs++st.data.toList)) ?_,hK⟩
   ·refine .msl _ _ _ _ _ w.heap.size newCap (by rw[hlenH,←hH.len];simp[w1]) hB hcap ⟨hcap,hB⟩ ⟨cells,e0,(0,0),pushW_new (w:=w1),by rw[hsize,h2];omega⟩
   ·refine bytes_of (p:=p) (σ:=σ++[w1.heap.size]) hsum ⟨cells,(0,0),pushW_new (w:=w1),by rw[hsize,List.length_append,hol,hl,←Nat.add_mul];exact Nat.mul_le_mul_right _ hcap,noFreeze_zero _,fun i x v hx hv=>?_⟩
    have hex2:Ext p w p (pushW w1 (.cells cells e0)):=he1.trans (.push hH1.lt _)
    have hi0:=(List.getElem?_eq_some_iff.1 hx).1
    simp only[List.length_append,hol,hl] at hi0
    simp only[cells] at hv
    rw[Array.getElem?_append_left (by rw[Array.size_append,holds,hcr1.1,hl];exact hi0)] at hv
    rcases Nat.lt_or_ge i old.length with hi|hi
    ·rw[List.getElem?_append_left hi] at hx
     rw[Array.getElem?_append_left (by rw[holds];omega)] at hv
     simp only[oldc] at hv
     rw[Array.getElem?_extract] at hv
     split at hv
     ·simp only[Nat.zero_add] at hv
      exact⟨(g6 i x v hx hv).1.mono hex2 (mono_append _),(g6 i x v hx hv).2⟩
     ·simp at hv
    ·rw[List.getElem?_append_right hi] at hx
     rw[Array.getElem?_append_right (by rw[holds];omega),holds] at hv
     rw[hol] at hx
     exact⟨(hcr1.2 _ x v hx hv).1.mono (.push hH1.lt _) (mono_append _),(hcr1.2 _ x v hx hv).2⟩
 ·exact hK.elim
end
end Go.Eng
namespace Go.Eng
open Go
theorem kIx_lk: ∀(ks:List Int) (vs:List AV) (n:Int),ks.length=vs.length→lkV ks vs n=(kIx ks n).bind (vs[·]?):=by
 intro ks
 induction ks with
 |nil=>intro vs n _;rfl
 |cons k t ih=>
  intro vs n h
  cases vs with
  |nil=>simp at h
  |cons x xs=>
   simp only[lkV,kIx]
   cases decide (n=k) with
   |true=>rfl
   |false=>
    simp only[ih xs n (by simpa using h)]
    cases kIx t n <;> rfl
theorem kIx_lt: ∀(ks:List Int) (n:Int) (i:Nat),kIx ks n=some i→i<ks.length:=by
 intro ks
 induction ks with
 |nil=>intro n i h;simp[kIx] at h
 |cons k t ih=>
  intro n i h
  simp only[kIx] at h
  cases hd:decide (n=k) with
  |true=>rw[hd] at h;simp at h;subst h;simp
  |false=>
   rw[hd] at h
   cases hk:kIx t n with
   |none=>rw[hk] at h;simp at h
   |some j=>rw[hk] at h;simp at h;subst h;have:=ih n j hk;simp;omega
theorem kIx_at: ∀(ks:List Int) (n:Int) (i:Nat),kIx ks n=some i→ks[i]? =some n:=by
 intro ks
 induction ks with
 |nil=>intro n i h;simp[kIx] at h
 |cons k t ih=>
  intro n i h
  simp only[kIx] at h
  cases hd:decide (n=k) with
  |true=>rw[hd] at h;simp at h;subst h;have:=of_decide_eq_true hd;simp[this]
  |false=>
   rw[hd] at h
   cases hk:kIx t n with
   |none=>rw[hk] at h;simp at h
   |some j=>rw[hk] at h;simp at h;subst h;simpa using ih n j hk
theorem putKs_eq: ∀(ks:List Int) (n:Int),putKs ks n=match kIx ks n with|none=>ks++[n]|some _=>ks:=by
 intro ks
 induction ks with
 |nil=>intro n;rfl
 |cons k t ih=>
  intro n
  simp only[putKs,kIx]
  cases decide (n=k) with
  |true=>rfl
  |false=>simp only[ih n];cases kIx t n <;> rfl
theorem putVs_eq: ∀(ks:List Int) (vs:List AV) (n:Int) (v:AV),ks.length=vs.length→putVs ks vs n v=match kIx ks n with|none=>vs++[v]|some i=>vs.set i v:=by
 intro ks
 induction ks with
 |nil=>intro vs n v h;cases vs with
  |nil=>rfl
  |cons=>simp at h
 |cons k t ih=>
  intro vs n v h
  cases vs with
  |nil=>simp at h
  |cons x xs=>
   simp only[putVs,kIx]
   cases decide (n=k) with
   |true=>rfl
   |false=>
    simp only[ih xs n v (by simpa using h)]
    cases kIx t n <;> rfl
theorem delKs_eq: ∀(ks:List Int) (n:Int),delKs ks n=match kIx ks n with|none=>ks|some i=>ks.eraseIdx i:=by
 intro ks
 induction ks with
 |nil=>intro n;rfl
 |cons k t ih=>
  intro n
  simp only[delKs,kIx]
  cases decide (n=k) with
  |true=>rfl
  |false=>simp only[ih n];cases kIx t n <;> rfl
theorem delVs_eq: ∀(ks:List Int) (vs:List AV) (n:Int),ks.length=vs.length→delVs ks vs n=match kIx ks n with|none=>vs|some i=>vs.eraseIdx i:=by
 intro ks
 induction ks with
 |nil=>intro vs n h;cases vs with
  |nil=>rfl
  |cons=>simp at h
 |cons k t ih=>
  intro vs n h
  cases vs with
  |nil=>simp at h
  |cons x xs=>
   simp only[delVs,kIx]
   cases decide (n=k) with
   |true=>rfl
   |false=>
    simp only[ih xs n (by simpa using h)]
    cases kIx t n <;> rfl
def KeysAre (es:List MapEntry) (ks:List Int):Prop:=es.length=ks.length∧ ∀(i:Nat) (k:Int) (e:MapEntry),ks[i]? =some k→es[i]? =some e→e.key=.int .i64 k
theorem findNow_run (kd:IntKind) (n:Int): ∀(es:List MapEntry) (ks:List Int) (i:Nat),KeysAre es ks→
  Instr.findNow (.int kd) (.int .i64 n) es i=some (match kIx ks n with
   |none=>none
   |some j=>(es[j]?).map fun e=>(i+j,e.val)):=by
 intro es
 induction es with
 |nil=>
  intro ks i h
  cases ks with
  |nil=>rfl
  |cons=>simp[KeysAre] at h
 |cons e t ih=>
  intro ks i h
  cases ks with
  |nil=>simp[KeysAre] at h
  |cons k ks=>
   have hk:e.key=.int .i64 k:=h.2 0 k e rfl rfl
   have ht:KeysAre t ks:=⟨by have:=h.1;simpa using this,fun j k e h1 h2=>h.2 (j+1) k e (by simpa using h1) (by simpa using h2)⟩
   simp only[Instr.findNow,hk,Instr.sameNow,if_true,kIx]
   by_cases hd:n=k
   ·simp[hd]
   ·have hb:(n==k)=false:=by simpa using hd
    rw[hb]
    simp only[decide_eq_false hd,ih ks (i+1) ht]
    cases kIx ks n with
    |none=>rfl
    |some j=>
     simp only[List.getElem?_cons_succ]
     congr 1
     cases t[j]? with
     |none=>rfl
     |some x=>simp;omega
section
variable {P:Program} {tt:TT} {p:PQ} {σ:List Nat} {s:St} {a:Act} {w:World} {F:Fence} {n:Nat} {o:Oper} {Q:Exit→Act→World→Prop} {next:Act→World→Prop} {K:AV→Heap→Prop}
theorem key_int (hT:TTok P tt) {t:Nat} {ti:TI} (ht:tt t=some ti) (hk:keyI ti=true):P.underlying t=some (.int .i64):=by
 obtain ⟨u,h1,h2⟩:=tt_und hT ht
 unfold keyI at hk
 split at hk
 ·rename_i h
  rw[h] at h2
  cases u <;> simp[agreeK] at h2
  subst h2
  exact h1
 ·simp at hk
theorem map_und (hT:TTok P tt) {t:Nat} {ti:TI} (ht:tt t=some ti) {k e:Nat} (hk:ti.k=.map k e):P.underlying t=some (.map k e):=by
 obtain ⟨u,h1,h2⟩:=tt_und hT ht
 rw[hk] at h2
 cases u <;> simp[agreeK] at h2
 obtain ⟨rfl,rfl⟩:=h2
 exact h1
theorem check_run {kt:Nat} (h:P.underlying kt=some (.int .i64)) (b:Bool) (v:Value) (w:World):(Instr.checkKey b 10000 kt v).run P w=.ok () w:=by
 show (Instr.checkKey b (9999+1) kt v).run P w=.ok () w
 rw[Instr.checkKey]
 simp[run_under h,Result.andThen]
theorem find_run {kt:Nat} (h:P.underlying kt=some (.int .i64)) (es:List MapEntry) (ks:List Int) (hk:KeysAre es ks) (n:Int) (w:World):
  (Instr.findKey kt (.int .i64 n) es).run P w=.ok (match kIx ks n with
   |none=>none
   |some j=>(es[j]?).map fun e=>(j,e.val)) w:=by
 unfold Instr.findKey
 simp only[Sem.run_bind,run_under h,Result.andThen_ok]
 rw[findNow_run .i64 n es ks 0 hk]
 simp only[Nat.zero_add]
 rfl
theorem map_at (h:HRel p σ s.H w) {b:Nat} {ks:List Int} {vs:List AV} (hm:mapOf s.H b=some (ks,vs)) {r:Nat} (hr:σ[b]? =some r):
  ¬p.u r∧r<w.heap.size∧ ∃(es:Array MapEntry) (clock:Nat),w.heap[r]? =some (.map es clock)∧KeysAre es.toList ks∧ks.length=vs.length∧
   ∀(i:Nat) (x:AV) (e:MapEntry),vs[i]? =some x→es[i]? =some e→VRel p σ w x e.val:=by
 obtain ⟨r',h1,h2,h3,es,cl,h4,h5,h6,h7,h8⟩:=h.blk b _ (mapOf_some hm)
 rw[hr] at h1
 injection h1 with h1
 subst h1
 exact⟨h2,h3,es,cl,h4,⟨by simpa using h5,fun i k e g1 g2=>h7 i k e g1 (by simpa using g2)⟩,by omega,h8⟩
theorem snd_makeMap (hT:TTok P tt) (hR:Rel p σ s a w) (hN:Nx p σ w K o a next) {t:TypeId} {r:Option Operand} (hop:o.op=.makeMap t r) (hK:opK P tt (.makeMap t r) (get s.ρ) s.H K):
  o.uponIn F n P a next Q ((execOp a.eval o).run P w):=by
 simp only[opK] at hK
 split at hK
 ·exact hK.elim
 ·split at hK
  ·exact hK.elim
  ·split at hK
   ·rw[pushK_eq] at hK
    refine up_push (ob:=.map #[] 0) hR hN (v:=.map (some w.heap.size)) ?_ (k:=.mp [] []) ⟨#[],0,pushW_new,rfl,rfl,fun i k e h=>by simp at h,fun i x e h=>by simp at h⟩ (.mp _ _ (new_name hR)) hK
    simp[execOp,hop,Instr.makeMap,pushW]
   ·exact hK.elim
theorem put_run (hH:HRel p σ s.H w) {b r:Nat} {ks:List Int} {vs:List AV} (hm:mapOf s.H b=some (ks,vs)) (hr:σ[b]? =some r) {mt kt et:Nat} (hmt:P.underlying mt=some (.map kt et)) (hkt:P.underlying kt=some (.int .i64))
  (k:Int) {x:AV} {v:Value} (hv:VRel p σ w x v): ∃w',(Instr.mapUpdate mt (.map (some r)) (.int .i64 k) v).run P w=.ok () w'∧Ext p w p w'∧HRel p σ (s.H.set b (some (.mp (putKs ks k) (putVs ks vs k x)))) w':=by
 obtain ⟨h1,h2,es,cl,h3,h4,h5,h6⟩:=map_at hH hm hr
 have hget: ∀w1:World,w1=w→(getObj r).run P w1=.ok (.map es cl) w1:=fun w1 e=>by subst e;simp[getObj,Sem.run,h3]
 have hsz:es.size=ks.length:=by have:=h4.1;simpa using this
 have fin: ∀(es':Array MapEntry) (cl':Nat),es'.size=(putKs ks k).length→es'.size=(putVs ks vs k x).length→(∀ (i:Nat) (k1:Int) (e:MapEntry),(putKs ks k)[i]? =some k1→es'[i]? =some e→e.key=.int .i64 k1)→
   (∀ (i:Nat) (y:AV) (e:MapEntry),(putVs ks vs k x)[i]? =some y→es'[i]? =some e→VRel p σ w y e.val)→
   Ext p w p (setW w r (.map es' cl'))∧HRel p σ (s.H.set b (some (.mp (putKs ks k) (putVs ks vs k x)))) (setW w r (.map es' cl')):=fun es' cl' g1 g2 g3 g4=>by
  have hsh:Shape w (setW w r (.map es' cl')):=.setOther h3 (fun _ _ _ h=>by simp at h)
  have he:Ext p w p (setW w r (.map es' cl')):=.set h1 hsh
  exact⟨he,hH.set (mapOf_some hm) hr _ hsh _ ⟨es',cl',setW_same h2,g1,g2,g3,fun i y e hy he'=>(g4 i y e hy he').mono he (fun _ _ h=>h)⟩⟩
 have hf:=find_run hkt es.toList ks h4 k w
 rw[putKs_eq,putVs_eq _ _ _ _ h5] at fin⊢
 cases hx:kIx ks k with
 |none=>
  rw[hx] at hf
  simp only[hx] at fin⊢
  obtain ⟨f1,f2⟩:=fin (es.push ⟨.int .i64 k,v,cl⟩) (cl+1) (by simp[hsz]) (by simp[hsz,h5]) (fun i k1 e g1 g2=>by
   rw[Array.getElem?_push] at g2
   rw[List.getElem?_append] at g1
   split at g2
   ·rename_i hi
    simp at g2
    subst g2
    rw[if_neg (by omega)] at g1
    have e0:i-ks.length=0:=by omega
    rw[e0] at g1
    simp at g1
    subst g1
    rfl
   ·rename_i hi
    have hlt:=(Array.getElem?_eq_some_iff.1 g2).1
    rw[if_pos (by omega)] at g1
    exact h4.2 i k1 e g1 (by simpa using g2)) (fun i y e g1 g2=>by
   rw[Array.getElem?_push] at g2
   rw[List.getElem?_append] at g1
   split at g2
   ·rename_i hi
    simp at g2
    subst g2
    rw[if_neg (by omega)] at g1
    have e0:i-vs.length=0:=by omega
    rw[e0] at g1
    simp at g1
    subst g1
    exact hv
   ·rename_i hi
    have hlt:=(Array.getElem?_eq_some_iff.1 g2).1
    rw[if_pos (by omega)] at g1
    exact h6 i y e g1 g2)
  refine⟨_,?_,f1,f2⟩
  unfold Instr.mapUpdate
  simp only[Sem.run_bind,run_under hmt,Result.andThen_ok,hget w rfl,check_run hkt,hf]
  simp[setObj,Sem.run,setW,h3]
 |some j=>
  have hj:=kIx_lt ks k j hx
  have hkj:=kIx_at ks k j hx
  have hje:es.toList[j]? =some (es[j]'(by omega)):=by simp[hsz,hj]
  have hjk:(es[j]'(by omega)).key=.int .i64 k:=h4.2 j k _ hkj hje
  rw[hx] at hf
  simp only[hje,Option.map_some] at hf
  simp only[hx] at fin⊢
  have hmod: ∀i,(es.modify j fun e=>{ e with key:=.int .i64 k,val:=v })[i]? =if j=i then (es[i]?).map (fun e=>{ e with key:=.int .i64 k,val:=v }) else es[i]? :=fun i=>by
   rw[Array.getElem?_modify]
  obtain ⟨f1,f2⟩:=fin (es.modify j fun e=>{ e with key:=.int .i64 k,val:=v }) cl (by simp[hsz]) (by simp[hsz,h5]) (fun i k1 e g1 g2=>by
   rw[hmod] at g2
   split at g2
   ·rename_i hi
    subst hi
    rw[hkj] at g1
    injection g1 with g1
    cases he:es[j]? with
    |none=>rw[he] at g2;simp at g2
    |some e0=>rw[he] at g2;simp at g2;subst g2;simp[g1]
   ·exact h4.2 i k1 e g1 (by simpa using g2)) (fun i y e g1 g2=>by
   rw[hmod] at g2
   rw[List.getElem?_set] at g1
   split at g2
   ·rename_i hi
    subst hi
    rw[if_pos rfl,if_pos (by omega)] at g1
    injection g1 with g1
    subst g1
    cases he:es[j]? with
    |none=>rw[he] at g2;simp at g2
    |some e0=>rw[he] at g2;simp at g2;subst g2;exact hv
   ·rename_i hi
    rw[if_neg hi] at g1
    exact h6 i y e g1 g2)
  refine⟨_,?_,f1,f2⟩
  have hes:es[j]? =some (es[j]'(by omega)):=Array.getElem?_eq_getElem (by omega)
  have hsame:Instr.sameBits 10000 (.int .i64 k) (.int .i64 k)=true:=by
   show Instr.sameBits (9999+1) _ _=true
   simp[Instr.sameBits]
  have hstay:(Instr.keyThatStays (((es[j]?).map (·.key)).getD (.int .i64 k)) (.int .i64 k)).run P w=.ok (.int .i64 k) w:=by
   rw[hes]
   simp only[Option.map_some,Option.getD_some,hjk]
   unfold Instr.keyThatStays
   rw[hsame]
   simp
  unfold Instr.mapUpdate
  simp only[Sem.run_bind,run_under hmt,Result.andThen_ok,hget w rfl,check_run hkt,hf,hstay]
  simp[setObj,Sem.run,setW,h3]
theorem snd_mapUpd (hT:TTok P tt) (hR:Rel p σ s a w) (hN:Nx p σ w K o a next) {t:TypeId} {m k x:Operand} (hop:o.op=.mapUpdate t m k x∨o.op=.insert t m k x) (hK:opK P tt (.mapUpdate t m k x) (get s.ρ) s.H K):
  o.uponIn F n P a next Q ((execOp a.eval o).run P w):=by
 simp only[opK] at hK
 split at hK
 ·exact hK.elim
 rename_i ti ht
 split at hK
 ·rename_i kt et hk
  split at hK
  ·exact hK.elim
  rename_i ki hki
  split at hK
  ·exact hK.elim
  rename_i hki2
  have hm:=evalO_rel hR m
  split at hK
  ·rename_i b hb
   rw[hb] at hm
   generalize hv:a.eval m=v at hm
   cases hm with
   |mp _ r hr=>
   split at hK
   ·exact hK.elim
   rename_i ks vs hmo
   have hkk:=evalO_rel hR k
   split at hK
   ·rename_i nn hnn
    rw[hnn] at hkk
    generalize hv2:a.eval k=v2 at hkk
    cases hkk
    split at hK
    ·rw[setK_eq] at hK
     obtain ⟨w',e1,e2,e3⟩:=put_run hR.heap hmo hr (map_und hT ht hk) (key_int hT hki hki2) nn (evalO_rel hR x)
     refine up_skip (w':=w') ?_ (hN undef .any w' p σ _ e2 (.refl σ) (.any _) e3 hK)
     rcases hop with h|h <;> simp[execOp,h,hv,hv2,e1]
    ·exact hK.elim
   ·exact hK.elim
  ·exact hK.elim
 ·exact hK.elim
theorem snd_lookup (hT:TTok P tt) (hR:Rel p σ s a w) (hN:Nx p σ w K o a next) {t:TypeId} {m k:Operand} {ok:Bool} (hop:o.op=.lookup t m k ok) (hK:opK P tt (.lookup t m k ok) (get s.ρ) s.H K):
  o.uponIn F n P a next Q ((execOp a.eval o).run P w):=by
 simp only[opK] at hK
 split at hK
 ·exact hK.elim
 rename_i ti ht
 split at hK
 ·rename_i kt et hk
  split at hK
  rotate_left
  ·exact hK.elim
  rename_i ki ei hki hei
  split at hK
  ·exact hK.elim
  rename_i hki2
  have hm:=evalO_rel hR m
  split at hK
  ·rename_i b hb
   rw[hb] at hm
   generalize hv:a.eval m=v at hm
   cases hm with
   |mp _ r hr=>
   split at hK
   ·exact hK.elim
   rename_i ks vs hmo
   have hkk:=evalO_rel hR k
   split at hK
   ·rename_i nn hnn
    rw[hnn] at hkk
    generalize hv2:a.eval k=v2 at hkk
    cases hkk
    split at hK
    ·obtain ⟨h1,h2,es,cl,h3,h4,h5,h6⟩:=map_at hR.heap hmo hr
     have hsz:es.size=ks.length:=by have:=h4.1;simpa using this
     have hget:(getObj r).run P w=.ok (.map es cl) w:=by simp[getObj,Sem.run,h3]
     have hf:=find_run (key_int hT hki hki2) es.toList ks h4 nn w
     obtain ⟨zv,hzr,_,_⟩:=run_zero hT hei w
     have hlk:=kIx_lk ks vs nn h5
     obtain ⟨hK1,hK2⟩:=hK.out
     have hrun: ∀{v:Value} {f:Bool},(Instr.lookup t (.map (some r)) (.int .i64 nn) true).run P w=.ok (.tuple #[v,.bool f]) w→(execOp a.eval o).run P w=.ok (.value (.tuple #[v,.bool f])) w:=fun h=>by
      simp[execOp,hop,hv,hv2,h]
     have htup: ∀{x:AV} {v:Value} {f:Bool},VRel p σ w x v→VRel p σ w (.tup [x,.d (.bool f)]) (.tuple #[v,.bool f]):=fun h=>by
      refine .tup _ _ rfl (fun i x v hx hv=>?_)
      rcases i with _|_|i
      ·simp at hx hv;subst hx hv;exact h
      ·simp at hx hv;subst hx hv;exact .bool _
      ·simp at hx
     cases hx:kIx ks nn with
     |none=>
      rw[hx] at hf hlk
      refine up_pure hR hN (hrun (v:=zv) (f:=false) ?_) (htup (.any _)) (hK2 hlk)
      unfold Instr.lookup
      simp[run_under (map_und hT ht hk),Result.andThen,hget,check_run (key_int hT hki hki2),hf,hzr]
     |some j=>
      have hj:=kIx_lt ks nn j hx
      have hje:es.toList[j]? =some (es[j]'(by omega)):=by simp[hsz,hj]
      have hes:es[j]? =some (es[j]'(by omega)):=Array.getElem?_eq_getElem (by omega)
      have hvj:vs[j]? =some (vs[j]'(by omega)):=List.getElem?_eq_getElem (by omega)
      rw[hx] at hf hlk
      simp only[hje,Option.map_some] at hf
      simp only[Option.bind_some,hvj] at hlk
      refine up_pure hR hN (hrun (v:=(es[j]'(by omega)).val) (f:=true) ?_) (htup (h6 j _ _ hvj hes)) (hK1 _ hlk)
      unfold Instr.lookup
      simp[run_under (map_und hT ht hk),Result.andThen,hget,check_run (key_int hT hki hki2),hf]
    ·exact hK.elim
   ·exact hK.elim
  ·exact hK.elim
 ·exact hK.elim
theorem del_run (hH:HRel p σ s.H w) {b r:Nat} {ks:List Int} {vs:List AV} (hm:mapOf s.H b=some (ks,vs)) (hr:σ[b]? =some r) {mt kt et:Nat} (hmt:P.underlying mt=some (.map kt et)) (hkt:P.underlying kt=some (.int .i64))
  (k:Int) {ats:Array TypeId} {args:Array Value} {ty:TypeId} (a0:ats[0]? =some mt) (b0:args[0]? =some (.map (some r))) (b1:args[1]? =some (.int .i64 k)):
  ∃w',(Builtin.delete_ ats ty args).run P w=.ok (.tuple #[]) w'∧Ext p w p w'∧HRel p σ (s.H.set b (some (.mp (delKs ks k) (delVs ks vs k)))) w':=by
 obtain ⟨h1,h2,es,cl,h3,h4,h5,h6⟩:=map_at hH hm hr
 have hget:(getObj r).run P w=.ok (.map es cl) w:=by simp[getObj,Sem.run,h3]
 have hsz:es.size=ks.length:=by have:=h4.1;simpa using this
 have fin: ∀(es':Array MapEntry) (cl':Nat),es'.size=(delKs ks k).length→es'.size=(delVs ks vs k).length→(∀ (i:Nat) (k1:Int) (e:MapEntry),(delKs ks k)[i]? =some k1→es'[i]? =some e→e.key=.int .i64 k1)→
   (∀ (i:Nat) (y:AV) (e:MapEntry),(delVs ks vs k)[i]? =some y→es'[i]? =some e→VRel p σ w y e.val)→
   Ext p w p (setW w r (.map es' cl'))∧HRel p σ (s.H.set b (some (.mp (delKs ks k) (delVs ks vs k)))) (setW w r (.map es' cl')):=fun es' cl' g1 g2 g3 g4=>by
  have hsh:Shape w (setW w r (.map es' cl')):=.setOther h3 (fun _ _ _ h=>by simp at h)
  have he:Ext p w p (setW w r (.map es' cl')):=.set h1 hsh
  exact⟨he,hH.set (mapOf_some hm) hr _ hsh _ ⟨es',cl',setW_same h2,g1,g2,g3,fun i y e hy he'=>(g4 i y e hy he').mono he (fun _ _ h=>h)⟩⟩
 have hf:=find_run hkt es.toList ks h4 k w
 rw[delKs_eq,delVs_eq _ _ _ h5] at fin⊢
 cases hx:kIx ks k with
 |none=>
  rw[hx] at hf
  simp only[hx] at fin⊢
  obtain ⟨f1,f2⟩:=fin es cl hsz (by omega) (fun i k1 e g1 g2=>h4.2 i k1 e g1 (by simpa using g2)) h6
  refine⟨_,?_,f1,f2⟩
  unfold Builtin.delete_
  simp only[a0,b0,b1,Sem.run_bind,run_under hmt,Result.andThen_ok,hget,check_run hkt,hf]
  simp[setObj,Sem.run,setW,h3]
 |some j=>
  have hj:=kIx_lt ks k j hx
  have hje:es.toList[j]? =some (es[j]'(by omega)):=by simp[hsz,hj]
  rw[hx] at hf
  simp only[hje,Option.map_some] at hf
  simp only[hx] at fin⊢
  have hge: ∀(i:Nat),(es.eraseIdxIfInBounds j)[i]? =(es.toList.eraseIdx j)[i]? :=fun i=>by
   have:(es.eraseIdxIfInBounds j).toList=es.toList.eraseIdx j:=by
    simp[Array.eraseIdxIfInBounds,hsz,hj]
   rw[← this,Array.getElem?_toList]
  have hl2:(es.eraseIdxIfInBounds j).size=es.size-1:=by
   simp[Array.eraseIdxIfInBounds,hsz,hj]
  obtain ⟨f1,f2⟩:=fin (es.eraseIdxIfInBounds j) cl (by rw[hl2,List.length_eraseIdx,if_pos hj];omega) (by rw[hl2,List.length_eraseIdx,if_pos (by omega)];omega) (fun i k1 e g1 g2=>by
   rw[hge,List.getElem?_eraseIdx] at g2
   rw[List.getElem?_eraseIdx] at g1
   split at g1
   ·rename_i hi;rw[if_pos hi] at g2;exact h4.2 i k1 e g1 g2
   ·rename_i hi;rw[if_neg hi] at g2;exact h4.2 (i+1) k1 e g1 g2) (fun i y e g1 g2=>by
   rw[hge,List.getElem?_eraseIdx] at g2
   rw[List.getElem?_eraseIdx] at g1
   split at g1
   ·rename_i hi;rw[if_pos hi] at g2;exact h6 i y e g1 (by simpa using g2)
   ·rename_i hi;rw[if_neg hi] at g2;exact h6 (i+1) y e g1 (by simpa using g2))
  refine⟨_,?_,f1,f2⟩
  unfold Builtin.delete_
  simp only[a0,b0,b1,Sem.run_bind,run_under hmt,Result.andThen_ok,hget,check_run hkt,hf]
  simp[setObj,Sem.run,setW,h3]
end
end Go.Eng
