/- What the seat's proofs lean on, part 4: the executor over abstract values, its soundness, and what the program's functions answer (Lib23, Num1, Sp30, Sp31, Sp32, Sp21, Opr, Lib20, Sp22, Sp23, Sp50, Sp51, Eng31, Tel1, Tree1, Tree2, Tree3, PrgC, Prg1, Prg2, Prg3, Scr1, Sp52, Sp53, LibS, Prg4, Prg5, Prg6). -/
import Derived.Test.YthldlciagajfoaaGreatDoorEng00
import Derived.Test.YthldlciagajfoaaGreatDoorEng03
import Derived.Lib.ItoaLen
import Derived.Lib.AppendIntMem
import Derived.Lib.AtoiErrMem
import Derived.Lib.AtoiAll
import Derived.Lib.ItoaNum
import Derived.Lib.CutLaws
import Derived.Lib.Fields
import Derived.Shelf.Strings.FieldsAny
set_option linter.all false
set_option linter.unusedVariables false
set_option linter.unusedSimpArgs false
set_option maxRecDepth 100000
namespace Go.Eng
open Go Go.Proofs Go.RowKit
theorem dec_len: ∀i:Nat,i<100→(Lib.decDigits i).length≤3:=by
 intro i hi
 unfold Lib.decDigits
 split
 ·simp
 ·unfold Lib.decDigits
  rw[dif_pos (by omega)];simp
theorem itoa_small (i:Nat) (hi:i<100):Fn Tryz.prog 45 [.i i] (.d (str (Lib.decDigits i))):=
 Fn_below (Ent_of Tryz.func45 rfl (by decide)) str_any fun p w vs hg hlt hs hv=>by
  obtain rfl:=vs_1 hs (arg_int hs hv 0 rfl)
  refine(Tryz.strconv_Itoa_small i hi w).mono fun e w' ⟨he,hw⟩=>⟨_,he,hw▸Below.refl _ _,.str _ ?_⟩
  have:=dec_len i hi
  rw[str_size];unfold LB;omega
def atoiV (l:List UInt8):Int:=
 match Lib.atoiAll l with
 |.ok v=>v
 |.range=>Lib.atoiSat l
 |_=>0
theorem tup_any {n:Int}: ∀(p q:PQ) (w w':World) (v:Value),VRel p [] w (.tup [.i n,.any]) v→VRel q [] w' (.tup [.i n,.any]) v:=fun p q w w' v h=>by
 cases h with
 |tup _ vs h hv=>
  refine .tup _ vs h fun i x v hx hv'=>?_
  have:=hv i x v hx hv'
  match i with
  |0=>simp at hx;subst hx;cases this;exact .int _ _
  |1=>simp at hx;subst hx;exact .any _
  |i+2=>simp at hx
theorem tup_of {p:PQ} {w:World} (n:Int) (v:Value):VRel p [] w (.tup [.i n,.any]) (.tuple #[.int .i64 n,v]):=
 .tup _ _ rfl fun i x u hx hu=>by
  match i with
  |0=>simp at hx hu;subst hx hu;exact .int _ _
  |1=>simp at hx;subst hx;exact .any _
  |i+2=>simp at hx
theorem below_bytes {w w':World} {E:TypeId} (h:w'=w∨ ∃t,w'=Lib.bytesWorld w E t):Below w.heap.size w w':=by
 rcases h with rfl|⟨t,rfl⟩
 ·exact Below.refl _ _
 ·exact Lib.bytesWorld_below _ _ _
theorem atoi_any (l:List UInt8):Fn Tryz.prog 42 [.d (str l)] (.tup [.i (atoiV l),.any]):=
 Fn_below (Ent_of Tryz.func42 rfl (by decide)) tup_any fun p w vs hg hlt hs hv=>by
  obtain ⟨h0,hB⟩:=arg_str hs hv 0 rfl
  obtain rfl:=vs_1 hs h0
  obtain ⟨_,⟨t1,v1,g1⟩,⟨t2,v2,g2⟩,_⟩:=hg
  have hB':(⟨l.toArray⟩:ByteArray).size≤281474976710656:=by unfold LB at hB;exact hB
  unfold atoiV
  cases h:Lib.atoiAll l with
  |ok v=>exact(Tryz.strconv_Atoi_ok ⟨l.toArray⟩ (by omega) v h w).mono fun e w' ⟨he,hw⟩=>⟨_,he,below_bytes hw,tup_of _ _⟩
  |range=>exact(Tryz.strconv_Atoi_range ⟨l.toArray⟩ hB' h _ w g2 (.inr ⟨t2,v2,rfl⟩)).mono fun e w' ⟨N,he,_,_,hw⟩=>⟨_,he,hw,tup_of _ _⟩
  |_=>exact(Tryz.strconv_Atoi_syntax ⟨l.toArray⟩ hB' h _ w g1 (.inr ⟨t1,v1,rfl⟩)).mono fun e w' ⟨N,he,_,_,hw⟩=>⟨_,he,hw,tup_of _ _⟩
def texts (ls:List (List UInt8)):D:=.sl (ls.map fun l=>[str l])
theorem split_c (l:List UInt8) (c:UInt8) (hl:l.length<4294967281):Fn Tryz.prog 95 [.d (str l),.d (str [c])] (.d (texts (splitL c l))):=
 Fn_lift (Ent_of Tryz.func95 rfl (by decide)) fun p w vs hg hlt hs hv=>by
  obtain rfl:=vs_2 hs (arg_str hs hv 0 rfl).1 (arg_str hs hv 1 rfl).1
  obtain ⟨⟨m,hm⟩,_⟩:=hg
  have hsz:(⟨l.toArray⟩:ByteArray).size=l.length:=str_size l
  refine(Tryz.strings_Split ⟨l.toArray⟩ ⟨[c].toArray⟩ m w (by omega) hm (Nat.le_refl 1)).mono fun e w' ⟨he,hw⟩=>?_
  rw[splitB_c c _ l rfl] at hw
  have hn:=split_len c l
  have hc:=count_c c l
  obtain ⟨p',h1,h2,h3⟩:=new_texts hlt ((splitL c l).map fun x=>(⟨x.toArray⟩:ByteArray)) 9 (by rw[List.length_map];unfold LB;omega) (fun x hx=>by
   obtain ⟨y,hy,rfl⟩:=List.mem_map.1 hx
   have:=split_mem_len c l y hy
   rw[str_size];unfold LB;omega) (cap:=Lib.countB ⟨l.toArray⟩ ⟨[c].toArray⟩+1) (by rw[List.length_map];omega)
  subst hw
  refine⟨_,p',he,h1,h2,?_⟩
  have e1:(.d (texts (splitL c l)):AV)=.d (.sl (((splitL c l).map fun x=>(⟨x.toArray⟩:ByteArray)).map fun x=>[.str x])):=by unfold texts;rw[List.map_map];rfl
  rw[e1]
  rw[List.length_map,←hc] at h3
  exact h3
theorem arg_texts {p:PQ} {w:World} (hlt: ∀b,p.u b→b<w.heap.size) {ls:List (List UInt8)} {v:Value} (h:VRel p [] w (.d (texts ls)) v):
  ∃a n cap,v=.slice a n cap∧n=ls.length∧n≤cap∧n≤LB∧(n≠0→ ∃r o,a=some ⟨r,o,none⟩∧r<w.heap.size∧ ∀(i:Nat) (l:List UInt8),ls[i]? =some l→w.cell? ⟨r,o+i,none⟩=some (.string ⟨l.toArray⟩)):=by
 unfold texts at h
 cases h with
 |sl _ a n cap sz vals hn hB hc hrow hcells hvs=>
  refine⟨a,n,cap,rfl,by rw[← hn,List.length_map],hc,hB,fun h0=>?_⟩
  obtain ⟨r,o,rfl,hp,hcs⟩:=hcells h0
  refine⟨r,o,rfl,hlt r (p.sub r hp),fun i l hl=>?_⟩
  have hi:i<n:=by rw[← hn,List.length_map];exact(List.getElem?_eq_some_iff.1 hl).1
  have hr:(ls.map fun l=>[str l])[i]? =some [str l]:=by rw[List.getElem?_map,hl];rfl
  have h1:sz=1:=(hrow i _ hr).symm
  subst h1
  have h2:=hvs i _ 0 _ hr rfl
  have h3:=hcs i 0 hi (by omega)
  generalize vals i 0=u at h2 h3
  cases h2
  simpa using h3
theorem join_c (ls:List (List UInt8)) (c:UInt8) (hl:(joinL c ls).length≤140737488355328) (hn:ls.length≤140737488355328):Fn Tryz.prog 46 [.d (texts ls),.d (str [c])] (.d (str (joinL c ls))):=
 Fn_below (Ent_of Tryz.func46 rfl (by decide)) str_any fun p w vs hg hlt hs hv=>by
  have hi:0<vs.size:=by rw[hs];simp
  obtain ⟨a,n,cap,hv0,hnl,hc,hB,hcs⟩:=arg_texts hlt (hv 0 _ vs[0] rfl (Array.getElem?_eq_getElem hi))
  obtain rfl:=vs_2 hs (by rw[Array.getElem?_eq_getElem hi,hv0]) (arg_str hs hv 1 rfl).1
  by_cases h0:n=0
  ·subst h0
   have:ls=[]:=List.length_eq_zero_iff.1 hnl.symm
   subst this
   exact(Tryz.strings_Join_none a cap ⟨[c].toArray⟩ w).mono fun e w' ⟨he,hw⟩=>⟨_,he,hw▸Below.refl _ _,.str _ (by show (0:Nat)≤LB;exact Nat.zero_le _)⟩
  ·obtain ⟨r,o,rfl,hr,hcell⟩:=hcs h0
   have e1:((ls.map fun l=>(⟨l.toArray⟩:ByteArray)).map (·.data.toList))=ls:=by rw[List.map_map];exact List.map_id' ls
   have e2:((⟨[c].toArray⟩:ByteArray).data.toList)=[c]:=rfl
   have e3:(ls.map fun l=>(⟨l.toArray⟩:ByteArray)).length=n:=by rw[List.length_map,hnl]
   have h:=Tryz.strings_Join r o cap (ls.map fun l=>(⟨l.toArray⟩:ByteArray)) ⟨[c].toArray⟩ w (fun j x hx=>by
    rw[List.getElem?_map] at hx
    cases hj:ls[j]? with
    |none=>rw[hj] at hx;simp at hx
    |some y=>rw[hj] at hx;simp at hx;subst hx;exact hcell j y hj) hr (by rw[e3];omega) (by rw[e3];omega) (by rw[e1,e2,join_joinL];exact hl)
   rw[e1,e2,join_joinL,e3] at h
   exact h.mono fun e w' ⟨he,hw⟩=>⟨_,he,hw,.str _ (by rw[str_size];unfold LB;omega)⟩
theorem itoa_any (n:Int) (h0: -9223372036854775808≤n) (h1:n≤9223372036854775807):Fn Tryz.prog 45 [.i n] (.d (str (Lib.itoa n))):=
 Fn_below (Ent_of Tryz.func45 rfl (by decide)) str_any fun p w vs hg hlt hs hv=>by
  obtain rfl:=vs_1 hs (arg_int hs hv 0 rfl)
  have ht:=glob_pow hg
  refine(Tryz.strconv_Itoa n h0 h1 w ht).mono fun e w' ⟨he,k,os,hw⟩=>⟨_,he,?_,.str _ ?_⟩
  ·subst hw
   exact Lib.below_grow _ w (Nat.le_refl _) k os
  ·have:=Lib.itoa_length_le n h0 h1
   rw[str_size];unfold LB;omega
theorem trim_prefix (s p:List UInt8):Fn Tryz.prog 41 [.d (str s),.d (str p)] (.d (str (Lib.trimPrefix s p))):=
 Fn_below (Ent_of Tryz.func41 rfl (by decide)) str_any fun q w vs hg hlt hs hv=>by
  obtain ⟨h0,hB⟩:=arg_str hs hv 0 rfl
  obtain rfl:=vs_2 hs h0 (arg_str hs hv 1 rfl).1
  refine(Tryz.strings_TrimPrefix ⟨s.toArray⟩ ⟨p.toArray⟩ w).mono fun e w' ⟨he,hw⟩=>⟨_,he,hw▸Below.refl _ _,.str _ ?_⟩
  have:(Lib.trimPrefix s p).length≤s.length:=by unfold Lib.trimPrefix;split <;> simp
  rw[str_size] at hB⊢
  unfold LB at hB⊢
  omega
end Go.Eng
namespace Go.Eng
open Go
def spell (acc:Nat) (l:List UInt8):Nat:=l.foldl (fun a c=>a * 10+(c.toNat-48)) acc
theorem spell_app (acc:Nat) (l m:List UInt8):spell acc (l++m)=spell (spell acc l) m:=by unfold spell;rw[List.foldl_append]
theorem spell_ge (l:List UInt8): ∀acc,acc≤spell acc l:=by
 induction l with
 |nil=>intro acc;exact Nat.le_refl _
 |cons c r ih=>
  intro acc
  have:=ih (acc * 10+(c.toNat-48))
  show acc≤spell (acc * 10+(c.toNat-48)) r
  omega
def isDig (c:UInt8):Prop:=48≤c.toNat∧c.toNat≤57
theorem dig_of {u:Nat} (h:u<10):(UInt8.ofNat (48+u)).toNat=48+u:=by rw[UInt8.toNat_ofNat'];omega
theorem dec_spec (u:Nat):(∀ c∈Lib.decDigits u,isDig c)∧spell 0 (Lib.decDigits u)=u∧Lib.decDigits u≠[]:=by
 induction u using Nat.strongRecOn with
 |_ u ih=>
  rw[Lib.decDigits.eq_def u]
  split
  ·rename_i h
   refine⟨fun c hc=>?_,?_,by simp⟩
   ·rw[List.mem_singleton] at hc;subst hc;unfold isDig;rw[dig_of h];omega
   ·simp only[spell,List.foldl_cons,List.foldl_nil];rw[dig_of h];omega
  ·rename_i h
   obtain ⟨h1,h2,h3⟩:=ih (u / 10) (by omega)
   have hd:=dig_of (u:=u % 10) (by omega)
   refine⟨fun c hc=>?_,?_,by simp⟩
   ·rcases List.mem_append.1 hc with hc|hc
    ·exact h1 c hc
    ·rw[List.mem_singleton] at hc;subst hc;unfold isDig;rw[hd];omega
   ·rw[spell_app,h2]
    simp only[spell,List.foldl_cons,List.foldl_nil];rw[hd];omega
theorem parse_spell (l:List UInt8): ∀acc,(∀ c∈l,isDig c)→spell acc l<1844674407370955162→Lib.parseUint10 acc l=.ok (spell acc l):=by
 induction l with
 |nil=>intro acc _ _;rfl
 |cons c r ih=>
  intro acc h hb
  have hc:=h c (by simp)
  unfold isDig at hc
  have hs:spell acc (c::r)=spell (acc * 10+(c.toNat-48)) r:=rfl
  rw[hs] at hb⊢
  have h1:=spell_ge r (acc * 10+(c.toNat-48))
  unfold Lib.parseUint10
  rw[if_pos hc,if_neg (by omega),if_neg (by omega)]
  exact ih _ (fun x hx=>h x (by simp[hx])) hb
theorem atoi_itoa {n:Int} (h1: -1000000000000000000<n) (h2:n<1000000000000000000):Lib.atoiAll (Lib.itoa n)=.ok n:=by
 unfold Lib.itoa
 split
 ·rename_i h
  obtain ⟨d1,d2,d3⟩:=dec_spec n.natAbs
  unfold Lib.atoiAll
  have e:Lib.parseMag (if (45:UInt8).toNat=43∨(45:UInt8).toNat=45 then Lib.decDigits n.natAbs else 45::Lib.decDigits n.natAbs)=.ok n.natAbs:=by
   rw[if_pos (by decide)]
   unfold Lib.parseMag
   rw[if_neg d3,parse_spell _ 0 d1 (by rw[d2];omega),d2]
  simp only[e]
  rw[if_neg (by simp),if_neg (by omega)]
  simp
  omega
 ·rename_i h
  obtain ⟨d1,d2,d3⟩:=dec_spec n.toNat
  have e:Lib.parseMag (Lib.decDigits n.toNat)=.ok n.toNat:=by
   unfold Lib.parseMag
   rw[if_neg d3,parse_spell _ 0 d1 (by rw[d2];omega),d2]
  generalize Lib.decDigits n.toNat=l at *
  cases l with
  |nil=>exact absurd rfl d3
  |cons c r=>
   have hc:=d1 c (by simp)
   unfold isDig at hc
   unfold Lib.atoiAll
   simp only
   rw[if_neg (by omega),e]
   simp only
   have h45: ¬c.toNat=45:=by omega
   rw[if_neg (by omega),if_neg (by simp[h45])]
   simp[h45]
   omega
theorem itoa_no {n:Int} {c:UInt8} (hc: ¬isDig c) (h45:c≠45):c∉Lib.itoa n:=by
 unfold Lib.itoa
 split
 ·simp only[List.mem_cons,not_or]
  exact⟨h45,fun h=>hc ((dec_spec _).1 c h)⟩
 ·exact fun h=>hc ((dec_spec _).1 c h)
theorem itoa_ne (n:Int):Lib.itoa n≠[]:=by
 unfold Lib.itoa
 split
 ·simp
 ·exact(dec_spec _).2.2
theorem dec_lt (k:Nat): ∀u:Nat,(Lib.decDigits u).length≤k+1↔u<10 ^ (k+1):=by
 induction k with
 |zero=>
  intro u
  rw[Lib.decDigits.eq_def u]
  split
  ·simp;omega
  ·obtain ⟨_,_,h3⟩:=dec_spec (u / 10)
   have:=List.length_pos_iff.2 h3
   simp only[List.length_append,List.length_cons,List.length_nil]
   rw[show 10 ^ (0+1)=10 from rfl]
   omega
 |succ k ih=>
  intro u
  rw[Lib.decDigits.eq_def u]
  have hp:10 ^ (k+1+1)=10 ^ (k+1) * 10:=Nat.pow_succ _ _
  have h1:0<10 ^ (k+1):=Nat.pow_pos (by decide)
  split
  ·simp;omega
  ·have:=ih (u / 10)
   simp only[List.length_append,List.length_cons,List.length_nil]
   rw[hp]
   omega
end Go.Eng
set_option maxRecDepth 20000
namespace Go.Eng
open Go
structure TRow where
 kind:Int
 prog:Int
 type:Int
 node:Int
 target:Int
 related:Int
 phase:Int
 err:Int
 deriving DecidableEq,Repr
def TRow.cs (x:TRow):List D:=[.i x.kind,.i x.prog,.i x.type,.i x.node,.i x.target,.i x.related,.i x.phase,.i x.err]
def evL:Nat→List UInt8
 |0=>[102,111,99,117,115]
 |1=>[98,108,117,114]
 |2=>[102,111,99,117,115,105,110]
 |3=>[102,111,99,117,115,111,117,116]
 |4=>[98,101,102,111,114,101,116,111,103,103,108,101]
 |5=>[116,111,103,103,108,101]
 |6=>[99,97,110,99,101,108]
 |7=>[99,108,111,115,101]
 |8=>[99,108,105,99,107]
 |_=>[]
@[irreducible] def evsL:List AV:=(List.range 9).map fun k=>AV.d (str (evL k))
theorem evs_low:low 0 (.agg evsL)=true:=by unfold evsL;rfl
theorem evs_at {k:Nat} (h:k<9):evsL[k]? =some (AV.d (str (evL k))):=by
 unfold evsL
 rw[List.getElem?_map,List.getElem?_range h]
 rfl
@[irreducible] def evV (n:Int):List UInt8:=if 0≤n∧n≤8 then evL n.toNat else []
abbrev it (n:Int):List UInt8:=Lib.itoa n
def wCall:List UInt8:=[99,97,108,108]
def wStep:List UInt8:=[115,116,101,112]
def wDone:List UInt8:=[100,111,110,101]
def wResult:List UInt8:=[114,101,115,117,108,116]
@[irreducible] def toldB (r:TRow):Bool:=
 (decide (r.kind=0)&&decide (r.err=0)&&decide (0≤r.type∧r.type≤8))||
 ((decide (r.kind=1)||decide (r.kind=2))&&decide (r.type=0)&&decide (r.node=0)&&decide (r.target=0)&&decide (r.related=0)&&decide (r.phase=0))||
 (decide (r.kind=3)&&decide (r.prog=0)&&decide (r.related=0)&&decide (r.phase=0))
def wordsR (r:TRow):List (List UInt8):=
 if r.kind=0 then [wCall,it r.prog,evL r.type.toNat,it r.node,it r.target,it r.related,it r.phase]
 else if r.kind=1 then [wStep,it r.prog,it r.err]
 else if r.kind=2 then [wDone,it r.prog,it r.err]
 else [wResult,it r.type,it r.node,it r.target,it r.err]
@[irreducible] def rowV (r:TRow):List UInt8:=if toldB r then joinL 32 (wordsR r) else []
def sh15 (n:Int):Prop:= -1000000000000000<n∧n<1000000000000000
instance (n:Int):Decidable (sh15 n):=by unfold sh15;infer_instance
theorem told_iff {r:TRow}:toldB r=true↔(r.kind=0∧r.err=0∧0≤r.type∧r.type≤8)∨((r.kind=1∨r.kind=2)∧r.type=0∧r.node=0∧r.target=0∧r.related=0∧r.phase=0)∨(r.kind=3∧r.prog=0∧r.related=0∧r.phase=0):=by
 unfold toldB
 simp only[Bool.or_eq_true,Bool.and_eq_true,decide_eq_true_eq]
 grind
theorem ev_all: ∀k:_root_.Fin 9,(32:UInt8)∉evL k.val∧(10:UInt8)∉evL k.val∧evL k.val≠[]∧(evL k.val).length≤15∧ ∀j:_root_.Fin 9,evL k.val=evL j.val→k=j:=by decide +kernel
theorem it_no (n:Int):(32:UInt8)∉it n∧(10:UInt8)∉it n:=⟨itoa_no (by unfold isDig;decide) (by decide),itoa_no (by unfold isDig;decide) (by decide)⟩
theorem joinL_len' (c:UInt8) (ws:List (List UInt8)) (m:Nat) (h: ∀w∈ws,w.length≤m):(joinL c ws).length≤ws.length * (m+1):=by
 induction ws with
 |nil=>simp[joinL]
 |cons w ws ih=>
  have hw:=h w (by simp)
  cases ws with
  |nil=>simp[joinL];omega
  |cons a r=>
   have:=ih (fun x hx=>h x (by simp[hx]))
   rw[joinL_cons c w (by simp)]
   simp only[List.length_append,List.length_cons] at this⊢
   rw[Nat.succ_mul]
   omega
end Go.Eng
set_option maxRecDepth 20000
namespace Go.Eng
open Go
theorem it_len {n:Int} (h: -9223372036854775808≤n∧n≤9223372036854775807):(it n).length≤21:=Lib.itoa_length_le n h.1 h.2
theorem joinL_appT (c:UInt8) (u v:List (List UInt8)) (hu:u≠[]) (hv:v≠[]):joinL c (u++v)=joinL c u++c::joinL c v:=by
 induction u with
 |nil=>exact absurd rfl hu
 |cons a r ih=>
  cases r with
  |nil=>rw[List.singleton_append,joinL_cons c a hv];rfl
  |cons b t=>
   rw[List.cons_append,joinL_cons c a (by simp),ih (by simp),joinL_cons c a (by simp),List.append_assoc]
   rfl
end Go.Eng
set_option maxRecDepth 20000
namespace Go.Eng
open Go
theorem ix_hit {α:Type} {p:α→Bool} {l:List α} (h:0≤ix p l): ∃a,l[(ix p l).toNat]? =some a∧p a=true:=by
 induction l with
 |nil=>simp[ix] at h
 |cons a r ih=>
  have hr:=ix_lo p r
  simp only[ix] at h⊢
  by_cases hp:p a=true
  ·simp only[hp,if_true];exact⟨a,rfl,hp⟩
  ·simp only[hp] at h⊢
   by_cases h1:ix p r<0
   ·simp[h1] at h
   ·simp only[h1,if_false] at h⊢
    obtain ⟨b,g1,g2⟩:=ih (by omega)
    refine⟨b,?_,g2⟩
    have:(ix p r+1).toNat=(ix p r).toNat+1:=by omega
    simp only[Bool.false_eq_true,if_false]
    rw[this,List.getElem?_cons_succ]
    exact g1
def wAt (W:List (List UInt8)) (i:Nat):List UInt8:=W.getD i []
theorem texts_w {W:List (List UInt8)} {i:Nat} (h:i<W.length) {n:Int} (hn:n=i):(W.map fun l=>[str l])[n.toNat]? =some [str (wAt W i)]:=by
 subst hn
 unfold wAt
 simp[List.getD_eq_getElem?_getD,h]
def trimW (w:List UInt8):List UInt8:=Lib.trimPrefix w [45]
def longW (w:List UInt8):Bool:=decide ((trimW w).length>15)
theorem trim_cons (c:UInt8) (r:List UInt8):trimW (c::r)=if c=45 then r else c::r:=by
 unfold trimW Lib.trimPrefix Lib.hasPrefix
 by_cases h:c=45
 ·subst h;simp
 ·rw[if_neg h,if_neg];simp[Ne.symm h,h]
theorem trim_it (n:Int):trimW (it n)=Lib.decDigits n.natAbs∧((trimW (it n)).length<(it n).length↔n<0):=by
 unfold it Lib.itoa
 split
 ·rename_i h
  rw[trim_cons,if_pos rfl]
  exact⟨rfl,by simp;exact h⟩
 ·rename_i h
  obtain ⟨d1,d2,d3⟩:=dec_spec n.toNat
  have e:n.toNat=n.natAbs:=by omega
  rw[e] at d1 d3⊢
  generalize Lib.decDigits n.natAbs=l at *
  cases l with
  |nil=>exact absurd rfl d3
  |cons c r=>
   have hc:=d1 c (by simp)
   unfold isDig at hc
   rw[trim_cons,if_neg (by rintro rfl;revert hc;decide)]
   exact⟨rfl,by simp;omega⟩
theorem long_it (n:Int):longW (it n)= !decide (sh15 n):=by
 unfold longW
 rw[(trim_it n).1]
 have h:=dec_lt 14 n.natAbs
 have e:(10:Nat) ^ (14+1)=1000000000000000:=by decide
 rw[e] at h
 generalize (Lib.decDigits n.natAbs).length=L at *
 by_cases hn:n.natAbs<1000000000000000
 ·have:=h.2 hn
  rw[decide_eq_false (by omega),decide_eq_true (by unfold sh15;omega)];rfl
 ·have: ¬L≤14+1:=fun hh=>hn (h.1 hh)
  rw[decide_eq_true (by omega),decide_eq_false (by unfold sh15;omega)];rfl
theorem atoi_it {n:Int} (h:sh15 n):atoiV (it n)=n:=by
 unfold sh15 at h
 unfold atoiV it
 rw[atoi_itoa (by omega) (by omega)]
def fold15 (acc:Int) (t:List UInt8):Int:=t.foldl (fun a c=>10 * a+c.toNat-48) acc
@[irreducible] def rd1 (s:List UInt8):Int×Bool:=
 if (trimW s).length>15 then (0,false)
 else (if (trimW s).length<s.length then -(fold15 0 (trimW s)) else fold15 0 (trimW s),decide (it (if (trimW s).length<s.length then -(fold15 0 (trimW s)) else fold15 0 (trimW s))=s))
theorem fold_spell (l:List UInt8): ∀acc:Nat,(∀ c∈l,isDig c)→fold15 acc l=(spell acc l:Nat):=by
 induction l with
 |nil=>intro acc _;rfl
 |cons c r ih=>
  intro acc h
  have hc:=h c (by simp)
  unfold isDig at hc
  show fold15 (10 * (acc:Int)+c.toNat-48) r=((spell (acc * 10+(c.toNat-48)) r:Nat):Int)
  rw[← ih _ (fun x hx=>h x (by simp[hx]))]
  congr 1
  omega
theorem rd1_it {n:Int} (h:sh15 n):rd1 (it n)=(n,true):=by
 obtain ⟨h1,h2⟩:=trim_it n
 obtain ⟨d1,d2,d3⟩:=dec_spec n.natAbs
 have hl:=long_it n
 unfold longW at hl
 rw[decide_eq_true h] at hl
 have hl: ¬(trimW (it n)).length>15:=by simpa using hl
 have hf:fold15 0 (trimW (it n))=(n.natAbs:Int):=by
  have:=fold_spell (Lib.decDigits n.natAbs) 0 d1
  rw[d2] at this
  rw[h1];exact this
 unfold rd1
 rw[if_neg hl,hf]
 by_cases hn:n<0
 ·rw[if_pos (h2.2 hn)]
  have: -(n.natAbs:Int)=n:=by omega
  rw[this];simp
 ·rw[if_neg (fun x=>hn (h2.1 x))]
  have:(n.natAbs:Int)=n:=by omega
  rw[this];simp
theorem rd1_ok {s:List UInt8} (h:(rd1 s).2=true):sh15 (rd1 s).1∧it (rd1 s).1=s:=by
 unfold rd1 at *
 split at h
 ·simp at h
 ·rename_i hl
  rw[if_neg hl]
  simp only[decide_eq_true_eq] at h⊢
  refine⟨?_,h⟩
  generalize (if (trimW s).length<s.length then -(fold15 0 (trimW s)) else fold15 0 (trimW s))=n at *
  have h1:=long_it n
  rw[h] at h1
  unfold longW at h1
  rw[decide_eq_false hl] at h1
  simpa using h1.symm
end Go.Eng
namespace Go.Eng
open Go
structure Step where
 f:Int
 a:Int
 b:Int
 deriving DecidableEq,Repr
instance:Inhabited Step:=⟨⟨0,0,0⟩⟩
def Step.cs (x:Step):List D:=[.i x.f,.i x.a,.i x.b]
def stepsD (l:List Step):D:=.sl (l.map Step.cs)
def nameL:Nat→List UInt8
 |0=>[102,111,99,117,115]
 |1=>[98,108,117,114]
 |2=>[105,110,115,101,114,116]
 |3=>[114,101,109,111,118,101]
 |4=>[115,101,116]
 |5=>[100,114,111,112]
 |6=>[115,104,111,119]
 |7=>[99,108,111,115,101]
 |8=>[111,112,101,110]
 |9=>[104,105,100,101]
 |10=>[99,108,105,99,107]
 |11=>[115,116,111,112]
 |12=>[115,116,111,112,110,111,119]
 |13=>[112,114,101,118,101,110,116]
 |14=>[117,110,108,105,115,116,101,110]
 |_=>[]
def manyN:Nat→Int
 |0=>1
 |1=>0
 |2=>2
 |3=>1
 |4=>2
 |5=>2
 |6=>1
 |7=>1
 |8=>1
 |9=>1
 |10=>1
 |_=>0
theorem name_len (k:Nat):(nameL k).length≤20:=by unfold nameL;split <;> simp
theorem many_bd (k:Nat):0≤manyN k∧manyN k≤2:=by unfold manyN;split <;> omega
@[irreducible] def kindsL:List AV:=((List.range 15).map fun k=>[AV.d (str (nameL k)),AV.i (manyN k)]).flatten
theorem kinds_len:kindsL.length=30:=by unfold kindsL;rfl
theorem kinds_low:low 0 (.agg kindsL)=true:=by unfold kindsL;rfl
theorem kinds_ren (g:Nat→Nat):renB g (.row kindsL)=.row kindsL:=by unfold kindsL;rfl
theorem kinds_lowB (k:Nat):lowB k (.row kindsL)=true:=by unfold kindsL;rfl
theorem kinds_sub {k:Nat} (h:k<15):sub kindsL (k * 2) 2=[AV.d (str (nameL k)),AV.i (manyN k)]:=by
 unfold kindsL
 match k,h with
 |0,_=>rfl
 |1,_=>rfl
 |2,_=>rfl
 |3,_=>rfl
 |4,_=>rfl
 |5,_=>rfl
 |6,_=>rfl
 |7,_=>rfl
 |8,_=>rfl
 |9,_=>rfl
 |10,_=>rfl
 |11,_=>rfl
 |12,_=>rfl
 |13,_=>rfl
 |14,_=>rfl
 |k+15,h=>omega
@[irreducible] def inM (n m:Int):Bool:=decide (0≤n∧n≤m)
theorem inM_iff {n m:Int}:inM n m=true↔0≤n∧n≤m:=by unfold inM;simp
@[irreducible] def nameV (n:Int):List UInt8:=if 0≤n∧n≤14 then nameL n.toNat else []
@[irreducible] def stepB (x:Step):Bool:=inM x.f 14&&inM x.a 63&&inM x.b 63&&(decide (1≤manyN x.f.toNat)||decide (x.a=0))&&(decide (2≤manyN x.f.toNat)||decide (x.b=0))
@[irreducible] def checkB (l:List Step):Bool:=decide (l.length≤16)&&l.all stepB
abbrev num (n:Int):List UInt8:=Lib.decDigits n.toNat
def wordsS (x:Step):List (List UInt8):=nameL x.f.toNat::(if 1≤manyN x.f.toNat then [num x.a] else [])++(if 2≤manyN x.f.toNat then [num x.b] else [])
def textS (x:Step):List UInt8:=joinL 32 (wordsS x)
def textL (l:List Step):List UInt8:=if checkB l=true then joinL 59 (l.map textS) else []
end Go.Eng
namespace Go.Eng
open Go
structure OpR where
 d:Int
 a:Int
 b:Int
 c:Int
 fl:Bool
 p:List Step
 deriving DecidableEq
def OpR.cs (o:OpR):List D:=[.int .i64 o.d,.int .i64 o.a,.int .i64 o.b,.int .i64 o.c,.bool o.fl,stepsD o.p]
abbrev opsD (l:List OpR):D:=.sl (l.map OpR.cs)
end Go.Eng
namespace Go.Eng
open Go Go.Proofs Go.RowKit
theorem index_one (l:List UInt8) (c:UInt8):Fn Tryz.prog 77 [.d (str l),.d (str [c])] (.i (Lib.indexByte l c)):=
 Fn_below (Ent_of Tryz.func77 rfl (by decide)) int_any fun p w vs hg hlt hs hv=>by
  obtain rfl:=vs_2 hs (arg_str hs hv 0 rfl).1 (arg_str hs hv 1 rfl).1
  refine(Tryz.strings_Index_one ⟨l.toArray⟩ c w).mono fun e w' ⟨he,hw⟩=>⟨_,he,hw▸Below.refl _ _,.int _ _⟩
end Go.Eng
namespace Go.Eng
open Go
def kindOf (w:List UInt8):Int:=ix (fun k=>nameL k==w) (List.range 15)
def wordAt (W:List (List UInt8)) (i:Nat):List UInt8:=W.getD i []
def numAt (W:List (List UInt8)) (i:Nat):Int:=if i<W.length then atoiV (wordAt W i) else 0
def readS (W:List (List UInt8)):Step:=⟨kindOf (wordAt W 0),numAt W 1,numAt W 2⟩
@[irreducible] def goodW (W:List (List UInt8)):Bool:=decide (0≤kindOf (wordAt W 0))&&decide ((W.length:Int)=1+manyN (kindOf (wordAt W 0)).toNat)
@[irreducible] def readV (s:List UInt8):Step×Bool:=if goodW (splitL 32 s) then (readS (splitL 32 s),stepB (readS (splitL 32 s))&&textS (readS (splitL 32 s))==s) else (⟨0,0,0⟩,false)
theorem kinds_at1 {k:Nat} (h:k<15):kindsL[k * 2+1]? =some (AV.i (manyN k)):=by
 unfold kindsL
 match k,h with
 |0,_=>rfl
 |1,_=>rfl
 |2,_=>rfl
 |3,_=>rfl
 |4,_=>rfl
 |5,_=>rfl
 |6,_=>rfl
 |7,_=>rfl
 |8,_=>rfl
 |9,_=>rfl
 |10,_=>rfl
 |11,_=>rfl
 |12,_=>rfl
 |13,_=>rfl
 |14,_=>rfl
 |k+15,h=>omega
theorem kindOf_lt (w:List UInt8): -1≤kindOf w∧kindOf w<15:=by
 have:=ix_lo (fun k=>nameL k==w) (List.range 15)
 unfold kindOf
 simpa using this
@[irreducible] def parseV (s:List UInt8):List Step×Int:=
 if s=[] then ([],0) else
 if (splitL 59 s).length≤16∧ ∀w∈splitL 59 s,(readV w).2=true then ((splitL 59 s).map fun w=>(readV w).1,0) else ([],13)
end Go.Eng
set_option maxRecDepth 20000
namespace Go.Eng
open Go
theorem ix_get {α:Type} {p:α→Bool} {l:List α} (h:0≤ix p l): ∃a,l[(ix p l).toNat]? =some a∧p a=true:=by
 induction l with
 |nil=>simp[ix] at h
 |cons a r ih=>
  have hr:=ix_lo p r
  simp only[ix] at h⊢
  by_cases hp:p a=true
  ·simp only[hp,if_true];exact⟨a,rfl,hp⟩
  ·simp only[hp] at h⊢
   by_cases h1:ix p r<0
   ·simp[h1] at h
   ·simp only[h1,if_false] at h⊢
    obtain ⟨b,g1,g2⟩:=ih (by omega)
    refine⟨b,?_,g2⟩
    have:(ix p r+1).toNat=(ix p r).toNat+1:=by omega
    simp only[Bool.false_eq_true,if_false]
    rw[this,List.getElem?_cons_succ]
    exact g1
def dg (n:Nat):List UInt8:=if n<10 then [UInt8.ofNat (48+n)] else [UInt8.ofNat (48+n / 10),UInt8.ofNat (48+n % 10)]
theorem dec_dg {n:Nat} (h:n<100):Lib.decDigits n=dg n:=by
 unfold dg Lib.decDigits
 split
 ·rfl
 ·unfold Lib.decDigits
  rw[dif_pos (by omega)];rfl
theorem dg_all: ∀n:_root_.Fin 64,atoiV (dg n.val)=(n.val:Int)∧(32:UInt8)∉dg n.val∧(59:UInt8)∉dg n.val:=by decide +kernel
theorem num_of {a:Int} (h:inM a 63=true): ∃n:Nat,n<64∧a=n∧num a=dg n:=by
 rw[inM_iff] at h
 refine⟨a.toNat,by omega,by omega,?_⟩
 unfold num
 exact dec_dg (by omega)
theorem num_atoi {a:Int} (h:inM a 63=true):atoiV (num a)=a:=by
 obtain ⟨n,h1,h2,h3⟩:=num_of h
 rw[h3,h2];exact(dg_all ⟨n,h1⟩).1
theorem num_no {a:Int} (h:inM a 63=true):(32:UInt8)∉num a∧(59:UInt8)∉num a:=by
 obtain ⟨n,h1,h2,h3⟩:=num_of h
 rw[h3];exact(dg_all ⟨n,h1⟩).2
theorem name_all: ∀k:_root_.Fin 15,kindOf (nameL k.val)=(k.val:Int)∧(32:UInt8)∉nameL k.val∧(59:UInt8)∉nameL k.val∧nameL k.val≠[]:=by decide +kernel
theorem kindOf_hit {w:List UInt8} (h:0≤kindOf w):w=nameL (kindOf w).toNat:=by
 have hl:=kindOf_lt w
 unfold kindOf at *
 obtain ⟨a,h1,h2⟩:=ix_get h
 have hlt:(ix (fun k=>nameL k==w) (List.range 15)).toNat<15:=by omega
 rw[List.getElem?_range hlt] at h1
 injection h1 with h1
 subst h1
 simpa using (beq_iff_eq.1 h2).symm
theorem stepB_iff {x:Step}:stepB x=true↔inM x.f 14=true∧inM x.a 63=true∧inM x.b 63=true∧(1≤manyN x.f.toNat∨x.a=0)∧(2≤manyN x.f.toNat∨x.b=0):=by
 unfold stepB;simp only[Bool.and_eq_true,Bool.or_eq_true,decide_eq_true_eq,and_assoc]
theorem name_of {x:Step} (h:stepB x=true):kindOf (nameL x.f.toNat)=x.f∧(32:UInt8)∉nameL x.f.toNat∧(59:UInt8)∉nameL x.f.toNat∧nameL x.f.toNat≠[]:=by
 obtain ⟨h1,_⟩:=stepB_iff.1 h
 rw[inM_iff] at h1
 have:=name_all ⟨x.f.toNat,by omega⟩
 rw[show (((⟨x.f.toNat,by omega⟩:_root_.Fin 15).val:Nat):Int)=x.f by simp;omega] at this
 exact this
theorem words_no {x:Step} (h:stepB x=true): ∀w∈wordsS x,(32:UInt8)∉w∧(59:UInt8)∉w:=by
 obtain ⟨h1,h2,h3,_⟩:=stepB_iff.1 h
 obtain ⟨n1,n2,n3,n4⟩:=name_of h
 have ha:=num_no h2
 have hb:=num_no h3
 intro w hw
 unfold wordsS at hw
 simp only[List.cons_append,List.mem_cons,List.mem_append] at hw
 rcases hw with rfl|hw|hw
 ·exact⟨n2,n3⟩
 ·split at hw
  ·simp at hw;subst hw;exact ha
  ·simp at hw
 ·split at hw
  ·simp at hw;subst hw;exact hb
  ·simp at hw
theorem joinL_no (c d:UInt8) (ws:List (List UInt8)) (hcd:d≠c) (h: ∀w∈ws,d∉w):d∉joinL c ws:=by
 induction ws with
 |nil=>simp[joinL]
 |cons w ws ih=>
  cases ws with
  |nil=>exact h w (by simp)
  |cons a r=>
   rw[joinL_cons c w (by simp)]
   simp only[List.mem_append,List.mem_cons,not_or]
   exact⟨h w (by simp),hcd,ih fun x hx=>h x (by simp[hx])⟩
theorem textS_no {x:Step} (h:stepB x=true):(59:UInt8)∉textS x:=joinL_no 32 59 _ (by decide) fun w hw=>(words_no h w hw).2
theorem wordsS_ne (x:Step):wordsS x≠[]:=by unfold wordsS;simp
theorem split_textS {x:Step} (h:stepB x=true):splitL 32 (textS x)=wordsS x:=split_join 32 _ (wordsS_ne x) fun w hw=>(words_no h w hw).1
theorem textS_ne {x:Step} (h:stepB x=true):textS x≠[]:=by
 intro e
 have h1:=split_textS h
 rw[e] at h1
 have h2:=(name_of h).2.2.2
 unfold wordsS at h1
 simp only[splitL,List.cons_append,List.cons.injEq] at h1
 exact h2 h1.1.symm
theorem words_len {x:Step}:((wordsS x).length:Int)=1+manyN x.f.toNat:=by
 have:=many_bd x.f.toNat
 unfold wordsS
 split <;> split <;> simp <;> omega
theorem wordAt_0 (x:Step):wordAt (wordsS x) 0=nameL x.f.toNat:=by unfold wordAt wordsS;simp
theorem wordAt_1 (x:Step) (h:1≤manyN x.f.toNat):wordAt (wordsS x) 1=num x.a:=by unfold wordAt wordsS;rw[if_pos h];simp
theorem wordAt_2 (x:Step) (h:2≤manyN x.f.toNat):wordAt (wordsS x) 2=num x.b:=by unfold wordAt wordsS;rw[if_pos h,if_pos (by omega)];simp
theorem goodW_words {x:Step} (h:stepB x=true):goodW (wordsS x)=true:=by
 have h1:=(name_of h).1
 have h2:=(stepB_iff.1 h).1
 rw[inM_iff] at h2
 have:=words_len (x:=x)
 unfold goodW
 rw[wordAt_0,h1]
 simp only[Bool.and_eq_true,decide_eq_true_eq]
 exact⟨by omega,this⟩
theorem read_ok {s:List UInt8} {x:Step}:readV s=(x,true)↔stepB x=true∧textS x=s:=by
 constructor
 ·intro h
  unfold readV at h
  split at h
  ·simp only[Prod.mk.injEq,Bool.and_eq_true,beq_iff_eq] at h
   obtain ⟨rfl,h2,h3⟩:=h
   exact⟨h2,h3⟩
  ·simp at h
 ·rintro ⟨h,rfl⟩
  have hw:=split_textS h
  obtain ⟨h1,h2,h3,h4,h5⟩:=stepB_iff.1 h
  have hl:=words_len (x:=x)
  have hx:readS (wordsS x)=x:=by
   unfold readS
   rw[wordAt_0,(name_of h).1]
   have ea:numAt (wordsS x) 1=x.a:=by
    unfold numAt
    by_cases g:1≤manyN x.f.toNat
    ·rw[if_pos (by omega),wordAt_1 x g];exact num_atoi h2
    ·rw[if_neg (by omega)];exact(h4.resolve_left g).symm
   have eb:numAt (wordsS x) 2=x.b:=by
    unfold numAt
    by_cases g:2≤manyN x.f.toNat
    ·rw[if_pos (by omega),wordAt_2 x g];exact num_atoi h3
    ·rw[if_neg (by omega)];exact(h5.resolve_left g).symm
   rw[ea,eb]
  unfold readV
  rw[hw,goodW_words h,if_pos rfl,hx,h]
  simp
def numV (w:List UInt8):Int:=let i:=ix (fun n=>Lib.decDigits n==w) (List.range 64);if i<0 then 64 else i
theorem numV_hit {w:List UInt8} (h:numV w≤63):num (numV w)=w:=by
 have hl:=ix_lo (fun n=>Lib.decDigits n==w) (List.range 64)
 unfold numV at *
 dsimp only at *
 split at h
 ·omega
 ·rename_i hn
  rw[if_neg hn]
  obtain ⟨a,h1,h2⟩:=ix_get (p:=fun n=>Lib.decDigits n==w) (l:=List.range 64) (by omega)
  rw[List.getElem?_range (by omega)] at h1
  injection h1 with h1
  subst h1
  simpa using h2
theorem ix_firstP {α:Type} {p:α→Bool} {l:List α} {k:Nat} {a:α} (hk:l[k]? =some a) (hp:p a=true):0≤ix p l∧ix p l≤k:=by
 induction l generalizing k with
 |nil=>simp at hk
 |cons b r ih=>
  simp only[ix]
  by_cases hb:p b=true
  ·simp[hb]
  ·cases k with
   |zero=>simp at hk;subst hk;exact absurd hp hb
   |succ k=>
    obtain ⟨g1,g2⟩:=ih (k:=k) (by simpa using hk)
    simp only[hb,Bool.false_eq_true,if_false]
    rw[if_neg (by omega)]
    omega
theorem numV_num {a:Int} (h:inM a 63=true):numV (num a)=a:=by
 have ha:=h
 rw[inM_iff] at ha
 have hf:=ix_firstP (p:=fun n=>Lib.decDigits n==num a) (l:=List.range 64) (k:=a.toNat) (a:=a.toNat) (by rw[List.getElem?_range (by omega)]) (by simp[num])
 have hle:numV (num a)≤63:=by unfold numV;dsimp only;rw[if_neg (by omega)];omega
 have h1:=numV_hit hle
 have h0:0≤numV (num a):=by unfold numV;dsimp only;rw[if_neg (by omega)];omega
 have h2:=num_atoi (a:=numV (num a)) (inM_iff.2 ⟨h0,hle⟩)
 rw[h1,num_atoi h] at h2
 exact h2.symm
@[irreducible] def oneX (W:List (List UInt8)):Step:=⟨kindOf (wordAt W 0),if 1≤manyN (kindOf (wordAt W 0)).toNat then numV (wordAt W 1) else 0,if 2≤manyN (kindOf (wordAt W 0)).toNat then numV (wordAt W 2) else 0⟩
@[irreducible] def oneV (s:List UInt8):Step×Bool:=if goodW (splitL 32 s) then (oneX (splitL 32 s),stepB (oneX (splitL 32 s))) else (⟨0,0,0⟩,false)
theorem words_of {W:List (List UInt8)} (hg:goodW W=true) (hs:stepB (oneX W)=true):W=wordsS (oneX W):=by
 obtain ⟨h1,h2,h3,h4,h5⟩:=stepB_iff.1 hs
 unfold goodW at hg
 simp only[Bool.and_eq_true,decide_eq_true_eq] at hg
 obtain ⟨g1,g2⟩:=hg
 have hw0:=kindOf_hit g1
 have hm:=many_bd (kindOf (wordAt W 0)).toNat
 unfold oneX at *
 dsimp only at *
 rw[inM_iff] at h2 h3
 unfold wordsS
 dsimp only
 generalize kindOf (wordAt W 0)=f at *
 have get: ∀i,i<W.length→W[i]? =some (wordAt W i):=fun i hi=>by unfold wordAt;simp[List.getD_eq_getElem?_getD,hi]
 rcases (by omega:manyN f.toNat=0∨manyN f.toNat=1∨manyN f.toNat=2) with e|e|e
 ·rw[e] at g2⊢
  have e0:=get 0 (by omega)
  match W,g2,e0 with
  |[a],_,e0=>simp at e0 hw0 ⊢;rw[← hw0,←e0]
  |[],g2,_=>simp at g2
  |a::b::r,g2,_=>simp at g2;omega
 ·rw[e] at g2 h2⊢
  have e0:=get 0 (by omega)
  have e1:=get 1 (by omega)
  simp only[Int.le_refl,if_true] at h2
  have n1:=numV_hit h2.2
  match W,g2,e0,e1 with
  |[a,b],_,e0,e1=>simp at e0 e1 hw0 ⊢;rw[← hw0,←e0];simp;rw[← e1] at n1 ⊢;exact n1.symm
  |[],g2,_,_=>simp at g2
  |[a],g2,_,_=>simp at g2
  |a::b::c::r,g2,_,_=>simp at g2;omega
 ·rw[e] at g2 h2 h3⊢
  have e0:=get 0 (by omega)
  have e1:=get 1 (by omega)
  have e2:=get 2 (by omega)
  simp only[Int.le_refl,if_true] at h2 h3
  rw[if_pos (by omega)] at h2
  have n1:=numV_hit h2.2
  have n2:=numV_hit h3.2
  match W,g2,e0,e1,e2 with
  |[a,b,c],_,e0,e1,e2=>simp at e0 e1 e2 hw0 ⊢;rw[← hw0,←e0];rw[← e1] at n1 ⊢;rw[← e2] at n2 ⊢;exact⟨rfl,n1.symm,n2.symm⟩
  |[],g2,_,_,_=>simp at g2
  |[a],g2,_,_,_=>simp at g2
  |[a,b],g2,_,_,_=>simp at g2
  |a::b::c::d::r,g2,_,_,_=>simp at g2;omega
theorem one_ok {s:List UInt8} {x:Step}:oneV s=(x,true)↔stepB x=true∧textS x=s:=by
 constructor
 ·intro h
  unfold oneV at h
  split at h
  ·rename_i hg
   simp only[Prod.mk.injEq] at h
   obtain ⟨rfl,h2⟩:=h
   refine⟨h2,?_⟩
   unfold textS
   rw[← words_of hg h2,join_split]
  ·simp at h
 ·rintro ⟨h,rfl⟩
  have hw:=split_textS h
  obtain ⟨h1,h2,h3,h4,h5⟩:=stepB_iff.1 h
  have hx:oneX (wordsS x)=x:=by
   unfold oneX
   rw[wordAt_0,(name_of h).1]
   have ea:(if 1≤manyN x.f.toNat then numV (wordAt (wordsS x) 1) else 0)=x.a:=by
    by_cases g:1≤manyN x.f.toNat
    ·rw[if_pos g,wordAt_1 x g];exact numV_num h2
    ·rw[if_neg g];exact(h4.resolve_left g).symm
   have eb:(if 2≤manyN x.f.toNat then numV (wordAt (wordsS x) 2) else 0)=x.b:=by
    by_cases g:2≤manyN x.f.toNat
    ·rw[if_pos g,wordAt_2 x g];exact numV_num h3
    ·rw[if_neg g];exact(h5.resolve_left g).symm
   rw[ea,eb]
  unfold oneV
  rw[hw,goodW_words h,if_pos rfl,hx,h]
theorem one_read (s:List UInt8):(oneV s).2=(readV s).2∧((readV s).2=true→oneV s=readV s):=by
 have h: ∀x,oneV s=(x,true)↔readV s=(x,true):=fun x=>by rw[one_ok,read_ok]
 generalize oneV s=p at *
 generalize readV s=q at *
 obtain ⟨a,b⟩:=p
 obtain ⟨c,d⟩:=q
 cases b <;> cases d
 ·exact⟨rfl,fun h=>by simp at h⟩
 ·exact absurd ((h c).2 rfl) (by simp)
 ·exact absurd ((h a).1 rfl) (by simp)
 ·have:=(h a).1 rfl
  exact⟨rfl,fun _=>this.symm⟩
theorem parse_text {l:List Step} (h:checkB l=true):parseV (textL l)=(l,0):=by
 have hc:=h
 unfold checkB at hc
 simp only[Bool.and_eq_true,decide_eq_true_eq,List.all_eq_true] at hc
 obtain ⟨h16,hs⟩:=hc
 unfold textL
 rw[if_pos h]
 cases l with
 |nil=>unfold parseV;rfl
 |cons x r=>
  have hsp:splitL 59 (joinL 59 ((x::r).map textS))=(x::r).map textS:=split_join 59 _ (by simp) fun w hw=>by
   obtain ⟨y,hy,rfl⟩:=List.mem_map.1 hw
   exact textS_no (hs y hy)
  have hne:joinL 59 ((x::r).map textS)≠[]:=by
   intro e
   rw[e] at hsp
   simp only[splitL,List.map_cons,List.cons.injEq] at hsp
   exact textS_ne (hs x (by simp)) hsp.1.symm
  have hr: ∀y∈x::r,readV (textS y)=(y,true):=fun y hy=>read_ok.2 ⟨hs y hy,rfl⟩
  unfold parseV
  rw[if_neg hne,hsp,if_pos]
  ·simp only[List.map_map,Prod.mk.injEq,and_true]
   conv=>rhs;rw[← List.map_id (x::r)]
   apply List.map_congr_left
   intro y hy
   simp[hr y hy]
  ·refine⟨by rw[List.length_map];exact h16,fun w hw=>?_⟩
   obtain ⟨y,hy,rfl⟩:=List.mem_map.1 hw
   rw[hr y hy]
theorem text_parse {s:List UInt8} (h:(parseV s).2=0):checkB (parseV s).1=true∧textL (parseV s).1=s:=by
 by_cases hs:s=[]
 ·subst hs
  have e:parseV []=([],0):=by unfold parseV;rfl
  rw[e]
  constructor
  ·unfold checkB;rfl
  ·unfold textL;split <;> rfl
 ·have e:parseV s=if (splitL 59 s).length≤16∧ ∀w∈splitL 59 s,(readV w).2=true then ((splitL 59 s).map fun w=>(readV w).1,0) else ([],13):=by unfold parseV;rw[if_neg hs]
  have hj:=join_split 59 s
  rw[e] at h⊢
  generalize splitL 59 s=ws at *
  split at h
  ·rename_i hw
   rw[if_pos hw]
   have hr: ∀w∈ws,stepB (readV w).1=true∧textS (readV w).1=w:=fun w hm=>read_ok.1 (by rw[← hw.2 w hm])
   have hc:checkB (ws.map fun w=>(readV w).1)=true:=by
    unfold checkB
    simp only[List.length_map,Bool.and_eq_true,decide_eq_true_eq,List.all_eq_true,List.mem_map]
    exact⟨hw.1,fun x ⟨w,hm,hx⟩=>hx▸(hr w hm).1⟩
   refine⟨hc,?_⟩
   unfold textL
   rw[if_pos hc,List.map_map,←hj]
   congr 1
   conv=>rhs;rw[← List.map_id ws]
   apply List.map_congr_left
   intro w hm
   exact(hr w hm).2
  ·simp at h
theorem joinL_app (c:UInt8) (u v:List (List UInt8)) (hu:u≠[]) (hv:v≠[]):joinL c (u++v)=joinL c u++c::joinL c v:=by
 induction u with
 |nil=>exact absurd rfl hu
 |cons a r ih=>
  cases r with
  |nil=>rw[List.singleton_append,joinL_cons c a hv];rfl
  |cons b t=>
   rw[List.cons_append,joinL_cons c a (by simp),ih (by simp),joinL_cons c a (by simp),List.append_assoc]
   rfl
end Go.Eng
namespace Go.Eng
def op0:OpR:=⟨0,0,0,0,false,[]⟩
def kT:List (List UInt8×Int×Bool×Nat):=[
 ([109,97,107,101],0,false,2),
 ([97,116,116,97,99,104],1,false,1),
 ([105,110,115,101,114,116],2,false,3),
 ([114,101,109,111,118,101],3,false,1),
 ([115,101,116],4,false,3),
 ([100,114,111,112],5,false,2),
 ([108,105,115,116,101,110],7,false,3),
 ([99,97,112,116,117,114,101],7,true,3),
 ([117,110,108,105,115,116,101,110],8,false,3),
 ([117,110,99,97,112,116,117,114,101],8,true,3),
 ([111,110,99,101],9,false,3),
 ([111,110,99,101,99,97,112,116,117,114,101],9,true,3),
 ([102,111,99,117,115],10,false,1),
 ([98,108,117,114],11,false,0),
 ([99,108,105,99,107],12,false,1),
 ([116,97,98],13,false,0),
 ([98,97,99,107],13,true,0),
 ([115,104,111,119],14,false,1),
 ([109,111,100,97,108],14,true,1),
 ([99,108,111,115,101],15,false,1),
 ([114,101,113,117,101,115,116],16,false,1),
 ([111,112,101,110],17,false,2),
 ([104,105,100,101],18,false,1),
 ([101,115,99,97,112,101],19,false,0),
 ([102,114,97,109,101],20,false,0),
 ([97,99,116],21,false,0)]
def kAt (k:Nat):List UInt8×Int×Bool×Nat:=kT.getD k ([],0,false,0)
def kW (k:Nat):List UInt8:=(kAt k).1
def kD (k:Nat):Int:=(kAt k).2.1
def kF (k:Nat):Bool:=(kAt k).2.2.1
def kN (k:Nat):Nat:=(kAt k).2.2.2
def wProg:List UInt8:=[112,114,111,103,114,97,109]
theorem k_all: ∀k:_root_.Fin 26,(32:UInt8)∉kW k.val∧(10:UInt8)∉kW k.val∧kW k.val≠[]∧kW k.val≠wProg∧kD k.val≠6∧kN k.val≤3:=by decide
theorem k_inj: ∀k j:_root_.Fin 26,(kW k.val=kW j.val→k=j)∧(kD k.val=kD j.val∧kF k.val=kF j.val→k=j):=by decide
def kix (d:Int) (f:Bool):Int:=ix (fun k=>kD k==d&&kF k==f) (List.range 26)
def wix (w:List UInt8):Int:=ix (fun k=>kW k==w) (List.range 26)
theorem range_at {p:Nat→Bool} {n:Nat} (h:0≤ix p (List.range n)): ∃k:Nat,ix p (List.range n)=k∧k<n∧p k=true:=by
 obtain ⟨a,h1,h2⟩:=ix_hit h
 obtain ⟨h3,h4⟩:=List.getElem?_eq_some_iff.1 h1
 rw[List.length_range] at h3
 rw[List.getElem_range] at h4
 exact⟨(ix p (List.range n)).toNat,by omega,h3,by rw[h4];exact h2⟩
theorem range_one {p:Nat→Bool} {n k:Nat} (hk:k<n) (hp:p k=true) (hu: ∀j,j<n→p j=true→j=k):ix p (List.range n)=k:=by
 have h0:0≤ix p (List.range n):=by
  have:=ix_any p (List.range n)
  have h2:(List.range n).any p=true:=List.any_eq_true.2 ⟨k,List.mem_range.2 hk,hp⟩
  rw[h2] at this
  exact of_decide_eq_true this
 obtain ⟨j,h1,h2,h3⟩:=range_at h0
 rw[h1,hu j h2 h3]
theorem range_no {p:Nat→Bool} {n:Nat} (hu: ∀j,j<n→p j=false):ix p (List.range n)= -1:=by
 have hlo:=ix_lo p (List.range n)
 by_cases h0:0≤ix p (List.range n)
 ·obtain ⟨j,h1,h2,h3⟩:=range_at h0
  rw[hu j h2] at h3
  cases h3
 ·omega
theorem kix_at {k:Nat} (h:k<26):kix (kD k) (kF k)=k:=range_one h (by simp) fun j hj hp=>by
 simp only[Bool.and_eq_true,beq_iff_eq] at hp
 have:=(k_inj ⟨j,hj⟩ ⟨k,h⟩).2 hp
 simpa using this
theorem wix_at {k:Nat} (h:k<26):wix (kW k)=k:=range_one h (by simp) fun j hj hp=>by
 have:=(k_inj ⟨j,hj⟩ ⟨k,h⟩).1 (by simpa using hp)
 simpa using this
theorem kix_hit {d:Int} {f:Bool} (h:0≤kix d f): ∃k:Nat,kix d f=k∧k<26∧kD k=d∧kF k=f:=by
 obtain ⟨k,h1,h2,h3⟩:=range_at h
 simp only[Bool.and_eq_true,beq_iff_eq] at h3
 exact⟨k,h1,h2,h3⟩
theorem wix_hit {w:List UInt8} (h:0≤wix w): ∃k:Nat,wix w=k∧k<26∧kW k=w:=by
 obtain ⟨k,h1,h2,h3⟩:=range_at h
 exact⟨k,h1,h2,by simpa using h3⟩
def numsV (o:OpR) (n:Nat):List (List UInt8):=([o.a,o.b,o.c].take n).map it
def wrV (o:OpR):List UInt8:=
 if o.d=6 then (if o.p=[] then wProg else wProg++32::textL o.p)
 else if kix o.d o.fl<0 then [] else joinL 32 (kW (kix o.d o.fl).toNat::numsV o (kN (kix o.d o.fl).toNat))
def placeB (n i:Nat) (x:Int):Bool:=if i<n then decide (sh15 x) else decide (x=0)
def linB (o:OpR):Bool:=
 if o.d=6 then decide (o.a=0)&&(decide (o.b=0)&&(decide (o.c=0)&&(!o.fl&&checkB o.p)))
 else decide (0≤kix o.d o.fl)&&(decide (o.p=[])&&(placeB (kN (kix o.d o.fl).toNat) 0 o.a&&(placeB (kN (kix o.d o.fl).toNat) 1 o.b&&placeB (kN (kix o.d o.fl).toNat) 2 o.c)))
def cutV (s:List UInt8):List UInt8×List UInt8:=if Lib.indexByte s 32<0 then (s,[]) else (s.take (Lib.indexByte s 32).toNat,s.drop ((Lib.indexByte s 32).toNat+1))
theorem ib_cases (l:List UInt8) (c:UInt8):Lib.indexByte l c= -1∨ ∃i:Nat,Lib.indexByte l c=i:=by
 rcases Lib.indexB_cases ⟨l.toArray⟩ ⟨[c].toArray⟩ with h|⟨i,h,_⟩
 ·left;rw[← indexB_c];exact h
 ·right;exact⟨i,by rw[← indexB_c];exact h⟩
theorem cut_plain {w:List UInt8} (h:(32:UInt8)∉w):cutV w=(w,[]):=by
 have h1:=split_plain 32 w h
 unfold cutV
 rcases ib_cases w 32 with hi|⟨i,hi⟩
 ·rw[if_pos (by omega)]
 ·exfalso
  obtain ⟨h2,h3⟩:=splitL_hit hi
  rw[h1] at h3
  injection h3 with a b
  exact splitL_ne 32 _ b.symm
theorem cut_app {w r:List UInt8} (h:(32:UInt8)∉w):cutV (w++32::r)=(w,r):=by
 have h1:=split_app 32 w r h
 unfold cutV
 rcases ib_cases (w++32::r) 32 with hi|⟨i,hi⟩
 ·exfalso
  rw[splitL_miss hi] at h1
  injection h1 with a b
  exact splitL_ne 32 r b.symm
 ·obtain ⟨h2,h3⟩:=splitL_hit hi
  rw[if_neg (by omega),hi]
  rw[h1] at h3
  injection h3 with a b
  have hil:i=w.length:=by
   have:=congrArg List.length a
   rw[List.length_take] at this
   omega
  subst hil
  simp
def rdN (ws:List (List UInt8)) (n i:Nat):Int:=if i<n then atoiV (wAt ws i) else 0
def rdV (fd:List UInt8→List (List UInt8)) (s:List UInt8):OpR×Bool:=
 if (cutV s).1=wProg then (⟨6,0,0,0,false,(parseV (cutV s).2).1⟩,decide ((parseV (cutV s).2).2=0))
 else if wix (cutV s).1<0 then (op0,false)
 else if kN (wix (cutV s).1).toNat≤(fd (cutV s).2).length∧((fd (cutV s).2).take (kN (wix (cutV s).1).toNat)).any longW=false then
  (⟨kD (wix (cutV s).1).toNat,rdN (fd (cutV s).2) (kN (wix (cutV s).1).toNat) 0,rdN (fd (cutV s).2) (kN (wix (cutV s).1).toNat) 1,rdN (fd (cutV s).2) (kN (wix (cutV s).1).toNat) 2,kF (wix (cutV s).1).toNat,[]⟩,true)
 else (op0,false)
def parS (fd:List UInt8→List (List UInt8)) (s:List UInt8):OpR×Int:=if (rdV fd s).2=true∧wrV (rdV fd s).1=s then ((rdV fd s).1,0) else (op0,13)
def FdOk (fd:List UInt8→List (List UInt8)):Prop:= ∀ns:List Int,fd (joinL 32 (ns.map it))=ns.map it
theorem wrV_kind {o:OpR} {k:Nat} (hk:k<26) (h6:o.d≠6) (h:kix o.d o.fl=k):wrV o=joinL 32 (kW k::numsV o (kN k)):=by
 unfold wrV
 rw[if_neg h6,if_neg (by omega),h]
 rfl
theorem cut_kind {k:Nat} (hk:k<26) (ns:List Int):cutV (joinL 32 (kW k::ns.map it))=(kW k,joinL 32 (ns.map it)):=by
 have hw:=(k_all ⟨k,hk⟩).1
 cases ns with
 |nil=>
  show cutV (kW k)=(kW k,[])
  exact cut_plain hw
 |cons n r=>
  rw[joinL_cons 32 (kW k) (by simp)]
  exact cut_app hw
theorem numsV_map (o:OpR) (n:Nat):numsV o n=([o.a,o.b,o.c].take n).map it:=rfl
theorem n_cases {n:Nat} (h:n≤3):n=0∨n=1∨n=2∨n=3:=by omega
theorem place_of {n:Nat} (hn:n≤3) {a b c:Int} (hs: ∀x∈[a,b,c].take n,sh15 x) (h0:n≤0→a=0) (h1:n≤1→b=0) (h2:n≤2→c=0):placeB n 0 a=true∧placeB n 1 b=true∧placeB n 2 c=true:=by
 unfold placeB
 rcases n_cases hn with rfl|rfl|rfl|rfl
 all_goals (simp at hs;simp_all)
theorem rd_lin {fd:List UInt8→List (List UInt8)} (hfd:FdOk fd) {s:List UInt8} (h:(rdV fd s).2=true) (hw:wrV (rdV fd s).1=s):linB (rdV fd s).1=true:=by
 unfold rdV at *
 by_cases h1:(cutV s).1=wProg
 ·rw[if_pos h1] at h hw⊢
  have h2:(parseV (cutV s).2).2=0:=by simpa using h
  obtain ⟨hc,_⟩:=text_parse h2
  unfold linB
  rw[if_pos rfl]
  simp[hc]
 rw[if_neg h1] at h hw⊢
 by_cases h2:wix (cutV s).1<0
 ·rw[if_pos h2] at h;simp at h
 rw[if_neg h2] at h hw⊢
 obtain ⟨k,e1,e2,e3⟩:=wix_hit (show 0≤wix (cutV s).1 by omega)
 have ek:(wix (cutV s).1).toNat=k:=by omega
 rw[ek] at h hw⊢
 obtain ⟨_,_,_,_,hk6,hk3⟩:=k_all ⟨k,e2⟩
 simp only at hk6 hk3
 generalize hW:fd (cutV s).2=W at *
 by_cases h3:kN k≤W.length∧(W.take (kN k)).any longW=false
 rotate_left
 ·rw[if_neg h3] at h;simp at h
 rw[if_pos h3] at h hw⊢
 simp only at hw⊢
 have hx:=kix_at e2
 rw[wrV_kind e2 hk6 hx,numsV_map] at hw
 simp only at hw
 have hc:=cut_kind e2 ([rdN W (kN k) 0,rdN W (kN k) 1,rdN W (kN k) 2].take (kN k))
 rw[hw] at hc
 rw[hc] at hW
 rw[hfd] at hW
 have hs: ∀x∈[rdN W (kN k) 0,rdN W (kN k) 1,rdN W (kN k) 2].take (kN k),sh15 x:=by
  intro x hx2
  have hm:it x∈W.take (kN k):=by
   rw[← hW,←List.map_take,List.take_take,Nat.min_self]
   exact List.mem_map_of_mem hx2
  have hl:longW (it x)=false:=by
   have:=List.any_eq_false.1 h3.2 _ hm
   simpa using this
  rw[long_it] at hl
  simpa using hl
 have hz: ∀i,kN k≤i→rdN W (kN k) i=0:=fun i hi=>by unfold rdN;rw[if_neg (by omega)]
 obtain ⟨p0,p1,p2⟩:=place_of hk3 hs (hz 0) (hz 1) (hz 2)
 unfold linB
 rw[if_neg hk6]
 simp only
 rw[hx,Int.toNat_natCast,p0,p1,p2]
 simp
theorem lin_rd {fd:List UInt8→List (List UInt8)} (hfd:FdOk fd) {o:OpR} (h:linB o=true):rdV fd (wrV o)=(o,true):=by
 obtain ⟨d,a,b,c,fl,p⟩:=o
 unfold linB at h
 simp only at h
 by_cases h6:d=6
 ·subst h6
  rw[if_pos rfl] at h
  simp only[Bool.and_eq_true,decide_eq_true_eq,Bool.not_eq_true'] at h
  obtain ⟨rfl,rfl,rfl,rfl,hc⟩:=h
  have hcut:cutV (wrV ⟨6,0,0,0,false,p⟩)=(wProg,textL p):=by
   unfold wrV
   rw[if_pos rfl]
   simp only
   by_cases hp:p=[]
   ·subst hp
    rw[if_pos rfl]
    have:textL []=[]:=by unfold textL;split <;> rfl
    rw[this]
    exact cut_plain (by decide)
   ·rw[if_neg hp]
    exact cut_app (by decide)
  unfold rdV
  rw[hcut,if_pos rfl,parse_text hc]
  rfl
 ·rw[if_neg h6] at h
  simp only[Bool.and_eq_true,decide_eq_true_eq] at h
  obtain ⟨h0,rfl,p0,p1,p2⟩:=h
  obtain ⟨k,e1,e2,e3,e4⟩:=kix_hit h0
  have ek:(kix d fl).toNat=k:=by omega
  rw[ek] at p0 p1 p2
  obtain ⟨_,_,_,hkp,hk6,hk3⟩:=k_all ⟨k,e2⟩
  simp only at hkp hk6 hk3
  rw[wrV_kind (o:=⟨d,a,b,c,fl,[]⟩) e2 h6 e1,numsV_map]
  simp only
  unfold rdV
  rw[cut_kind e2,if_neg hkp,if_neg (by rw[wix_at e2];omega),wix_at e2,Int.toNat_natCast,hfd]
  unfold placeB at p0 p1 p2
  subst e3 e4
  rcases n_cases hk3 with hn|hn|hn|hn
  all_goals
   rw[hn] at p0 p1 p2⊢
   simp at p0 p1 p2
   simp[rdN,wAt,long_it,atoi_it, *]
theorem par_iff {fd:List UInt8→List (List UInt8)} (hfd:FdOk fd) {s:List UInt8} {o:OpR}:parS fd s=(o,0)↔linB o=true∧wrV o=s:=by
 unfold parS
 constructor
 ·intro h
  by_cases hc:(rdV fd s).2=true∧wrV (rdV fd s).1=s
  ·rw[if_pos hc] at h
   injection h with h1 _
   rw[← h1]
   exact⟨rd_lin hfd hc.1 hc.2,hc.2⟩
  ·rw[if_neg hc] at h
   injection h with _ h2
   omega
 ·rintro ⟨h1,rfl⟩
  have:=lin_rd hfd h1
  rw[this,if_pos ⟨rfl,rfl⟩]
end Go.Eng
namespace Go.Eng
def dix (W:List (List UInt8)):Int:=ix (fun k=>kW k==wAt W 0&&W.length==1+kN k) (List.range 26)
def rdD (W:List (List UInt8)) (i:Nat):Int:=if i<W.length then (rd1 (wAt W i)).1 else 0
def docS (s:List UInt8):OpR×Int:=
 if s=wProg then (⟨6,0,0,0,false,[]⟩,0)
 else if 8<s.length∧s.take 8=wProg++[32] then (if (parseV (s.drop 8)).2=0 then (⟨6,0,0,0,false,(parseV (s.drop 8)).1⟩,0) else (op0,13))
 else if dix (splitL 32 s)<0 then (op0,13)
 else if ((splitL 32 s).drop 1).all (fun w=>(rd1 w).2)=true then
  (⟨kD (dix (splitL 32 s)).toNat,rdD (splitL 32 s) 1,rdD (splitL 32 s) 2,rdD (splitL 32 s) 3,kF (dix (splitL 32 s)).toNat,[]⟩,0)
 else (op0,13)
theorem check_nil:checkB []=true:=by unfold checkB;rfl
theorem textL_nil:textL []=[]:=by unfold textL;split <;> rfl
theorem textL_ne {p:List Step} (hc:checkB p=true) (hp:p≠[]):textL p≠[]:=by
 intro h
 have h1:=parse_text hc
 have h2:=parse_text check_nil
 rw[textL_nil] at h2
 rw[h,h2] at h1
 injection h1 with h1 _
 exact hp h1.symm
theorem dix_hit {W:List (List UInt8)} (h:0≤dix W): ∃k:Nat,dix W=k∧k<26∧kW k=wAt W 0∧W.length=1+kN k:=by
 obtain ⟨k,h1,h2,h3⟩:=range_at h
 simp only[Bool.and_eq_true,beq_iff_eq] at h3
 exact⟨k,h1,h2,h3⟩
theorem dix_at {k:Nat} (hk:k<26) {W:List (List UInt8)} (h0:wAt W 0=kW k) (hl:W.length=1+kN k):dix W=k:=range_one hk (by simp[h0,hl]) fun j hj hp=>by
 simp only[Bool.and_eq_true,beq_iff_eq] at hp
 have:=(k_inj ⟨j,hj⟩ ⟨k,hk⟩).1 (hp.1.trans h0)
 simpa using this
theorem linB_mk {k:Nat} (hk:k<26) {a b c:Int} (hs: ∀x∈[a,b,c].take (kN k),sh15 x) (h0:kN k≤0→a=0) (h1:kN k≤1→b=0) (h2:kN k≤2→c=0):linB ⟨kD k,a,b,c,kF k,[]⟩=true:=by
 obtain ⟨_,_,_,_,hk6,hk3⟩:=k_all ⟨k,hk⟩
 simp only at hk6 hk3
 obtain ⟨p0,p1,p2⟩:=place_of hk3 hs h0 h1 h2
 have hx:=kix_at hk
 unfold linB
 rw[if_neg hk6]
 simp only
 rw[hx,Int.toNat_natCast,p0,p1,p2]
 simp
theorem lin_kind {o:OpR} (h:linB o=true) (h6:o.d≠6): ∃k:Nat,k<26∧kix o.d o.fl=k∧kD k=o.d∧kF k=o.fl∧o.p=[]∧wrV o=joinL 32 (kW k::([o.a,o.b,o.c].take (kN k)).map it)∧
  (∀ x∈[o.a,o.b,o.c].take (kN k),sh15 x)∧(kN k≤0→o.a=0)∧(kN k≤1→o.b=0)∧(kN k≤2→o.c=0):=by
 unfold linB at h
 rw[if_neg h6] at h
 simp only[Bool.and_eq_true,decide_eq_true_eq] at h
 obtain ⟨h0,hp,p0,p1,p2⟩:=h
 obtain ⟨k,e1,e2,e3,e4⟩:=kix_hit h0
 have ek:(kix o.d o.fl).toNat=k:=by omega
 rw[ek] at p0 p1 p2
 obtain ⟨_,_,_,_,_,hk3⟩:=k_all ⟨k,e2⟩
 simp only at hk3
 refine⟨k,e2,e1,e3,e4,hp,by rw[wrV_kind e2 h6 e1,numsV_map],?_⟩
 unfold placeB at p0 p1 p2
 rcases n_cases hk3 with hn|hn|hn|hn
 all_goals
  rw[hn] at p0 p1 p2⊢
  simp at p0 p1 p2⊢
  simp[*]
theorem lin_prog {o:OpR} (h:linB o=true) (h6:o.d=6):o=⟨6,0,0,0,false,o.p⟩∧checkB o.p=true:=by
 obtain ⟨d,a,b,c,fl,p⟩:=o
 simp only at h6
 subst h6
 unfold linB at h
 rw[if_pos rfl] at h
 simp only[Bool.and_eq_true,decide_eq_true_eq,Bool.not_eq_true'] at h
 obtain ⟨rfl,rfl,rfl,rfl,hc⟩:=h
 exact⟨rfl,hc⟩
theorem doc_lin {s:List UInt8} (h:(docS s).2=0):linB (docS s).1=true∧wrV (docS s).1=s:=by
 unfold docS at *
 by_cases h1:s=wProg
 ·rw[if_pos h1]
  subst h1
  refine⟨?_,?_⟩
  ·unfold linB;rw[if_pos rfl];simp[check_nil]
  ·unfold wrV;rw[if_pos rfl,if_pos rfl]
 rw[if_neg h1] at h⊢
 by_cases h2:8<s.length∧s.take 8=wProg++[32]
 ·rw[if_pos h2] at h⊢
  by_cases h3:(parseV (s.drop 8)).2=0
  ·rw[if_pos h3]
   obtain ⟨hc,ht⟩:=text_parse h3
   refine⟨?_,?_⟩
   ·unfold linB;rw[if_pos rfl];simp[hc]
   ·have hne:(parseV (s.drop 8)).1≠[]:=by
     intro e
     rw[e,textL_nil] at ht
     have:=congrArg List.length ht
     simp at this
     omega
    unfold wrV
    rw[if_pos rfl]
    simp only
    rw[if_neg hne,ht]
    conv=>rhs;rw[← List.take_append_drop 8 s,h2.2]
    simp
  ·rw[if_neg h3] at h;simp at h
 rw[if_neg h2] at h⊢
 by_cases h3:dix (splitL 32 s)<0
 ·rw[if_pos h3] at h;simp at h
 rw[if_neg h3] at h⊢
 obtain ⟨k,e1,e2,e3,e4⟩:=dix_hit (show 0≤dix (splitL 32 s) by omega)
 have ek:(dix (splitL 32 s)).toNat=k:=by omega
 rw[ek] at h⊢
 by_cases h4:((splitL 32 s).drop 1).all (fun w=>(rd1 w).2)=true
 rotate_left
 ·rw[if_neg h4] at h;simp at h
 rw[if_pos h4]
 obtain ⟨_,_,_,_,hk6,hk3⟩:=k_all ⟨k,e2⟩
 simp only at hk6 hk3
 have hj:=join_split 32 s
 generalize splitL 32 s=W at *
 have hWc:W=kW k::W.drop 1:=by
  cases W with
  |nil=>exfalso;rw[List.length_nil] at e4;omega
  |cons w r=>
   have e5:wAt (w::r) 0=w:=rfl
   rw[e5] at e3
   rw[e3]
   rfl
 have hok: ∀w∈W.drop 1,sh15 (rd1 w).1∧it (rd1 w).1=w:=fun w hw=>rd1_ok (List.all_eq_true.1 h4 w hw)
 generalize W.drop 1=R at *
 subst hWc
 have hR:R.length=kN k:=by simp at e4;omega
 have hRm:R=([rdD (kW k::R) 1,rdD (kW k::R) 2,rdD (kW k::R) 3].take (kN k)).map it∧(∀ x∈[rdD (kW k::R) 1,rdD (kW k::R) 2,rdD (kW k::R) 3].take (kN k),sh15 x)∧
   (kN k≤0→rdD (kW k::R) 1=0)∧(kN k≤1→rdD (kW k::R) 2=0)∧(kN k≤2→rdD (kW k::R) 3=0):=by
  rw[← hR] at hk3⊢
  match R,hk3,hok with
  |[],_,_=>simp[rdD]
  |[x],_,hok=>
   have:=hok x (by simp)
   simp[rdD,wAt,this]
  |[x,y],_,hok=>
   have q1:=hok x (by simp)
   have q2:=hok y (by simp)
   simp[rdD,wAt,q1,q2]
  |[x,y,z],_,hok=>
   have q1:=hok x (by simp)
   have q2:=hok y (by simp)
   have q3:=hok z (by simp)
   simp[rdD,wAt,q1,q2,q3]
  |_::_::_::_::_,h,_=>simp at h
 obtain ⟨r1,r2,r3,r4,r5⟩:=hRm
 refine⟨linB_mk e2 r2 r3 r4 r5,?_⟩
 rw[wrV_kind (o:=⟨kD k,rdD (kW k::R) 1,rdD (kW k::R) 2,rdD (kW k::R) 3,kF k,[]⟩) e2 hk6 (kix_at e2),numsV_map]
 simp only
 rw[← r1]
 exact hj
theorem lin_doc {o:OpR} (h:linB o=true):docS (wrV o)=(o,0):=by
 by_cases h6:o.d=6
 ·obtain ⟨ho,hc⟩:=lin_prog h h6
  have hw:wrV o=if o.p=[] then wProg else wProg++32::textL o.p:=by unfold wrV;rw[if_pos h6]
  rw[hw]
  unfold docS
  by_cases hp:o.p=[]
  ·rw[if_pos hp,if_pos rfl]
   rw[hp] at ho
   exact congrArg (·,(0:Int)) ho.symm
  ·rw[if_neg hp]
   have hne:=textL_ne hc hp
   have hpos:0<(textL o.p).length:=List.length_pos_iff.2 hne
   rw[if_neg (by intro e;have:=congrArg List.length e;simp[wProg] at this),if_pos ⟨by simp[wProg];omega,by simp[wProg]⟩]
   have hd:(wProg++32::textL o.p).drop 8=textL o.p:=by simp[wProg]
   rw[hd,parse_text hc,if_pos rfl,←ho]
 ·obtain ⟨k,e1,e2,e3,e4,hp,hw,hs,z0,z1,z2⟩:=lin_kind h h6
  obtain ⟨k32,_,_,hkp,hk6,hk3⟩:=k_all ⟨k,e1⟩
  simp only at k32 hkp hk6 hk3
  have hcut:=cut_kind e1 ([o.a,o.b,o.c].take (kN k))
  rw[hw]
  have hsp:splitL 32 (joinL 32 (kW k::([o.a,o.b,o.c].take (kN k)).map it))=kW k::([o.a,o.b,o.c].take (kN k)).map it:=split_join 32 _ (by simp) (by
   intro w hw2
   rcases List.mem_cons.1 hw2 with rfl|hw2
   ·exact k32
   ·obtain ⟨x,_,rfl⟩:=List.mem_map.1 hw2
    exact(it_no x).1)
  unfold docS
  rw[if_neg (by
   intro e
   rw[e,cut_plain (by decide)] at hcut
   injection hcut with q _
   exact hkp q.symm),if_neg (by
   rintro ⟨q1,q2⟩
   have e:=(List.take_append_drop 8 (joinL 32 (kW k::([o.a,o.b,o.c].take (kN k)).map it))).symm
   rw[q2,List.append_assoc] at e
   rw[e] at hcut
   have hc2:=cut_app (w:=wProg) (r:=(joinL 32 (kW k::([o.a,o.b,o.c].take (kN k)).map it)).drop 8) (by decide)
   rw[show wProg++([32]++(joinL 32 (kW k::([o.a,o.b,o.c].take (kN k)).map it)).drop 8)=wProg++32::(joinL 32 (kW k::([o.a,o.b,o.c].take (kN k)).map it)).drop 8 from rfl,hc2] at hcut
   injection hcut with q _
   exact hkp q.symm),hsp]
  have hl:(([o.a,o.b,o.c].take (kN k)).map it).length=kN k:=by simp;omega
  have hdx:dix (kW k::([o.a,o.b,o.c].take (kN k)).map it)=k:=dix_at e1 rfl (by rw[List.length_cons,hl];omega)
  rw[hdx,if_neg (by omega),Int.toNat_natCast,if_pos (by
   rw[List.drop_one,List.tail_cons,List.all_eq_true]
   intro w hw2
   obtain ⟨x,hx,rfl⟩:=List.mem_map.1 hw2
   rw[rd1_it (hs x hx)])]
  obtain ⟨d,a,b,c,fl,p⟩:=o
  simp only at *
  subst hp e3 e4
  rcases n_cases hk3 with hn|hn|hn|hn
  all_goals
   rw[hn] at hs z0 z1 z2⊢
   simp at hs z0 z1 z2
   simp[rdD,wAt,rd1_it, *]
theorem doc_iff24 {s:List UInt8} {o:OpR}:docS s=(o,0)↔linB o=true∧wrV o=s:=by
 constructor
 ·intro h
  have:=doc_lin (s:=s) (by rw[h])
  rw[h] at this
  exact this
 ·rintro ⟨h,rfl⟩
  exact lin_doc h
theorem docS_bad {s:List UInt8} (h:(docS s).2≠0):docS s=(op0,13):=by
 unfold docS at *
 by_cases h1:s=wProg
 ·rw[if_pos h1] at h;exact absurd rfl h
 rw[if_neg h1] at h⊢
 by_cases h2:8<s.length∧s.take 8=wProg++[32]
 ·rw[if_pos h2] at h⊢
  by_cases h3:(parseV (s.drop 8)).2=0
  ·rw[if_pos h3] at h;exact absurd rfl h
  ·rw[if_neg h3]
 rw[if_neg h2] at h⊢
 by_cases h3:dix (splitL 32 s)<0
 ·rw[if_pos h3]
 rw[if_neg h3] at h⊢
 by_cases h4:((splitL 32 s).drop 1).all (fun w=>(rd1 w).2)=true
 ·rw[if_pos h4] at h;exact absurd rfl h
 ·rw[if_neg h4]
theorem parS_bad {fd:List UInt8→List (List UInt8)} {s:List UInt8} (h:(parS fd s).2≠0):parS fd s=(op0,13):=by
 unfold parS at *
 by_cases hc:(rdV fd s).2=true∧wrV (rdV fd s).1=s
 ·rw[if_pos hc] at h;exact absurd rfl h
 ·rw[if_neg hc]
theorem par_doc {fd:List UInt8→List (List UInt8)} (hfd:FdOk fd) (s:List UInt8):parS fd s=docS s:=by
 by_cases h:(docS s).2=0
 ·have e:docS s=((docS s).1,0):=by rw[← h]
  rw[e]
  exact(par_iff hfd).2 (doc_iff24.1 e)
 ·rw[docS_bad h]
  refine parS_bad fun h2=>h ?_
  have e:parS fd s=((parS fd s).1,0):=by rw[← h2]
  rw[doc_iff24.2 ((par_iff hfd).1 e)]
def lnV (o:OpR):List UInt8:=if linB o=true then wrV o else []
theorem ln_prog {fd:List UInt8→List (List UInt8)} (hfd:FdOk fd) (o:OpR):lnV o=if (parS fd (wrV o)).2=0∧(parS fd (wrV o)).1=o then wrV o else []:=by
 unfold lnV
 by_cases h:linB o=true
 ·have e:=(par_iff hfd).2 ⟨h,rfl⟩
  rw[if_pos h,e,if_pos ⟨rfl,rfl⟩]
 ·rw[if_neg h,if_neg]
  rintro ⟨h1,h2⟩
  exact h ((par_iff hfd).1 (show parS fd (wrV o)=(o,0) by rw[← h1];exact Prod.ext h2 rfl)).1
def docT (o:OpR):List UInt8:=
 if o.d=6 then (if o.p=[] then wProg else wProg++32::textL o.p)
 else if kix o.d o.fl<0 then wProg else joinL 32 (kW (kix o.d o.fl).toNat::numsV o (kN (kix o.d o.fl).toNat))
theorem ln_doc (o:OpR):lnV o=if (docS (docT o)).2=0∧(docS (docT o)).1=o then docT o else []:=by
 unfold lnV
 by_cases h:linB o=true
 ·have e:docT o=wrV o:=by
   by_cases h6:o.d=6
   ·unfold docT wrV;rw[if_pos h6,if_pos h6]
   ·obtain ⟨k,_,e2,_⟩:=lin_kind h h6
    unfold docT wrV
    rw[if_neg h6,if_neg h6,if_neg (by omega),if_neg (by omega)]
  rw[if_pos h,e,lin_doc h,if_pos ⟨rfl,rfl⟩]
 ·rw[if_neg h,if_neg]
  rintro ⟨h1,h2⟩
  exact h (doc_iff24.1 (show docS (docT o)=(o,0) by rw[← h1];exact Prod.ext h2 rfl)).1
theorem ln_back {fd:List UInt8→List (List UInt8)} (hfd:FdOk fd) {o:OpR} (h:lnV o≠[]):parS fd (lnV o)=(o,0):=by
 unfold lnV at *
 by_cases hl:linB o=true
 ·rw[if_pos hl]
  exact(par_iff hfd).2 ⟨hl,rfl⟩
 ·rw[if_neg hl] at h;exact absurd rfl h
theorem par_back {fd:List UInt8→List (List UInt8)} (hfd:FdOk fd) {s:List UInt8} (h:(parS fd s).2=0):lnV (parS fd s).1=s:=by
 have:=(par_iff hfd).1 (show parS fd s=((parS fd s).1,0) by rw[← h])
 unfold lnV
 rw[if_pos this.1]
 exact this.2
end Go.Eng
namespace Go.Eng
open Go
theorem FV_acc {g:List Nat} {H:Heap} {b sz:Nat} (rows:List (List D)) (hb:H[b]? =some (AccB rows)) (hs: ∀r∈rows,r.length=sz):FV g [b] H (AccV b sz rows) (.d (.sl rows)):=by
 by_cases hr:rows=[]
 ·subst hr;rw[AccV_nil];exact .nsl
 ·rw[AccV_cons hr]
  rw[AccB_cons hr] at hb
  exact FV_tab rows (by unfold rowOf;rw[hb]) rfl rfl hs
theorem FV_args2 {F:List Nat} {H:Heap} {x y x' y':AV} (h1:FV [] F H x x') (h2:FV [] F H y y'): ∀(i:Nat) (a b:AV),[x,y][i]? =some a→[x',y'][i]? =some b→FV [] F H a b:=fun i a b ha hb=>by
 match i with
 |0=>simp at ha hb;subst ha hb;exact h1
 |1=>simp at ha hb;subst ha hb;exact h2
 |i+2=>simp at ha
end Go.Eng
namespace Go.Eng
open Go
theorem Tri.useE {P:Program} {f:FuncId} {args:List AV} {H H0 H1:Heap} {r:AV} {K:AV→Heap→Prop} (h:Tri P f args H0 fun v H'=>v=r∧H'=H1) (e:H=H0) (hK:K r H1):Tri P f args H K:=by
 subst e
 exact Tri.use h hK
theorem splice_rest (l:List AV): ∀(z:List AV) (o:Nat),z.length=o+l.length→splice z o l=z.take o++l:=by
 induction l with
 |nil=>intro z o h;simp only[splice,List.append_nil];rw[List.take_of_length_le (by simp at h;omega)]
 |cons v t ih=>
  intro z o h
  simp only[List.length_cons] at h
  simp only[splice]
  rw[ih _ _ (by rw[List.length_set];omega),List.take_succ_eq_append_getElem (by rw[List.length_set];omega),List.getElem_set_self,List.take_set_of_le (Nat.le_refl _),List.append_assoc]
  rfl
theorem splice_full (l z:List AV) (h:z.length=l.length):splice z 0 l=l:=by
 rw[splice_rest l z 0 (by omega)];rfl
def lenM (x:AV) (A:List (List D)→Prop) (B:Prop) (C:Nat→Nat→Nat→Nat→Nat→Prop) (E:Prop):Prop:=
 match x with
 |.d (.sl rows)=>A rows
 |.nsl=>B
 |.msl b off len c s=>C b off len c s
 |.esl=>E
 |_=>False
theorem lenM_acc {b sz:Nat} {rows:List (List D)} {A:List (List D)→Prop} {B:Prop} {C:Nat→Nat→Nat→Nat→Nat→Prop} {E:Prop} (h0:rows=[]→B) (h1:rows≠[]→C b 0 rows.length rows.length sz):lenM (AccV b sz rows) A B C E:=by
 by_cases hr:rows=[]
 ·have h:=h0 hr;subst hr;rw[AccV_nil];exact h
 ·rw[AccV_cons hr];exact h1 hr
theorem W_padH {P:Program} {ro:Option Nat} {c:Code} {Q:AEx→St→Prop} {ρ:Env} {n m:Nat} {H H2:Heap} {df:List DF} (h:H=H2∨H++[none]=H2) (hw:W P ro c Q ⟨ρ,n,H2,m,df⟩):W P ro c Q ⟨ρ,n,H,m,df⟩:=by
 rcases h with rfl|rfl
 ·exact hw
 ·exact W_wk Wk_pad hw
theorem noY_accB {rows:List (List D)} {t:Heap} (h:noY t=true):noY (AccB rows::t)=true:=by
 by_cases hr:rows=[]
 ·subst hr;rw[AccB_nil];exact h
 ·rw[AccB_cons hr];exact h
theorem App_nsl {ei:TI} {H:Heap} {x:AV} {B:Prop} {K:AV→Heap→Prop} (new:List (List D)) (hx:newLen x=some new.length) (hc:newCells H ei.size x=some (new.flatten.map .d))
  (hn:new≠[]) (hrn: ∀r∈new,r.length=ei.size) (hlim:new.length≤1000000) (hby:ei.bytes≤1000)
  (hK:K (.msl H.length 0 new.length new.length ei.size) (H++[some (.row (new.flatten.map .d))])):ChK (appK ei H .nsl x K) B:=by
 have hlb:new.length≤LB:=by unfold LB;omega
 have hB:(new.length+200) * ei.bytes≤2 ^ 46:=Nat.le_trans (Nat.mul_le_mul (by omega:new.length+200≤1000200) hby) (by decide)
 have h0:0<new.length:=List.length_pos_iff.2 hn
 have hfn:(new.flatten.map AV.d).length=new.length * ei.size:=by rw[List.length_map];exact flatten_len new hrn
 refine Ch_l ?_
 unfold appK
 rw[hx]
 simp only
 rw[hc]
 simp only
 have hnn:x≠.nsl:=by rintro rfl;simp[newLen] at hx;omega
 cases x <;> first
  |exact absurd rfl hnn
  |(simp only[NeedK_eq];simp only[pushK_eq];exact⟨⟨h0,hB,hlb,hfn⟩,hK⟩)
end Go.Eng
namespace Go.Eng
open Go Go.Proofs
theorem str_toList (l:List UInt8):(⟨l.toArray⟩:ByteArray).toList=l:=by rw[ByteArray.toList_eq]
theorem tell_names:Fn Tryz.prog 119 [] (.agg evsL):=by
 refine Fn_of tt_ok Tryz.func119 rfl (by decide) Tryz.ntmps119 rfl ?_
 repeat' ((conv=>whnf);(first
  |refine fin0 rfl ?_))
 unfold evsL
 rfl
theorem tell_Event (n:Int):Fn Tryz.prog 93 [.i n] (.d (str (evV n))):=by
 refine Fn_of tt_ok Tryz.func93 rfl (by decide) Tryz.ntmps93 rfl ?_
 by_cases h:0≤n∧n≤8
 ·have e:evV n=evL n.toNat:=by unfold evV;rw[if_pos h]
  have hat:evsL[n.toNat * 1]? =some (AV.d (str (evL n.toNat))):=by rw[Nat.mul_one];exact evs_at (by omega)
  have hb:0≤n∧n<((9:Nat):Int):=by omega
  have h1: ¬n<0:=by omega
  have h2: ¬n≥9:=by omega
  rw[e]
  generalize evL n.toNat=w at *
  repeat' ((conv=>whnf);(first
   |refine Br_true (decide_eq_true hb) ?_
   |refine Br_false (decide_eq_false h1) ?_
   |refine Br_false (decide_eq_false h2) ?_
   |refine Fn.use tell_names rfl evs_low ?_
   |refine Cell_in _ hat (force_in ?_)
   |refine fin0 rfl ?_))
  rfl
 ·have e:evV n=[]:=by unfold evV;rw[if_neg h]
  rw[e]
  repeat' ((conv=>whnf);(first
   |refine Br_true (decide_eq_true (by omega)) ?_
   |refine Br_dec (fun h=>?_) (fun h=>?_)
   |refine fin0 rfl ?_))
  all_goals first|rfl|(exfalso;omega)
def i64B (n:Int):Prop:= -9223372036854775808≤n∧n≤9223372036854775807
set_option maxHeartbeats 1000000 in
theorem tell_line (w:List UInt8) (l:List Int) (hw:w.length≤100) (hl:l.length≤10) (hb: ∀n∈l,i64B n):Fn Tryz.prog 91 [.d (str w),.d (ints l)] (.d (str (joinL 32 (w::l.map it)))):=by
 refine Fn_of tt_ok Tryz.func91 rfl (by decide) Tryz.ntmps91 rfl ?_
 have hj:(joinL 32 (w::l.map it)).length≤10000:=by
  refine Nat.le_trans (joinL_len' 32 _ 100 fun x hx=>?_) (Nat.le_trans (Nat.mul_le_mul_right _ (by simp;omega:_≤11)) (by omega))
  rcases List.mem_cons.1 hx with rfl|hx
  ·exact hw
  ·obtain ⟨n,hn,rfl⟩:=List.mem_map.1 hx
   have:=Lib.itoa_length_le n (hb n hn).1 (hb n hn).2
   unfold it;omega
 skip
 refine Ch_l ?_
 conv=>whnf
 have hcl:(List.map intCs l).length=l.length:=by simp
 refine Len_in (fun hlen=>?_)
 refine W_loop (fun μ s=> ∃(k:Nat) (ws:List (List UInt8)),k≤l.length∧μ=l.length-k∧ws=w::(l.take k).map it∧s=⟨[(5,AccV 0 1 (ws.map fun x=>[str x])),(10,.d (ints l)),(11,.i (List.map intCs l).length),(12,.i k)],24,[AccB (ws.map fun x=>[str x])],0,[]⟩) l.length
  ⟨⟨[(5,.msl 0 0 1 1 1),(10,.d (ints l)),(11,.i (List.map intCs l).length),(12,.i 0)],24,[some (.row [.d (str w)])],0,[]⟩,?_,0,[w],by omega,by omega,by simp,by rw[AccV_cons (by simp),AccB_cons (by simp)];rfl⟩ ?_
 ·exact Wk_env (by repeat (first|exact trivial|refine⟨rfl,?_⟩))
 rintro μ s1 ⟨k,ws,hk,rfl,hws,rfl⟩
 have hwl:ws.length=k+1:=by rw[hws];simp;omega
 have hsz: ∀(v:List (List UInt8)),∀r∈v.map (fun x=>[str x]),r.length=1:=fun v r hr=>by
  obtain ⟨x,_,rfl⟩:=List.mem_map.1 hr;rfl
 refine W_run tt_ok ?_
 refine Br_dec (fun h=>?_) (fun h=>?_)
 ·have hlt:k<l.length:=by rw[hcl] at h;omega
  have hi:(List.map intCs l)[(k:Int).toNat]? =some [D.i l[k]]:=by simp[hlt,intCs]
  have htk:w::(l.take (k+1)).map it=ws++[it l[k]]:=by rw[hws,List.take_succ_eq_append_getElem hlt,List.map_append];rfl
  have hbn:=hb _ (List.getElem_mem hlt)
  have hit:=itoa_any l[k] hbn.1 hbn.2
  have ha:=Acc_app (b:=0) (sz:=1) (rows:=ws.map fun x=>[str x]) (new:=[[str (it l[k])]]) (by simp)
  have hmap:(ws++[it l[k]]).map (fun x=>[str x])=(ws.map fun x=>[str x])++[[str (it l[k])]]:=by simp
  repeat' ((conv=>whnf);(first
   |refine Idx_in _ hi (by omega) rfl ?_
   |refine Fn.use (hit) rfl rfl ?_
   |refine force_in ?_))
  refine Ch_r ?_
  conv=>whnf
  refine App_acc (ws.map fun x=>[str x]) [[str (it l[k])]] rfl rfl rfl rfl (by simp) (hsz _) (by intro r hr;simp at hr;subst hr;rfl) (by simp only[List.length_map,List.length_cons,List.length_nil];omega) (Nat.le_of_ble_eq_true rfl) ?_
  repeat' ((conv=>whnf);(first
   |(refine Back_in ⟨[(5,.msl 0 0 ((ws.map fun x=>[str x]).length+1) ((ws.map fun x=>[str x]).length+1) 1),(10,.d (ints l)),(11,.i (List.map intCs l).length),(12,.i (k+1:Nat))],24,[some (.row (((ws.map fun x=>[str x])++[[str (it l[k])]]).flatten.map .d))],0,[]⟩ _ ⟨k+1,ws++[it l[k]],by omega,rfl,htk.symm,?_⟩ (by omega) (Wk_ren [1] rfl rfl ⟨⟨by rw[renB_row];rfl,lowB_row _ _⟩,trivial⟩ (by repeat (first|exact trivial|refine⟨⟨rfl,rfl⟩,?_⟩)) (by decide) (by omega)))
   |refine ArK_in (wrap_i64 (by omega) (by omega)) ?_))
  rw[hmap,ha.1,ha.2]
  rfl
 ·have hkl:l.length≤k:=by rw[hcl] at h;omega
  rw[List.take_of_length_le hkl] at hws
  rw[← hws] at hj⊢
  have hjn:=join_c ws 32 (by omega) (by omega)
  unfold texts at hjn
  repeat' ((conv=>whnf);(first
   |refine Tri.peek hjn rfl [0] rfl (FV_args2 (FV_acc _ rfl (hsz _)) (.same _ rfl)) ?_
   |refine fin0 rfl ?_
   |refine force_in ?_))
  rfl
end Go.Eng
namespace Go.Eng
open Go Go.Proofs
theorem tree_in (n l m:Int):Fn Tryz.prog 204 [.i n,.i l,.i m] (.b (inB n l m)):=by
 refine Fn_of tt_ok Tryz.func204 rfl (by decide) Tryz.ntmps204 rfl ?_
 repeat' ((conv=>whnf);(first
  |refine Br_dec (fun h=>?_) (fun h=>?_)
  |refine fin0 rfl ?_))
 all_goals (simp only[AV.d.injEq,D.bool.injEq,inB];grind)
theorem tree_is (t:Tree) (n:Int):Fn Tryz.prog 206 [.d (treeD t),.i n] (.b (isN t n)):=by
 refine Fn_of tt_ok Tryz.func206 rfl (by decide) Tryz.ntmps206 rfl ?_
 repeat' ((conv=>whnf);(first
  |refine Len_in (fun hlen=>?_)
  |refine Fn.use (tree_in _ _ _) rfl rfl ?_
  |refine fin0 rfl ?_
  |refine ArK_in (wrap_i64 (by omega) (by omega)) ?_))
 simp only[AV.d.injEq,D.bool.injEq,inB,isN,List.length_map]
 rw[Bool.eq_iff_iff];simp;omega
theorem tree_value (a:Attr):Fn Tryz.prog 388 [aggD a.cs] (.b (valueB a.name a.value)):=by
 refine Fn_of tt_ok Tryz.func388 rfl (by decide) Tryz.ntmps388 rfl ?_
 repeat' ((conv=>whnf);(first
  |refine Br_beq (fun h=>?_) (fun h=>?_)
  |refine Fn.use (tree_in _ _ _) rfl rfl ?_
  |refine fin0 rfl ?_))
 all_goals simp[valueB,inB, *]
 all_goals (rw [Bool.eq_iff_iff];simp)
theorem index_int (l:List Int) (n:Int):Fn Tryz.prog 212 [.d (ints l),.i n] (.i (ix (· ==n) l)):=by
 refine Fn_of tt_ok Tryz.func212 rfl (by decide) Tryz.ntmps212 rfl ?_
 refine Len_in (fun hlen=>?_)
 simp only[List.length_map] at hlen
 refine W_loop (fun μ s=> ∃(k:Nat),k≤l.length∧μ=l.length-k∧(∀ j (h:j<l.length),j<k→(l[j]==n)=false)∧
   s=⟨[(0,.d (ints l)),(1,.i n),(7,.i (List.map intCs l).length),(8,.i k)],19,[],0,[]⟩) l.length
  ⟨_,?_,0,by simp,by simp,by simp,rfl⟩ ?_
 ·exact Wk_env (by repeat (first|exact trivial|refine⟨rfl,?_⟩))
 rintro μ s1 ⟨k,hk,rfl,hno,rfl⟩
 refine W_run tt_ok ?_
 refine Br_dec (fun h=>?_) (fun h=>?_)
 ·simp at h
  refine Idx_in (intCs l[k]) (by simp[h]) (by omega) rfl ?_
  have hd:=ix_drop (· ==n) l k hno hk
  rw[List.drop_eq_getElem_cons h] at hd
  repeat' ((conv=>whnf);(first
   |refine Br_beq (fun h=>?_) (fun h=>?_)
   |refine Back_in _ _ ⟨k+1,by omega,rfl,?_,rfl⟩ (by omega) (Wk_env (by repeat (first|exact trivial|refine⟨rfl,?_⟩)))
   |refine fin0 rfl ?_
   |refine ArK_in (wrap_i64 (by omega) (by omega)) ?_))
  ·simp only[AV.d.injEq,D.int.injEq,true_and,hd,ix]
   simp[h]
  ·intro j hj hjk
   rcases Nat.lt_succ_iff_lt_or_eq.1 hjk with h1|h1
   ·exact hno j hj h1
   ·subst h1;exact beq_false_of_ne fun e=>h e.symm
 ·simp at h
  have hd:=ix_drop (· ==n) l k hno hk
  rw[List.drop_eq_nil_of_le h] at hd
  repeat' ((conv=>whnf);(first
   |refine fin0 rfl ?_))
  simp[hd,ix]
end Go.Eng
namespace Go.Eng
open Go Go.Proofs
theorem contains_int (l:List Int) (n:Int):Fn Tryz.prog 255 [.d (ints l),.i n] (.b (l.any (· ==n))):=by
 refine Fn_of tt_ok Tryz.func255 rfl (by decide) Tryz.ntmps255 rfl ?_
 repeat' ((conv=>whnf);(first
  |refine Fn.use (index_int _ _) rfl rfl ?_
  |refine fin0 rfl ?_))
 rw[← ix_any]
theorem tree_once (l:List Int) (n:Int):Fn Tryz.prog 338 [.d (ints l),.i n] (.b (onceB l n)):=by
 refine Fn_ofB tt_ok Tryz.func338 rfl (by decide) Tryz.ntmps338 rfl (fun hok=>?_)
 have hB:=Ok_len (hok (.d (ints l)) (by simp))
 simp only[List.length_map] at hB
 have hl:=ix_lo (· ==n) l
 have e:=ix_count l n
 refine Fn.use (index_int _ _) rfl rfl ?_
 refine Br_dec (fun h=>?_) (fun h=>?_)
 ·refine ArK_in (wrap_i64 (by omega) (by omega)) ?_
  refine Need_in ⟨by omega,by simp;omega,by simp,fun row hr=>?_⟩ ?_
  ·obtain ⟨a,_,rfl⟩:=List.mem_map.1 hr
   rfl
  refine Fn.useE (contains_int (l.drop (ix (· ==n) l+1).toNat) n) ?_ rfl rfl ?_
  ·simp only[ints,List.map_drop,Int.toNat_natCast]
   rw[List.take_of_length_le (by simp)]
  repeat' ((conv=>whnf);(first
   |refine fin0 rfl ?_))
  rw[decide_eq_true h,Bool.true_and] at e
  rw[e];unfold onceB;rfl
 ·repeat' ((conv=>whnf);(first
  |refine fin0 rfl ?_))
  rw[decide_eq_false h,Bool.false_and] at e
  rw[e];unfold onceB;rfl
theorem tree_attrs (x:Node):Fn Tryz.prog 339 [aggD x.cs] (.b (attrsB x)):=by
 refine Fn_of tt_ok Tryz.func339 rfl (by decide) Tryz.ntmps339 rfl ?_
 refine Len_in (fun hlen=>?_)
 simp only[List.length_map] at hlen
 refine W_loop (fun μ s=> ∃(k:Nat) (last:Int),k≤x.attrs.length∧μ=x.attrs.length-k∧attrsFrom (decide (x.kind=3)) (-1) x.attrs=attrsFrom (decide (x.kind=3)) last (x.attrs.drop k)∧
   s=⟨[(1,.ptr 0 0),(3,.i last),(8,.d (attrsD x.attrs)),(9,.i (List.map Attr.cs x.attrs).length),(10,.i k)],60,[some (.row (x.cs.map .d))],0,[]⟩) x.attrs.length
  ⟨_,?_,0,-1,by simp,by simp,by simp,rfl⟩ ?_
 ·exact Wk_ren [0] rfl rfl (by repeat (first|exact trivial|refine⟨⟨rfl,rfl⟩,?_⟩)) (by repeat (first|exact trivial|refine⟨⟨rfl,rfl⟩,?_⟩)) (by decide) (by omega)
 rintro μ s1 ⟨k,last,hk,rfl,hgo,rfl⟩
 refine W_run tt_ok ?_
 refine Br_dec (fun h=>?_) (fun h=>?_)
 ·simp at h
  refine Idx_in (x.attrs[k]).cs (by simp[h]) (by omega) rfl ?_
  rw[List.drop_eq_getElem_cons h] at hgo
  generalize x.attrs[k]=a at hgo
  simp only[attrsFrom,ofSh] at hgo
  repeat' ((conv=>whnf);(first
   |refine Br_beq (fun h=>?_) (fun h=>?_)
   |refine Br_false (decide_eq_false (by omega)) ?_
   |refine Br_dec (fun h=>?_) (fun h=>?_)
   |refine Br_not ?_
   |refine Fn.use (tree_value _) rfl rfl ?_
   |refine Back_in _ _ ⟨k+1,a.name,by omega,rfl,?_,rfl⟩ (by omega) (Wk_ren [0] rfl rfl (by repeat (first|exact trivial|refine⟨⟨rfl,rfl⟩,?_⟩)) (by repeat (first|exact trivial|refine⟨⟨rfl,rfl⟩,?_⟩)) (by decide) (by omega))
   |refine Br_split (fun h=>?_) (fun h=>?_)
   |refine fin0 rfl ?_
   |refine ArK_in (wrap_i64 (by omega) (by omega)) ?_))
  all_goals (clear hlen;simp only[attrsB,AV.b,AV.d.injEq,D.bool.injEq,hgo] at *;grind)
 ·simp at h
  have hk':x.attrs.drop k=[]:=List.drop_eq_nil_of_le h
  rw[hk'] at hgo
  have hz:x.attrs.length=0→x.attrs=[]:=List.eq_nil_of_length_eq_zero
  repeat' ((conv=>whnf);(first
   |refine Br_beq (fun h=>?_) (fun h=>?_)
   |refine Len_in (fun hlen=>?_)
   |refine fin0 rfl ?_))
  all_goals (clear hlen;simp only[attrsB,AV.b,AV.d.injEq,D.bool.injEq,hgo,attrsFrom] at *;grind)
theorem tree_below (t:Tree) (n k:Int) (hn:isN t n=true):Fn Tryz.prog 342 [.d (treeD t),.i n,.i k] (.b (belowB t n k)):=by
 refine Fn_of tt_ok Tryz.func342 rfl (by decide) Tryz.ntmps342 rfl ?_
 repeat' ((conv=>whnf);(first
  |refine Br_beq (fun h=>?_) (fun h=>?_)
  |refine Fn.use (tree_is _ _) rfl rfl ?_
  |refine Fn.use (tree_once _ _) rfl rfl ?_
  |refine Idx_nd hn rfl ?_
  |refine Idx_nd (by assumption) rfl ?_
  |refine Br_split (fun h=>?_) (fun h=>?_)
  |refine fin0 rfl ?_))
 all_goals (simp only[belowB,AV.d.injEq,D.bool.injEq];simp_all <;> (rw [Bool.eq_iff_iff];simp_all))
theorem tree_shadow (t:Tree) (n:Int) (hn:isN t n=true):Fn Tryz.prog 340 [.d (treeD t),.i n] (.b (shadowB t n)):=by
 refine Fn_of tt_ok Tryz.func340 rfl (by decide) Tryz.ntmps340 rfl ?_
 repeat' ((conv=>whnf);(first
  |refine Br_beq (fun h=>?_) (fun h=>?_)
  |refine Br_bne (fun h=>?_) (fun h=>?_)
  |refine Fn.use (tree_is _ _) rfl rfl ?_
  |refine Idx_nd hn rfl ?_
  |refine Idx_nd (by assumption) rfl ?_
  |refine Br_split (fun h=>?_) (fun h=>?_)
  |refine fin0 rfl ?_))
 all_goals (simp only[shadowB,AV.d.injEq,D.bool.injEq];simp_all <;> (rw [Bool.eq_iff_iff];simp_all))
end Go.Eng
namespace Go.Eng
open Go Go.Proofs
theorem indexFunc_int (l:List Int) (g:FuncId) (fs cs:List AV) (H:Heap) (p:Int→Bool) (hp: ∀k∈l,Tri Tryz.prog g (fs++[.i k]++cs) H fun v H'=>v=.b (p k)∧H'=H):
  Tri Tryz.prog 347 [.d (ints l),.clos (.func g) fs cs] H fun v H'=>v=.i (ix p l)∧H'=H:=by
 refine Tri_of (m:=H.length) tt_ok Tryz.func347 rfl (by decide) Tryz.ntmps347 (by rfl) rfl ?_
 refine Len_in (fun hlen=>?_)
 simp only[List.length_map] at hlen
 refine W_loop (fun μ s=> ∃(k:Nat),k≤l.length∧μ=l.length-k∧(∀ j (h:j<l.length),j<k→p l[j]=false)∧
   s=⟨[(0,.d (ints l)),(1,.clos (.func g) fs cs),(7,.i (List.map intCs l).length),(8,.i k)],19,H,H.length,[]⟩) l.length
  ⟨_,?_,0,by simp,by simp,by simp,rfl⟩ ?_
 ·exact Wk_env (by repeat (first|exact trivial|refine⟨rfl,?_⟩))
 rintro μ s1 ⟨k,hk,rfl,hno,rfl⟩
 refine W_run tt_ok ?_
 refine Br_dec (fun h=>?_) (fun h=>?_)
 ·simp at h
  refine Idx_in (intCs l[k]) (by simp[h]) (by omega) rfl ?_
  have hd:=ix_drop p l k hno hk
  rw[List.drop_eq_getElem_cons h] at hd
  refine Tri.use (hp l[k] (List.getElem_mem h)) ?_
  refine Br_split (fun hq=>?_) (fun hq=>?_)
  ·repeat' ((conv=>whnf);(first
   |refine finR ?_))
   simp only[AV.d.injEq,D.int.injEq,true_and,hd,ix]
   simp[hq]
  ·repeat' ((conv=>whnf);(first
   |refine Back_in _ _ ⟨k+1,by omega,rfl,?_,rfl⟩ (by omega) (Wk_env (by repeat (first|exact trivial|refine⟨rfl,?_⟩)))
   |refine ArK_in (wrap_i64 (by omega) (by omega)) ?_))
   intro j hj hjk
   rcases Nat.lt_succ_iff_lt_or_eq.1 hjk with h1|h1
   ·exact hno j hj h1
   ·subst h1;exact hq
 ·simp at h
  have hd:=ix_drop p l k hno hk
  rw[List.drop_eq_nil_of_le h] at hd
  repeat' ((conv=>whnf);(first
   |refine finR ?_))
  simp[hd,ix]
theorem containsFunc_int (l:List Int) (g:FuncId) (fs cs:List AV) (H:Heap) (p:Int→Bool) (hp: ∀k∈l,Tri Tryz.prog g (fs++[.i k]++cs) H fun v H'=>v=.b (p k)∧H'=H):
  Tri Tryz.prog 335 [.d (ints l),.clos (.func g) fs cs] H fun v H'=>v=.b (l.any p)∧H'=H:=by
 refine Tri_of (m:=H.length) tt_ok Tryz.func335 rfl (by decide) Tryz.ntmps335 (by rfl) rfl ?_
 refine Tri.use (indexFunc_int l g fs cs H p hp) ?_
 repeat' ((conv=>whnf);(first
  |refine finR ?_))
 rw[← ix_any]
theorem tree_node1 (t:Tree) (n k:Int) (hn:isN t n=true) (rest:Heap):
  Tri Tryz.prog 341 [.i k,.ptr 0 0,.ptr 1 0] (some (.row [.d (treeD t)])::some (.row [.i n])::rest) fun v H'=>v=.b (!belowB t n k)∧H'=some (.row [.d (treeD t)])::some (.row [.i n])::rest:=by
 refine Tri_of (m:=rest.length+2) tt_ok Tryz.func341 rfl (by decide) Tryz.ntmps341 (by rfl) rfl ?_
 refine Fn.use (tree_below t n k hn) rfl rfl ?_
 repeat' ((conv=>whnf);(first
  |refine finR ?_))
 rfl
set_option maxHeartbeats 2000000 in
theorem tree_node (t:Tree) (n:Int) (hn:isN t n=true):Fn Tryz.prog 264 [.d (treeD t),.i n] (.b (nodeB t n)):=by
 refine Fn_of tt_ok Tryz.func264 rfl (by decide) Tryz.ntmps264 rfl ?_
 refine Idx_nd hn rfl ?_
 repeat' ((conv=>whnf);(first
  |refine Br_false (beqF (by omega)) ?_
  |refine Br_beq (fun h=>?_) (fun h=>?_)
  |refine Br_true (bneT (by omega)) ?_
  |refine Br_false (bneF (by omega)) ?_
  |refine Br_bne (fun h=>?_) (fun h=>?_)
  |refine Br_dec (fun h=>?_) (fun h=>?_)
  |refine Br_not ?_
  |refine Len_in (fun hlen=>?_)
  |refine W_draw 0 tt_ok mixed (by kernel_rfl) ?_
  |refine Fn.use (tree_in _ _ _) rfl rfl ?_
  |refine CallF_in (tree_is _ _) rfl rfl ?_
  |refine CallF_in (tree_once _ _) rfl rfl ?_
  |refine Fn.use (tree_attrs _) rfl rfl ?_
  |refine Fn.use (tree_shadow _ _ hn) rfl rfl ?_
  |refine Idx_nd (by assumption) rfl ?_
  |refine Tri.use (containsFunc_int _ _ [] _ _ (fun k=> !belowB t n k) fun k _=>tree_node1 t n k hn _) ?_
  |refine Br_split (fun h=>?_) (fun h=>?_)
  |refine fin0 rfl ?_))
 all_goals (try simp only[List.length_map] at *)
 all_goals (have hz:(nd t n).kids=[]↔(nd t n).kids.length=0:=by simp)
 all_goals (simp only[nodeB,kindB,parB,AV.d.injEq,D.bool.injEq,not_any_not,hz];grind)
end Go.Eng
namespace Go.Eng
open Go Go.Proofs
theorem prog_in (n m:Int):Fn Tryz.prog 125 [.i n,.i m] (.b (inM n m)):=by
 refine Fn_of tt_ok Tryz.func125 rfl (by decide) Tryz.ntmps125 rfl ?_
 repeat' ((conv=>whnf);(first
  |refine Br_dec (fun h=>?_) (fun h=>?_)
  |refine fin0 rfl ?_))
 all_goals (simp only[AV.d.injEq,D.bool.injEq];unfold inM;grind)
theorem prog_kinds:Fn Tryz.prog 96 [] (.agg kindsL):=by
 refine Fn_of tt_ok Tryz.func96 rfl (by decide) Tryz.ntmps96 rfl ?_
 repeat' ((conv=>whnf);(first
  |refine fin0 rfl ?_))
 unfold kindsL
 rfl
set_option maxHeartbeats 1000000 in
theorem step_may (x:Step):Fn Tryz.prog 99 [aggD x.cs] (.b (stepB x)):=by
 refine Fn_of tt_ok Tryz.func99 rfl (by decide) Tryz.ntmps99 rfl ?_
 have hf:=prog_in x.f 14
 cases h0:inM x.f 14 <;> rw[h0] at hf
 ·have e:stepB x=false:=by unfold stepB;rw[h0];rfl
  rw[e]
  repeat' ((conv=>whnf);(first
   |refine Fn.use (hf) rfl rfl ?_
   |refine fin0 rfl ?_))
  all_goals rfl
 have hn:=inM_iff.1 h0
 have hm:=many_bd x.f.toNat
 have hsub:=kinds_sub (k:=x.f.toNat) (by omega)
 have hb:0≤x.f∧x.f<((15:Nat):Int):=by omega
 have ha:=prog_in x.a 63
 have hbb:=prog_in x.b 63
 have es:stepB x=(inM x.a 63&&inM x.b 63&&(decide (1≤manyN x.f.toNat)||decide (x.a=0))&&(decide (2≤manyN x.f.toNat)||decide (x.b=0))):=by unfold stepB;rw[h0];rfl
 generalize manyN x.f.toNat=mm at *
 cases h1:inM x.a 63 <;> rw[h1] at ha es
 ·have e:stepB x=false:=by rw[es];rfl
  rw[e]
  repeat' ((conv=>whnf);(first
   |refine Fn.use (hf) rfl rfl ?_))
  refine W_loop (fun μ s=>μ=0∧s=⟨[(1,.ptr 0 0),(13,.agg [.i x.a,.i x.b]),(14,.i 0)],35,[some (.row [.i x.f,.i x.a,.i x.b])],0,[]⟩) 0 ⟨_,?_,rfl,rfl⟩ ?_
  ·exact Wk_env (by repeat (first|exact trivial|refine⟨rfl,?_⟩))
  rintro μ s1 ⟨rfl,rfl⟩
  refine W_run tt_ok ?_
  repeat' ((conv=>whnf);(first
   |refine W_draw 0 tt_ok mixed (by kernel_rfl) ?_
   |refine CallF_in (ha) rfl rfl ?_
   |refine fin0 rfl ?_))
  all_goals rfl
 ·cases h2:inM x.b 63 <;> rw[h2] at hbb es
  all_goals
   repeat' ((conv=>whnf);(first
    |refine Fn.use (hf) rfl rfl ?_))
   refine W_loop (fun μ s=> ∃k:Nat,k≤2∧μ=2-k∧(1≤k→(1≤mm∨x.a=0))∧(2≤k→inM x.b 63=true∧(2≤mm∨x.b=0))∧s=⟨[(1,.ptr 0 0),(13,.agg [.i x.a,.i x.b]),(14,.i k)],35,[some (.row [.i x.f,.i x.a,.i x.b])],0,[]⟩) 2
    ⟨_,?_,0,by omega,rfl,fun h=>by omega,fun h=>by omega,rfl⟩ ?_
   ·exact Wk_env (by repeat (first|exact trivial|refine⟨rfl,?_⟩))
   rintro μ s1 ⟨k,hk,rfl,f1,f2,rfl⟩
   refine W_run tt_ok ?_
   match k,hk with
   |0,_=>
    repeat' ((conv=>whnf);(first
     |refine Br_true (decide_eq_true hb) ?_
     |(refine Br_true (Nat.ble_eq_true_of_le (by rw[kinds_len];simp;omega)) ?_)
     |refine Br_bne (fun h=>?_) (fun h=>?_)
     |refine Br_dec (fun h=>?_) (fun h=>?_)
     |refine W_draw 0 tt_ok mixed (by kernel_rfl) ?_
     |refine CallF_in (ha) rfl rfl ?_
     |refine CallF_in prog_kinds rfl kinds_low ?_
     |refine forceL_in hsub ?_
     |refine Back_in _ _ ⟨1,by omega,rfl,fun _=>by omega,fun h=>by omega,rfl⟩ (by omega) (Wk_env (by repeat (first|exact trivial|refine⟨rfl,?_⟩)))
     |refine fin0 rfl ?_
     |refine ArK_in (wrap_i64 (by omega) (by omega)) ?_))
    all_goals (simp only[AV.d.injEq,D.bool.injEq];rw[es];simp;try omega)
   |1,_=>
    repeat' ((conv=>whnf);(first
     |refine Br_true (decide_eq_true hb) ?_
     |(refine Br_true (Nat.ble_eq_true_of_le (by rw[kinds_len];simp;omega)) ?_)
     |refine Br_bne (fun h=>?_) (fun h=>?_)
     |refine Br_dec (fun h=>?_) (fun h=>?_)
     |refine W_draw 0 tt_ok mixed (by kernel_rfl) ?_
     |refine CallF_in (hbb) rfl rfl ?_
     |refine CallF_in prog_kinds rfl kinds_low ?_
     |refine forceL_in hsub ?_
     |refine Back_in _ _ ⟨2,by omega,rfl,fun _=>f1 (by omega),fun _=>⟨h2,by omega⟩,rfl⟩ (by omega) (Wk_env (by repeat (first|exact trivial|refine⟨rfl,?_⟩)))
     |refine fin0 rfl ?_
     |refine ArK_in (wrap_i64 (by omega) (by omega)) ?_))
    all_goals (simp only[AV.d.injEq,D.bool.injEq];rw[es];simp;try omega)
   |2,_=>
    have g1:=f1 (by omega)
    have g2:=f2 (by omega)
    repeat' ((conv=>whnf);(first
     |refine fin0 rfl ?_))
    all_goals (simp only[AV.d.injEq,D.bool.injEq];rw[es];simp[h2] at g2 ⊢;try omega)
theorem check1 (x:Step):Fn Tryz.prog 132 [aggD x.cs] (.b (!stepB x)):=by
 refine Fn_of tt_ok Tryz.func132 rfl (by decide) Tryz.ntmps132 rfl ?_
 repeat' ((conv=>whnf);(first
  |refine Fn.use (step_may x) rfl rfl ?_
  |refine fin0 rfl ?_))
 rfl
theorem indexFunc_step (l:List Step) (g:FuncId) (p:Step→Bool) (hp: ∀a∈l,Fn Tryz.prog g [aggD a.cs] (.b (p a))):
  Fn Tryz.prog 198 [.d (stepsD l),.d (.fn g)] (.i (ix p l)):=by
 refine Fn_of tt_ok Tryz.func198 rfl (by decide) Tryz.ntmps198 rfl ?_
 refine Len_in (fun hlen=>?_)
 simp only[List.length_map] at hlen
 refine W_loop (fun μ s=> ∃(k:Nat),k≤l.length∧μ=l.length-k∧(∀ j (h:j<l.length),j<k→p l[j]=false)∧
   s=⟨[(0,.d (stepsD l)),(1,.d (.fn g)),(7,.i (List.map Step.cs l).length),(8,.i k)],19,[],0,[]⟩) l.length
  ⟨_,?_,0,by simp,by simp,by simp,rfl⟩ ?_
 ·exact Wk_env (by repeat (first|exact trivial|refine⟨rfl,?_⟩))
 rintro μ s1 ⟨k,hk,rfl,hno,rfl⟩
 refine W_run tt_ok ?_
 refine Br_dec (fun h=>?_) (fun h=>?_)
 ·simp at h
  refine Idx_in (l[k]).cs (by simp[h]) (by omega) rfl ?_
  have hd:=ix_drop p l k hno hk
  rw[List.drop_eq_getElem_cons h] at hd
  refine Fn.use (hp l[k] (List.getElem_mem h)) rfl rfl ?_
  refine Br_split (fun hq=>?_) (fun hq=>?_)
  ·repeat' ((conv=>whnf);(first
   |refine finR ?_))
   simp only[AV.d.injEq,D.int.injEq,true_and,hd,ix]
   simp[hq]
  ·repeat' ((conv=>whnf);(first
   |refine Back_in _ _ ⟨k+1,by omega,rfl,?_,rfl⟩ (by omega) (Wk_env (by repeat (first|exact trivial|refine⟨rfl,?_⟩)))
   |refine ArK_in (wrap_i64 (by omega) (by omega)) ?_))
   intro j hj hjk
   rcases Nat.lt_succ_iff_lt_or_eq.1 hjk with h1|h1
   ·exact hno j hj h1
   ·subst h1;exact hq
 ·simp at h
  have hd:=ix_drop p l k hno hk
  rw[List.drop_eq_nil_of_le h] at hd
  repeat' ((conv=>whnf);(first
   |refine finR ?_))
  simp[hd,ix]
theorem contains_step (l:List Step):Fn Tryz.prog 131 [.d (stepsD l),.d (.fn 132)] (.b (l.any fun x=> !stepB x)):=by
 refine Fn_of tt_ok Tryz.func131 rfl (by decide) Tryz.ntmps131 rfl ?_
 refine Fn.use (indexFunc_step l _ (fun x=> !stepB x) fun a _=>check1 a) rfl rfl ?_
 have h:=ix_any (fun x=> !stepB x) l
 rw[← h]
 generalize ix (fun x=> !stepB x) l=i
 repeat' ((conv=>whnf);(first
  |refine fin0 rfl ?_))
 all_goals grind
theorem prog_Check (l:List Step):Fn Tryz.prog 108 [.d (stepsD l)] (.i (if checkB l then 0 else 1)):=by
 refine Fn_of tt_ok Tryz.func108 rfl (by decide) Tryz.ntmps108 rfl ?_
 refine Len_in (fun hlen=>?_)
 have e:checkB l=(decide ((List.map Step.cs l).length≤16)&& !(l.any fun x=> !stepB x)):=by
  unfold checkB
  rw[List.length_map]
  congr 1
  rw[List.all_eq_not_any_not]
 rw[e]
 have hc:=contains_step l
 generalize (l.any fun x=> !stepB x)=q at *
 repeat' ((conv=>whnf);(first
  |refine Br_dec (fun h=>?_) (fun h=>?_)
  |refine Fn.use (hc) rfl rfl ?_
  |refine Br_split (fun h=>?_) (fun h=>?_)
  |refine fin0 rfl ?_))
 all_goals grind
end Go.Eng
namespace Go.Eng
open Go Go.Proofs
theorem str_toListP (l:List UInt8):(⟨l.toArray⟩:ByteArray).toList=l:=by rw[ByteArray.toList_eq]
end Go.Eng
namespace Go.Eng
open Go Go.Proofs
set_option maxHeartbeats 1000000 in
theorem step_text (x:Step) (hx:stepB x=true):Fn Tryz.prog 100 [aggD x.cs] (.d (str (textS x))):=by
 refine Fn_of tt_ok Tryz.func100 rfl (by decide) Tryz.ntmps100 rfl ?_
 unfold stepB at hx
 simp only[Bool.and_eq_true,inM_iff] at hx
 obtain ⟨⟨⟨⟨h0,h1⟩,h2⟩,_⟩,_⟩:=hx
 have hsub:=kinds_sub (k:=x.f.toNat) (by omega)
 have hb:0≤x.f∧x.f<((15:Nat):Int):=by omega
 obtain ⟨na,ea⟩: ∃n:Nat,x.a=n:=⟨x.a.toNat,by omega⟩
 obtain ⟨nb,eb⟩: ∃n:Nat,x.b=n:=⟨x.b.toNat,by omega⟩
 have hta:=itoa_small na (by omega)
 have htb:=itoa_small nb (by omega)
 have hA:=dec_len na (by omega)
 have hB:=dec_len nb (by omega)
 have hm:=many_bd x.f.toNat
 obtain ⟨f,a,b⟩:=x
 dsimp only at ea eb hm hsub hb
 subst ea eb
 unfold textS wordsS
 dsimp only[num,Int.toNat_natCast]
 generalize hN:nameL f.toNat=N at *
 generalize manyN f.toNat=m at *
 generalize hAe:Lib.decDigits na=A at *
 generalize hBe:Lib.decDigits nb=B at *
 repeat' ((conv=>whnf);(first
  |refine Br_true (decide_eq_true hb) ?_
  |(refine Br_true (Nat.ble_eq_true_of_le (by rw[kinds_len];simp;omega)) ?_)
  |refine W_draw 0 tt_ok mixed (by kernel_rfl) ?_
  |refine CallF_in prog_kinds rfl kinds_low ?_
  |refine forceL_in hsub ?_
  |refine CallF_in (hta) rfl rfl ?_
  |refine CallF_in (htb) rfl rfl ?_
  |refine ArK_in (wrap_i64 (by omega) (by omega)) ?_))
 conv=>whnf
 have hcs: ∀row∈[[str N],[str A],[str B]],row.length=1:=by intro r hr;simp at hr;rcases hr with rfl|rfl|rfl <;> rfl
 refine Need_in ⟨by omega,by omega,(by show 1+m≤3;omega),hcs⟩ ?_
 have hNl:N.length≤20:=by rw[← hN];exact name_len _
 have e1:(D.sl ((List.take (1+m).toNat [[str N],[str A],[str B]])):D)=texts (N::((if 1≤m then [A] else [])++(if 2≤m then [B] else []))):=by
  rcases (by omega:m=0∨m=1∨m=2) with rfl|rfl|rfl <;> rfl
 have hj:(joinL 32 (N::((if 1≤m then [A] else [])++(if 2≤m then [B] else [])))).length≤100:=by
  rcases (by omega:m=0∨m=1∨m=2) with rfl|rfl|rfl <;> simp[joinL] <;> omega
 refine Fn.useE (join_c (N::((if 1≤m then [A] else [])++(if 2≤m then [B] else []))) 32 (by omega) (by simp;split <;> split <;> simp)) ?_ rfl rfl ?_
 ·exact congrArg (fun d=>[AV.d d,AV.d (str [32])]) e1
 repeat' ((conv=>whnf);(first
  |refine fin0 rfl ?_))
 rfl
end Go.Eng
namespace Go.Eng
open Go Go.Proofs
def rowsT (l:List Step):List (List D):=l.map fun x=>[str (textS x)]
theorem rowsT_sz {l:List Step}: ∀r∈rowsT l,r.length=1:=by
 intro r hr;unfold rowsT at hr;obtain ⟨x,_,rfl⟩:=List.mem_map.1 hr;rfl
theorem rowsT_texts (l:List Step):D.sl (rowsT l)=texts (l.map textS):=by unfold rowsT texts;rw[List.map_map];rfl
theorem rowsT_app (l:List Step) (x:Step):rowsT (l++[x])=rowsT l++[[str (textS x)]]:=by unfold rowsT;simp
theorem rowsT_len (l:List Step):(rowsT l).length=l.length:=by unfold rowsT;simp
theorem checkB_iff {l:List Step}:checkB l=true↔l.length≤16∧ ∀x∈l,stepB x=true:=by unfold checkB;simp
theorem textS_len {x:Step} (hx:stepB x=true):(textS x).length≤100:=by
 unfold stepB at hx
 simp only[Bool.and_eq_true,inM_iff] at hx
 obtain ⟨⟨⟨⟨h0,h1⟩,h2⟩,_⟩,_⟩:=hx
 have hA:=dec_len x.a.toNat (by omega)
 have hB:=dec_len x.b.toNat (by omega)
 have hN:=name_len x.f.toNat
 unfold textS wordsS num
 generalize nameL x.f.toNat=N at *
 generalize Lib.decDigits x.a.toNat=A at *
 generalize Lib.decDigits x.b.toNat=B at *
 split <;> split <;> simp[joinL] <;> omega
theorem joinL_len (c:UInt8) (ws:List (List UInt8)) (m:Nat) (h: ∀w∈ws,w.length≤m):(joinL c ws).length≤ws.length * (m+1):=by
 induction ws with
 |nil=>simp[joinL]
 |cons w ws ih=>
  have hw:=h w (by simp)
  cases ws with
  |nil=>simp[joinL];omega
  |cons a r=>
   have:=ih (fun x hx=>h x (by simp[hx]))
   rw[joinL_cons c w (by simp)]
   simp only[List.length_append,List.length_cons] at this⊢
   rw[Nat.succ_mul]
   omega
set_option maxHeartbeats 1000000 in
theorem prog_Text (l:List Step):Fn Tryz.prog 70 [.d (stepsD l)] (.d (str (textL l))):=by
 refine Fn_of tt_ok Tryz.func70 rfl (by decide) Tryz.ntmps70 rfl ?_
 have hch:=prog_Check l
 cases hc:checkB l <;> rw[hc] at hch
 ·have e:textL l=[]:=by unfold textL;rw[hc];rfl
  rw[e]
  repeat' ((conv=>whnf);(first
   |refine Fn.use (hch) rfl rfl ?_
   |refine fin0 rfl ?_))
  all_goals rfl
 obtain ⟨h16,hst⟩:=checkB_iff.1 hc
 have e:textL l=joinL 59 (l.map textS):=by unfold textL;rw[if_pos hc]
 rw[e]
 have hj:(joinL 59 (l.map textS)).length≤16 * 101:=by
  refine Nat.le_trans (joinL_len 59 _ 100 fun w hw=>?_) (Nat.mul_le_mul_right _ (by simp;omega))
  obtain ⟨x,hx,rfl⟩:=List.mem_map.1 hw
  exact textS_len (hst x hx)
 repeat' ((conv=>whnf);(first
  |refine Len_in (fun hlen=>?_)
  |refine Fn.use (hch) rfl rfl ?_))
 refine W_loop (fun μ s=> ∃(k:Nat) (w:List Step),k≤l.length∧μ=l.length-k∧w=l.take k∧s=⟨[(3,AccV 0 1 (rowsT w)),(9,.d (stepsD l)),(10,.i (List.map Step.cs l).length),(11,.i k)],23,[AccB (rowsT w)],0,[]⟩) l.length
  ⟨⟨[(3,.nsl),(9,.d (stepsD l)),(10,.i (List.map Step.cs l).length),(11,.i 0)],23,[none],0,[]⟩,?_,0,[],by omega,by omega,by simp,by simp[rowsT,AccV_nil,AccB_nil]⟩ ?_
 ·exact Wk.trans Wk_pad (Wk_env (by repeat (first|exact trivial|refine⟨rfl,?_⟩)))
 rintro μ s1 ⟨k,w,hk,rfl,hw,rfl⟩
 have hwl:w.length=k:=by rw[hw];simp;omega
 refine W_run tt_ok ?_
 refine Br_dec (fun h=>?_) (fun h=>?_)
 ·simp at h
  have hlt:=h
  have hi:(List.map Step.cs l)[(k:Int).toNat]? =some (l[k]).cs:=by simp[hlt]
  have htk:l.take (k+1)=w++[l[k]]:=by rw[hw];exact List.take_succ_eq_append_getElem hlt
  have hm:=hst _ (List.getElem_mem hlt)
  have hse:=textS_len hm
  have ha:=Acc_app (b:=0) (sz:=1) (rows:=rowsT w) (new:=[[str (textS l[k])]]) (by simp)
  have hst:=step_text l[k] hm
  repeat' ((conv=>whnf);(first
   |refine Idx_in _ hi (by omega) rfl ?_
   |refine Fn.use (hst) rfl rfl ?_
   |refine force_in ?_))
  refine Ch_r ?_
  conv=>whnf
  refine App_acc (rowsT w) [[str (textS l[k])]] rfl rfl rfl rfl (by simp) rowsT_sz (by intro r hr;simp at hr;subst hr;rfl) (by rw[rowsT_len];simp only[List.length_cons,List.length_nil];omega) (Nat.le_of_ble_eq_true rfl) ?_
  repeat' ((conv=>whnf);(first
   |(refine Back_in ⟨[(3,.msl 0 0 ((rowsT w).length+1) ((rowsT w).length+1) 1),(9,.d (stepsD l)),(10,.i (List.map Step.cs l).length),(11,.i (k+1:Nat))],23,[some (.row ((rowsT w++[[str (textS l[k])]]).flatten.map .d))],0,[]⟩ _ ⟨k+1,w++[l[k]],by omega,rfl,htk.symm,?_⟩ (by omega) (Wk_ren [2] rfl rfl ⟨⟨by rw[renB_row];rfl,lowB_row _ _⟩,trivial⟩ (by repeat (first|exact trivial|refine⟨⟨rfl,rfl⟩,?_⟩)) (by decide) (by omega)))
   |refine ArK_in (wrap_i64 (by omega) (by omega)) ?_))
  rw[rowsT_app,ha.1,ha.2]
  rfl
 ·simp at h
  have hw':w=l:=by rw[hw];exact List.take_of_length_le h
  subst hw'
  have hjn:=join_c (w.map textS) 59 (by omega) (by simp;omega)
  rw[← rowsT_texts] at hjn
  repeat' ((conv=>whnf);(first
   |refine Tri.peek hjn rfl [0] rfl (FV_args2 (FV_acc (rowsT w) rfl rowsT_sz) (.same _ rfl)) ?_
   |refine fin0 rfl ?_
   |refine force_in ?_))
  rfl
end Go.Eng
namespace Go.Eng
open Go Go.Proofs
def kRow (k:Nat):List D:=[str (kW k),.int .i64 (kD k),.bool (kF k),.int .i64 (kN k)]
@[irreducible] def kRows:List (List D):=(List.range 26).map kRow
theorem kRows_eq:kRows=(List.range 26).map kRow:=by unfold kRows;rfl
theorem kRows_at {k:Nat} (h:k<26) {n:Int} (hn:n=k):kRows[n.toNat]? =some (kRow k):=by
 subst hn
 rw[kRows_eq]
 simp[h]
theorem script_kinds:Fn Tryz.prog 37 [] (.d (.sl kRows)):=by
 refine Fn_of tt_ok Tryz.func37 rfl (by decide) Tryz.ntmps37 rfl ?_
 repeat' ((conv=>whnf);(first
  |refine Ch_r ?_
  |refine fin0 rfl ?_))
 rw[kRows_eq]
 kernel_rfl
theorem ref24_kinds:Fn Tryz.prog 24 [] (.d (.sl kRows)):=by
 refine Fn_of tt_ok Tryz.func24 rfl (by decide) Tryz.ntmps24 rfl ?_
 repeat' ((conv=>whnf);(first
  |refine Ch_r ?_
  |refine fin0 rfl ?_))
 rw[kRows_eq]
 kernel_rfl
theorem script_write1 (k:Nat) (o:OpR):Tri Tryz.prog 44 ([]++[aggD (kRow k)]++[.ptr 0 0]) [some (.row (o.cs.map .d))] fun v H'=>v=.b (kD k==o.d&&kF k==o.fl)∧H'=[some (.row (o.cs.map .d))]:=by
 refine Tri_of (m:=1) tt_ok Tryz.func44 rfl (by decide) Tryz.ntmps44 (by rfl) rfl ?_
 obtain ⟨od,oa,ob,oc,ofl,op⟩:=o
 unfold kRow
 generalize kW k=w at *
 generalize kD k=d at *
 generalize kF k=f at *
 generalize kN k=n at *
 repeat' ((conv=>whnf);(first
  |refine finT rfl rfl (by repeat (first|exact trivial|refine⟨⟨rfl,rfl⟩,?_⟩)) ?_))
 all_goals (first|rfl|simp[allB])
theorem script_read1 (k:Nat) (w:List UInt8):Tri Tryz.prog 39 ([]++[aggD (kRow k)]++[.ptr 0 0]) [some (.row [.d (str w)])] fun v H'=>v=.b (kW k==w)∧H'=[some (.row [.d (str w)])]:=by
 refine Tri_of (m:=1) tt_ok Tryz.func39 rfl (by decide) Tryz.ntmps39 (by rfl) rfl ?_
 unfold kRow
 have e:((⟨(kW k).toArray⟩:ByteArray).toList==(⟨w.toArray⟩:ByteArray).toList)=(kW k==w):=by rw[str_toList,str_toList]
 rw[← e]
 generalize kW k=x at *
 generalize kD k=d at *
 generalize kF k=f at *
 generalize kN k=n at *
 repeat' ((conv=>whnf);(first
  |refine finT rfl rfl (by repeat (first|exact trivial|refine⟨⟨rfl,rfl⟩,?_⟩)) ?_))
 all_goals rfl
theorem indexFunc_kind (g:FuncId) (fs cs:List AV) (H:Heap) (p:Nat→Bool) (hp: ∀a,a<26→Tri Tryz.prog g (fs++[aggD (kRow a)]++cs) H fun v H'=>v=.b (p a)∧H'=H):
  Tri Tryz.prog 38 [.d (.sl kRows),.clos (.func g) fs cs] H fun v H'=>v=.i (ix p (List.range 26))∧H'=H:=by
 refine Tri_of (m:=H.length) tt_ok Tryz.func38 rfl (by decide) Tryz.ntmps38 (by rfl) rfl ?_
 have hkl:kRows.length=26:=by rw[kRows_eq];simp
 have hat:=fun (k:Nat) (h:k<26)=>kRows_at h (n:=(k:Int)) rfl
 obtain ⟨l,hl⟩: ∃l:List Nat,l=List.range 26:=⟨_,rfl⟩
 have hll:l.length=26:=by rw[hl];simp
 have hlg: ∀k (h:k<l.length),l[k]=k:=by intro k h;subst hl;simp
 rw[← hl]
 obtain ⟨K,hK⟩: ∃K,K=kRows:=⟨_,rfl⟩
 rw[← hK] at hkl hat⊢
 clear hK hl
 refine Len_in (fun hlen=>?_)
 refine W_loop (fun μ s=> ∃(k:Nat),k≤26∧μ=26-k∧(∀ j (h:j<l.length),j<k→p l[j]=false)∧
   s=⟨[(0,.d (.sl K)),(1,.clos (.func g) fs cs),(7,.i K.length),(8,.i k)],19,H,H.length,[]⟩) 26
  ⟨_,?_,0,by omega,by omega,by simp,rfl⟩ ?_
 ·exact Wk_env (by repeat (first|exact trivial|refine⟨rfl,?_⟩))
 rintro μ s1 ⟨k,hk,rfl,hno,rfl⟩
 refine W_run tt_ok ?_
 refine Br_dec (fun h=>?_) (fun h=>?_)
 ·have h26:k<26:=by rw[hkl] at h;omega
  have hlt:k<l.length:=by omega
  refine Idx_in (kRow k) (hat k h26) (by omega) rfl ?_
  have hd:=ix_drop p l k hno (by omega)
  rw[List.drop_eq_getElem_cons hlt,hlg k hlt] at hd
  refine Tri.use (hp k h26) ?_
  refine Br_split (fun hq=>?_) (fun hq=>?_)
  ·repeat' ((conv=>whnf);(first
   |refine finR ?_))
   simp only[AV.d.injEq,D.int.injEq,true_and,hd,ix]
   simp[hq]
  ·repeat' ((conv=>whnf);(first
   |refine Back_in _ _ ⟨k+1,by omega,rfl,?_,rfl⟩ (by omega) (Wk_env (by repeat (first|exact trivial|refine⟨rfl,?_⟩)))
   |refine ArK_in (wrap_i64 (by omega) (by omega)) ?_))
   intro j hj hjk
   rcases Nat.lt_succ_iff_lt_or_eq.1 hjk with h1|h1
   ·exact hno j hj h1
   ·subst h1;rw[hlg j hj];exact hq
 ·have hk26:k=26:=by rw[hkl] at h;omega
  have hd:=ix_drop p l k hno (by omega)
  rw[List.drop_eq_nil_of_le (by omega)] at hd
  repeat' ((conv=>whnf);(first
   |refine finR ?_))
  simp[hd,ix]
theorem textL_len2 (l:List Step):(textL l).length≤1616:=by
 unfold textL
 split
 ·rename_i h
  obtain ⟨h16,hst⟩:=checkB_iff.1 h
  refine Nat.le_trans (joinL_len 59 _ 100 fun w hw=>?_) (Nat.le_trans (Nat.mul_le_mul_right _ (by simp;omega:_≤16)) (by omega))
  obtain ⟨x,hx,rfl⟩:=List.mem_map.1 hw
  exact textS_len (hst x hx)
 ·simp
theorem script_text (l:List Step):Fn Tryz.prog 43 [.d (stepsD l)] (.d (str (if l=[] then wProg else wProg++32::textL l))):=by
 have hT:=prog_Text l
 have hlen:=textL_len2 l
 have hkl:(List.map Step.cs l).length=l.length:=by simp
 by_cases h:l=[]
 ·rw[if_pos h]
  have h0:l.length=0:=by rw[h];rfl
  refine Fn_of tt_ok Tryz.func43 rfl (by decide) Tryz.ntmps43 rfl ?_
  repeat' ((conv=>whnf);(first
   |refine Br_true (beqT (by omega)) ?_
   |refine Len_in (fun hlen=>?_)
   |refine fin0 rfl ?_))
  rfl
 ·rw[if_neg h]
  have h0:0<l.length:=List.length_pos_iff.2 h
  generalize textL l=t at *
  have hres:AV.d (D.str ((⟨([112,114,111,103,114,97,109,32]:List UInt8).toArray⟩:ByteArray)++⟨t.toArray⟩))=.d (str (wProg++32::t)):=by rw[str_app];simp[str,wProg]
  refine Fn_of tt_ok Tryz.func43 rfl (by decide) Tryz.ntmps43 rfl ?_
  repeat' ((conv=>whnf);(first
   |refine Br_false (beqF (by omega)) ?_
   |refine Len_in (fun hlen=>?_)
   |refine Fn.use (hT) rfl rfl ?_
   |(refine Need_in (by unfold LB;simp[ByteArray.size];omega) ?_)
   |refine fin0 rfl hres))
theorem script_write (o:OpR) (ha:i64B o.a) (hb:i64B o.b) (hc:i64B o.c):Fn Tryz.prog 21 [aggD o.cs] (.d (str (wrV o))):=by
 have hK:=script_kinds
 have hI:=indexFunc_kind 44 [] [.ptr 0 0] [some (.row (o.cs.map .d))] (fun k=>kD k==o.d&&kF k==o.fl) fun k _=>script_write1 k o
 have hX:ix (fun k=>kD k==o.d&&kF k==o.fl) (List.range 26)=kix o.d o.fl:=rfl
 rw[hX] at hI
 have hT:=script_text o.p
 unfold wrV
 by_cases h6:o.d=6
 ·rw[if_pos h6]
  obtain ⟨od,oa,ob,oc,ofl,op⟩:=o
  simp only at h6
  subst h6
  simp only
  generalize (if op=[] then wProg else wProg++32::textL op)=t at *
  refine Fn_of tt_ok Tryz.func21 rfl (by decide) Tryz.ntmps21 rfl ?_
  repeat' ((conv=>whnf);(first
   |refine Fn.use (hT) rfl rfl ?_
   |refine fin0 rfl ?_))
  rfl
 rw[if_neg h6]
 by_cases h0:kix o.d o.fl<0
 ·rw[if_pos h0]
  generalize kix o.d o.fl=i at *
  obtain ⟨od,oa,ob,oc,ofl,op⟩:=o
  refine Fn_of tt_ok Tryz.func21 rfl (by decide) Tryz.ntmps21 rfl ?_
  repeat' ((conv=>whnf);(first
   |refine Br_false (beqF (by omega)) ?_
   |refine Br_true (decide_eq_true (by omega)) ?_
   |refine Fn.use (hK) rfl rfl ?_
   |refine Tri.use hI ?_
   |refine fin0 rfl ?_))
  rfl
 rw[if_neg h0]
 obtain ⟨k,e1,e2,e3,e4⟩:=kix_hit (show 0≤kix o.d o.fl by omega)
 rw[e1] at hI⊢
 rw[Int.toNat_natCast]
 have hat:=kRows_at e2 (n:=(k:Int)) rfl
 have hk3:=(k_all ⟨k,e2⟩).2.2.2.2.2
 simp only at hk3
 have hwl:(kW k).length≤20:=by
  have: ∀j:_root_.Fin 26,(kW j.val).length≤20:=by decide
  exact this ⟨k,e2⟩
 obtain ⟨od,oa,ob,oc,ofl,op⟩:=o
 unfold numsV
 simp only at *
 unfold kRow at hat
 obtain ⟨K,hKe⟩: ∃K,K=kRows:=⟨_,rfl⟩
 rw[← hKe] at hat hK hI
 clear hKe
 generalize kW k=w at *
 generalize kD k=kd at *
 generalize kF k=kf at *
 generalize kN k=n at *
 obtain ⟨ns,hns⟩: ∃ns:List Int,ns=[oa,ob,oc].take n:=⟨_,rfl⟩
 have hnl:ns.length=n:=by rw[hns];simp;omega
 have hbn: ∀x∈ns,i64B x:=by
  intro x hx
  rw[hns] at hx
  have:=List.mem_of_mem_take hx
  simp at this
  rcases this with rfl|rfl|rfl <;> assumption
 rw[← hns]
 have hj:(joinL 32 (w::ns.map it)).length≤10000:=by
  refine Nat.le_trans (joinL_len' 32 _ 100 fun x hx=>?_) (Nat.le_trans (Nat.mul_le_mul_right _ (by simp;omega:_≤11)) (by omega))
  rcases List.mem_cons.1 hx with rfl|hx
  ·omega
  ·obtain ⟨y,hy,rfl⟩:=List.mem_map.1 hx
   have:=Lib.itoa_length_le y (hbn y hy).1 (hbn y hy).2
   unfold it;omega
 have hsz: ∀(v:List (List UInt8)),∀r∈v.map (fun x=>[str x]),r.length=1:=fun v r hr=>by
  obtain ⟨x,_,rfl⟩:=List.mem_map.1 hr;rfl
 have hcl:(List.map intCs ns).length=ns.length:=by simp
 refine Fn_of tt_ok Tryz.func21 rfl (by decide) Tryz.ntmps21 rfl ?_
 repeat' ((conv=>whnf);(first
  |refine Br_false (beqF (by omega)) ?_
  |refine Fn.use (hK) rfl rfl ?_
  |refine Tri.use hI ?_
  |refine Idx_in _ hat (by omega) rfl ?_))
 refine Ch_l ?_
 repeat' ((conv=>whnf);(first
  |refine W_draw 0 tt_ok mixed (by kernel_rfl) ?_
  |refine Idx_in _ hat (by omega) rfl ?_
  |refine Need_in ?_ ?_))
 ·refine⟨by omega,by omega,?_,?_⟩
  ·show (n:Int)≤((3:Nat):Int)
   omega
  ·intro r hr
   have hr2:r∈[[D.int .i64 oa],[D.int .i64 ob],[D.int .i64 oc]]:=hr
   simp at hr2
   rcases hr2 with rfl|rfl|rfl <;> rfl
 refine W_loop (fun μ s=> ∃(j:Nat) (ws:List (List UInt8)),j≤ns.length∧μ=ns.length-j∧ws=w::(ns.take j).map it∧s=⟨[(5,AccV 1 1 (ws.map fun x=>[str x])),(38,.d (ints ns)),(39,.i (List.map intCs ns).length),(40,.i j)],52,[some (.row [.i od,.i oa,.i ob,.i oc,.b ofl,.d (stepsD op)]),AccB (ws.map fun x=>[str x])],0,[]⟩) ns.length
  ⟨⟨[(5,.msl 1 0 1 1 1),(38,.d (ints ns)),(39,.i (List.map intCs ns).length),(40,.i 0)],52,[some (.row [.i od,.i oa,.i ob,.i oc,.b ofl,.d (stepsD op)]),some (.row [.d (str w)])],0,[]⟩,?_,0,[w],by omega,by omega,by simp,by rw[AccV_cons (by simp),AccB_cons (by simp)];rfl⟩ ?_
 ·subst hns
  rcases n_cases hk3 with rfl|rfl|rfl|rfl
  all_goals exact Wk_env (by repeat (first|exact trivial|refine⟨rfl,?_⟩))
 rintro μ s1 ⟨j,ws,hj2,rfl,hws,rfl⟩
 have hwl2:ws.length=j+1:=by rw[hws];simp;omega
 refine W_run tt_ok ?_
 refine Br_dec (fun h=>?_) (fun h=>?_)
 ·have hlt:j<ns.length:=by rw[hcl] at h;omega
  have hi:(List.map intCs ns)[(j:Int).toNat]? =some [D.i ns[j]]:=by simp[hlt,intCs]
  have htk:w::(ns.take (j+1)).map it=ws++[it ns[j]]:=by rw[hws,List.take_succ_eq_append_getElem hlt,List.map_append];rfl
  have hb1:=hbn _ (List.getElem_mem hlt)
  have hit:=itoa_any ns[j] hb1.1 hb1.2
  have ha2:=Acc_app (b:=1) (sz:=1) (rows:=ws.map fun x=>[str x]) (new:=[[str (it ns[j])]]) (by simp)
  have hmap:(ws++[it ns[j]]).map (fun x=>[str x])=(ws.map fun x=>[str x])++[[str (it ns[j])]]:=by simp
  repeat' ((conv=>whnf);(first
   |refine Idx_in _ hi (by omega) rfl ?_
   |refine Fn.use (hit) rfl rfl ?_
   |refine force_in ?_))
  refine Ch_r ?_
  conv=>whnf
  refine App_acc (ws.map fun x=>[str x]) [[str (it ns[j])]] rfl rfl rfl rfl (by simp) (hsz _) (by intro r hr;simp at hr;subst hr;rfl) (by simp only[List.length_map,List.length_cons,List.length_nil];omega) (Nat.le_of_ble_eq_true rfl) ?_
  repeat' ((conv=>whnf);(first
   |refine Back_in _ _ ⟨j+1,ws++[it ns[j]],by omega,rfl,htk.symm,rfl⟩ (by omega) ?_
   |refine ArK_in (wrap_i64 (by omega) (by omega)) ?_))
  rw[hmap,ha2.1,ha2.2]
  exact Wk_ren [0,2] rfl rfl ⟨⟨rfl,rfl⟩,⟨by rw[renB_row];rfl,lowB_row _ _⟩,trivial⟩ (by repeat (first|exact trivial|refine⟨⟨rfl,rfl⟩,?_⟩)) (by decide) (by omega)
 ·have hkl:ns.length≤j:=by rw[hcl] at h;omega
  rw[List.take_of_length_le hkl] at hws
  rw[← hws] at hj⊢
  have hjn:=join_c ws 32 (by omega) (by omega)
  unfold texts at hjn
  repeat' ((conv=>whnf);(first
   |refine Tri.peek hjn rfl [1] rfl (FV_args2 (FV_acc _ rfl (hsz _)) (.same _ rfl)) ?_
   |refine fin0 rfl ?_
   |refine force_in ?_))
  rfl
end Go.Eng
namespace Go.Eng
theorem splitL_cons (c a:UInt8) (r:List UInt8):splitL c (a::r)=if a=c then []::splitL c r else (a::(splitL c r).headD [])::(splitL c r).tail:=by
 have hne:=splitL_ne c r
 cases h:splitL c r with
 |nil=>exact absurd h hne
 |cons x t=>
  by_cases e:a=c
  ·simp[splitL,e,h]
  ·simp[splitL,e,h]
theorem split_at2 (c:UInt8) (u v:List UInt8):splitL c (u++c::v)=splitL c u++splitL c v:=by
 induction u with
 |nil=>
  rw[List.nil_append,splitL_cons,if_pos rfl]
  rfl
 |cons a r ih=>
  rw[List.cons_append,splitL_cons,splitL_cons,ih]
  have hne:=splitL_ne c r
  cases h:splitL c r with
  |nil=>exact absurd h hne
  |cons x t=>
   by_cases e:a=c
   ·simp[e]
   ·simp[e]
theorem split_end (c:UInt8) (u:List UInt8):splitL c (u++[c])=splitL c u++[[]]:=by
 rw[split_at2];rfl
theorem split_last {c:UInt8} {s:List UInt8} (h:(splitL c s).getLast? =some []):s=[]∨ ∃u,s=u++[c]:=by
 induction s with
 |nil=>exact .inl rfl
 |cons a r ih=>
  right
  rw[splitL_cons] at h
  by_cases e:a=c
  ·rw[if_pos e] at h
   have hne:=splitL_ne c r
   rw[List.getLast?_cons] at h
   by_cases hr:r=[]
   ·subst hr;exact⟨[],by simp[e]⟩
   ·have h2:(splitL c r).getLast? =some []:=by
     rw[List.getLast?_eq_some_getLast hne] at h⊢
     simpa using h
    rcases ih h2 with h3|⟨u,hu⟩
    ·exact absurd h3 hr
    ·exact⟨a::u,by rw[hu];rfl⟩
  ·rw[if_neg e] at h
   have hne:=splitL_ne c r
   cases hs:splitL c r with
   |nil=>exact absurd hs hne
   |cons x t=>
    rw[hs] at h
    simp only[List.headD_cons,List.tail_cons] at h
    cases t with
    |nil=>simp at h
    |cons y t'=>
     have h2:(splitL c r).getLast? =some []:=by
      rw[hs]
      rw[List.getLast?_cons_cons] at h⊢
      exact h
     rcases ih h2 with h3|⟨u,hu⟩
     ·subst h3;simp[splitL] at hs
     ·exact⟨a::u,by rw[hu];rfl⟩
def trimN (s:List UInt8):List UInt8:=if s.getLast? =some 10 then s.dropLast else s
theorem trimN_end (u:List UInt8):trimN (u++[10])=u:=by unfold trimN;simp
theorem trimN_app (u v:List UInt8) (hv:v≠[]):trimN (u++v)=u++trimN v:=by
 unfold trimN
 rw[show (u++v).getLast? =v.getLast? from by rw[List.getLast?_append,List.getLast?_eq_some_getLast hv];rfl]
 split
 ·rw[List.dropLast_append_of_ne_nil hv]
 ·rfl
def plines (s:List UInt8):List (List UInt8):=if s=[] then [] else splitL 10 (trimN s)
def dlines (s:List UInt8):List (List UInt8):=if (splitL 10 s).getLast? =some [] then (splitL 10 s).dropLast else splitL 10 s
theorem lines_same (s:List UInt8):dlines s=plines s:=by
 unfold dlines plines
 by_cases h0:s=[]
 ·subst h0;rfl
 rw[if_neg h0]
 by_cases h:(splitL 10 s).getLast? =some []
 ·rw[if_pos h]
  rcases split_last h with h1|⟨u,rfl⟩
  ·exact absurd h1 h0
  ·rw[trimN_end,split_end,List.dropLast_concat]
 ·rw[if_neg h]
  congr 1
  unfold trimN
  rw[if_neg]
  intro hl
  obtain ⟨u,rfl⟩: ∃u,s=u++[10]:=by
   obtain ⟨u,x,rfl⟩: ∃u x,s=u++[x]:=⟨_,_,(List.dropLast_concat_getLast h0).symm⟩
   simp at hl
   subst hl
   exact⟨u,rfl⟩
  rw[split_end] at h
  simp at h
theorem plines_app {a b:List UInt8} (ha:a.getLast? =some 10) (hb:b≠[]):plines (a++b)=plines a++plines b:=by
 have h0:a≠[]:=by intro e;rw[e] at ha;simp at ha
 obtain ⟨u,x,rfl⟩: ∃u x,a=u++[x]:=⟨_,_,(List.dropLast_concat_getLast h0).symm⟩
 have hx:x=10:=by simpa using ha
 subst hx
 unfold plines
 rw[if_neg (by simp),if_neg h0,if_neg hb,trimN_end,trimN_app _ _ hb,List.append_assoc]
 show splitL 10 (u++10::trimN b)=_
 rw[split_at2]
def scrG (ps:List UInt8→OpR×Int):List (List UInt8)→List OpR×Nat×Int
 |[]=>([],0,0)
 |l::r=>if (ps l).2=0 then (if (scrG ps r).2.2=0 then ((ps l).1::(scrG ps r).1,(scrG ps r).2.1+1,0) else ([],(scrG ps r).2.1+1,(scrG ps r).2.2)) else ([],0,(ps l).2)
theorem scr_ok {ps:List UInt8→OpR×Int}: ∀{ls:List (List UInt8)},(∀ l∈ls,(ps l).2=0)→scrG ps ls=(ls.map fun l=>(ps l).1,ls.length,0):=by
 intro ls
 induction ls with
 |nil=>intro _;rfl
 |cons l r ih=>
  intro h
  have:=ih fun x hx=>h x (by simp[hx])
  simp[scrG,h l (by simp),this]
theorem scr_bad {ps:List UInt8→OpR×Int}: ∀{u:List (List UInt8)} {l:List UInt8} {r:List (List UInt8)},(∀ x∈u,(ps x).2=0)→(ps l).2≠0→scrG ps (u++l::r)=([],u.length,(ps l).2):=by
 intro u
 induction u with
 |nil=>intro l r _ hl;simp[scrG,hl]
 |cons x t ih=>
  intro l r h hl
  have:=ih (r:=r) (fun y hy=>h y (by simp[hy])) hl
  simp[scrG,h x (by simp),this,hl]
theorem scr_err {ps:List UInt8→OpR×Int} {ls:List (List UInt8)} (h:(scrG ps ls).2.2≠0):(scrG ps ls).1=[]:=by
 cases ls with
 |nil=>rfl
 |cons l r=>
  unfold scrG at *
  split
  ·split
   ·rename_i h1 h2
    rw[if_pos h1,if_pos h2] at h
    exact absurd rfl h
   ·rfl
  ·rfl
theorem scr_app (ps:List UInt8→OpR×Int): ∀u v:List (List UInt8),scrG ps (u++v)=
  if (scrG ps u).2.2≠0 then ([],(scrG ps u).2.1,(scrG ps u).2.2) else if (scrG ps v).2.2≠0 then ([],(scrG ps u).2.1+(scrG ps v).2.1,(scrG ps v).2.2) else ((scrG ps u).1++(scrG ps v).1,(scrG ps u).2.1+(scrG ps v).2.1,0):=by
 intro u v
 induction u with
 |nil=>
  show scrG ps v=_
  by_cases h:(scrG ps v).2.2=0
  ·simp only[scrG,h,ne_eq,not_true_eq_false,if_false,List.nil_append,Nat.zero_add]
   rw[← h]
  ·simp only[scrG,ne_eq,not_true_eq_false,if_false,h,not_false_eq_true,if_true,Nat.zero_add]
   rw[← scr_err h]
 |cons l r ih=>
  by_cases h1:(ps l).2=0
  ·by_cases h2:(scrG ps r).2.2=0
   ·by_cases h3:(scrG ps v).2.2=0
    ·simp[scrG,ih,h1,h2,h3];omega
    ·simp[scrG,ih,h1,h2,h3];omega
   ·simp[scrG,ih,h1,h2]
  ·simp[scrG,h1]
theorem num_no10 (n:Nat):(10:UInt8)∉Lib.decDigits n:=by
 intro h
 have:=(dec_spec n).1 10 h
 unfold isDig at this
 exact absurd this (by decide)
theorem name_no10: ∀k:_root_.Fin 15,(10:UInt8)∉nameL k.val:=by decide
theorem textS_no10 {x:Step} (h:stepB x=true):(10:UInt8)∉textS x:=by
 have hf:=(stepB_iff.1 h).1
 refine joinL_no 32 10 _ (by decide) fun w hw=>?_
 unfold wordsS at hw
 rcases List.mem_append.1 hw with hw|hw
 ·rcases List.mem_cons.1 hw with rfl|hw
  ·obtain ⟨g1,g2⟩:=inM_iff.1 hf
   exact name_no10 ⟨x.f.toNat,by omega⟩
  ·split at hw
   ·simp at hw;subst hw;exact num_no10 _
   ·simp at hw
 ·split at hw
  ·simp at hw;subst hw;exact num_no10 _
  ·simp at hw
theorem textL_no10 (l:List Step):(10:UInt8)∉textL l:=by
 unfold textL
 split
 ·rename_i h
  unfold checkB at h
  simp only[Bool.and_eq_true,List.all_eq_true] at h
  refine joinL_no 59 10 _ (by decide) fun w hw=>?_
  obtain ⟨x,hx,rfl⟩:=List.mem_map.1 hw
  exact textS_no10 (h.2 x hx)
 ·simp
theorem wrV_no10 {o:OpR} (h:linB o=true):(10:UInt8)∉wrV o:=by
 by_cases h6:o.d=6
 ·unfold wrV
  rw[if_pos h6]
  split
  ·decide
  ·simp only[List.mem_append,List.mem_cons,not_or]
   exact⟨by decide,by decide,textL_no10 _⟩
 ·obtain ⟨k,e1,_,_,_,_,hw,_⟩:=lin_kind h h6
  rw[hw]
  refine joinL_no 32 10 _ (by decide) fun w hw2=>?_
  rcases List.mem_cons.1 hw2 with rfl|hw2
  ·exact(k_all ⟨k,e1⟩).2.1
  ·obtain ⟨x,_,rfl⟩:=List.mem_map.1 hw2
   exact(it_no x).2
def endL:List (List UInt8)→List UInt8
 |[]=>[]
 |w::r=>w++10::endL r
theorem endL_app (u v:List (List UInt8)):endL (u++v)=endL u++endL v:=by
 induction u with
 |nil=>rfl
 |cons w r ih=>simp[endL,ih]
theorem plines_end: ∀ws:List (List UInt8),(∀ w∈ws,(10:UInt8)∉w)→plines (endL ws)=ws:=by
 intro ws
 induction ws with
 |nil=>intro _;rfl
 |cons w r ih=>
  intro h
  have hw:=h w (by simp)
  have e:endL (w::r)=(w++[10])++endL r:=by simp[endL]
  have h1:plines (w++[10])=[w]:=by
   unfold plines
   rw[if_neg (by simp),trimN_end,split_plain 10 w hw]
  rw[e]
  cases hr:r with
  |nil=>rw[show endL []=[] from rfl,List.append_nil,h1]
  |cons x t=>
   have hne:endL r≠[]:=by rw[hr];simp[endL]
   rw[← hr,plines_app (by simp) hne,h1,ih fun y hy=>h y (by simp[hy])]
   rfl
theorem scr_written {fd:List UInt8→List (List UInt8)} (hfd:FdOk fd) {os:List OpR} (h: ∀o∈os,lnV o≠[]):scrG (parS fd) (plines (endL (os.map lnV)))=(os,os.length,0):=by
 have hlin: ∀o∈os,linB o=true:=fun o ho=>by
  have:=h o ho
  unfold lnV at this
  by_cases hl:linB o=true
  ·exact hl
  ·rw[if_neg hl] at this;exact absurd rfl this
 rw[plines_end _ (fun w hw=>by
  obtain ⟨o,ho,rfl⟩:=List.mem_map.1 hw
  unfold lnV
  rw[if_pos (hlin o ho)]
  exact wrV_no10 (hlin o ho))]
 have hb: ∀o∈os,parS fd (lnV o)=(o,0):=fun o ho=>ln_back hfd (h o ho)
 rw[scr_ok (fun l hl=>by
  obtain ⟨o,ho,rfl⟩:=List.mem_map.1 hl
  rw[hb o ho])]
 have e:(os.map lnV).map (fun l=>(parS fd l).1)=os:=by
  rw[List.map_map]
  conv=>rhs;rw[← List.map_id os]
  exact List.map_congr_left fun o ho=>by show (parS fd (lnV o)).1=o;rw[hb o ho]
 rw[e,List.length_map]
theorem scr_joined (ps:List UInt8→OpR×Int) {a b:List UInt8} (ha:a.getLast? =some 10) (hb:b≠[]):scrG ps (plines (a++b))=
  if (scrG ps (plines a)).2.2≠0 then ([],(scrG ps (plines a)).2.1,(scrG ps (plines a)).2.2) else if (scrG ps (plines b)).2.2≠0 then ([],(scrG ps (plines a)).2.1+(scrG ps (plines b)).2.1,(scrG ps (plines b)).2.2)
  else ((scrG ps (plines a)).1++(scrG ps (plines b)).1,(scrG ps (plines a)).2.1+(scrG ps (plines b)).2.1,0):=by
 rw[plines_app ha hb,scr_app]
end Go.Eng
namespace Go.Eng
open Go.Lib
theorem it_chars (n:Int):it n≠[]∧ ∀c∈it n,(48≤c.toNat∧c.toNat≤57)∨c=45:=by
 refine⟨itoa_ne n,fun c hc=>?_⟩
 by_cases h45:c=45
 ·exact .inr h45
 ·left
  by_cases hd:isDig c
  ·exact hd
  ·exact absurd hc (itoa_no hd h45)
theorem ch_sp {c:UInt8} (h:(48≤c.toNat∧c.toNat≤57)∨c=45):isSp c=false∧c.toNat<128:=by
 have key: ∀k:_root_.Fin 256,((48≤(UInt8.ofNat k.val).toNat∧(UInt8.ofNat k.val).toNat≤57)∨UInt8.ofNat k.val=45)→isSp (UInt8.ofNat k.val)=false∧(UInt8.ofNat k.val).toNat<128:=by decide +kernel
 have e:UInt8.ofNat c.toNat=c:=UInt8.ofNat_toNat
 have:=key ⟨c.toNat,c.toNat_lt⟩
 simp only[e] at this
 exact this h
theorem go_word: ∀(w cur r:List UInt8),(∀ c∈w,isSp c=false)→fieldsGo cur (w++r)=fieldsGo (cur++w) r:=by
 intro w
 induction w with
 |nil=>intro cur r _;rw[List.append_nil];rfl
 |cons c t ih=>
  intro cur r h
  rw[List.cons_append,fieldsGo_more cur c _ (h c (by simp)),ih _ _ (fun x hx=>h x (by simp[hx])),List.append_assoc]
  rfl
theorem fields_join: ∀ws:List (List UInt8),(∀ w∈ws,w≠[]∧ ∀c∈w,isSp c=false)→fields (joinL 32 ws)=ws:=by
 intro ws
 unfold fields
 induction ws with
 |nil=>intro _;rfl
 |cons w r ih=>
  intro h
  obtain ⟨h1,h2⟩:=h w (by simp)
  cases r with
  |nil=>
   have:=go_word w [] [] h2
   rw[List.append_nil,List.nil_append] at this
   show fieldsGo [] w=[w]
   rw[this]
   cases w with
   |nil=>exact absurd rfl h1
   |cons a t=>rfl
  |cons x t=>
   rw[joinL_cons 32 w (by simp),go_word w [] _ h2,List.nil_append,fieldsGo_end w 32 _ (by decide) h1,ih fun y hy=>h y (by simp[hy])]
theorem join_ascii (ws:List (List UInt8)) (h: ∀w∈ws,∀c∈w,c.toNat<128): ∀c∈joinL 32 ws,c.toNat<128:=by
 induction ws with
 |nil=>intro c hc;simp[joinL] at hc
 |cons w r ih=>
  cases r with
  |nil=>exact h w (by simp)
  |cons x t=>
   rw[joinL_cons 32 w (by simp)]
   intro c hc
   rcases List.mem_append.1 hc with hc|hc
   ·exact h w (by simp) c hc
   ·rcases List.mem_cons.1 hc with rfl|hc
    ·decide
    ·exact ih (fun y hy=>h y (by simp[hy])) c hc
theorem fdOk_of {fd:List UInt8→List (List UInt8)} (hfd: ∀l:List UInt8,(∀ b∈l,b.toNat<128)→fd l=fields l):FdOk fd:=by
 intro ns
 have hc: ∀w∈ns.map it,w≠[]∧ ∀c∈w,(48≤c.toNat∧c.toNat≤57)∨c=45:=by
  intro w hw
  obtain ⟨n,_,rfl⟩:=List.mem_map.1 hw
  exact it_chars n
 rw[hfd _ (join_ascii _ fun w hw c hcw=>(ch_sp ((hc w hw).2 c hcw)).2)]
 exact fields_join _ fun w hw=>⟨(hc w hw).1,fun c hcw=>(ch_sp ((hc w hw).2 c hcw)).1⟩
theorem cut_eq (s:List UInt8):(cut s [32]).1=(cutV s).1∧(cut s [32]).2.1=(cutV s).2:=by
 have e:index s [32]=indexByte s 32:=indexB_c s 32
 unfold cut cutV
 rw[e]
 by_cases h:indexByte s 32<0
 ·rw[if_neg (by omega),if_pos h];exact⟨rfl,rfl⟩
 ·rw[if_pos (by omega),if_neg h];exact⟨rfl,rfl⟩
theorem trim_eq (s:List UInt8):trimSuffix s [10]=trimN s:=by
 unfold trimSuffix trimN
 by_cases h:s.getLast? =some 10
 ·rw[if_pos h]
  obtain ⟨u,x,rfl⟩: ∃u x,s=u++[x]:=by
   have h0:s≠[]:=by intro e;rw[e] at h;simp at h
   exact⟨_,_,(List.dropLast_concat_getLast h0).symm⟩
  have hx:x=10:=by simpa using h
  subst hx
  have hs:hasSuffix (u++[10]) [10]=true:=by unfold hasSuffix;simp
  rw[if_pos hs]
  simp
 ·rw[if_neg h,if_neg]
  intro hs
  apply h
  unfold hasSuffix at hs
  obtain ⟨u,rfl⟩:=List.isSuffixOf_iff_suffix.1 hs
  simp
end Go.Eng
namespace Go.Eng
open Go Go.Proofs Go.RowKit
theorem tup3_any {a b:ByteArray}: ∀(p q:PQ) (w w':World) (v:Value),VRel p [] w (.tup [.d (.str a),.d (.str b),.any]) v→VRel q [] w' (.tup [.d (.str a),.d (.str b),.any]) v:=fun p q w w' v h=>by
 cases h with
 |tup _ vs h hv=>
  refine .tup _ vs h fun i x v hx hv'=>?_
  have:=hv i x v hx hv'
  match i with
  |0=>simp at hx;subst hx;cases this with|str _ h=>exact .str _ h
  |1=>simp at hx;subst hx;cases this with|str _ h=>exact .str _ h
  |2=>simp at hx;subst hx;exact .any _
  |i+3=>simp at hx
theorem cut_len (s:List UInt8):(cutV s).1.length≤s.length∧(cutV s).2.length≤s.length:=by
 unfold cutV
 split
 ·simp
 ·simp only[List.length_take,List.length_drop];omega
theorem cut_blank (s:List UInt8) (hl:s.length<4294967281):Fn Tryz.prog 35 [.d (str s),.d (str [32])] (.tup [.d (str (cutV s).1),.d (str (cutV s).2),.any]):=
 Fn_below (Ent_of Tryz.func35 rfl (by decide)) tup3_any fun p w vs hg hlt hs hv=>by
  obtain rfl:=vs_2 hs (arg_str hs hv 0 rfl).1 (arg_str hs hv 1 rfl).1
  obtain ⟨⟨m,hm⟩,_⟩:=hg
  have hsz:(⟨s.toArray⟩:ByteArray).size=s.length:=str_size s
  have hc:=cut_len s
  obtain ⟨c1,c2⟩:=cut_eq s
  refine(Tryz.strings_Cut ⟨s.toArray⟩ ⟨[32].toArray⟩ m w (by omega) hm).mono fun e w' ⟨he,n,hw⟩=>?_
  have he2:e=.returned (.tuple #[.string ⟨(Lib.cut s [32]).1.toArray⟩,.string ⟨(Lib.cut s [32]).2.1.toArray⟩,.bool (Lib.cut s [32]).2.2]):=he
  rw[c1,c2] at he2
  refine⟨_,he2,by rw[hw];exact⟨rfl,rfl,rfl,Nat.le_refl _,fun _ _=>rfl⟩,.tup _ _ rfl fun i x v hx hv2=>?_⟩
  match i with
  |0=>simp at hx hv2;subst hx hv2;exact .str _ (by rw[str_size];unfold LB;omega)
  |1=>simp at hx hv2;subst hx hv2;exact .str _ (by rw[str_size];unfold LB;omega)
  |2=>simp at hx;subst hx;exact .any _
  |i+3=>simp at hx
theorem trim_end (s:List UInt8) (hl:s.length≤100000):Fn Tryz.prog 31 [.d (str s),.d (str [10])] (.d (str (trimN s))):=
 Fn_below (Ent_of Tryz.func31 rfl (by decide)) str_any fun p w vs hg hlt hs hv=>by
  obtain rfl:=vs_2 hs (arg_str hs hv 0 rfl).1 (arg_str hs hv 1 rfl).1
  have hsz:(⟨s.toArray⟩:ByteArray).size=s.length:=str_size s
  refine(Tryz.strings_TrimSuffix ⟨s.toArray⟩ ⟨[10].toArray⟩ w (by omega)).mono fun e w' ⟨he,hw⟩=>?_
  have he2:e=.returned (.string ⟨(Lib.trimSuffix s [10]).toArray⟩):=he
  rw[trim_eq] at he2
  refine⟨_,he2,hw▸Below.refl _ _,.str _ ?_⟩
  have:(trimN s).length≤s.length:=by unfold trimN;split <;> simp
  rw[str_size];unfold LB;omega
@[irreducible] def fdL (l:List UInt8):List (List UInt8):=Lib.fieldsD l
theorem fdL_ok:FdOk fdL:=fdOk_of fun l h=>by unfold fdL;exact Lib.fieldsD_ascii l h
end Go.Eng
namespace Go.Eng
open Go Go.Proofs
theorem read1 (n w0:List UInt8) (m:Int) (W:List (List UInt8)) (hW:(W.map fun l=>[str l])[(0:Int).toNat]? =some [str w0]) (r0:List D):
  Tri Tryz.prog 98 [.agg [.d (str n),.i m],.ptr 1 0] [some (.row (r0.map .d)),some (.row [.d (texts W)]),some (.row kindsL)] fun v H'=>v=.b (n==w0)∧H'=[some (.row (r0.map .d)),some (.row [.d (texts W)]),some (.row kindsL)]:=by
 refine Tri_of (m:=3) tt_ok Tryz.func98 rfl (by decide) Tryz.ntmps98 (by rfl) rfl ?_
 unfold texts
 repeat' ((conv=>whnf);(first
  |refine W_draw 0 tt_ok mixed (by kernel_rfl) ?_
  |refine Idx_in _ hW (by omega) rfl ?_
  |(refine finT rfl rfl ⟨⟨by rw[renB_row];rfl,lowB_row _ _⟩,⟨rfl,rfl⟩,⟨by rw[kinds_ren];rfl,kinds_lowB _⟩,trivial⟩ ?_)))
 simp only[AV.d.injEq,D.bool.injEq,str_toListP]
theorem index_kind (w0:List UInt8) (W:List (List UInt8)) (hW:(W.map fun l=>[str l])[(0:Int).toNat]? =some [str w0]) (r0:List D):
  Tri Tryz.prog 97 [.msl 2 0 15 15 2,.clos (.func 98) [] [.ptr 1 0]] [some (.row (r0.map .d)),some (.row [.d (texts W)]),some (.row kindsL)] fun v H'=>v=.i (ix (fun k=>nameL k==w0) (List.range 15))∧H'=[some (.row (r0.map .d)),some (.row [.d (texts W)]),some (.row kindsL)]:=by
 refine Tri_of (m:=3) tt_ok Tryz.func97 rfl (by decide) Tryz.ntmps97 (by rfl) rfl ?_
 repeat' ((conv=>whnf);(first
  |refine Len_in (fun hlen=>?_)))
 refine W_loop (fun μ s=> ∃(k:Nat),k≤15∧μ=15-k∧(∀ j (h:j<(List.range 15).length),j<k→(fun k=>nameL k==w0) (List.range 15)[j]=false)∧
   s=⟨[(0,.msl 2 0 15 15 2),(1,.clos (.func 98) [] [.ptr 1 0]),(7,.i 15),(8,.i k)],19,[some (.row (r0.map .d)),some (.row [.d (texts W)]),some (.row kindsL)],3,[]⟩) 15
  ⟨_,?_,0,by simp,by simp,by simp,rfl⟩ ?_
 ·exact Wk_env (by repeat (first|exact trivial|refine⟨rfl,?_⟩))
 rintro μ s1 ⟨k,hk,rfl,hno,rfl⟩
 refine W_run tt_ok ?_
 have hd:=ix_drop (fun k=>nameL k==w0) (List.range 15) k hno (by rw[List.length_range];exact hk)
 refine Br_dec (fun h=>?_) (fun h=>?_)
 ·have h:k<15:=by omega
  have hsub:sub kindsL (0+((k:Int)).toNat * 2) 2=[AV.d (str (nameL k)),AV.i (manyN k)]:=by
   rw[Nat.zero_add,Int.toNat_natCast];exact kinds_sub h
  have hb:0≤(k:Int)∧(k:Int)<((15:Nat):Int):=by omega
  rw[List.drop_eq_getElem_cons (by simpa using h)] at hd
  simp only[List.getElem_range,ix] at hd
  have h1:=read1 (nameL k) w0 (manyN k) W hW r0
  have hbl:(0+((k:Int)).toNat * 2+2).ble kindsL.length=true:=Nat.ble_eq_true_of_le (by rw[kinds_len];omega)
  repeat' ((conv=>whnf);(first
   |refine Br_true (decide_eq_true hb) ?_
   |refine Br_true hbl ?_
   |refine forceL_in hsub ?_))
  refine Tri.use h1 ?_
  refine Br_split (fun hq=>?_) (fun hq=>?_)
  ·repeat' ((conv=>whnf);(first
   |refine finR ?_))
   rw[hd,hq];simp
   done
  ·repeat' ((conv=>whnf);(first
   |refine Back_in _ _ ⟨k+1,by omega,rfl,?_,rfl⟩ (by omega) (Wk_env (by repeat (first|exact trivial|refine⟨rfl,?_⟩)))
   |refine ArK_in (wrap_i64 (by omega) (by omega)) ?_))
   intro j hj hjk
   rcases Nat.lt_succ_iff_lt_or_eq.1 hjk with h1|h1
   ·exact hno j hj h1
   ·subst h1;simpa using hq
 ·have h:k=15:=by omega
  subst h
  repeat' ((conv=>whnf);(first
   |refine finR ?_))
  rw[List.drop_eq_nil_of_le (by simp)] at hd
  rw[hd]
  rfl
end Go.Eng
namespace Go.Eng
open Go Go.Proofs
theorem texts_at {W:List (List UInt8)} {i:Nat} (h:i<W.length) {n:Int} (hn:n=i):(W.map fun l=>[str l])[n.toNat]? =some [str (wordAt W i)]:=by
 subst hn
 unfold wordAt
 simp[List.getD_eq_getElem?_getD,h]
set_option maxHeartbeats 2000000 in
theorem prog_read (s:List UInt8) (hs:s.length≤1000000):Fn Tryz.prog 64 [.d (str s)] (.tup [aggD (readV s).1.cs,.b (readV s).2]):=by
 refine Fn_of tt_ok Tryz.func64 rfl (by decide) Tryz.ntmps64 rfl ?_
 have hsp:=split_c s 32 (by omega)
 unfold readV
 have hne:=splitL_ne 32 s
 generalize splitL 32 s=W at *
 have hl0:0<W.length:=List.length_pos_iff.2 hne
 have hik:=index_kind (wordAt W 0) W (texts_at hl0 rfl) [.i 0,.i 0,.i 0]
 have hk:=kindOf_lt (wordAt W 0)
 rw[show ix (fun k=>nameL k==wordAt W 0) (List.range 15)=kindOf (wordAt W 0) from rfl] at hik
 have hg:goodW W=(decide (0≤kindOf (wordAt W 0))&&decide ((W.length:Int)=1+manyN (kindOf (wordAt W 0)).toNat)):=by unfold goodW;rfl
 unfold readS
 generalize hf:kindOf (wordAt W 0)=f at *
 have hk1:kindsL.length.beq 30=true:=by rw[kinds_len];rfl
 have hk2:(0+kindsL.length).ble 30=true:=by rw[kinds_len];rfl
 have hk3:(0+15 * 2).ble (splice ((List.replicate 15 [AV.d (D.str ⟨#[]⟩),AV.i 0]).flatten) 0 kindsL).length=true:=by rw[splice_full _ _ (by rw[kinds_len];rfl),kinds_len];rfl
 repeat' ((conv=>whnf);(first
  |refine Br_true hk1 ?_
  |refine Br_true hk2 ?_
  |refine Br_true hk3 ?_
  |refine Fn.use (hsp) rfl rfl ?_
  |refine Fn.use prog_kinds rfl kinds_low ?_))
 refine Need_in (by unfold LB;decide) ?_
 conv=>whnf
 refine Tri.useE hik (congrArg (fun l=>[some (Blk.row [.i 0,.i 0,.i 0]),some (Blk.row [.d (texts W)]),some (Blk.row l)]) (splice_full kindsL ((List.replicate 15 [AV.d (D.str ⟨#[]⟩),AV.i 0]).flatten) (by rw[kinds_len];rfl))) ?_
 by_cases h0:f<0
 ·have e:goodW W=false:=by rw[hg];simp;omega
  rw[e]
  repeat' ((conv=>whnf);(first
   |refine Br_true (decide_eq_true (by omega)) ?_
   |refine W_draw 0 tt_ok mixed (by kernel_rfl) ?_
   |refine fin0 rfl ?_))
  rfl
 obtain ⟨k,rfl⟩: ∃k:Nat,f=k:=⟨f.toNat,by omega⟩
 have hk15:k<15:=by omega
 have hb:0≤(k:Int)∧(k:Int)<((15:Nat):Int):=by omega
 have hat:kindsL[0+(k:Int).toNat * 2+1]? =some (AV.i (manyN k)):=by rw[Nat.zero_add,Int.toNat_natCast];exact kinds_at1 hk15
 have hm:=many_bd k
 rw[Int.toNat_natCast] at hg
 generalize hmm:manyN k=m at *
 by_cases h1:(W.length:Int)=1+m
 rotate_left
 ·have e:goodW W=false:=by rw[hg];simp[h1]
  rw[e]
  repeat' ((conv=>whnf);(first
   |refine Br_true (decide_eq_true hb) ?_
   |refine Br_bne (fun h=>?_) (fun h=>?_)
   |refine W_draw 0 tt_ok mixed (by kernel_rfl) ?_
   |refine Cell_in _ hat (force_in ?_)
   |refine fin0 rfl ?_
   |refine ArK_in (wrap_i64 (by omega) (by omega)) ?_))
  ·rfl
  ·exact absurd (by simpa using h) h1
 have e:goodW W=true:=by rw[hg];simp[h1]
 rw[e,if_pos rfl]
 repeat' ((conv=>whnf);(first
  |refine Br_true (decide_eq_true hb) ?_
  |refine Br_bne (fun h=>?_) (fun h=>?_)
  |refine W_draw 0 tt_ok mixed (by kernel_rfl) ?_
  |refine Cell_in _ hat (force_in ?_)
  |refine fin0 rfl ?_
  |refine ArK_in (wrap_i64 (by omega) (by omega)) ?_))
 ·exact absurd (by simpa using h1) h
 have ea:numAt W 1=if 1<W.length then atoiV (wordAt W 1) else 0:=rfl
 have eb:numAt W 2=if 2<W.length then atoiV (wordAt W 2) else 0:=rfl
 generalize numAt W 1=a at *
 generalize numAt W 2=b at *
 refine W_loop (fun μ st=> ∃j:Nat,j≤2∧μ=2-j∧st=⟨[(0,.d (str s)),(2,.ptr 0 0),(4,.ptr 1 0),(6,.ptr 3 0),(33,.agg [.ptr 3 1,.ptr 3 2]),(34,.i j)],64,[some (.row [.i 0,.i 0,.i 0]),some (.row [.d (texts W)]),some (.row kindsL),some (.row [.i k,.i (if 1≤j then a else 0),.i (if 2≤j then b else 0)])],0,[]⟩) 2
  ⟨_,?_,0,by omega,rfl,rfl⟩ ?_
 ·exact Wk_env (by repeat (first|exact trivial|refine⟨rfl,?_⟩))
 rintro μ s1 ⟨j,hj,rfl,rfl⟩
 refine W_run tt_ok ?_
 match j,hj with
 |0,_=>
  by_cases hw:((0:Nat):Int)+1<((List.map (fun l=>[str l]) W).length:Int)
  ·have hw1:1<W.length:=by simp at hw;omega
   rw[if_pos hw1] at ea
   have hat:=atoi_any (wordAt W 1)
   rw[← ea] at hat
   repeat' ((conv=>whnf);(first
    |refine Br_true (decide_eq_true hw) ?_
    |refine Len_in (fun hlen=>?_)
    |refine Idx_in _ (texts_at hw1 (by rfl)) (by omega) rfl ?_
    |refine Fn.use (hat) rfl rfl ?_
    |refine Back_in _ _ ⟨1,by omega,rfl,rfl⟩ (by omega) (Wk_env (by repeat (first|exact trivial|refine⟨rfl,?_⟩)))
    |refine ArK_in (wrap_i64 (by omega) (by omega)) ?_))
  ·have hw1: ¬1<W.length:=by simp at hw;omega
   rw[if_neg hw1] at ea
   subst ea
   repeat' ((conv=>whnf);(first
    |refine Br_false (decide_eq_false hw) ?_
    |refine Len_in (fun hlen=>?_)
    |refine Back_in _ _ ⟨1,by omega,rfl,rfl⟩ (by omega) (Wk_env (by repeat (first|exact trivial|refine⟨rfl,?_⟩)))
    |refine ArK_in (wrap_i64 (by omega) (by omega)) ?_))
 |1,_=>
  by_cases hw:((1:Nat):Int)+1<((List.map (fun l=>[str l]) W).length:Int)
  ·have hw1:2<W.length:=by simp at hw;omega
   rw[if_pos hw1] at eb
   have hat:=atoi_any (wordAt W 2)
   rw[← eb] at hat
   repeat' ((conv=>whnf);(first
    |refine Br_true (decide_eq_true hw) ?_
    |refine Len_in (fun hlen=>?_)
    |refine Idx_in _ (texts_at hw1 (by rfl)) (by omega) rfl ?_
    |refine Fn.use (hat) rfl rfl ?_
    |refine Back_in _ _ ⟨2,by omega,rfl,rfl⟩ (by omega) (Wk_env (by repeat (first|exact trivial|refine⟨rfl,?_⟩)))
    |refine ArK_in (wrap_i64 (by omega) (by omega)) ?_))
  ·have hw1: ¬2<W.length:=by simp at hw;omega
   rw[if_neg hw1] at eb
   subst eb
   repeat' ((conv=>whnf);(first
    |refine Br_false (decide_eq_false hw) ?_
    |refine Len_in (fun hlen=>?_)
    |refine Back_in _ _ ⟨2,by omega,rfl,rfl⟩ (by omega) (Wk_env (by repeat (first|exact trivial|refine⟨rfl,?_⟩)))
    |refine ArK_in (wrap_i64 (by omega) (by omega)) ?_))
 |2,_=>
  have hmay:=step_may ⟨k,a,b⟩
  cases hsb:stepB ⟨k,a,b⟩ <;> rw[hsb] at hmay
  ·repeat' ((conv=>whnf);(first
   |refine W_draw 0 tt_ok mixed (by kernel_rfl) ?_
   |refine CallF_in (hmay) rfl rfl ?_
   |refine fin0 rfl ?_))
   rfl
  ·have htx:=step_text ⟨k,a,b⟩ hsb
   repeat' ((conv=>whnf);(first
    |refine W_draw 0 tt_ok mixed (by kernel_rfl) ?_
    |refine CallF_in (hmay) rfl rfl ?_
    |refine CallF_in (htx) rfl rfl ?_
    |refine fin0 rfl ?_))
   rw[str_toListP,str_toListP]
   rfl
end Go.Eng
namespace Go.Eng
open Go Go.Proofs
theorem split_seq0 (c:UInt8) (s:List UInt8):Tri Tryz.prog 53 [.d (str s),.d (str [c]),.i 0] [] fun v H=>v=.clos (.func 75) [] [.ptr 1 0,.ptr 0 0,.ptr 2 0]∧H=[some (.row [.d (str s)]),some (.row [.d (str [c])]),some (.row [.i 0])]:=by
 refine Tri_of (m:=0) tt_ok Tryz.func53 rfl (by decide) Tryz.ntmps53 (by rfl) rfl ?_
 repeat' ((conv=>whnf);(first
  |refine finR ?_))
 rfl
theorem split_seq (c:UInt8) (s:List UInt8):Tri Tryz.prog 30 [.d (str s),.d (str [c])] [] fun v H=>v=.clos (.func 75) [] [.ptr 1 0,.ptr 0 0,.ptr 2 0]∧H=[some (.row [.d (str s)]),some (.row [.d (str [c])]),some (.row [.i 0])]:=by
 refine Tri_of (m:=0) tt_ok Tryz.func30 rfl (by decide) Tryz.ntmps30 (by rfl) rfl ?_
 skip
 refine Tri.use (split_seq0 c s) ?_
 repeat' ((conv=>whnf);(first
  |refine finR ?_))
 rfl
def seqH (c:UInt8) (r:List UInt8):Heap:=[some (.row [.d (str r)]),some (.row [.d (str [c])]),some (.row [.i 0])]
set_option maxHeartbeats 1000000 in
theorem split_seq1 (c:UInt8) (s:List UInt8) (hs:s.length≤1000000) (Y:Ysp) (hx:Y.xs=(splitL c s).map fun w=>.d (str w)) (hY:YLaw Tryz.prog Y):
  Tri Tryz.prog 75 ([]++[.clos (.yield Y.l) [] []]++[.ptr 1 0,.ptr 0 0,.ptr 2 0]) (seqH c s++[some (.yl Y 0)])
   fun v H1=>H1[3]? =some (some (.yl Y Y.xs.length))∨H1[3]? =some (some (.yz Y)):=by
 unfold seqH
 refine Tri_of (m:=4) tt_ok Tryz.func75 rfl (by decide) Tryz.ntmps75 (by rfl) rfl ?_
 repeat' ((conv=>whnf);(first
  |refine Len_in (fun hlen=>?_)))
 refine W_loop (fun μ st=> ∃(k:Nat) (r:List UInt8),r.length≤s.length∧μ=r.length∧(splitL c s).drop k=splitL c r∧(splitL c s).length=k+(splitL c r).length∧
   st=⟨[(0,.clos (.yield Y.l) [] []),(1,.ptr 1 0),(2,.ptr 0 0),(3,.ptr 2 0)],52,[some (.row [.d (str r)]),some (.row [.d (str [c])]),some (.row [.i 0]),some (.yl Y k)],4,[]⟩) s.length
  ⟨_,?_,0,s,Nat.le_refl _,by simp,by simp,by simp,rfl⟩ ?_
 ·exact Wk_env (by repeat (first|exact trivial|refine⟨rfl,?_⟩))
 rintro μ s1 ⟨k,r,hr,rfl,hd,hl,rfl⟩
 have hix:=index_one r c
 have hge:=Lib.indexByte_ge r c
 have hxl:Y.xs.length=k+(splitL c r).length:=by rw[hx,List.length_map];exact hl
 have hxk: ∀w ws,splitL c r=w::ws→Y.xs[k]? =some (.d (str w)):=fun w ws e=>by
  rw[hx,List.getElem?_map]
  have:(splitL c s)[k]? =some w:=by
   have:=congrArg (·[0]?) (hd.trans e)
   simpa using this
  rw[this];rfl
 refine W_run tt_ok ?_
 by_cases h:Lib.indexByte r c= -1
 ·have e:=splitL_miss h
  rw[h] at hix
  rw[e] at hxl
  have hk:=hxk _ _ e
  repeat' ((conv=>whnf);(first
   |refine Fn.use (hix) rfl rfl ?_))
  refine Yield_in 3 Y k (.d (str r)) rfl rfl hY rfl rfl hk ?_ ?_
  ·repeat' ((conv=>whnf);(first
   |refine finQ (.inl ?_)))
   rw[hxl];rfl
  ·repeat' ((conv=>whnf);(first
   |refine finQ (.inr rfl)))
 ·obtain ⟨i,hi⟩: ∃i:Nat,Lib.indexByte r c=i:=⟨(Lib.indexByte r c).toNat,by omega⟩
  obtain ⟨h1,h2⟩:=splitL_hit hi
  have hk:=hxk _ _ h2
  rw[hi] at hix
  have hn: ¬((i:Int)<0):=by omega
  repeat' ((conv=>whnf);(first
   |refine Fn.use (hix) rfl rfl ?_
   |refine ArK_in (wrap_i64 (by omega) (by omega)) ?_))
  refine Need_in ⟨by omega,by omega,by rw[str_size];omega⟩ ?_
  have e1:D.str ((⟨r.toArray⟩:ByteArray).extract (Int.toNat 0) ((i:Int)+0).toNat)=str (r.take i):=by rw[str_extract];simp[str]
  rw[← e1] at hk
  skip
  refine Yield_in 3 Y k _ rfl rfl hY rfl rfl hk ?_ ?_
  ·have z1:((⟨[c].toArray⟩:ByteArray).size:Int)=1:=rfl
   have z2:(⟨r.toArray⟩:ByteArray).size=r.length:=str_size r
   have e2:D.str ((⟨r.toArray⟩:ByteArray).extract ((i:Int)+((⟨[c].toArray⟩:ByteArray).size:Int)).toNat (((⟨r.toArray⟩:ByteArray).size:Int)).toNat)=str (r.drop (i+1)):=by
    rw[z1,z2,Int.toNat_natCast,str_drop];rfl
   have hd':(splitL c s).drop (k+1)=splitL c (r.drop (i+1)):=by
    have:=congrArg List.tail (hd.trans h2)
    rw[List.tail_drop] at this
    exact this
   have hl':(splitL c s).length=(k+1)+(splitL c (r.drop (i+1))).length:=by
    rw[hl,h2,List.length_cons];omega
   repeat' ((conv=>whnf);(first
    |refine Len_in (fun hlen=>?_)
    |refine ArK_in (wrap_i64 (by omega) (by omega)) ?_))
   refine Need_in ⟨by omega,by rw[z2];show ((i:Int)+1)≤_;omega,by omega⟩ ?_
   repeat' ((conv=>whnf);(first
    |(refine Back_in ⟨[(0,.clos (.yield Y.l) [] []),(1,.ptr 1 0),(2,.ptr 0 0),(3,.ptr 2 0)],52,[some (.row [.d (D.str ((⟨r.toArray⟩:ByteArray).extract ((i:Int)+((⟨[c].toArray⟩:ByteArray).size:Int)).toNat (((⟨r.toArray⟩:ByteArray).size:Int)).toNat))]),some (.row [.d (str [c])]),some (.row [.i 0]),some (.yl Y (k+1))],4,[]⟩ _ ⟨k+1,r.drop (i+1),by simp;omega,rfl,hd',hl',by rw[e2]⟩ (by simp;omega) (Wk_env (by repeat (first|exact trivial|refine⟨rfl,?_⟩))))))
  ·repeat' ((conv=>whnf);(first
   |refine finQ (.inr rfl)))
end Go.Eng
