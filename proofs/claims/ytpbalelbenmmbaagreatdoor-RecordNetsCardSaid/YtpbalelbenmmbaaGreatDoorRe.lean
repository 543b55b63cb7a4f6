import Derived.Test.YtpbalelbenmmbaaGreatDoorGh
import Derived.Test.YtpbalelbenmmbaaGreatDoorHj
import Derived.Test.YtpbalelbenmmbaaGreatDoorLb
import Derived.Test.YtpbalelbenmmbaaGreatDoorRd
import Derived.Test.YtpbalelbenmmbaaGreatDoorTy
namespace Go.Proofs.YtpbalelbenmmbaaGreatDoor
open Go.Ab
structure Words where
 numbers:List Int
 texts:List (List UInt8)
 deriving DecidableEq
def Words.cs(w:Words):List X:=[.sl (w.numbers.map fun n=>[.int .i64 n]),.sl (w.texts.map fun s=>[.str s])]
def parseGo:List UInt8→List UInt8→Bool→Words→Words×Bool
 |[],_,more,w=>(w,!more)
 |k::ks,rest,more,w=>
  if more=false then(⟨[],[]⟩,false)
  else if k=114 then({w with texts:=w.texts++[rest]},true)
  else if k=119 then(if(cutC 32 rest).1=[]then(⟨[],[]⟩,false)else parseGo ks (cutC 32 rest).2.1 (cutC 32 rest).2.2 {w with texts:=w.texts++[(cutC 32 rest).1]})
  else if numOk (cutC 32 rest).1 7=true then parseGo ks (cutC 32 rest).2.1 (cutC 32 rest).2.2 {w with numbers:=w.numbers++[atoiV (cutC 32 rest).1]}else(⟨[],[]⟩,false)
def parseT(text kinds:List UInt8):Words×Bool:=parseGo kinds (cutC 32 text).2.1 (cutC 32 text).2.2 ⟨[],[]⟩
def verbs:List (List UInt8):=[[110,111,116,101],[115,116,97,114,116],[102,114,97,109,101],[101,110,100],[103,111,111,100],[98,97,100],[99,111,105,108],[114,101,112,97,105,114],[109,97,114,107],[115,101,99,116,105,111,110],[114,101,99,105,112,101],[109,111,100,101,108],[108,101,97,114,110]]
def roles:List Int:=[0,1,1,1,1,1,2,2,3,3,4,4,4]
def kinds:List (List UInt8):=[[114],[110,119,119],[114],[],[110],[110],[119,110],[119],[110],[110,114],[119,114],[110],[110]]
def verbIx(word:List UInt8):Option Nat:=ix (fun v=>decide (word=v)) verbs
structure Line where
 verb:List UInt8
 rcp:List UInt8
 coil:List UInt8
 rest:List UInt8
 num:Int
 deriving DecidableEq
def Line.cs(x:Line):List X:=[.str x.verb,.str x.rcp,.str x.coil,.str x.rest,.int .i64 x.num]
def natR(l:List UInt8):Int×Bool:=((numB l 7).1,(numB l 7).2&&decide (l.head?≠some 45))
theorem natR_ok(l:List UInt8):(natR l).2=numOk l 7∧(numOk l 7=true→(natR l).1=atoiV l):=by
 obtain⟨h1,h2⟩:=numB_nat (l:=l) (d:=7)
 rw[num_nat l (by omega)]
 refine⟨?_,fun h=>by rw[num_val (by omega) h];exact h2 h⟩
 rw[←h1]
 show((numB l 7).2&&decide (l.head?≠some 45))=((numB l 7).2&&decide (0≤(numB l 7).1))
 cases hb:(numB l 7).2 with
 |false=>rfl
 |true=>
  by_cases hm:l.head?=some 45
  ·have e1:natC l 7=false:=by
    unfold natC
    cases l with
    |nil=>rfl
    |cons c r=>
     have hc:c=45:=by simpa using hm
     subst hc
     simp[isDig]
   rw[←h1,hb]at e1
   rw[Bool.true_and,Bool.true_and,decide_eq_false (by simpa using hm)]
   exact e1.symm
  ·have hge:0≤(numB l 7).1:=by
    unfold numB
    simp only[if_neg hm]
    split
    ·exact Int.le_refl 0
    ·split
     ·rw[if_neg (by omega)];exact Int.natCast_nonneg _
     ·exact Int.le_refl 0
   rw[Bool.true_and,Bool.true_and,decide_eq_true hge,decide_eq_true hm]
def lineT(text:List UInt8):Line×Bool:=
 let verb:=(cutC 32 text).1
 let rest:=(cutC 32 text).2.1
 let more:=(cutC 32 text).2.2
 let x:Line:=⟨verb,[],[],rest,0⟩
 let words:=splitC 32 rest
 if verb=verbs[0]∨verb=verbs[2]then(x,more)
 else if verb=verbs[3]then(x,!more)
 else if verb=verbs[1]then
  if words.length≠3∨words.getD 1 []=[]∨words.getD 2 []=[]then(x,false)
  else({x with num:=(natR (words.getD 0 [])).1,rcp:=words.getD 1 [],coil:=words.getD 2 []},(natR (words.getD 0 [])).2)
 else if verb=verbs[4]∨verb=verbs[5]∨verb=verbs[8]∨verb=verbs[11]∨verb=verbs[12]then({x with num:=(natR rest).1},(natR rest).2)
 else if verb=verbs[6]then
  if words.length≠2∨words.getD 0 []=[]then(x,false)
  else({x with coil:=words.getD 0 [],num:=(natR (words.getD 1 [])).1},(natR (words.getD 1 [])).2)
 else if verb=verbs[7]then({x with coil:=rest},decide (words.length=1)&&decide (rest≠[]))
 else if verb=verbs[9]then({x with rest:=(cutC 32 rest).2.1,num:=(natR (cutC 32 rest).1).1},(natR (cutC 32 rest).1).2&&(cutC 32 rest).2.2)
 else({x with rcp:=(cutC 32 rest).1,rest:=(cutC 32 rest).2.1},(cutC 32 rest).2.2&&decide ((cutC 32 rest).1≠[]))
def wordsOf(k:Nat)(x:Line):Words:=match k with
 |0|2=>⟨[],[x.rest]⟩
 |1=>⟨[x.num],[x.rcp,x.coil]⟩
 |3=>⟨[],[]⟩
 |6=>⟨[x.num],[x.coil]⟩
 |7=>⟨[],[x.coil]⟩
 |9=>⟨[x.num],[x.rest]⟩
 |10=>⟨[],[x.rcp,x.rest]⟩
 |_=>⟨[x.num],[]⟩
theorem cut_nil{l:List UInt8}(h:(cutC 32 l).2.2=false):(cutC 32 l).1=l∧(cutC 32 l).2.1=[]:=by
 by_cases hi:0≤Lib.indexByte l 32
 ·rw[cut_T hi]at h;cases h
 ·rw[cut_F hi];exact⟨rfl,rfl⟩
theorem split_one(l:List UInt8):(splitC 32 l).length=1↔(cutC 32 l).2.2=false:=by
 rw[cut_split 32 l]
 have h:=split_ne 32 (cutC 32 l).2.1
 cases hc:(cutC 32 l).2.2
 ·simp
 ·rw[if_pos rfl,List.length_cons]
  have:(splitC 32 (cutC 32 l).2.1).length≠0:=fun e=>h (List.eq_nil_of_length_eq_zero e)
  simp;omega
theorem idx_mem{c:UInt8}:∀{l:List UInt8},0≤Lib.indexByte l c→c∈l
 |[],h=>by simp[Lib.indexByte]at h
 |b::l,h=>by
  rw[idx_cons]at h
  split at h
  ·rename_i e;subst e;exact List.mem_cons_self
  ·split at h
   ·omega
   ·exact List.mem_cons_of_mem _ (idx_mem (by omega))
theorem numOk_blank{l:List UInt8}(h:(cutC 32 l).2.2=true):numOk l 7=false:=by
 rw[num_nat l (by omega)]
 by_cases hi:0≤Lib.indexByte l 32
 ·cases hn:natC l 7 with
  |false=>rfl
  |true=>
   exfalso
   obtain⟨⟨_,_,hd⟩,_⟩:=natC_canon.1 hn
   have h3:=List.all_eq_true.1 hd _ (idx_mem hi)
   simp[isDig]at h3
 ·rw[cut_F hi]at h;cases h
theorem num_last(rest:List UInt8)(more:Bool)(hm:more=false→rest=[])(w:Words):(parseGo [110] rest more w).2=(natR rest).2∧((natR rest).2=true→(parseGo [110] rest more w).1={w with numbers:=w.numbers++[(natR rest).1]}):=by
 obtain⟨h1,h2⟩:=natR_ok rest
 cases more with
 |false=>
  have e:numOk rest 7=false:=by rw[hm rfl];rfl
  rw[parseGo,if_pos rfl,h1,e]
  exact⟨rfl,fun h=>by cases h⟩
 |true=>
  rw[parseGo,if_neg (by decide),if_neg (by decide),if_neg (by decide)]
  cases hc:(cutC 32 rest).2.2 with
  |false=>
   rw[(cut_nil hc).1,h1]
   cases hn:numOk rest 7 with
   |false=>exact⟨rfl,fun h=>by cases h⟩
   |true=>rw[if_pos rfl,parseGo];exact⟨rfl,fun _=>by rw[h2 hn]⟩
  |true=>
   rw[h1,numOk_blank hc]
   refine⟨?_,fun h=>by cases h⟩
   split
   ·rw[parseGo];rfl
   ·rfl
theorem split_F{l:List UInt8}(h:(cutC 32 l).2.2=false):splitC 32 l=[l]:=by rw[cut_split 32 l,h,if_neg (by decide)]
theorem split_T{l:List UInt8}(h:(cutC 32 l).2.2=true):splitC 32 l=(cutC 32 l).1::splitC 32 (cutC 32 l).2.1:=by rw[cut_split 32 l,h,if_pos rfl]
theorem split_two(l:List UInt8):1≤(splitC 32 l).length:=by
 have h:=split_ne 32 l
 have:(splitC 32 l).length≠0:=fun e=>h (List.eq_nil_of_length_eq_zero e)
 omega
theorem split_head(l:List UInt8):(splitC 32 l).getD 0 []=(cutC 32 l).1:=by
 cases h:(cutC 32 l).2.2 with
 |false=>rw[split_F h,(cut_nil h).1];rfl
 |true=>rw[split_T h];rfl
theorem rest_last(rest:List UInt8)(more:Bool)(w:Words):parseGo [114] rest more w=if more=true then({w with texts:=w.texts++[rest]},true)else(⟨[],[]⟩,false):=by
 cases more
 ·rw[parseGo,if_pos rfl,if_neg (by decide)]
 ·rw[parseGo,if_neg (by decide),if_pos rfl,if_pos rfl]
theorem word_last(rest:List UInt8)(more:Bool)(w:Words):parseGo [119] rest more w=if more=true∧(cutC 32 rest).1≠[]then({w with texts:=w.texts++[(cutC 32 rest).1]},!(cutC 32 rest).2.2)else(⟨[],[]⟩,false):=by
 cases more
 ·rw[parseGo,if_pos rfl,if_neg (by simp)]
 ·rw[parseGo,if_neg (by decide),if_neg (by decide),if_pos rfl]
  by_cases h:(cutC 32 rest).1=[]
  ·rw[if_pos h,if_neg (by simp[h])]
  ·rw[if_neg h,if_pos ⟨rfl,h⟩,parseGo]
theorem text_eq{text:List UInt8}{k:Nat}(hk:verbIx (cutC 32 text).1=some k):(parseT text (kinds.getD k [])).2=(lineT text).2∧((lineT text).2=true→(parseT text (kinds.getD k [])).1=wordsOf k (lineT text).1):=by
 obtain⟨hlt,hv⟩:=ix_some hk
 have hv:(cutC 32 text).1=verbs.getD k []:=by rw[getD_lt hlt];simpa using hv
 have hm:(cutC 32 text).2.2=false→(cutC 32 text).2.1=[]:=fun h=>(cut_nil h).2
 unfold parseT lineT
 simp only[hv]
 generalize (cutC 32 text).2.1=rest at *
 generalize (cutC 32 text).2.2=more at *
 have h13:k<13:=hlt
 have hnum:(parseGo [110] rest more ⟨[],[]⟩).2=(natR rest).2∧((natR rest).2=true→(parseGo [110] rest more ⟨[],[]⟩).1=⟨[(natR rest).1],[]⟩):=num_last rest more hm _
 match k,h13 with
 |0,_=>rw[if_pos (by decide)];show(parseGo [114] rest more _).2=more∧(more=true→(parseGo [114] rest more _).1=_);rw[rest_last];cases more<;>simp[wordsOf]
 |1,_=>
  rw[if_neg (by decide),if_neg (by decide),if_pos (by decide)]
  show(parseGo [110,119,119] rest more _).2=_∧(_→(parseGo [110,119,119] rest more _).1=_)
  cases more with
  |false=>
   rw[hm rfl,if_pos (.inl (by decide)),parseGo,if_pos rfl]
   exact⟨rfl,fun h=>by cases h⟩
  |true=>
   obtain⟨q1,q2⟩:=natR_ok (cutC 32 rest).1
   rw[parseGo,if_neg (by decide),if_neg (by decide),if_neg (by decide),split_head]
   cases hn:numOk (cutC 32 rest).1 7 with
   |false=>
    rw[if_neg (by decide)]
    split
    ·exact⟨rfl,fun h=>by cases h⟩
    ·rw[q1,hn];exact⟨rfl,fun h=>by cases h⟩
   |true=>
    rw[if_pos rfl,parseGo]
    cases h1:(cutC 32 rest).2.2 with
    |false=>rw[if_pos rfl,split_F h1,if_pos (.inl (by simp))];exact⟨rfl,fun h=>by cases h⟩
    |true=>
     rw[if_neg (by decide),if_neg (by decide),if_pos rfl,split_T h1]
     have e1:((cutC 32 rest).1::splitC 32 (cutC 32 rest).2.1).getD 1 []=(cutC 32 (cutC 32 rest).2.1).1:=split_head _
     rw[e1]
     generalize (cutC 32 rest).2.1=r1
     by_cases hb:(cutC 32 r1).1=[]
     ·rw[if_pos hb,if_pos (.inr (.inl hb))];exact⟨rfl,fun h=>by cases h⟩
     ·rw[if_neg hb,word_last]
      cases h2:(cutC 32 r1).2.2 with
      |false=>rw[if_neg (by simp),split_F h2,if_pos (.inl (by simp))];exact⟨rfl,fun h=>by cases h⟩
      |true=>
       rw[split_T h2]
       have e2:((cutC 32 rest).1::(cutC 32 r1).1::splitC 32 (cutC 32 r1).2.1).getD 2 []=(cutC 32 (cutC 32 r1).2.1).1:=split_head _
       rw[e2]
       generalize (cutC 32 r1).2.1=r2
       by_cases hc:(cutC 32 r2).1=[]
       ·rw[if_neg (by simp[hc]),if_pos (.inr (.inr hc))];exact⟨rfl,fun h=>by cases h⟩
       ·rw[if_pos ⟨rfl,hc⟩]
        cases h3:(cutC 32 r2).2.2 with
        |false=>
         rw[split_F h3,if_neg (by simp[hb,hc])]
         refine⟨by rw[q1,hn];rfl,fun _=>?_⟩
         simp[wordsOf,q2 hn]
        |true=>
         rw[split_T h3,if_pos (.inl (by
          have:=split_two (cutC 32 r2).2.1
          simp only[List.length_cons];omega))]
         exact⟨rfl,fun h=>by cases h⟩
 |2,_=>rw[if_pos (by decide)];show(parseGo [114] rest more _).2=more∧(more=true→(parseGo [114] rest more _).1=_);rw[rest_last];cases more<;>simp[wordsOf]
 |3,_=>rw[if_neg (by decide),if_pos (by decide)];exact⟨rfl,fun _=>rfl⟩
 |4,_=>rw[if_neg (by decide),if_neg (by decide),if_neg (by decide),if_pos (by decide)];exact⟨hnum.1,fun h=>hnum.2 h⟩
 |5,_=>rw[if_neg (by decide),if_neg (by decide),if_neg (by decide),if_pos (by decide)];exact⟨hnum.1,fun h=>hnum.2 h⟩
 |6,_=>
  rw[if_neg (by decide),if_neg (by decide),if_neg (by decide),if_neg (by decide),if_pos (by decide)]
  show(parseGo [119,110] rest more _).2=_∧(_→(parseGo [119,110] rest more _).1=_)
  cases more with
  |false=>
   rw[hm rfl,if_pos (.inl (by decide)),parseGo,if_pos rfl]
   exact⟨rfl,fun h=>by cases h⟩
  |true=>
   rw[parseGo,if_neg (by decide),if_neg (by decide),if_pos rfl,split_head]
   by_cases ha:(cutC 32 rest).1=[]
   ·rw[if_pos ha,if_pos (.inr ha)];exact⟨rfl,fun h=>by cases h⟩
   ·obtain⟨g1,g2⟩:=num_last (cutC 32 rest).2.1 (cutC 32 rest).2.2 (fun h=>(cut_nil h).2) ⟨[],[]++[(cutC 32 rest).1]⟩
    rw[if_neg ha,g1]
    cases h1:(cutC 32 rest).2.2 with
    |false=>
     rw[split_F h1,if_pos (.inl (by simp)),(cut_nil h1).2]
     exact⟨rfl,fun h=>by cases h⟩
    |true=>
     rw[h1]at g2
     rw[split_T h1]
     generalize (cutC 32 rest).2.1=r1 at *
     cases h2:(cutC 32 r1).2.2 with
     |false=>
      rw[split_F h2,if_neg (by simp[ha])]
      refine⟨rfl,fun h=>?_⟩
      rw[g2 h]
      rfl
     |true=>
      rw[split_T h2,if_pos (.inl (by
       have:=split_two (cutC 32 r1).2.1
       simp only[List.length_cons];omega)),(natR_ok r1).1,numOk_blank h2]
      exact⟨rfl,fun h=>by cases h⟩
 |7,_=>
  rw[if_neg (by decide),if_neg (by decide),if_neg (by decide),if_neg (by decide),if_neg (by decide),if_pos (by decide)]
  show(parseGo [119] rest more _).2=_∧(_→(parseGo [119] rest more _).1=_)
  rw[word_last]
  cases h1:(cutC 32 rest).2.2 with
  |false=>
   have e:=(split_one rest).2 h1
   rw[(cut_nil h1).1]
   cases more with
   |false=>rw[hm rfl];simp
   |true=>
    by_cases hr:rest=[]
    ·subst hr;simp
    ·rw[if_pos ⟨rfl,hr⟩,e];simp[hr,wordsOf]
  |true=>
   have e:¬(splitC 32 rest).length=1:=fun h=>by rw[(split_one rest).1 h]at h1;cases h1
   rw[decide_eq_false e]
   refine⟨?_,fun h=>by cases h⟩
   split<;>rfl
 |8,_=>rw[if_neg (by decide),if_neg (by decide),if_neg (by decide),if_pos (by decide)];exact⟨hnum.1,fun h=>hnum.2 h⟩
 |9,_=>
  rw[if_neg (by decide),if_neg (by decide),if_neg (by decide),if_neg (by decide),if_neg (by decide),if_neg (by decide),if_pos (by decide)]
  show(parseGo [110,114] rest more _).2=_∧(_→(parseGo [110,114] rest more _).1=_)
  obtain⟨q1,q2⟩:=natR_ok (cutC 32 rest).1
  cases more with
  |false=>rw[hm rfl,parseGo,if_pos rfl];exact⟨rfl,fun h=>by cases h⟩
  |true=>
   rw[parseGo,if_neg (by decide),if_neg (by decide),if_neg (by decide),q1]
   cases hn:numOk (cutC 32 rest).1 7 with
   |false=>rw[if_neg (by decide)];exact⟨rfl,fun h=>by cases h⟩
   |true=>
    rw[if_pos rfl,rest_last]
    cases h1:(cutC 32 rest).2.2 with
    |false=>exact⟨rfl,fun h=>by cases h⟩
    |true=>rw[if_pos rfl];exact⟨rfl,fun _=>by simp[wordsOf,q2 hn]⟩
 |10,_=>
  rw[if_neg (by decide),if_neg (by decide),if_neg (by decide),if_neg (by decide),if_neg (by decide),if_neg (by decide),if_neg (by decide)]
  show(parseGo [119,114] rest more _).2=_∧(_→(parseGo [119,114] rest more _).1=_)
  cases more with
  |false=>rw[hm rfl,parseGo,if_pos rfl];exact⟨rfl,fun h=>by cases h⟩
  |true=>
   rw[parseGo,if_neg (by decide),if_neg (by decide),if_pos rfl]
   by_cases ha:(cutC 32 rest).1=[]
   ·rw[if_pos ha,decide_eq_false (by simpa using ha),Bool.and_false];exact⟨rfl,fun h=>by cases h⟩
   ·rw[if_neg ha,rest_last,decide_eq_true ha,Bool.and_true]
    cases h1:(cutC 32 rest).2.2 with
    |false=>exact⟨rfl,fun h=>by cases h⟩
    |true=>rw[if_pos rfl];exact⟨rfl,fun _=>by simp[wordsOf]⟩
 |11,_=>rw[if_neg (by decide),if_neg (by decide),if_neg (by decide),if_pos (by decide)];exact⟨hnum.1,fun h=>hnum.2 h⟩
 |12,_=>rw[if_neg (by decide),if_neg (by decide),if_neg (by decide),if_pos (by decide)];exact⟨hnum.1,fun h=>hnum.2 h⟩
end Go.Proofs.YtpbalelbenmmbaaGreatDoor
