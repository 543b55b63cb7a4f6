import Derived.Test.YtpbalelbenmmbaaGreatDoorGh
import Derived.Test.YtpbalelbenmmbaaGreatDoorGs
import Derived.Test.YtpbalelbenmmbaaGreatDoorLb
import Derived.Test.YtpbalelbenmmbaaGreatDoorTy
namespace Go.Proofs.YtpbalelbenmmbaaGreatDoor
open Go.Ab
def trimC(l:List UInt8):List UInt8:=if l.head?=some 45 then l.drop 1 else l
def sgnC(l:List UInt8)(d:Nat):Bool:=if l.head?=some 45 then natC (l.drop 1) d&&decide (l.getD 1 0≠48)else natC l d
def sgnV(l:List UInt8):Int:=if l.head?=some 45 then -(decV 0 (l.drop 1):Int)else(decV 0 l:Int)
def numM(l:List UInt8)(below:Bool)(d:Nat):Bool:=atoiOk l&&(decide (Lib.itoa (atoiV l)=l)&&((below||decide (0≤atoiV l))&&decide ((trimC l).length≤d)))
theorem head_of{l:List UInt8}(h:l.head?=some 45):∃r,l=45::r:=by
 cases l with
 |nil=>cases h
 |cons c r=>exact⟨r,by simpa using h⟩
theorem dec_no45(u:Nat):(Lib.decDigits u).head?≠some 45:=fun h=>by
 obtain⟨r,e⟩:=head_of h
 have:=dec_all u
 rw[e,List.all_cons]at this
 simp[isDig]at this
theorem itoa_head(n:Int):(Lib.itoa n).head?=some 45↔n<0:=by
 by_cases h:n<0
 ·obtain⟨u,rfl⟩:∃u:Nat,n= -(u:Int):=⟨n.natAbs,by omega⟩
  rw[Lib.itoa_neg u (by omega)]
  exact⟨fun _=>h,fun _=>rfl⟩
 ·rw[itoa_nn (by omega)]
  exact⟨fun e=>absurd e (dec_no45 _),fun e=>absurd e h⟩
theorem dec_zero{r:List UInt8}(h:Canon r)(h0:decV 0 r=0):r=[48]:=by
 have h1:=canon_dec _ r rfl h
 rw[h0,Lib.decDigits_one (by decide)]at h1
 exact h1.symm
theorem neg_atoi{r:List UInt8}(h:Canon r)(hl:r.length≤18)(h0:r.head?≠some 48):Lib.atoiAll (45::r)=.ok (-(decV 0 r:Int))∧Lib.itoa (-(decV 0 r:Int))=45::r:=by
 have hp:=parse_ok r 0 0 h.2.2 (by decide) (by omega)
 have hlt:=decV_lt r 0 h.2.2
 have hp18:(10:Nat) ^ r.length≤10 ^ 18:=Nat.pow_le_pow_right (by decide) hl
 have h18:(10:Nat) ^ 18=1000000000000000000:=by decide
 have hu:1≤decV 0 r:=by
  refine Nat.pos_of_ne_zero fun e=>h0 ?_
  rw[dec_zero h e]
  rfl
 refine⟨?_,?_⟩
 ·rw[Lib.atoiAll_minus]
  unfold Lib.parseMag
  rw[if_neg h.1,hp]
  unfold Lib.signed
  dsimp only
  rw[if_neg (by omega)]
 ·rw[Lib.itoa_neg _ hu,canon_dec _ r rfl h]
theorem head_getD{r:List UInt8}(h:r≠[]):r.head?=some 48↔r.getD 0 0=48:=by
 cases r with
 |nil=>exact absurd rfl h
 |cons c r=>simp
theorem num_sgn{l:List UInt8}{d:Nat}(hd:d≤18):numM l true d=sgnC l d∧(sgnC l d=true→atoiV l=sgnV l):=by
 by_cases hh:l.head?=some 45
 ·obtain⟨r,rfl⟩:=head_of hh
  have e1:sgnC (45::r) d=(natC r d&&decide (r.getD 0 0≠48)):=if_pos hh
  have e2:sgnV (45::r)= -(decV 0 r:Int):=if_pos hh
  have e3:trimC (45::r)=r:=if_pos hh
  rw[e1,e2]
  have key:natC r d=true→r.getD 0 0≠48→Lib.atoiAll (45::r)=.ok (-(decV 0 r:Int))∧Lib.itoa (-(decV 0 r:Int))=45::r:=fun h h2=>by
   obtain⟨hc,hl⟩:=natC_canon.1 h
   exact neg_atoi hc (by omega) fun e=>h2 ((head_getD hc.1).1 e)
  constructor
  ·rw[Bool.eq_iff_iff]
   unfold numM
   rw[e3]
   simp only[Bool.and_eq_true,decide_eq_true_eq,Bool.true_or,true_and]
   constructor
   ·rintro⟨_,h2,h3⟩
    have hn:atoiV (45::r)<0:=by
     rw[←itoa_head,h2]
     rfl
    obtain⟨u,hu⟩:∃u:Nat,atoiV (45::r)= -(u:Int):=⟨(atoiV (45::r)).natAbs,by omega⟩
    rw[hu,Lib.itoa_neg u (by omega),List.cons.injEq]at h2
    have hr:=h2.2
    refine⟨natC_canon.2 ⟨by rw[←hr];exact dec_canon _,h3⟩,fun e=>?_⟩
    have h4:=dec_head u (by omega)
    rw[hr]at h4
    exact h4 ((head_getD (by rw[←hr];exact dec_pos u)).2 e)
   ·rintro⟨h1,h2⟩
    obtain⟨g1,g2⟩:=key h1 h2
    have hv:atoiV (45::r)= -(decV 0 r:Int):=by unfold atoiV;rw[g1]
    exact⟨by unfold atoiOk;rw[g1],by rw[hv];exact g2,(natC_canon.1 h1).2⟩
  ·intro h
   rw[Bool.and_eq_true,decide_eq_true_eq]at h
   unfold atoiV
   rw[(key h.1 h.2).1]
 ·have e1:sgnC l d=natC l d:=if_neg hh
  have e2:sgnV l=(decV 0 l:Int):=if_neg hh
  have e3:trimC l=l:=if_neg hh
  rw[e1,e2]
  refine⟨?_,num_val hd⟩
  rw[←num_nat l hd]
  unfold numM numOk
  rw[e3]
  by_cases h2:Lib.itoa (atoiV l)=l
  ·have h0:0≤atoiV l:=by
    refine Int.not_lt.1 fun h=>hh ?_
    rw[←h2]
    exact(itoa_head _).2 h
   rw[decide_eq_true h2,decide_eq_true h0]
   simp
  ·rw[decide_eq_false h2]
   simp
theorem num_nb{l:List UInt8}{d:Nat}(hd:d≤18):numM l false d=(sgnC l d&&decide (0≤sgnV l)):=by
 obtain⟨h1,h2⟩:=num_sgn (l:=l) hd
 have h3:numM l false d=(numM l true d&&decide (0≤atoiV l)):=by
  unfold numM
  cases atoiOk l<;>cases decide (Lib.itoa (atoiV l)=l)<;>cases decide (0≤atoiV l)<;>simp
 rw[h3,h1]
 cases hs:sgnC l d with
 |false=>rfl
 |true=>rw[h2 hs]
theorem numB_sgn{l:List UInt8}{d:Nat}:numB l d=if sgnC l d=true then(sgnV l,true)else(0,false):=by
 have g:∀(a:Nat)(r:List UInt8),r=l.drop a→(a=0∧¬l.head?=some 45∨a=1∧l.head?=some 45)→numG a l d=if(natC r d&&decide (a=0∨l.getD 1 0≠48))=true then(if a=1 then -(decV 0 r:Int)else(decV 0 r:Int),true)else(0,false):=by
  intro a r hr ha
  have hla:a≤l.length:=by
   rcases ha with h|h
   ·omega
   ·obtain⟨q,e⟩:=head_of h.2
    rw[e,List.length_cons];omega
  have hrl:r.length=l.length - a:=by rw[hr,List.length_drop]
  have hg0:r≠[]→(r.head?=some 48↔l.getD a 0=48):=fun h=>by
   rw[head_getD h,hr,List.getD_eq_getElem?_getD,List.getElem?_drop,List.getD_eq_getElem?_getD,Nat.add_zero]
  by_cases hbad:l.length=a∨d<l.length - a∨(l.getD a 0=48∧1<l.length)
  ·rw[numG_no hbad,if_neg]
   rw[Bool.and_eq_true,decide_eq_true_eq,natC_canon]
   rintro⟨⟨⟨c1,c2,c3⟩,c4⟩,c5⟩
   have hne:0<r.length:=List.length_pos_iff.2 c1
   rcases hbad with h|h|⟨h,h9⟩
   ·omega
   ·omega
   ·have h48:=(hg0 c1).2 h
    rcases ha with⟨e,_⟩|⟨e,_⟩
    ·subst e
     rcases c2 with c2|c2
     ·omega
     ·exact c2 h48
    ·subst e
     rcases c5 with c5|c5
     ·omega
     ·exact c5 h
  ·by_cases hall:(l.drop a).all isDig=true
   ·have hcond:(natC r d&&decide (a=0∨l.getD 1 0≠48))=true:=by
     rw[Bool.and_eq_true,decide_eq_true_eq,natC_canon]
     have hne:r≠[]:=fun e=>hbad (.inl (by rw[e]at hrl;simp at hrl;omega))
     refine⟨⟨⟨hne,?_,by rw[hr];exact hall⟩,by omega⟩,?_⟩
     ·rcases ha with⟨e,_⟩|⟨e,_⟩
      ·subst e
       by_cases h1:r.length=1
       ·exact .inl h1
       ·refine .inr fun h48=>hbad (.inr (.inr ⟨(hg0 hne).1 h48,?_⟩))
        have:=List.length_pos_iff.2 hne
        omega
      ·subst e
       refine .inr fun h48=>hbad (.inr (.inr ⟨(hg0 hne).1 h48,?_⟩))
       have:=List.length_pos_iff.2 hne
       omega
     ·rcases ha with⟨e,_⟩|⟨e,_⟩
      ·exact .inl e
      ·subst e
       have:=List.length_pos_iff.2 hne
       exact .inr fun h48=>hbad (.inr (.inr ⟨h48,by omega⟩))
    rw[numG_ok hbad hall,if_pos hcond,hr]
   ·rw[numG,if_neg hbad,if_neg hall,if_neg]
    rw[Bool.and_eq_true,natC_canon]
    rintro⟨⟨⟨_,_,c3⟩,_⟩,_⟩
    rw[hr]at c3
    exact hall c3
 by_cases hh:l.head?=some 45
 ·rw[numB_1 hh,g 1 (l.drop 1) rfl (.inr ⟨rfl,hh⟩)]
  unfold sgnC sgnV
  rw[if_pos hh,if_pos hh]
  simp
 ·rw[numB_0 hh,g 0 l rfl (.inl ⟨rfl,hh⟩)]
  unfold sgnC sgnV
  rw[if_neg hh,if_neg hh]
  simp
end Go.Proofs.YtpbalelbenmmbaaGreatDoor
namespace Go.Proofs.YtpbalelbenmmbaaGreatDoor
open Go.Ab
theorem join2(x y:List UInt8)(r:List (List UInt8))(sep:List UInt8):Lib.join (x::y::r) sep=x++(sep++Lib.join (y::r) sep):=by
 rw[Lib.join_cons,Lib.join_cons]
 simp[Lib.joinTail]
def gath{α β:Type}(f:α→Option β):List α→Option (List β)
 |[]=>some []
 |a::l=>match f a with
  |none=>none
  |some b=>(gath f l).map (b:: ·)
section
variable{α β τ:Type}{f:α→Option β}
theorem gath_on{L:List α}{i:Nat}{out:List β}{b:β}(hg:gath f L=(gath f (L.drop i)).map (out++ ·))(hi:i<L.length)(hf:f L[i]=some b):gath f L=(gath f (L.drop (i+1))).map ((out++[b])++ ·):=by
 rw[hg,List.drop_eq_getElem_cons hi]
 simp only[gath,hf]
 cases gath f (L.drop (i+1))<;>simp
theorem gath_no{L:List α}{i:Nat}{out:List β}(hg:gath f L=(gath f (L.drop i)).map (out++ ·))(hi:i<L.length)(hf:f L[i]=none):gath f L=none:=by
 rw[hg,List.drop_eq_getElem_cons hi]
 simp only[gath,hf]
 rfl
theorem gath_end{L:List α}{i:Nat}{out:List β}(hg:gath f L=(gath f (L.drop i)).map (out++ ·))(hi:i=L.length):gath f L=some out:=by
 rw[hg,hi,List.drop_length]
 simp[gath]
end
end Go.Proofs.YtpbalelbenmmbaaGreatDoor
