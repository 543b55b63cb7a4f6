import Derived.Test.YtpbalelbenmmbaaGreatDoorHz
import Derived.Lib.AppendIntMem
import Derived.Lib.AtoiAllCases
import Derived.Lib.AtoiErrMem
import Derived.Lib.ItoaLen
import Derived.Test.YtpbalelbenmmbaaGreatDoorGh
import Derived.Test.YtpbalelbenmmbaaGreatDoorGs
import Derived.Test.YtpbalelbenmmbaaGreatDoorLa
import Derived.Test.YtpbalelbenmmbaaGreatDoorTy
namespace Go.Proofs.YtpbalelbenmmbaaGreatDoor
open Go.Ab
def isDig(b:UInt8):Bool:=decide (48≤b.toNat∧b.toNat≤57)
def decV(acc:Nat)(l:List UInt8):Nat:=l.foldl (fun a b=>a * 10+(b.toNat - 48)) acc
theorem decV_nil(acc:Nat):decV acc []=acc:=rfl
theorem decV_cons(acc:Nat)(b:UInt8)(l:List UInt8):decV acc (b::l)=decV (acc * 10+(b.toNat - 48)) l:=List.foldl_cons ..
theorem head_app{l m:List UInt8}(h:l≠[]):(l++m).head?=l.head?:=by
 cases l with
 |nil=>exact absurd rfl h
 |cons _ _=>rfl
def natC(l:List UInt8)(d:Nat):Bool:=(decide (l≠[])&&decide (l.length≤d))&&((decide (l.length=1)||decide (l.head?≠some 48))&&l.all isDig)
def Canon(l:List UInt8):Prop:=l≠[]∧(l.length=1∨l.head?≠some 48)∧l.all isDig=true
theorem natC_canon{l:List UInt8}{d:Nat}:natC l d=true↔Canon l∧l.length≤d:=by
 unfold natC Canon
 simp only[Bool.and_eq_true,Bool.or_eq_true,decide_eq_true_eq]
 constructor
 ·rintro⟨⟨h1,h2⟩,h3,h4⟩;exact⟨⟨h1,h3,h4⟩,h2⟩
 ·rintro⟨⟨h1,h3,h4⟩,h2⟩;exact⟨⟨h1,h2⟩,h3,h4⟩
theorem decV_snoc(b:UInt8):∀(l:List UInt8)(acc:Nat),decV acc (l++[b])=decV acc l * 10+(b.toNat - 48)
 |[],acc=>by rw[List.nil_append,decV_cons,decV_nil,decV_nil]
 |x::l,acc=>by rw[List.cons_append,decV_cons,decV_snoc b l,decV_cons]
theorem decV_lt:∀(l:List UInt8)(acc:Nat),l.all isDig=true→decV acc l<(acc+1) * 10 ^ l.length
 |[],acc,_=>by rw[decV_nil,List.length_nil,Nat.pow_zero];omega
 |x::l,acc,h=>by
  simp only[List.all_cons,Bool.and_eq_true]at h
  have hx:48≤x.toNat∧x.toNat≤57:=of_decide_eq_true h.1
  have h1:=decV_lt l (acc * 10+(x.toNat - 48)) h.2
  rw[decV_cons,List.length_cons,Nat.pow_succ]
  refine Nat.lt_of_lt_of_le h1 ?_
  rw[Nat.mul_comm (10 ^ l.length) 10,←Nat.mul_assoc]
  exact Nat.mul_le_mul_right _ (by omega)
theorem dig_char{k:Nat}(h:k<10):isDig (UInt8.ofNat (48+k))=true∧(UInt8.ofNat (48+k)).toNat=48+k:=by
 have:(UInt8.ofNat (48+k)).toNat=48+k:=by rw[UInt8.toNat_ofNat'];omega
 exact⟨decide_eq_true (by rw[this];omega),this⟩
theorem dec_big{u:Nat}(h:¬u<10):Lib.decDigits u=Lib.decDigits (u / 10)++[UInt8.ofNat (48+u % 10)]:=by rw[Lib.decDigits,dif_neg h]
theorem dec_pos(u:Nat):Lib.decDigits u≠[]:=fun e=>by
 have h1:=Lib.decDigits_length u
 have h2:=Lib.nDigits_pos u
 rw[e]at h1
 simp at h1
 omega
theorem dec_head:∀(u:Nat),0<u→(Lib.decDigits u).head?≠some 48
 |u,h=>by
  by_cases h1:u<10
  ·rw[Lib.decDigits_one h1]
   intro e
   have e2:UInt8.ofNat (48+u)=48:=by simpa using e
   have e3:=(dig_char h1).2
   rw[e2]at e3
   have:(48:UInt8).toNat=48:=rfl
   omega
  ·rw[dec_big h1,head_app (dec_pos _)]
   exact dec_head (u / 10) (by omega)
theorem dec_all:∀(u:Nat),(Lib.decDigits u).all isDig=true
 |u=>by
  by_cases h1:u<10
  ·rw[Lib.decDigits_one h1]
   rw[List.all_cons,List.all_nil,Bool.and_true]
   exact(dig_char h1).1
  ·rw[dec_big h1,List.all_append,dec_all (u / 10)]
   rw[List.all_cons,List.all_nil,Bool.and_true,Bool.true_and]
   exact(dig_char (show u % 10<10 by omega)).1
theorem dec_canon(u:Nat):Canon (Lib.decDigits u):=by
 refine⟨dec_pos u,?_,dec_all u⟩
 by_cases h:u=0
 ·subst h
  left
  rw[Lib.decDigits_one (by decide)]
  rfl
 ·exact .inr (dec_head u (by omega))
theorem canon_dec:∀(n:Nat)(l:List UInt8),l.length=n→Canon l→Lib.decDigits (decV 0 l)=l:=by
 intro n
 induction n with
 |zero=>intro l hl h;exact absurd (List.length_eq_zero_iff.1 hl) h.1
 |succ n ih=>
  intro l hl h
  obtain⟨h0,h1,h2⟩:=h
  rcases List.eq_nil_or_concat l with rfl|⟨m,b,rfl⟩
  ·exact absurd rfl h0
  ·rw[List.concat_eq_append]at *
   rw[List.all_append,Bool.and_eq_true]at h2
   have hb:48≤b.toNat∧b.toNat≤57:=by
    have:=h2.2
    simp only[List.all_cons,List.all_nil,Bool.and_true]at this
    exact of_decide_eq_true this
   have hch:UInt8.ofNat (48+(b.toNat - 48))=b:=by
    rw[show 48+(b.toNat - 48)=b.toNat by omega]
    simp
   by_cases hm:m=[]
   ·subst hm
    rw[List.nil_append]
    rw[decV_cons,decV_nil,Nat.zero_mul,Nat.zero_add,Lib.decDigits_one (by omega),hch]
   ·have hh:m.head?≠some 48:=by
     rcases h1 with h1|h1
     ·rw[List.length_append,List.length_singleton]at h1
      exact absurd (List.length_eq_zero_iff.1 (by omega)) hm
     ·rwa [head_app hm]at h1
    have hc:Canon m:=⟨hm,.inr hh,h2.1⟩
    have hv:=ih m (by rw[List.length_append,List.length_singleton]at hl;omega) hc
    have hpos:0<decV 0 m:=by
     refine Nat.pos_of_ne_zero fun e=>?_
     rw[e,Lib.decDigits_one (by decide)]at hv
     rw[←hv]at hh
     exact hh rfl
    rw[decV_snoc,dec_big (by omega),show(decV 0 m * 10+(b.toNat - 48)) / 10=decV 0 m by omega,show(decV 0 m * 10+(b.toNat - 48)) % 10=b.toNat - 48 by omega,hv,hch]
theorem parse_ok:∀(l:List UInt8)(acc k:Nat),l.all isDig=true→acc<10 ^ k→k+l.length≤18→Lib.parseUint10 acc l=.ok (decV acc l)
 |[],_,_,_,_,_=>by rw[decV_nil];rfl
 |b::l,acc,k,h,ha,hk=>by
  simp only[List.all_cons,Bool.and_eq_true]at h
  have hb:48≤b.toNat∧b.toNat≤57:=of_decide_eq_true h.1
  have h18:(10:Nat) ^ k≤10 ^ 17:=Nat.pow_le_pow_right (by decide) (by simp only[List.length_cons]at hk;omega)
  have h17:(10:Nat) ^ 17=100000000000000000:=by decide
  have hn:acc * 10+(b.toNat - 48)<10 ^ (k+1):=by rw[Nat.pow_succ];omega
  simp only[Lib.parseUint10]
  rw[if_pos hb,if_neg (by omega),if_neg (by omega)]
  rw[decV_cons]
  exact parse_ok l _ (k+1) h.2 hn (by simp only[List.length_cons]at hk;omega)
theorem canon_atoi{l:List UInt8}(h:Canon l)(hl:l.length≤18):Lib.atoiAll l=.ok (decV 0 l:Int):=by
 obtain⟨h0,_,h2⟩:=h
 cases l with
 |nil=>exact absurd rfl h0
 |cons c r=>
  have hc:48≤c.toNat∧c.toNat≤57:=by
   simp only[List.all_cons,Bool.and_eq_true]at h2
   exact of_decide_eq_true h2.1
  rw[Lib.atoiAll_plain c r (by omega) (by omega)]
  unfold Lib.parseMag
  have hp:=parse_ok (c::r) 0 0 h2 (by decide) (by omega)
  rw[if_neg (by simp),hp]
  have hlt:=decV_lt (c::r) 0 h2
  have hp18:(10:Nat) ^ (c::r).length≤10 ^ 18:=Nat.pow_le_pow_right (by decide) hl
  have h18:(10:Nat) ^ 18=1000000000000000000:=by decide
  unfold Lib.signless
  dsimp only
  rw[if_neg (by omega)]
theorem atoi_rng(l:List UInt8):IntKind.i64.wrap (atoiV l)=atoiV l:=by
 refine IntWalk.i64_in _ ?_
 unfold atoiV
 rcases h:Lib.atoiAll l with v|_|_
 ·exact Lib.atoiAll_bounds h
 ·show -9223372036854775808≤(0:Int)∧(0:Int)≤9223372036854775807
  decide
 ·exact Lib.atoiSat_bounds l
theorem itoa_nn{n:Int}(h:0≤n):Lib.itoa n=Lib.decDigits n.toNat:=by unfold Lib.itoa;rw[if_neg (by omega)]
def numOk(l:List UInt8)(d:Nat):Bool:=(atoiOk l&&(decide (0≤atoiV l)&&(decide (Lib.itoa (atoiV l)=l)&&decide (l.length≤d))))
theorem canon_num{l:List UInt8}(h:Canon l)(hl:l.length≤18):atoiOk l=true∧atoiV l=(decV 0 l:Int)∧Lib.itoa (atoiV l)=l:=by
 have h1:=canon_atoi h hl
 have h2:atoiV l=(decV 0 l:Int):=by unfold atoiV;rw[h1]
 refine⟨by unfold atoiOk;rw[h1],h2,?_⟩
 rw[h2,itoa_nn (by omega),Int.toNat_natCast]
 exact canon_dec _ l rfl h
theorem num_nat(l:List UInt8){d:Nat}(hd:d≤18):numOk l d=natC l d:=by
 rw[Bool.eq_iff_iff,natC_canon]
 unfold numOk
 simp only[Bool.and_eq_true,decide_eq_true_eq]
 constructor
 ·rintro⟨h1,h2,h3,h4⟩
  refine⟨?_,h4⟩
  rw[itoa_nn h2]at h3
  rw[←h3]
  exact dec_canon _
 ·rintro⟨h1,h2⟩
  obtain⟨g1,g2,g3⟩:=canon_num h1 (by omega)
  exact⟨g1,by omega,g3,h2⟩
theorem num_val{l:List UInt8}{d:Nat}(hd:d≤18)(h:natC l d=true):atoiV l=(decV 0 l:Int):=by
 obtain⟨h1,h2⟩:=natC_canon.1 h
 exact(canon_num h1 (by omega)).2.1
def numB(l:List UInt8)(d:Nat):Int×Bool:=
 let a:=if l.head?=some 45 then 1 else 0
 if l.length=a∨d<l.length - a∨(l.getD a 0=48∧1<l.length)then(0,false)
 else if(l.drop a).all isDig=true then(if a=1 then -(decV 0 (l.drop a):Int)else(decV 0 (l.drop a):Int),true)else(0,false)
theorem numB_nat{l:List UInt8}{d:Nat}:((numB l d).2&&decide (0≤(numB l d).1))=natC l d∧(natC l d=true→(numB l d).1=(decV 0 l:Int)):=by
 by_cases hm:l.head?=some 45
 ·cases l with
  |nil=>cases hm
  |cons c r=>
   have hc:c=45:=by simpa using hm
   subst hc
   have hf:natC (45::r) d=false:=by
    unfold natC
    simp[isDig]
   rw[hf]
   refine⟨?_,fun h=>by cases h⟩
   unfold numB
   simp only[List.head?_cons,if_true]
   by_cases h1:(45::r).length=1∨d<(45::r).length - 1∨((45::r:List UInt8).getD 1 0=48∧1<(45::r).length)
   ·rw[if_pos h1];rfl
   ·rw[if_neg h1]
    by_cases h2:((45::r:List UInt8).drop 1).all isDig=true
    ·rw[if_pos h2]
     have hr:Canon r:=by
      refine⟨fun e=>h1 (.inl (by rw[e];rfl)),.inr fun e=>h1 (.inr (.inr ?_)),h2⟩
      cases r with
      |nil=>cases e
      |cons x r=>exact⟨by simpa using e,by simp⟩
     have hv:=canon_dec _ r rfl hr
     have hpos:decV 0 r≠0:=fun e=>by
      rw[e,Lib.decDigits_one (by decide)]at hv
      refine h1 (.inr (.inr ?_))
      rw[←hv]
      exact⟨rfl,by simp⟩
     simp only[List.drop_succ_cons,List.drop_zero,Bool.true_and]
     exact decide_eq_false (by omega)
    ·rw[if_neg h2];rfl
 ·unfold numB
  simp only[if_neg hm]
  by_cases h1:l.length=0∨d<l.length - 0∨(l.getD 0 0=48∧1<l.length)
  ·rw[if_pos h1]
   have hf:natC l d=false:=by
    rw[Bool.eq_false_iff]
    intro e
    obtain⟨⟨e1,e2,e3⟩,e4⟩:=natC_canon.1 e
    rcases h1 with h1|h1|⟨h1,h3⟩
    ·exact e1 (List.length_eq_zero_iff.1 h1)
    ·omega
    ·rcases e2 with e2|e2
     ·omega
     ·cases l with
      |nil=>simp at h3
      |cons x r=>exact e2 (by simpa using h1)
   rw[hf]
   exact⟨rfl,fun h=>by cases h⟩
  ·rw[if_neg h1,List.drop_zero]
   have hne:l≠[]:=fun e=>h1 (.inl (by rw[e];rfl))
   have hlen:l.length≤d:=by
    refine Nat.le_of_not_lt fun e=>h1 (.inr (.inl ?_))
    omega
   have hz:l.length=1∨l.head?≠some 48:=by
    by_cases e:l.length=1
    ·exact .inl e
    ·refine .inr fun e2=>h1 (.inr (.inr ?_))
     cases l with
     |nil=>exact absurd rfl hne
     |cons x r=>exact⟨by simpa using e2,by simp only[List.length_cons]at e⊢;omega⟩
   by_cases h2:l.all isDig=true
   ·rw[if_pos h2,if_neg (by decide)]
    refine⟨?_,fun _=>rfl⟩
    have:natC l d=true:=natC_canon.2 ⟨⟨hne,hz,h2⟩,hlen⟩
    rw[this]
    simp
   ·rw[if_neg h2]
    have hf:natC l d=false:=by
     rw[Bool.eq_false_iff]
     intro e
     exact h2 (natC_canon.1 e).1.2.2
    rw[hf]
    exact⟨rfl,fun h=>by cases h⟩
theorem itoa_len{n:Int}(h:IntKind.i64.wrap n=n):(Lib.itoa n).length≤21:=by
 obtain⟨h1,h2⟩:=i64_rng h
 exact Lib.itoa_length_le n h1 h2
def numG(a:Nat)(l:List UInt8)(d:Nat):Int×Bool:=
 if l.length=a∨d<l.length - a∨(l.getD a 0=48∧1<l.length)then(0,false)
 else if(l.drop a).all isDig=true then(if a=1 then -(decV 0 (l.drop a):Int)else(decV 0 (l.drop a):Int),true)else(0,false)
theorem numB_1{l:List UInt8}{d:Nat}(h:l.head?=some 45):numB l d=numG 1 l d:=by unfold numB numG;simp only[if_pos h]
theorem numB_0{l:List UInt8}{d:Nat}(h:¬l.head?=some 45):numB l d=numG 0 l d:=by unfold numB numG;simp only[if_neg h]
theorem numG_no{a d:Nat}{l:List UInt8}(h:l.length=a∨d<l.length - a∨(l.getD a 0=48∧1<l.length)):numG a l d=(0,false):=if_pos h
theorem numG_bad{a d:Nat}{l:List UInt8}(h:¬(l.length=a∨d<l.length - a∨(l.getD a 0=48∧1<l.length))){i:Nat}(h1:a≤i)(h2:i<l.length)(h3:isDig l[i]=false):numG a l d=(0,false):=by
 unfold numG
 rw[if_neg h,if_neg]
 rw[Bool.not_eq_true,List.all_eq_false]
 exact⟨l[i],List.mem_drop_iff_getElem.2 ⟨i - a,by omega,by congr 1;omega⟩,by rw[h3];decide⟩
theorem numG_ok{a d:Nat}{l:List UInt8}(h:¬(l.length=a∨d<l.length - a∨(l.getD a 0=48∧1<l.length)))(h3:(l.drop a).all isDig=true):numG a l d=(if a=1 then -(decV 0 (l.drop a):Int)else(decV 0 (l.drop a):Int),true):=by
 unfold numG
 rw[if_neg h,if_pos h3]
theorem tk_dr{a i:Nat}{l:List UInt8}(h1:a≤i)(h2:i<l.length):(l.take (i+1)).drop a=(l.take i).drop a++[l[i]]:=by
 rw[List.take_succ_eq_append_getElem h2,List.drop_append_of_le_length (by rw[List.length_take];omega)]
theorem head_45{l:List UInt8}(h:0<l.length):l.head?=some 45↔(l[0].toNat:Int)=45:=by
 cases l with
 |nil=>simp at h
 |cons c r=>
  simp only[List.head?_cons,List.getElem_cons_zero,Option.some.injEq]
  constructor
  ·rintro rfl;rfl
  ·intro e;exact UInt8.toNat_inj.1 (by show c.toNat=45;omega)
theorem getD_48{l:List UInt8}{a:Nat}(h:a<l.length):l.getD a 0=48↔(l[a].toNat:Int)=48:=by
 rw[getD_lt h]
 constructor
 ·intro e;rw[e];rfl
 ·intro e;exact UInt8.toNat_inj.1 (by show l[a].toNat=48;omega)
theorem dig_on{b:UInt8}(h:48≤b.toNat∧b.toNat≤57):isDig b=true:=decide_eq_true h
theorem dig_off{b:UInt8}(h:¬(48≤b.toNat∧b.toNat≤57)):isDig b=false:=decide_eq_false h
theorem pow18{k:Nat}(h:k≤18):(10:Nat) ^ k≤1000000000000000000:=by
 have:=Nat.pow_le_pow_right (n:=10) (by decide) h
 have e:(10:Nat) ^ 18=1000000000000000000:=by decide
 omega
theorem pow17{k:Nat}(h:k≤17):(10:Nat) ^ k≤100000000000000000:=by
 have:=Nat.pow_le_pow_right (n:=10) (by decide) h
 have e:(10:Nat) ^ 17=100000000000000000:=by decide
 omega
theorem itoaI:ItoaI Tryz.prog 142:=⟨⟨3,by kernel_rfl⟩,fun n w h0 h1 ht=>(Tryz.strconv_Itoa n h0 h1 w ht).mono (by
 rintro e w' ⟨rfl,k,os,rfl⟩
 exact⟨rfl,Lib.below_grow _ w (Nat.le_refl _) k os⟩)⟩
theorem itoa_ct{n:Int}(h:IntKind.i64.wrap n=n):CtT Tryz.prog 142 [.int .i64 n] (.str (Lib.itoa n)):=itoaI.ct (by have:=itoa_len h;omega)
theorem atoiI:AtoiI Tryz.prog 155:=by
 refine⟨⟨1,by kernel_rfl⟩,⟨2,by kernel_rfl⟩,fun l w es er hl h1 h2 hes her=>?_⟩
 have e1 : Tryz.prog.globalNamed "strconv.ErrSyntax" = some 1 := by kernel_rfl
 have e2 : Tryz.prog.globalNamed "strconv.ErrRange" = some 2 := by kernel_rfl
 rw[e1]at h1
 rw[e2]at h2
 cases h1
 cases h2
 obtain⟨ev1,hv1,hev1⟩:=hes
 obtain⟨ev2,hv2,hev2⟩:=her
 have hsz:(⟨l.toArray⟩:ByteArray).size=l.length:=by show l.toArray.size=_;simp
 rcases h:Lib.atoiAll l with v|_|_
 ·skip
  refine(Tryz.strconv_Atoi_ok ⟨l.toArray⟩ (by rw[hsz];omega) v h w).mono ?_
  rintro e w' ⟨rfl,hw⟩
  have hv:atoiV l=v:=by unfold atoiV;rw[h]
  refine⟨.nilIface,by rw[hv],.inl ⟨by unfold atoiOk;rw[h],rfl⟩,?_⟩
  rcases hw with rfl|⟨t,rfl⟩
  ·exact Go.RowKit.Below.refl _ _
  ·exact Lib.bytesWorld_below _ _ _
 ·skip
  refine(Tryz.strconv_Atoi_syntax ⟨l.toArray⟩ (by rw[hsz];omega) h ev1 w hv1 hev1).mono ?_
  rintro e w' ⟨N,rfl,_,_,hB⟩
  have hv:atoiV l=0:=by unfold atoiV;rw[h]
  exact⟨_,by rw[hv],.inr ⟨by unfold atoiOk;rw[h],_,_,rfl⟩,hB⟩
 ·skip
  refine(Tryz.strconv_Atoi_range ⟨l.toArray⟩ (by rw[hsz];omega) h ev2 w hv2 hev2).mono ?_
  rintro e w' ⟨N,rfl,_,_,hB⟩
  have hv:atoiV l=Lib.atoiSat l:=by unfold atoiV;rw[h]
  exact⟨_,by rw[hv],.inr ⟨by unfold atoiOk;rw[h],_,_,rfl⟩,hB⟩
theorem atoi_ct{l:List UInt8}(h:l.length≤100000):CtT Tryz.prog 155 [.str l] (.tup [.int .i64 (atoiV l),.cb (ErrV (atoiOk l))]):=atoiI.ct (by omega) (atoi_rng l)
set_option maxHeartbeats 1000000 in
theorem base_Number{l:List UInt8}{d:Nat}(hl:l.length≤100000)(hd:d≤18):Ct Tryz.prog 108 [.str l,.int .i64 (d:Int)] (.tup [.int .i64 (numB l d).1,.bool (numB l d).2]):=by
 refine Ct.intro (rs:=[.tmp 4,.tmp 5]) Tryz.func108 rfl Tryz.ntmps108 Tryz.results108 rfl rfl rfl fun w h=>?_
 refine kr (kc (zi rfl rfl) (kc (zb rfl) (kq (kc (zi rfl rfl) (kD (OK.join (G:=Nat) [] (fun aN=>[(0,.str l),(1,.int .i64 (d:Int)),(6,.int .i64 (aN:Int))]) (fun aN=>aN≤l.length∧aN≤1∧numB l d=numG aN l d) (fun _=>rfl) ?_ ?_))))))
 ·
  refine kr (kc (zm rfl) (kc (S.slen Tryz.underlying9 .none rfl (zt rfl)) (kc (S.gtr .none rfl (zt rfl) (.cint rfl)) (kc (zm rfl) (RK.splitD (t:=12) rfl (fun g12=>?_) (fun g12=>?_))))))
  ·
   refine kc (S.move (zg rfl rfl) rfl (zt rfl)) (kc (S.stridx (n:=0) str9 (zg rfl rfl) rfl (zt rfl) (.cint rfl) rfl (by omega)) (kc (S.eql (zg rfl rfl) rfl (zt rfl) (.cint rfl)) (kc (S.pickT .none rfl (zt rfl) (zt rfl) rfl) (kD (kB rfl (fun c16=>?_) (fun c16=>?_))))))
   ·
    have hh:l.head?=some 45:=(head_45 (by omega)).2 c16
    refine OK.reg (kc (zi rfl rfl) (RK.nil (Ab.D.lp ⟨1,⟨by omega,by omega,by first|exact numB_1 hh|exact numB_0 hh⟩,rfl,rfl,rfl,trivial⟩)))
   ·
    have hh:¬l.head?=some 45:=fun e=>c16 ((head_45 (by omega)).1 e)
    refine OK.skip (Ab.D.lp ⟨0,⟨by omega,by omega,by first|exact numB_1 hh|exact numB_0 hh⟩,rfl,rfl,rfl,trivial⟩)
  ·
   have hh:¬l.head?=some 45:=by rw[List.length_eq_zero_iff.1 (show l.length=0 by omega)];simp
   refine kc (zQ rfl rfl) (kc (zQ rfl rfl) (kc (zQ rfl rfl) (kc (S.pickF .none rfl (zt rfl) .cbool rfl) (kD (OK.condF rfl rfl rfl (OK.skip (Ab.D.lp ⟨0,⟨by omega,by omega,by first|exact numB_1 hh|exact numB_0 hh⟩,rfl,rfl,rfl,trivial⟩)))))))
 ·
  rintro aN ⟨haL,haN,hNB⟩
  refine OK.seq (kr ?_)
  refine kc (zm rfl) (kc (S.slen Tryz.underlying9 .none rfl (zt rfl)) (kc (zm rfl) (kc (S.eql .none rfl (zt rfl) (zt rfl)) (kc (zm rfl) (RK.splitD (t:=21) rfl (fun g21=>?_) (fun g21=>?_))))))
  ·
   have hNE:=numG_no (l:=l) (a:=aN) (d:=d) (.inl (by omega))
   refine kc (zQ rfl rfl) (kc (zQ rfl rfl) (kc (zQ rfl rfl) (kc (zQ rfl rfl) (kc (zQ rfl rfl) (kc (zQ rfl rfl) (kc (S.pickT .none rfl (zt rfl) .cbool rfl) (kc (zm rfl) (kc (zQ rfl rfl) (kc (zQ rfl rfl) (kc (zQ rfl rfl) (kc (zQ rfl rfl) ?_)))))))))))
   refine kc (zQ rfl rfl) (kc (zu rfl) (kc (zu rfl) (kc (zu rfl) (kc (zQ rfl rfl) (kc (S.pickT .none rfl (zt rfl) .cbool rfl) (kD (OK.condT rfl rfl rfl (kr (kc (zi rfl rfl) (kc (zb rfl) (kD ?_)))))))))))
   refine OK.ret (Ret.r2 (zo rfl rfl) (zo rfl rfl) ?_)
   rw[hNB,hNE]
   all_goals rfl
  ·
   refine kc (S.move (zg rfl rfl) rfl (zt rfl)) (kc (S.slen Tryz.underlying9 (zg rfl rfl) rfl (zt rfl)) (kc (S.move (zg rfl rfl) rfl (zt rfl)) (kc (S.sub (zg rfl rfl) rfl (zt rfl) (zt rfl) (IntWalk.i64_in _ (by omega)) (IntWalk.i64_in _ (by omega))) (kc (S.move (zg rfl rfl) rfl (zt rfl)) (kc (S.gtr (zg rfl rfl) rfl (zt rfl) (zt rfl)) (kc (S.pickF .none rfl (zt rfl) (zt rfl) rfl) (kc (zm rfl) (RK.splitD (t:=29) rfl (fun g29=>?_) (fun g29=>?_)))))))))
   ·
    have hNE:=numG_no (l:=l) (a:=aN) (d:=d) (.inr (.inl (by omega)))
    refine kc (zQ rfl rfl) (kc (zQ rfl rfl) (kc (zQ rfl rfl) (kc (zQ rfl rfl) (kc (zQ rfl rfl) (kc (zu rfl) (kc (zu rfl) (kc (zu rfl) (kc (zQ rfl rfl) (kc (S.pickT .none rfl (zt rfl) .cbool rfl) (kD (OK.condT rfl rfl rfl ?_)))))))))))
    refine kr (kc (zi rfl rfl) (kc (zb rfl) (kD (OK.ret (Ret.r2 (zo rfl rfl) (zo rfl rfl) ?_)))))
    rw[hNB,hNE]
    all_goals rfl
   ·
    refine kc (S.move (zg rfl rfl) rfl (zt rfl)) (kc (S.move (zg rfl rfl) rfl (zt rfl)) (kc (S.stridx (n:=aN) str9 (zg rfl rfl) rfl (zt rfl) (zt rfl) (by omega) (by omega)) (kc (S.eql (zg rfl rfl) rfl (zt rfl) (.cint rfl)) (kc (S.move (zg rfl rfl) rfl (zt rfl)) (RK.splitD (t:=34) rfl (fun g34=>?_) (fun g34=>?_))))))
    ·
     refine kc (S.move (zg rfl rfl) rfl (zt rfl)) (kc (S.slen Tryz.underlying9 (zg rfl rfl) rfl (zt rfl)) (kc (S.gtr (zg rfl rfl) rfl (zt rfl) (.cint rfl)) (kc (S.pickT (zg rfl rfl) rfl (zt rfl) (zt rfl) rfl) (kc (S.pickF .none rfl (zt rfl) (zt rfl) rfl) (kD (kB rfl (fun c39=>?_) (fun c39=>?_)))))))
     ·
      have hNE:=numG_no (l:=l) (a:=aN) (d:=d) (.inr (.inr ⟨(getD_48 (by omega)).2 (by omega),by omega⟩))
      refine kr (kc (zi rfl rfl) (kc (zb rfl) (kD (OK.ret (Ret.r2 (zo rfl rfl) (zo rfl rfl) ?_)))))
      rw[hNB,hNE]
      all_goals rfl
     ·
      have hok:¬(l.length=aN∨d<l.length - aN∨(l.getD aN 0=48∧1<l.length)):=by
       rintro(q|q|⟨q1,q2⟩)
       ·omega
       ·omega
       ·have:=(getD_48 (l:=l) (a:=aN) (by omega)).1 q1;omega
      refine OK.skip (kp (kc (zi rfl rfl) (kD (kO (kr ?_)))))
      refine kc (zm rfl) (kc (za rfl) (kD (OK.block ?_)))
      refine OK.loop (G:=Nat) [] (fun i=>[(0,.str l),(1,.int .i64 (d:Int)),(6,.int .i64 (aN:Int)),(7,.int .i64 ((decV 0 ((l.take i).drop aN):Nat):Int)),(8,.int .i64 i)]) (fun i=>(aN≤i∧i≤l.length)∧((l.take i).drop aN).all isDig=true) (fun i=>l.length - i) aN ⟨⟨Nat.le_refl _,haL⟩,by rw[List.drop_of_length_le (by rw[List.length_take];omega)];rfl⟩ ⟨rfl,rfl,(lkI (by omega)),(lkI (by rw[List.drop_of_length_le (by rw[List.length_take];omega),decV_nil];rfl)),(lkI (by omega)),trivial⟩ (fun _=>rfl) ?_
      rintro i ⟨hi,hdg⟩
      refine OK.seq (kr ?_)
      refine kc (zm rfl) (kc (zm rfl) (kc (S.slen Tryz.underlying9 .none rfl (zt rfl)) (kc (S.lss .none rfl (zt rfl) (zt rfl)) (kD (kB rfl (fun c44=>?_) (fun c44=>?_))))))
      ·
       have hil:i<l.length:=by omega
       have hlt:=decV_lt ((l.take i).drop aN) 0 hdg
       rw[List.length_drop,List.length_take,Nat.zero_add,Nat.one_mul]at hlt
       have hp17:=Nat.lt_of_lt_of_le hlt (pow17 (k:=min i l.length - aN) (by omega))
       clear hlt
       refine OK.skip (Ab.D.code (kO (OK.block (OK.seq (kr ?_)))))
       refine kc (zm rfl) (kc (zm rfl) (kc (S.stridx (n:=i) str9 .none rfl (zt rfl) (zt rfl) rfl hil) (kc (S.lss .none rfl (zt rfl) (.cint rfl)) (kc (zm rfl) (RK.splitD (t:=51) rfl (fun g51=>?_) (fun g51=>?_))))))
       ·
        have hbad:isDig l[i]=false:=dig_off (by omega)
        have hNE:=numG_bad hok hi.1 hil hbad
        refine kc (zQ rfl rfl) (kc (zQ rfl rfl) (kc (zQ rfl rfl) (kc (zQ rfl rfl) (kc (S.pickT .none rfl (zt rfl) .cbool rfl) (kD (OK.condT rfl rfl rfl (kr (kc (zi rfl rfl) (kc (zb rfl) (kD (OK.ret (Ret.r2 (zo rfl rfl) (zo rfl rfl) ?_))))))))))))
        rw[hNB,hNE]
        all_goals rfl
       ·
        refine kc (S.move (zg rfl rfl) rfl (zt rfl)) (kc (S.move (zg rfl rfl) rfl (zt rfl)) (kc (S.stridx (n:=i) str9 (zg rfl rfl) rfl (zt rfl) (zt rfl) rfl hil) (kc (S.gtr (zg rfl rfl) rfl (zt rfl) (.cint rfl)) (kc (S.pickF .none rfl (zt rfl) (zt rfl) rfl) (kD (kB rfl (fun c56=>?_) (fun c56=>?_)))))))
        ·
         have hbad:isDig l[i]=false:=dig_off (by omega)
         have hNE:=numG_bad hok hi.1 hil hbad
         refine kr (kc (zi rfl rfl) (kc (zb rfl) (kD (OK.ret (Ret.r2 (zo rfl rfl) (zo rfl rfl) ?_)))))
         rw[hNB,hNE]
         all_goals rfl
        ·
         have hgd:isDig l[i]=true:=dig_on (by omega)
         have hdv:=decV_snoc l[i] ((l.take i).drop aN) 0
         refine OK.skip (Ab.D.code (OK.reg ?_))
         refine kc (zm rfl) (kc (S.mul .none rfl (.cint rfl) (zt rfl) (IntWalk.i64_in _ (by omega)) (IntWalk.i64_in _ (by omega))) (kc (zm rfl) (kc (zm rfl) (kc (S.stridx (n:=i) str9 .none rfl (zt rfl) (zt rfl) rfl hil) (kc (S.sub .none rfl (zt rfl) (.cint rfl) (IntWalk.u8_in _ (by omega)) (IntWalk.u8_in _ (by omega))) (kc (S.conv .none rfl (zt rfl) Tryz.underlying5 Tryz.underlying3 (IntWalk.i64_in _ (by omega)) (IntWalk.i64_in _ (by omega))) (kc (S.add .none rfl (zt rfl) (zt rfl) (IntWalk.i64_in _ (by omega)) (IntWalk.i64_in _ (by omega))) (kc (za rfl) (RK.nil (Ab.D.blk (Ab.D.code (OK.reg ?_))))))))))))
         refine kc (zm rfl) (kc (zp rfl rfl (by omega)) (kc (za rfl) (RK.nil ?_)))
         refine Ab.D.lp ⟨i+1,⟨by omega,by rw[tk_dr hi.1 hil,List.all_append,hdg,List.all_cons,hgd];rfl⟩,(by omega),rfl,rfl,rfl,(lkI (by rw[tk_dr hi.1 hil,hdv];omega)),rfl,trivial⟩
      ·
       have hlt:=decV_lt ((l.take i).drop aN) 0 hdg
       rw[List.length_drop,List.length_take,Nat.zero_add,Nat.one_mul]at hlt
       have hp18:=Nat.lt_of_lt_of_le hlt (pow18 (k:=min i l.length - aN) (by omega))
       clear hlt
       have hte:l.take i=l:=List.take_of_length_le (by omega)
       rw[hte]at hdg hp18⊢
       have hNE:=numG_ok hok hdg
       refine OK.exit rfl (Ab.D.code (kO (kr ?_)))
       refine kc (zm rfl) (kc (zE rfl rfl) (kD (kB rfl (fun c66=>?_) (fun c66=>?_))))
       ·
        rw[if_pos (show aN=1 by omega),←Int.zero_sub]at hNE
        refine OK.reg (kc (zm rfl) (kc (S.neg .none rfl (zt rfl) (IntWalk.i64_in _ (by omega)) (IntWalk.i64_in _ (by omega))) (kc (za rfl) (kq (kc (zm rfl) (kc (za rfl) (kc (zb rfl) (kD (OK.ret (Ret.r2 (zo rfl rfl) (zo rfl rfl) ?_))))))))))
        rw[hNB,hNE]
        all_goals rfl
       ·
        rw[if_neg (show¬aN=1 by omega)]at hNE
        refine OK.skip (kp (kc (zm rfl) (kc (za rfl) (kc (zb rfl) (kD (OK.ret (Ret.r2 (zo rfl rfl) (zo rfl rfl) ?_)))))))
        rw[hNB,hNE]
        all_goals rfl
    ·
     have hok:¬(l.length=aN∨d<l.length - aN∨(l.getD aN 0=48∧1<l.length)):=by
      rintro(q|q|⟨q1,q2⟩)
      ·omega
      ·omega
      ·have:=(getD_48 (l:=l) (a:=aN) (by omega)).1 q1;omega
     refine kc (zQ rfl rfl) (kc (zQ rfl rfl) (kc (zQ rfl rfl) (kc (S.pickF (zg rfl rfl) rfl (zt rfl) .cbool rfl) (kc (S.pickF .none rfl (zt rfl) (zt rfl) rfl) (kD (OK.condF rfl rfl rfl (OK.skip (kp (kc (zi rfl rfl) (kD (kO (kr ?_))))))))))))
     refine kc (zm rfl) (kc (za rfl) (kD (OK.block ?_)))
     refine OK.loop (G:=Nat) [] (fun i=>[(0,.str l),(1,.int .i64 (d:Int)),(6,.int .i64 (aN:Int)),(7,.int .i64 ((decV 0 ((l.take i).drop aN):Nat):Int)),(8,.int .i64 i)]) (fun i=>(aN≤i∧i≤l.length)∧((l.take i).drop aN).all isDig=true) (fun i=>l.length - i) aN ⟨⟨Nat.le_refl _,haL⟩,by rw[List.drop_of_length_le (by rw[List.length_take];omega)];rfl⟩ ⟨rfl,rfl,(lkI (by omega)),(lkI (by rw[List.drop_of_length_le (by rw[List.length_take];omega),decV_nil];rfl)),(lkI (by omega)),trivial⟩ (fun _=>rfl) ?_
     rintro i ⟨hi,hdg⟩
     refine OK.seq (kr ?_)
     refine kc (zm rfl) (kc (zm rfl) (kc (S.slen Tryz.underlying9 .none rfl (zt rfl)) (kc (S.lss .none rfl (zt rfl) (zt rfl)) (kD (kB rfl (fun c44=>?_) (fun c44=>?_))))))
     ·
      have hil:i<l.length:=by omega
      have hlt:=decV_lt ((l.take i).drop aN) 0 hdg
      rw[List.length_drop,List.length_take,Nat.zero_add,Nat.one_mul]at hlt
      have hp17:=Nat.lt_of_lt_of_le hlt (pow17 (k:=min i l.length - aN) (by omega))
      clear hlt
      refine OK.skip (Ab.D.code (kO (OK.block (OK.seq (kr ?_)))))
      refine kc (zm rfl) (kc (zm rfl) (kc (S.stridx (n:=i) str9 .none rfl (zt rfl) (zt rfl) rfl hil) (kc (S.lss .none rfl (zt rfl) (.cint rfl)) (kc (zm rfl) (RK.splitD (t:=51) rfl (fun g51=>?_) (fun g51=>?_))))))
      ·
       have hbad:isDig l[i]=false:=dig_off (by omega)
       have hNE:=numG_bad hok hi.1 hil hbad
       refine kc (zQ rfl rfl) (kc (zQ rfl rfl) (kc (zQ rfl rfl) (kc (zQ rfl rfl) (kc (S.pickT .none rfl (zt rfl) .cbool rfl) (kD (OK.condT rfl rfl rfl (kr (kc (zi rfl rfl) (kc (zb rfl) (kD (OK.ret (Ret.r2 (zo rfl rfl) (zo rfl rfl) ?_))))))))))))
       rw[hNB,hNE]
       all_goals rfl
      ·
       refine kc (S.move (zg rfl rfl) rfl (zt rfl)) (kc (S.move (zg rfl rfl) rfl (zt rfl)) (kc (S.stridx (n:=i) str9 (zg rfl rfl) rfl (zt rfl) (zt rfl) rfl hil) (kc (S.gtr (zg rfl rfl) rfl (zt rfl) (.cint rfl)) (kc (S.pickF .none rfl (zt rfl) (zt rfl) rfl) (kD (kB rfl (fun c56=>?_) (fun c56=>?_)))))))
       ·
        have hbad:isDig l[i]=false:=dig_off (by omega)
        have hNE:=numG_bad hok hi.1 hil hbad
        refine kr (kc (zi rfl rfl) (kc (zb rfl) (kD (OK.ret (Ret.r2 (zo rfl rfl) (zo rfl rfl) ?_)))))
        rw[hNB,hNE]
        all_goals rfl
       ·
        have hgd:isDig l[i]=true:=dig_on (by omega)
        have hdv:=decV_snoc l[i] ((l.take i).drop aN) 0
        refine OK.skip (Ab.D.code (OK.reg ?_))
        refine kc (zm rfl) (kc (S.mul .none rfl (.cint rfl) (zt rfl) (IntWalk.i64_in _ (by omega)) (IntWalk.i64_in _ (by omega))) (kc (zm rfl) (kc (zm rfl) (kc (S.stridx (n:=i) str9 .none rfl (zt rfl) (zt rfl) rfl hil) (kc (S.sub .none rfl (zt rfl) (.cint rfl) (IntWalk.u8_in _ (by omega)) (IntWalk.u8_in _ (by omega))) (kc (S.conv .none rfl (zt rfl) Tryz.underlying5 Tryz.underlying3 (IntWalk.i64_in _ (by omega)) (IntWalk.i64_in _ (by omega))) (kc (S.add .none rfl (zt rfl) (zt rfl) (IntWalk.i64_in _ (by omega)) (IntWalk.i64_in _ (by omega))) (kc (za rfl) (RK.nil (Ab.D.blk (Ab.D.code (OK.reg ?_))))))))))))
        refine kc (zm rfl) (kc (zp rfl rfl (by omega)) (kc (za rfl) (RK.nil ?_)))
        refine Ab.D.lp ⟨i+1,⟨by omega,by rw[tk_dr hi.1 hil,List.all_append,hdg,List.all_cons,hgd];rfl⟩,(by omega),rfl,rfl,rfl,(lkI (by rw[tk_dr hi.1 hil,hdv];omega)),rfl,trivial⟩
     ·
      have hlt:=decV_lt ((l.take i).drop aN) 0 hdg
      rw[List.length_drop,List.length_take,Nat.zero_add,Nat.one_mul]at hlt
      have hp18:=Nat.lt_of_lt_of_le hlt (pow18 (k:=min i l.length - aN) (by omega))
      clear hlt
      have hte:l.take i=l:=List.take_of_length_le (by omega)
      rw[hte]at hdg hp18⊢
      have hNE:=numG_ok hok hdg
      refine OK.exit rfl (Ab.D.code (kO (kr ?_)))
      refine kc (zm rfl) (kc (zE rfl rfl) (kD (kB rfl (fun c66=>?_) (fun c66=>?_))))
      ·
       rw[if_pos (show aN=1 by omega),←Int.zero_sub]at hNE
       refine OK.reg (kc (zm rfl) (kc (S.neg .none rfl (zt rfl) (IntWalk.i64_in _ (by omega)) (IntWalk.i64_in _ (by omega))) (kc (za rfl) (kq (kc (zm rfl) (kc (za rfl) (kc (zb rfl) (kD (OK.ret (Ret.r2 (zo rfl rfl) (zo rfl rfl) ?_))))))))))
       rw[hNB,hNE]
       all_goals rfl
      ·
       rw[if_neg (show¬aN=1 by omega)]at hNE
       refine OK.skip (kp (kc (zm rfl) (kc (za rfl) (kc (zb rfl) (kD (OK.ret (Ret.r2 (zo rfl rfl) (zo rfl rfl) ?_)))))))
       rw[hNB,hNE]
       all_goals rfl
set_option maxHeartbeats 1000000 in
theorem base_Cut{l:List UInt8}{c:UInt8}(hl:l.length≤100000):Ct Tryz.prog 68 [.str l,.int .u8 (c.toNat:Int)] (.sl ((splitC c l).map fun s=>[.str s])):=by
 refine Ct.intro (rs:=[.tmp 4]) Tryz.func68 rfl Tryz.ntmps68 Tryz.results68 rfl rfl rfl fun w h=>?_
 refine kr (kc (S.assign .none rfl .cnil) (kq (RK.c (S.nilOwn (k:=5) (sz:=1) .none rfl) (kq (kc (zi rfl rfl) (kD (kO (kr ?_))))))))
 refine kc (zi rfl rfl) (kD (OK.block ?_))
 refine OK.loop3 [5] (fun(i:Nat)(f:Nat)(out:List (List UInt8))=>[(0,.str l),(1,.int .u8 (c.toNat:Int)),(5,.own 5 out.length),(2005,.arr 1 (out.map fun s=>[.str s])),(6,.int .i64 f),(7,.int .i64 i)]) (fun i f out=>(f≤i∧i≤l.length)∧splitC c l=out++att ((l.take i).drop f) (splitC c (l.drop i))∧out.length≤i) (fun i f out=>l.length - i) (0) (0) ([]) ⟨⟨Nat.le_refl _,Nat.zero_le _⟩,by simp[att_nil (split_ne c l)],Nat.le_refl _⟩ ⟨rfl,rfl,(lk_own (by first|rfl|(simp;done)|(simp;omega))),(lk_arr (by first|rfl|(simp;done)|(simp;omega))),rfl,rfl,trivial⟩ (fun _ _ _=>rfl) ?_
 rintro i f out ⟨hi,hD,hol⟩
 refine OK.seq (kr ?_)
 refine kc (zm rfl) (kc (zm rfl) (kc (S.slen Tryz.underlying9 .none rfl (zt rfl)) (kc (S.lss .none rfl (zt rfl) (zt rfl)) (kD (kB rfl (fun c11=>?_) (fun c11=>?_))))))
 ·
  have hil:i<l.length:=by omega
  have hde:=List.drop_eq_getElem_cons hil
  have htk:=tk_dr (a:=f) hi.1 hil
  refine OK.skip (Ab.D.code (kO (OK.block (kr (kc (zm rfl) (kc (zm rfl) (kc (S.stridx (n:=i) str9 .none rfl (zt rfl) (zt rfl) rfl hil) (kc (zm rfl) (kc (S.eql .none rfl (zt rfl) (zt rfl)) (kD (kB rfl (fun c18=>?_) (fun c18=>?_))))))))))))
  ·
   have hD2:splitC c l=(out++[(l.take i).drop f])++att ((l.take (i+1)).drop (i+1)) (splitC c (l.drop (i+1))):=by rw[hD,hde,att_c (u8_eq.1 c18),List.drop_of_length_le (l:=l.take (i+1)) (by rw[List.length_take];omega)];simp
   refine kr (kc (zm rfl) (kc (zm rfl) (kc (zm rfl) (kc (zm rfl) (kc (S.strsl (lo:=f) (hi:=i) (l':=(l.take i).drop f) str9 .none rfl (zt rfl) (.inr ⟨_,_,rfl,(zt rfl),rfl⟩) (.inr ⟨_,_,rfl,(zt rfl),rfl⟩) (by omega) (by omega) rfl) (RK.c (S.mkSlice (k:=24) (rows:=[[_]]) ai103 .none rfl (zc rfl .nil) rfl rfl rfl rfl rfl rfl rfl) ?_))))))
   refine RK.c (S.append ai103 .none rfl (zt rfl) rfl (by simp) (zt rfl) rfl (by first|rfl|(simp;done)|(simp;omega)) (by omega) (by simp only[maxLen];omega)) ?_
   refine kc (za rfl) (RK.nil (Ab.D.code (OK.reg ?_)))
   refine kc (zm rfl) (kc (zp rfl rfl (by omega)) (kc (za rfl) (RK.nil (Ab.D.blk (Ab.D.code (OK.reg ?_))))))
   refine kc (zm rfl) (kc (zp rfl rfl (by omega)) (kc (za rfl) (RK.nil ?_)))
   refine Ab.D.lp ⟨i+1,i+1,out++[(l.take i).drop f],⟨by omega,hD2,by first|omega|(simp;omega)⟩,(by omega),rfl,rfl,(lk_own (by simp)),(lk_arr (by simp)),(lkI (by omega)),rfl,trivial⟩
  ·
   have hD2:splitC c l=out++att ((l.take (i+1)).drop f) (splitC c (l.drop (i+1))):=by rw[hD,hde,att_n (fun e=>c18 (u8_eq.2 e)),htk]
   refine OK.skip (Ab.D.blk (Ab.D.code (OK.reg ?_)))
   refine kc (zm rfl) (kc (zp rfl rfl (by omega)) (kc (za rfl) (RK.nil ?_)))
   refine Ab.D.lp ⟨i+1,f,out,⟨by omega,hD2,by first|omega|(simp;omega)⟩,(by omega),rfl,rfl,(lk_own (by simp)),(lk_arr (by simp)),(lkI (by omega)),rfl,trivial⟩
 ·
  have hend:splitC c l=out++[l.drop f]:=by rw[hD,List.drop_of_length_le (l:=l) (i:=i) (by omega),List.take_of_length_le (by omega)];simp[splitC,att]
  refine OK.exit rfl (kp (kc (zm rfl) (kc (zm rfl) (kc (zm rfl) (kc (S.strsl (lo:=f) (l':=l.drop f) str9 .none rfl (zt rfl) (.inr ⟨_,_,rfl,(zt rfl),rfl⟩) (.inl ⟨rfl,rfl,rfl⟩) (by omega) (by omega) (by rw[List.take_length])) ?_)))))
  refine RK.c (S.mkSlice (k:=32) (rows:=[[_]]) ai103 .none rfl (zc rfl .nil) rfl rfl rfl rfl rfl rfl rfl) ?_
  refine RK.c (S.append ai103 .none rfl (zt rfl) rfl (by simp) (zt rfl) rfl (by first|rfl|(simp;done)|(simp;omega)) (by omega) (by simp only[maxLen];omega)) ?_
  refine kc (za rfl) (kD ?_)
  refine OK.ret (Ret.r1 (.tmp rfl rfl (.c (.own rfl rfl (by first|rfl|(simp;done)|(simp;omega))) rfl) rfl) ?_)
  rw[hend,List.map_append]
  all_goals rfl
end Go.Proofs.YtpbalelbenmmbaaGreatDoor
