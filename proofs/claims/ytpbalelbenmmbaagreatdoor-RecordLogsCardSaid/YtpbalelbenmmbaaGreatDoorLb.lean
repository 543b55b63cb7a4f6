import Derived.Lib.AppendIntMem
import Derived.Lib.AtoiAllCases
import Derived.Lib.AtoiErrMem
import Derived.Lib.ItoaLen
import Derived.Test.YtpbalelbenmmbaaGreatDoorYa
set_option linter.all false
set_option maxHeartbeats 1000000
namespace Go.Proofs.YtpbalelbenmmbaaGreatDoor
open Go.Ab Tryz
set_option maxRecDepth 9999
def dw(b:UInt8):Bool:=decide (48<=b.toNat/\b.toNat<=57)
def dK(acc:Nat)(l:ba):Nat:=l.foldl (fun a b=>a * 10+(b.toNat - 48)) acc
theorem gV(acc:Nat):dK acc []=acc:=rfl
theorem gJ(acc:Nat)(b:UInt8)(l:ba):dK acc (b::l)=dK (acc * 10+(b.toNat - 48)) l:=pf ..
def wO{l m:ba}(h:l≠[]):(l++m).head?=l.head?:=by
 cases l<;>grind
def iF(l:ba)(d:Nat):Bool:=(decide (l≠[])&&decide (l.length<=d))&&((decide (l.length=1)||decide (l.head?≠some 48))&&l.all dw)
def Canon(l:ba):Prop:=l≠[]/\(l.length=1\/l.head?≠some 48)/\l.all dw=true
theorem cN{l:ba}{d:Nat}:iF l d=true↔Canon l/\l.length<=d:=by
 unfold iF Canon;grind
def decV_snoc(b:UInt8):∀(l:ba)(acc:Nat),dK acc (l++[b])=dK acc l * 10+(b.toNat - 48)
 |[],acc=>by rfl
 |x::l,acc=>by rw[md,gJ,decV_snoc b l,gJ]
def jF:∀(l:ba)(acc:Nat),l.all dw=true->dK acc l<(acc+1) * 10 ^ l.length
 |[],acc,_=>by rw[gV,BE,Nat.pow_zero];omega
 |x::l,acc,h=>by
  simp only[ee,Zw]at h;have hx:48<=x.toNat/\x.toNat<=57:=dC h.1;have h1:=jF l (acc * 10+(x.toNat - 48)) h.2;rw[gJ,ge,Nat.pow_succ];refine dl h1 ?_;rw[Nat.mul_comm (10 ^ l.length) 10,←Nat.mul_assoc];exact li _ I
theorem qZ{k:Nat}(h:k<10):dw (UInt8.ofNat (48+k))=true/\(UInt8.ofNat (48+k)).toNat=48+k:=by
 have:(UInt8.ofNat (48+k)).toNat=48+k:=by rw[UInt8.toNat_ofNat'];omega
 exact⟨Zz I,this⟩
def uW{u:Nat}(h:¬u<10):Lib.decDigits u=Lib.decDigits (u / 10)++[UInt8.ofNat (48+u % 10)]:=by rw[Lib.decDigits,dif_neg h]
def dec_pos(u:Nat):Lib.decDigits u≠[]:=fun e=>by
 have h1:=Lib.decDigits_length u;have h2:=Lib.nDigits_pos u;rw[e]at h1;simp at h1;omega
theorem qT:∀(u:Nat),0<u->(Lib.decDigits u).head?≠some 48
 |u,h=>by
  by_cases h1:u<10
  ·rw[Lib.decDigits_one h1];intro e;have e2:UInt8.ofNat (48+u)=48:=by grind
   have e3:=(qZ h1).2;simp_all
  rw[uW h1,wO (dec_pos _)];exact qT (u / 10) I
def uH:∀(u:Nat),(Lib.decDigits u).all dw=true
 |u=>by
  by_cases h1:u<10
  ·rw[Lib.decDigits_one h1];rw[ee,yv,ul];exact(qZ h1).1
  rw[uW h1,List.all_append,uH (u / 10)];rw[ee,yv,ul,lx];grind [qZ]
theorem tq(u:Nat):Canon (Lib.decDigits u):=by
 refine⟨dec_pos u,?_,uH u⟩;grind [Lib.decDigits_one,qT]
def Qa:∀(u:Nat),dK 0 (Lib.decDigits u)=u
 |u=>by
  by_cases h1:u<10
  ·grind [Lib.decDigits_one,gJ,gV,qZ]
  rw[uW h1,decV_snoc,Qa (u / 10),(qZ (show u % 10<10 by omega)).2];omega
def kY:∀(n:Nat)(l:ba),l.length=n->Canon l->Lib.decDigits (dK 0 l)=l:=by
 intro n
 induction n with
 |zero=>intro l hl h;exact absurd (AT.1 hl) h.1
 |succ n ih=>
  intro l hl h;obtain⟨h0,h1,h2⟩:=h;rcases List.eq_nil_or_concat l with rfl|⟨m,b,rfl⟩
  ·simp_all
  rw[List.concat_eq_append]at *;rw[List.all_append,Zw]at h2;have hb:48<=b.toNat/\b.toNat<=57:=by
   have:=h2.2;simp only[ee,yv,ul]at this;exact dC this
  have hch:UInt8.ofNat (48+(b.toNat - 48))=b:=by
   simp_all
  by_cases hm:m=[]
  ·subst hm;rw[pt];rw[gJ,gV,Nat.zero_mul,gk,Lib.decDigits_one I,hch]
  have hh:m.head?≠some 48:=by
   grind
  have hc:Canon m:=⟨hm,.inr hh,h2.1⟩;have hv:=ih m (by simp_all) hc;have hpos:0<dK 0 m:=by
   refine Nat.pos_of_ne_zero fun e=>?_
   rw[e,Lib.decDigits_one C]at hv;grind
  rw[decV_snoc,uW I,show(dK 0 m * 10+(b.toNat - 48)) / 10=dK 0 m by omega,show(dK 0 m * 10+(b.toNat - 48)) % 10=b.toNat - 48 by omega,hv,hch]
def qS:∀(l:ba)(acc k:Nat),l.all dw=true->acc<10 ^ k->k+l.length<=18->Lib.parseUint10 acc l=.ok (dK acc l)
 |[],_,_,_,_,_=>by rfl
 |b::l,acc,k,h,ha,hk=>by
  simp only[ee,Zw]at h;have hb:48<=b.toNat/\b.toNat<=57:=dC h.1;have h18:(10:Nat) ^ k<=10 ^ 17:=pi C (by grind);have h17:(10:Nat) ^ 17=100000000000000000:=by decide
  have hn:acc * 10+(b.toNat - 48)<10 ^ (k+1):=by omega
  simp only[Lib.parseUint10];rw[Zn hb,Zm I,Zm I];rw[gJ];exact qS l _ (k+1) h.2 hn (by grind)
def x9{l:ba}(h:Canon l)(hl:l.length<=18):Lib.atoiAll l=.ok (dK 0 l:Int):=by
 obtain⟨h0,_,h2⟩:=h;cases l with
 |nil=>simp_all
 |cons c r=>
  have hc:48<=c.toNat/\c.toNat<=57:=by
   simp only[ee,Zw]at h2;exact dC h2.1
  rw[Lib.atoiAll_plain c r I I];unfold Lib.parseMag;have hp:=qS (c::r) 0 0 h2 C I;rw[Zm F,hp];have hlt:=jF (c::r) 0 h2;have hp18:(10:Nat) ^ (c::r).length<=10 ^ 18:=pi C hl;have h18:(10:Nat) ^ 18=1000000000000000000:=by decide
  unfold Lib.signless;grind
def nk(l:ba):IntKind.i64.wrap (bp l)=bp l:=by
 refine ca _ ?_;unfold bp;rcases h:Lib.atoiAll l with v|_|_
 ·exact Lib.atoiAll_bounds h
 all_goals simp[Lib.atoiSat_bounds]
theorem uI{n:Int}(h:0<=n):Lib.itoa n=Lib.decDigits n.toNat:=by simp_all[Lib.itoa,Zm]
def numOk(l:ba)(d:Nat):Bool:=(gC l&&(decide (0<=bp l)&&(decide (Lib.itoa (bp l)=l)&&decide (l.length<=d))))
theorem tw{l:ba}(h:Canon l)(hl:l.length<=18):gC l=true/\bp l=(dK 0 l:Int)/\Lib.itoa (bp l)=l:=by
 have h1:=x9 h hl;have h2:bp l=(dK 0 l:Int):=by grind [bp]
 refine⟨by grind [gC],h2,?_⟩;rw[h2,uI I,Int.toNat_natCast];exact kY _ l rfl h
def tW(l:ba){d:Nat}(hd:d<=18):numOk l d=iF l d:=by
 rw[wT,cN];unfold numOk;simp only[Zw,jn];grind [uI,tq,tw]
def yN{l:ba}{d:Nat}(hd:d<=18)(h:iF l d=true):bp l=(dK 0 l:Int):=by
 obtain⟨h1,h2⟩:=cN.1 h;exact(tw h1 I).2.1
def iE(l:ba)(d:Nat):Int×Bool:=
 let a:=if l.head?=some 45 then 1 else 0
 if l.length=a\/d<l.length - a\/(l.getD a 0=48/\1<l.length)then(0,false)
 else if(l.drop a).all dw=true then(if a=1 then -(dK 0 (l.drop a):Int)else(dK 0 (l.drop a):Int),true)else(0,false)
def B4{l:ba}{d:Nat}:((iE l d).2&&decide (0<=(iE l d).1))=iF l d/\(iF l d=true->(iE l d).1=(dK 0 l:Int)):=by
 by_cases hm:l.head?=some 45
 ·cases l with
  |nil=>cases hm
  |cons c r=>
   have hc:c=45:=by grind
   subst hc;have hf:iF (45::r) d=false:=by
    simp[iF,dw]
   rw[hf];refine⟨?_,fun h=>by cases h⟩;unfold iE;simp only[List.head?_cons,if_true];by_cases h1:(45::r).length=1\/d<(45::r).length - 1\/((45::r:ba).getD 1 0=48/\1<(45::r).length)
   ·simp_all
   rw[Zm h1];by_cases h2:((45::r:ba).drop 1).all dw=true
   ·rw[Zn h2];have hr:Canon r:=by
     refine⟨fun e=>h1 (.inl (by rw[e];rfl)),.inr fun e=>h1 (.inr (.inr ?_)),h2⟩;cases r<;>grind
    have hv:=kY _ r rfl hr;have hpos:dK 0 r≠0:=fun e=>by
     rw[e,Lib.decDigits_one C]at hv;grind
    simp_all
   grind
 unfold iE;simp only[Zm hm];by_cases h1:l.length=0\/d<l.length - 0\/(l.getD 0 0=48/\1<l.length)
 ·rw[Zn h1];have hf:iF l d=false:=by
   rw[rb];intro e;obtain⟨⟨e1,e2,e3⟩,e4⟩:=cN.1 e;rcases h1 with h1|h1|⟨h1,h3⟩
   ·simp_all
   ·omega
   rcases e2 with e2|e2
   ·omega
   cases l<;>grind
  simp_all
 rw[Zm h1,GT];have hne:l≠[]:=fun e=>h1 (.inl (by rw[e];rfl))
 have hlen:l.length<=d:=by
  omega
 have hz:l.length=1\/l.head?≠some 48:=by
  by_cases e:l.length=1
  ·exact .inl e
  refine .inr fun e2=>h1 (.inr (.inr ?_))
  cases l<;>grind
 by_cases h2:l.all dw=true
 ·rw[Zn h2,Zm C];refine⟨?_,fun _=>rfl⟩;simp_all[iF]
 rw[Zm h2];have hf:iF l d=false:=by
  rw[rb];intro e;exact h2 (cN.1 e).1.2.2
 simp_all
theorem qI{n:Int}(h:IntKind.i64.wrap n=n):(Lib.itoa n).length<=21:=by
 simp_all[zq,Lib.itoa_length_le]
def pn(a:Nat)(l:ba)(d:Nat):Int×Bool:=
 if l.length=a\/d<l.length - a\/(l.getD a 0=48/\1<l.length)then(0,false)
 else if(l.drop a).all dw=true then(if a=1 then -(dK 0 (l.drop a):Int)else(dK 0 (l.drop a):Int),true)else(0,false)
def uM{l:ba}{d:Nat}(h:l.head?=some 45):iE l d=pn 1 l d:=by simp_all[iE,pn]
def uN{l:ba}{d:Nat}(h:¬l.head?=some 45):iE l d=pn 0 l d:=by simp_all[iE,pn]
def pW{a d:Nat}{l:ba}(h:l.length=a\/d<l.length - a\/(l.getD a 0=48/\1<l.length)):pn a l d=(0,false):=Zn h
def nn{a d:Nat}{l:ba}(h:¬(l.length=a\/d<l.length - a\/(l.getD a 0=48/\1<l.length))){i:Nat}(h1:a<=i)(h2:i<l.length)(h3:dw l[i]=false):pn a l d=(0,false):=by
 unfold pn;rw[Zm h,Zm];rw[Bool.not_eq_true,List.all_eq_false];exact⟨l[i],List.mem_drop_iff_getElem.2 ⟨i - a,by omega,by grind⟩,by grind⟩
def numG_ok{a d:Nat}{l:ba}(h:¬(l.length=a\/d<l.length - a\/(l.getD a 0=48/\1<l.length)))(h3:(l.drop a).all dw=true):pn a l d=(if a=1 then -(dK 0 (l.drop a):Int)else(dK 0 (l.drop a):Int),true):=by
 unfold pn;simp_all
theorem wP{a i:Nat}{l:ba}(h1:a<=i)(h2:i<l.length):(l.take (i+1)).drop a=(l.take i).drop a++[l[i]]:=by
 grind [List.take_succ_eq_append_getElem]
def head_45{l:ba}(h:0<l.length):l.head?=some 45↔(l[0].toNat:Int)=45:=by
 cases l with
 |nil=>simp at h
 |cons c r=>
  simp only[List.head?_cons,ib,ra];constructor
  ·rintro rfl;rfl
  intro e;exact wa.1 (by grind)
theorem uX{l:ba}{a:Nat}(h:a<l.length):l.getD a 0=48↔(l[a].toNat:Int)=48:=by
 rw[tX h];constructor
 ·simp_all
 intro e;exact wa.1 (by grind)
def CW{b:UInt8}(h:48<=b.toNat/\b.toNat<=57):dw b=true:=Zz h
def p7{b:UInt8}(h:¬(48<=b.toNat/\b.toNat<=57)):dw b=false:=Zy h
def FK{k:Nat}(h:k<=18):(10:Nat) ^ k<=1000000000000000000:=by
 have:=pi (n:=10) C h;omega
def FL{k:Nat}(h:k<=17):(10:Nat) ^ k<=100000000000000000:=by
 have:=pi (n:=10) C h;omega
def HW:CX prog 142:=⟨⟨3,by kernel_rfl⟩,fun n w h0 h1 ht=>(strconv_Itoa n h0 h1 w ht).mono (by
 rintro e w' ⟨rfl,k,os,rfl⟩;exact⟨rfl,Lib.below_grow _ w (Zq _) k os⟩)⟩
def pS{n:Int}(h:IntKind.i64.wrap n=n):gz prog 142 [bv n] (.str (Lib.itoa n)):=HW.ct (by grind [qI])
def HX:CY prog 155:=by
 refine⟨⟨1,by kernel_rfl⟩,⟨2,by kernel_rfl⟩,fun l w es er hl h1 h2 hes her=>?_⟩;have e1 : prog.globalNamed "strconv.ErrSyntax" = some 1 := by kernel_rfl
 have e2 : prog.globalNamed "strconv.ErrRange" = some 2 := by kernel_rfl
 rw[e1]at h1;rw[e2]at h2;cases h1;cases h2;obtain⟨ev1,hv1,hev1⟩:=hes;obtain⟨ev2,hv2,hev2⟩:=her;have hsz:(⟨l.toArray⟩:ByteArray).size=l.length:=by rfl
 rcases h:Lib.atoiAll l with v|_|_
 ·skip
  refine(strconv_Atoi_ok ⟨l.toArray⟩ I v h w).mono ?_;rintro e w' ⟨rfl,hw⟩;have hv:bp l=v:=by unfold bp;rw[h]
  refine⟨.nilIface,by rw[hv],.inl ⟨by unfold gC;rw[h],rfl⟩,?_⟩;rcases hw with rfl|⟨t,rfl⟩
  all_goals simp[Go.RowKit.Below.refl,Lib.bytesWorld_below]
 ·skip
  refine(strconv_Atoi_syntax ⟨l.toArray⟩ I h ev1 w hv1 hev1).mono ?_;grind [bp,CZ,gC]
 skip
 refine(strconv_Atoi_range ⟨l.toArray⟩ I h ev2 w hv2 hev2).mono ?_;grind [bp,CZ,gC]
def uY{l:ba}(h:l.length<=100000):gz prog 155 [.str l] (.cf [bv (bp l),.cb (CZ (gC l))]):=HX.ct I (nk l)
def O7{n:Int}(hb: -1000000000000<=n/\n<=1000000000000):Ct prog 143 [bv n] (bv (n.natAbs:Int)):=by
 refine cI func143 O (ro 9 O ?_);refine kc (S.neg .none O (zt O) (ca _ I) (ca _ I)) (kc (S.max2 .none O (zt O) (zt O)) ?_);refine rr 3 O (kR O O ?_);grind
def vU{l:ba}{d:Nat}(hl:l.length<=100000)(hd:d<=18):Ct prog 108 [.str l,bv (d:Int)] (.cf [bv (iE l d).1,.bool (iE l d).2]):=by
 refine cI func108 O (ro 11 O ?_);refine OK.join (G:=Nat) [] (fun aN=>[(0,.str l),(1,bv (d:Int)),(6,bv (aN:Int))]) (fun aN=>aN<=l.length/\aN<=1/\iE l d=pn aN l d) (fun _=>O) ?_ ?_
 ·refine ro 6 O (RK.bh (t:=12) O (fun g12=>?_) (fun g12=>?_))
  ·refine kc (S.move (zg O O) O (zt O)) (kc (S.fJ (n:=0) fR (zg O O) O (zt O) (.af O) O I) ?_);refine rr 4 O (kB O (fun c16=>?_) (fun c16=>?_))
   ·have hh:l.head?=some 45:=(head_45 I).2 c16;refine ro 3 O (Ab.D.lp ⟨1,⟨by omega,by omega,by simp_all[uM]⟩,O,O,O,Zo⟩)
   have hh:¬l.head?=some 45:=fun e=>c16 ((head_45 I).1 e)
   refine OK.skip (Ab.D.lp ⟨0,⟨by omega,by omega,by simp_all[uN]⟩,O,O,O,Zo⟩)
  have hh:¬l.head?=some 45:=by simp_all
  refine rr 8 O (Ab.D.lp ⟨0,⟨by omega,by omega,by simp_all[uN]⟩,O,O,O,Zo⟩)
 rintro aN ⟨haL,haN,hNB⟩;refine ro 8 O (RK.bh (t:=21) O (fun g21=>?_) (fun g21=>?_))
 ·have hNE:=pW (l:=l) (a:=aN) (d:=d) (.inl I);refine rr 27 O (kS O O O O ?_);simp_all
 refine Rr 8 O I (RK.bh (t:=29) O (fun g29=>?_) (fun g29=>?_))
 ·have hNE:=pW (l:=l) (a:=aN) (d:=d) (.inr (.inl I));refine rr 19 O (kS O O O O ?_);simp_all
 refine rr 2 O (kc (S.fJ (n:=aN) fR (zg O O) O (zt O) (zt O) I I) ?_);refine rr 2 O (RK.bh (t:=34) O (fun g34=>?_) (fun g34=>?_))
 ·refine rr 7 O (kB O (fun c39=>?_) (fun c39=>?_))
  ·have hNE:=pW (l:=l) (a:=aN) (d:=d) (.inr (.inr ⟨(uX I).2 I,by omega⟩));refine ro 6 O (kS O O O O ?_);simp_all
  have hok:¬(l.length=aN\/d<l.length - aN\/(l.getD aN 0=48/\1<l.length)):=by
   omega
  refine ro 15 O ?_;refine OK.loop (G:=Nat) [] (fun i=>[(0,.str l),(1,bv (d:Int)),(6,bv (aN:Int)),(7,bv ((dK 0 ((l.take i).drop aN):Nat):Int)),(8,bv i)]) (fun i=>(aN<=i/\i<=l.length)/\((l.take i).drop aN).all dw=true) (fun i=>l.length - i) aN ⟨⟨Zq _,haL⟩,by simp⟩ ⟨O,O,(yL I),(yL (by simp[gV])),(yL I),Zo⟩ (fun _=>O) ?_;rintro i ⟨hi,hdg⟩;refine ro 9 O (kB O (fun c44=>?_) (fun c44=>?_))
  ·have hil:i<l.length:=by omega
   have hlt:=jF ((l.take i).drop aN) 0 hdg;rw[mp,gn,gk,tl]at hlt;have hp17:=dl hlt (FL (k:=min i l.length - aN) I);clear hlt;refine ro 9 O (kc (S.fJ (n:=i) fR .none O (zt O) (zt O) O hil) (rr 2 O (RK.bh (t:=51) O (fun g51=>?_) (fun g51=>?_))))
   ·have hbad:dw l[i]=false:=p7 I;have hNE:=nn hok hi.1 hil hbad;refine rr 14 O (kS O O O O ?_);simp_all
   refine rr 2 O (kc (S.fJ (n:=i) fR (zg O O) O (zt O) (zt O) O hil) (rr 4 O (kB O (fun c56=>?_) (fun c56=>?_))))
   ·have hbad:dw l[i]=false:=p7 I;have hNE:=nn hok hi.1 hil hbad;refine ro 6 O (kS O O O O ?_);simp_all
   have hgd:dw l[i]=true:=CW I;have hdv:=decV_snoc l[i] ((l.take i).drop aN) 0;refine ro 4 O ?_;refine kc (S.mul .none O (.af O) (zt O) (ca _ I) (ca _ I)) (jm O (jm O (kc (S.fJ (n:=i) fR .none O (zt O) (zt O) O hil) (kc (S.sub .none O (zt O) (.af O) (rx _ I) (rx _ I)) (kc (S.conv .none O (zt O) underlying5 underlying3 (ca _ I) (ca _ I)) ?_)))));refine Rr 10 O I ?_;refine Ab.D.lp ⟨i+1,⟨by omega,by simp_all[wP]⟩,I,O,O,O,(yL (by grind [wP])),O,Zo⟩
  have hlt:=jF ((l.take i).drop aN) 0 hdg;rw[mp,gn,gk,tl]at hlt;have hp18:=dl hlt (FK (k:=min i l.length - aN) I);clear hlt;have hte:l.take i=l:=eK I;rw[hte]at hdg hp18⊢;have hNE:=numG_ok hok hdg;refine ro 9 O (kB O (fun c66=>?_) (fun c66=>?_))
  ·omega
  rw[Zm (show¬aN=1 by omega)]at hNE;refine ro 9 O (kS O O O O ?_);simp_all
 have hok:¬(l.length=aN\/d<l.length - aN\/(l.getD aN 0=48/\1<l.length)):=by
  grind [uX]
 refine rr 23 O ?_;refine OK.loop (G:=Nat) [] (fun i=>[(0,.str l),(1,bv (d:Int)),(6,bv (aN:Int)),(7,bv ((dK 0 ((l.take i).drop aN):Nat):Int)),(8,bv i)]) (fun i=>(aN<=i/\i<=l.length)/\((l.take i).drop aN).all dw=true) (fun i=>l.length - i) aN ⟨⟨Zq _,haL⟩,by simp⟩ ⟨O,O,(yL I),(yL (by simp[gV])),(yL I),Zo⟩ (fun _=>O) ?_;rintro i ⟨hi,hdg⟩;refine ro 9 O (kB O (fun c44=>?_) (fun c44=>?_))
 ·have hil:i<l.length:=by omega
  have hlt:=jF ((l.take i).drop aN) 0 hdg;rw[mp,gn,gk,tl]at hlt;have hp17:=dl hlt (FL (k:=min i l.length - aN) I);clear hlt;refine ro 9 O (kc (S.fJ (n:=i) fR .none O (zt O) (zt O) O hil) (rr 2 O (RK.bh (t:=51) O (fun g51=>?_) (fun g51=>?_))))
  ·have hbad:dw l[i]=false:=p7 I;have hNE:=nn hok hi.1 hil hbad;refine rr 14 O (kS O O O O ?_);simp_all
  refine rr 2 O (kc (S.fJ (n:=i) fR (zg O O) O (zt O) (zt O) O hil) (rr 4 O (kB O (fun c56=>?_) (fun c56=>?_))))
  ·have hbad:dw l[i]=false:=p7 I;have hNE:=nn hok hi.1 hil hbad;refine ro 6 O (kS O O O O ?_);simp_all
  have hgd:dw l[i]=true:=CW I;have hdv:=decV_snoc l[i] ((l.take i).drop aN) 0;refine ro 4 O ?_;refine kc (S.mul .none O (.af O) (zt O) (ca _ I) (ca _ I)) (jm O (jm O (kc (S.fJ (n:=i) fR .none O (zt O) (zt O) O hil) (kc (S.sub .none O (zt O) (.af O) (rx _ I) (rx _ I)) (kc (S.conv .none O (zt O) underlying5 underlying3 (ca _ I) (ca _ I)) ?_)))));refine Rr 10 O I ?_;refine Ab.D.lp ⟨i+1,⟨by omega,by simp_all[wP]⟩,I,O,O,O,(yL (by grind [wP])),O,Zo⟩
 have hlt:=jF ((l.take i).drop aN) 0 hdg;rw[mp,gn,gk,tl]at hlt;have hp18:=dl hlt (FK (k:=min i l.length - aN) I);clear hlt;have hte:l.take i=l:=eK I;rw[hte]at hdg hp18⊢;have hNE:=numG_ok hok hdg;refine ro 9 O (kB O (fun c66=>?_) (fun c66=>?_))
 ·rw[Zn (show aN=1 by omega),←Int.zero_sub]at hNE;refine OK.bN (jm O (kc (S.neg .none O (zt O) (ca _ I) (ca _ I)) ?_));refine rr 10 O (kS O O O O ?_);simp_all
 rw[Zm (show¬aN=1 by omega)]at hNE;refine ro 9 O (kS O O O O ?_);simp_all
def C0{l:ba}{c:UInt8}(hl:l.length<=100000):Ct prog 68 [.str l,.int .u8 (c.toNat:Int)] (.sl ((aj c l).map fun s=>[.str s])):=by
 refine cI func68 O (kr (kc (S.assign .none O .fW) (rr 4 O (RK.c (S.iI (k:=5) (sz:=1) .none O) (rr 14 O ?_)))));refine OK.FH [5] (fun(i:Nat)(f:Nat)(out:List ba)=>[(0,.str l),(1,.int .u8 (c.toNat:Int)),(5,.own 5 out.length),(2005,.arr 1 (out.map fun s=>[.str s])),(6,bv f),(7,bv i)]) (fun i f out=>(f<=i/\i<=l.length)/\aj c l=out++Cp ((l.take i).drop f) (aj c (l.drop i))/\out.length<=i) (fun i f out=>l.length - i) (0) (0) ([]) ⟨⟨Zq _,Zr _⟩,by simp[yU (gr c l)],Zq _⟩ ⟨O,O,(cw (by rfl)),(bH (by rfl)),O,O,Zo⟩ (fun _ _ _=>O) ?_;rintro i f out ⟨hi,hD,hol⟩;refine ro 9 O (kB O (fun c11=>?_) (fun c11=>?_))
 ·have hil:i<l.length:=by omega
  have hde:=ci hil;have htk:=wP (a:=f) hi.1 hil;refine ro 8 O (kc (S.fJ (n:=i) fR .none O (zt O) (zt O) O hil) (rr 4 O (kB O (fun c18=>?_) (fun c18=>?_))))
  ·have hD2:aj c l=(out++[(l.take i).drop f])++Cp ((l.take (i+1)).drop (i+1)) (aj c (l.drop (i+1))):=by grind [HC,Fy]
   refine ro 6 O ?_;refine kc (S.ir (lo:=f) (hi:=i) (l':=(l.take i).drop f) fR .none O (zt O) (.inr ⟨_,_,O,(zt O),O⟩) (.inr ⟨_,_,O,(zt O),O⟩) I I O) (RK.c (zM [[_]] ZF O O O O) (kc (zP ZF O O F (by rfl) I (by grind [maxLen])) ?_));refine Rr 15 O I ?_;refine Ab.D.lp ⟨i+1,i+1,out++[(l.take i).drop f],⟨by omega,hD2,by grind⟩,I,O,O,(cw F),(bH F),(yL I),O,Zo⟩
  have hD2:aj c l=out++Cp ((l.take (i+1)).drop f) (aj c (l.drop (i+1))):=by grind [HD]
  refine Ro 8 O I ?_;refine Ab.D.lp ⟨i+1,f,out,⟨by omega,hD2,by omega⟩,I,O,O,(cw F),(bH F),(yL I),O,Zo⟩
 have hend:aj c l=out++[l.drop f]:=by simp_all[nb,eK,aj,Cp]
 refine ro 7 O ?_;refine kc (S.ir (lo:=f) (l':=l.drop f) fR .none O (zt O) (.inr ⟨_,_,O,(zt O),O⟩) (.inl ⟨O,O,O⟩) I I F) ?_;refine RK.c (zM [[_]] ZF O O O O) (kc (zP ZF O O F (by rfl) I (by grind [maxLen])) ?_);refine rr 3 O ?_;refine OK.ret (aA.r1 (.tmp O O (.c (.own O O F) O) O) ?_);grind
end Go.Proofs.YtpbalelbenmmbaaGreatDoor
namespace Go.Proofs.YtpbalelbenmmbaaGreatDoor
open Go.Ab Tryz
structure Words where
 numbers:bd
 texts:List ba
 deriving DecidableEq
def Words.cs(w:Words):bi:=[.sl (w.numbers.map fun n=>[bv n]),.sl (w.texts.map fun s=>[.str s])]
def aH:ba->ba->Bool->Words->Words×Bool
 |[],_,more,w=>(w,!more)
 |k::ks,rest,more,w=>
  if more=false then(⟨[],[]⟩,false)
  else if k=114 then({w with texts:=w.texts++[rest]},true)
  else if k=119 then(if(aL 32 rest).1=[]then(⟨[],[]⟩,false)else aH ks (aL 32 rest).2.1 (aL 32 rest).2.2 {w with texts:=w.texts++[(aL 32 rest).1]})
  else if numOk (aL 32 rest).1 7=true then aH ks (aL 32 rest).2.1 (aL 32 rest).2.2 {w with numbers:=w.numbers++[bp (aL 32 rest).1]}else(⟨[],[]⟩,false)
def kf(text kinds:ba):Words×Bool:=aH kinds (aL 32 text).2.1 (aL 32 text).2.2 ⟨[],[]⟩
def gR:List ba:=[[110,111,116,101],[115,116,97,114,116],[102,114,97,109,101],[101,110,100],[103,111,111,100],[98,97,100],[99,111,105,108],[114,101,112,97,105,114],[109,97,114,107],[115,101,99,116,105,111,110],[114,101,99,105,112,101],[109,111,100,101,108],[108,101,97,114,110]]
def yM:bd:=[0,1,1,1,1,1,2,2,3,3,4,4,4]
def kinds:List ba:=[[114],[110,119,119],[114],[],[110],[110],[119,110],[119],[110],[110,114],[119,114],[110],[110]]
def dS(word:ba):Option Nat:=ix (fun v=>decide (word=v)) gR
structure vN where
 verb:ba
 oF:ba
 coil:ba
 rest:ba
 num:Int
 deriving DecidableEq
def vN.cs(x:vN):bi:=[.str x.verb,.str x.oF,.str x.coil,.str x.rest,bv x.num]
def lj(l:ba):Int×Bool:=((iE l 7).1,(iE l 7).2&&decide (l.head?≠some 45))
def pO(l:ba):(lj l).2=numOk l 7/\(numOk l 7=true->(lj l).1=bp l):=by
 obtain⟨h1,h2⟩:=B4 (l:=l) (d:=7);rw[tW l I];refine⟨?_,fun h=>by rw[yN I h];exact h2 h⟩;rw[←h1];show((iE l 7).2&&decide (l.head?≠some 45))=((iE l 7).2&&decide (0<=(iE l 7).1));cases hb:(iE l 7).2 with
 |false=>rfl
 |true=>
  by_cases hm:l.head?=some 45
  ·have e1:iF l 7=false:=by
    unfold iF;cases l with
    |nil=>rfl
    |cons c r=>
     simp_all[dw]
   simp_all
  have hge:0<=(iE l 7).1:=by
   unfold iE;grind
  simp_all
def fH(text:ba):vN×Bool:=
 let verb:=(aL 32 text).1
 let rest:=(aL 32 text).2.1
 let more:=(aL 32 text).2.2
 let x:vN:=⟨verb,[],[],rest,0⟩
 let words:=aj 32 rest
 if verb=gR[0]\/verb=gR[2]then(x,more)
 else if verb=gR[3]then(x,!more)
 else if verb=gR[1]then
  if words.length≠3\/words.getD 1 []=[]\/words.getD 2 []=[]then(x,false)
  else({x with num:=(lj (words.getD 0 [])).1,oF:=words.getD 1 [],coil:=words.getD 2 []},(lj (words.getD 0 [])).2)
 else if verb=gR[4]\/verb=gR[5]\/verb=gR[8]\/verb=gR[11]\/verb=gR[12]then({x with num:=(lj rest).1},(lj rest).2)
 else if verb=gR[6]then
  if words.length≠2\/words.getD 0 []=[]then(x,false)
  else({x with coil:=words.getD 0 [],num:=(lj (words.getD 1 [])).1},(lj (words.getD 1 [])).2)
 else if verb=gR[7]then({x with coil:=rest},decide (words.length=1)&&decide (rest≠[]))
 else if verb=gR[9]then({x with rest:=(aL 32 rest).2.1,num:=(lj (aL 32 rest).1).1},(lj (aL 32 rest).1).2&&(aL 32 rest).2.2)
 else({x with oF:=(aL 32 rest).1,rest:=(aL 32 rest).2.1},(aL 32 rest).2.2&&decide ((aL 32 rest).1≠[]))
def ig(k:Nat)(x:vN):Words:=match k with
 |0|2=>⟨[],[x.rest]⟩
 |1=>⟨[x.num],[x.oF,x.coil]⟩
 |3=>⟨[],[]⟩
 |6=>⟨[x.num],[x.coil]⟩
 |7=>⟨[],[x.coil]⟩
 |9=>⟨[x.num],[x.rest]⟩
 |10=>⟨[],[x.oF,x.rest]⟩
 |_=>⟨[x.num],[]⟩
def kM{l:ba}(h:(aL 32 l).2.2=false):(aL 32 l).1=l/\(aL 32 l).2.1=[]:=by
 by_cases hi:0<=Lib.indexByte l 32
 ·simp_all[qt]
 rw[oI hi];simp
theorem sM(l:ba):(aj 32 l).length=1↔(aL 32 l).2.2=false:=by
 rw[iY 32 l];have h:=gr 32 (aL 32 l).2.1;grind
def yO{c:UInt8}:∀{l:ba},0<=Lib.indexByte l c->c∈l
 |[],h=>by simp[Lib.indexByte]at h
 |b::l,h=>by
  rw[mM]at h;split at h
  ·simp_all
  split at h
  ·omega
  exact dg _ (yO I)
theorem oJ{l:ba}(h:(aL 32 l).2.2=true):numOk l 7=false:=by
 rw[tW l I];by_cases hi:0<=Lib.indexByte l 32
 ·cases hn:iF l 7 with
  |false=>rfl
  |true=>
   exfalso;obtain⟨⟨_,_,hd⟩,_⟩:=cN.1 hn;have h3:=dj.1 hd _ (yO hi);simp[dw]at h3
 simp_all[oI]
def vO(rest:ba)(more:Bool)(hm:more=false->rest=[])(w:Words):(aH [110] rest more w).2=(lj rest).2/\((lj rest).2=true->(aH [110] rest more w).1={w with numbers:=w.numbers++[(lj rest).1]}):=by
 obtain⟨h1,h2⟩:=pO rest;cases more with
 |false=>
  have e:numOk rest 7=false:=by rw[hm rfl];rfl
  rw[aH,Zn rfl,h1,e];simp
 |true=>
  rw[aH,Zm C,Zm C,Zm C];cases hc:(aL 32 rest).2.2 with
  |false=>
   rw[(kM hc).1,h1];cases hn:numOk rest 7 with
   |false=>simp
   |true=>rw[Zn rfl,aH];simp_all
  |true=>
   grind [oJ,aH]
theorem kN{l:ba}(h:(aL 32 l).2.2=false):aj 32 l=[l]:=by simp_all[iY]
theorem kP{l:ba}(h:(aL 32 l).2.2=true):aj 32 l=(aL 32 l).1::aj 32 (aL 32 l).2.1:=by rw[iY 32 l,h,Zn rfl]
theorem sN(l:ba):1<=(aj 32 l).length:=by
 grind [gr]
def jy(l:ba):(aj 32 l).getD 0 []=(aL 32 l).1:=by
 grind [aL,kN,kP]
theorem kQ(rest:ba)(more:Bool)(w:Words):aH [114] rest more w=if more=true then({w with texts:=w.texts++[rest]},true)else(⟨[],[]⟩,false):=by
 cases more
 all_goals rfl
def sO(rest:ba)(more:Bool)(w:Words):aH [119] rest more w=if more=true/\(aL 32 rest).1≠[]then({w with texts:=w.texts++[(aL 32 rest).1]},!(aL 32 rest).2.2)else(⟨[],[]⟩,false):=by
 cases more
 ·rfl
 rw[aH,Zm C,Zm C,Zn rfl];by_cases h:(aL 32 rest).1=[]
 ·simp_all
 rw[Zm h,Zn ⟨rfl,h⟩,aH]
def Es{text:ba}{k:Nat}(hk:dS (aL 32 text).1=some k):(kf text (kinds.getD k [])).2=(fH text).2/\((fH text).2=true->(kf text (kinds.getD k [])).1=ig k (fH text).1):=by
 obtain⟨hlt,hv⟩:=eE hk;have hv:(aL 32 text).1=gR.getD k []:=by simp_all
 have hm:(aL 32 text).2.2=false->(aL 32 text).2.1=[]:=fun h=>(kM h).2
 unfold kf fH;simp only[hv];generalize (aL 32 text).2.1=rest at *;generalize (aL 32 text).2.2=more at *;have h13:k<13:=hlt;have hnum:(aH [110] rest more ⟨[],[]⟩).2=(lj rest).2/\((lj rest).2=true->(aH [110] rest more ⟨[],[]⟩).1=⟨[(lj rest).1],[]⟩):=vO rest more hm _
 match k,h13 with
 |0,_=>rw[Zn C];show(aH [114] rest more _).2=more/\(more=true->(aH [114] rest more _).1=_);grind [kQ,ig]
 |1,_=>
  rw[Zm C,Zm C,Zn C];show(aH [110,119,119] rest more _).2=_/\(_->(aH [110,119,119] rest more _).1=_);cases more with
  |false=>
   rw[hm rfl,Zn (.inl C),aH,Zn rfl];simp
  |true=>
   obtain⟨q1,q2⟩:=pO (aL 32 rest).1;rw[aH,Zm C,Zm C,Zm C,jy];cases hn:numOk (aL 32 rest).1 7 with
   |false=>
    grind
   |true=>
    rw[Zn rfl,aH];cases h1:(aL 32 rest).2.2 with
    |false=>rw[Zn rfl,kN h1,Zn (.inl F)];simp
    |true=>
     rw[Zm C,Zm C,Zn rfl,kP h1];have e1:((aL 32 rest).1::aj 32 (aL 32 rest).2.1).getD 1 []=(aL 32 (aL 32 rest).2.1).1:=jy _;rw[e1];generalize (aL 32 rest).2.1=r1;by_cases hb:(aL 32 r1).1=[]
     ·simp_all
     rw[Zm hb,sO];cases h2:(aL 32 r1).2.2 with
     |false=>rw[Zm F,kN h2,Zn (.inl F)];simp
     |true=>
      rw[kP h2];have e2:((aL 32 rest).1::(aL 32 r1).1::aj 32 (aL 32 r1).2.1).getD 2 []=(aL 32 (aL 32 r1).2.1).1:=jy _;rw[e2];generalize (aL 32 r1).2.1=r2;by_cases hc:(aL 32 r2).1=[]
      ·simp_all
      rw[Zn ⟨rfl,hc⟩];cases h3:(aL 32 r2).2.2 with
      |false=>
       simp_all[kN,ig]
      |true=>
       rw[kP h3,Zn (.inl (by
        grind [sN]))]
       simp
 |2,_=>rw[Zn C];show(aH [114] rest more _).2=more/\(more=true->(aH [114] rest more _).1=_);grind [kQ,ig]
 |3,_=>rw[Zm C,Zn C];exact⟨rfl,fun _=>rfl⟩
 |4,_=>rw[Zm C,Zm C,Zm C,Zn C];exact⟨hnum.1,fun h=>hnum.2 h⟩
 |5,_=>rw[Zm C,Zm C,Zm C,Zn C];exact⟨hnum.1,fun h=>hnum.2 h⟩
 |6,_=>
  rw[Zm C,Zm C,Zm C,Zm C,Zn C];show(aH [119,110] rest more _).2=_/\(_->(aH [119,110] rest more _).1=_);cases more with
  |false=>
   rw[hm rfl,Zn (.inl C),aH,Zn rfl];simp
  |true=>
   rw[aH,Zm C,Zm C,Zn rfl,jy];by_cases ha:(aL 32 rest).1=[]
   ·simp_all
   obtain⟨g1,g2⟩:=vO (aL 32 rest).2.1 (aL 32 rest).2.2 (fun h=>(kM h).2) ⟨[],[]++[(aL 32 rest).1]⟩;rw[Zm ha,g1];cases h1:(aL 32 rest).2.2 with
   |false=>
    rw[kN h1,Zn (.inl F),(kM h1).2];exact⟨rfl,fun h=>by cases h⟩
   |true=>
    rw[h1]at g2;rw[kP h1];generalize (aL 32 rest).2.1=r1 at *;cases h2:(aL 32 r1).2.2 with
    |false=>
     rw[kN h2,Zm (by simp[ha])];refine⟨rfl,fun h=>?_⟩;rw[g2 h];rfl
    |true=>
     rw[kP h2,Zn (.inl (by
      grind [sN])),(pO r1).1,oJ h2]
     simp
 |7,_=>
  rw[Zm C,Zm C,Zm C,Zm C,Zm C,Zn C];show(aH [119] rest more _).2=_/\(_->(aH [119] rest more _).1=_);rw[sO];cases h1:(aL 32 rest).2.2 with
  |false=>
   have e:=(sM rest).2 h1;rw[(kM h1).1];cases more with
   |false=>simp_all
   |true=>
    by_cases hr:rest=[]
    ·grind
    rw[Zn ⟨rfl,hr⟩,e];simp[hr,ig]
  |true=>
   grind [sM]
 |8,_=>rw[Zm C,Zm C,Zm C,Zn C];exact⟨hnum.1,fun h=>hnum.2 h⟩
 |9,_=>
  rw[Zm C,Zm C,Zm C,Zm C,Zm C,Zm C,Zn C];show(aH [110,114] rest more _).2=_/\(_->(aH [110,114] rest more _).1=_);obtain⟨q1,q2⟩:=pO (aL 32 rest).1;cases more with
  |false=>rw[hm rfl,aH,Zn rfl];exact⟨rfl,fun h=>by cases h⟩
  |true=>
   rw[aH,Zm C,Zm C,Zm C,q1];cases hn:numOk (aL 32 rest).1 7 with
   |false=>simp
   |true=>
    rw[Zn rfl,kQ];cases h1:(aL 32 rest).2.2 with
    |false=>simp
    |true=>rw[Zn rfl];exact⟨rfl,fun _=>by simp[ig,q2 hn]⟩
 |10,_=>
  rw[Zm C,Zm C,Zm C,Zm C,Zm C,Zm C,Zm C];show(aH [119,114] rest more _).2=_/\(_->(aH [119,114] rest more _).1=_);cases more with
  |false=>rw[hm rfl,aH,Zn rfl];exact⟨rfl,fun h=>by cases h⟩
  |true=>
   rw[aH,Zm C,Zm C,Zn rfl];by_cases ha:(aL 32 rest).1=[]
   ·simp_all
   rw[Zm ha,kQ,Zz ha,ul];cases h1:(aL 32 rest).2.2 with
   |false=>simp
   |true=>rw[Zn rfl];exact⟨rfl,fun _=>by rfl⟩
 |11,_=>rw[Zm C,Zm C,Zm C,Zn C];exact⟨hnum.1,fun h=>hnum.2 h⟩
 |12,_=>rw[Zm C,Zm C,Zm C,Zn C];exact⟨hnum.1,fun h=>hnum.2 h⟩
end Go.Proofs.YtpbalelbenmmbaaGreatDoor
namespace Go.Proofs.YtpbalelbenmmbaaGreatDoor
open Go.Ab Tryz
def qR(l:ba):ba:=if l.head?=some 45 then l.drop 1 else l
def eY(l:ba)(d:Nat):Bool:=if l.head?=some 45 then iF (l.drop 1) d&&decide (l.getD 1 0≠48)else iF l d
def de(l:ba):Int:=if l.head?=some 45 then -(dK 0 (l.drop 1):Int)else(dK 0 l:Int)
def me(l:ba)(below:Bool)(d:Nat):Bool:=gC l&&(decide (Lib.itoa (bp l)=l)&&((below||decide (0<=bp l))&&decide ((qR l).length<=d)))
theorem uG{l:ba}(h:l.head?=some 45):∃r,l=45::r:=by
 cases l<;>grind
def CJ(u:Nat):(Lib.decDigits u).head?≠some 45:=fun h=>by
 obtain⟨r,e⟩:=uG h;have:=uH u;rw[e,ee]at this;simp[dw]at this
theorem tj(n:Int):(Lib.itoa n).head?=some 45↔n<0:=by
 by_cases h:n<0
 ·obtain⟨u,rfl⟩:∃u:Nat,n= -(u:Int):=⟨n.natAbs,by omega⟩;rw[Lib.itoa_neg u I];simp_all
 simp_all[uI,CJ]
theorem CK{r:ba}(h:Canon r)(h0:dK 0 r=0):r=[48]:=by
 have h1:=kY _ r rfl h;simp_all[Lib.decDigits_one]
theorem CL{r:ba}(h:Canon r)(hl:r.length<=18)(h0:r.head?≠some 48):Lib.atoiAll (45::r)=.ok (-(dK 0 r:Int))/\Lib.itoa (-(dK 0 r:Int))=45::r:=by
 have hp:=qS r 0 0 h.2.2 C I;have hlt:=jF r 0 h.2.2;have hp18:(10:Nat) ^ r.length<=10 ^ 18:=pi C hl;have h18:(10:Nat) ^ 18=1000000000000000000:=by decide
 have hu:1<=dK 0 r:=by
  grind [CK]
 refine⟨?_,?_⟩
 ·rw[Lib.atoiAll_minus];unfold Lib.parseMag;rw[Zm h.1,hp];unfold Lib.signed;grind
 rw[Lib.itoa_neg _ hu,kY _ r rfl h]
theorem og{r:ba}(h:r≠[]):r.head?=some 48↔r.getD 0 0=48:=by
 cases r<;>grind
def uJ{l:ba}{d:Nat}(hd:d<=18):me l true d=eY l d/\(eY l d=true->bp l=de l):=by
 by_cases hh:l.head?=some 45
 ·obtain⟨r,rfl⟩:=uG hh;have e1:eY (45::r) d=(iF r d&&decide (r.getD 0 0≠48)):=Zn hh;have e2:de (45::r)= -(dK 0 r:Int):=Zn hh;have e3:qR (45::r)=r:=Zn hh;rw[e1,e2];have key:iF r d=true->r.getD 0 0≠48->Lib.atoiAll (45::r)=.ok (-(dK 0 r:Int))/\Lib.itoa (-(dK 0 r:Int))=45::r:=fun h h2=>by
   grind [cN,CL,og]
  constructor
  ·rw[wT];unfold me;rw[e3];simp only[Zw,jn,vx,true_and];constructor
   ·rintro⟨_,h2,h3⟩;have hn:bp (45::r)<0:=by
     grind [tj]
    obtain⟨u,hu⟩:∃u:Nat,bp (45::r)= -(u:Int):=⟨(bp (45::r)).natAbs,by omega⟩;rw[hu,Lib.itoa_neg u I,na]at h2;grind [cN,tq,qT,og]
   simp_all[bp,gC,cN]
  simp_all[bp]
 have e1:eY l d=iF l d:=Zm hh;have e2:de l=(dK 0 l:Int):=Zm hh;have e3:qR l=l:=Zm hh;rw[e1,e2];refine⟨?_,yN hd⟩;rw[←tW l hd];grind [me,numOk,tj]
def Gs{l:ba}{d:Nat}(hd:d<=18):me l false d=(eY l d&&decide (0<=de l)):=by
 obtain⟨h1,h2⟩:=uJ (l:=l) hd;grind [me]
theorem Cb{l:ba}{d:Nat}:iE l d=if eY l d=true then(de l,true)else(0,false):=by
 have g:∀(a:Nat)(r:ba),r=l.drop a->(a=0/\¬l.head?=some 45\/a=1/\l.head?=some 45)->pn a l d=if(iF r d&&decide (a=0\/l.getD 1 0≠48))=true then(if a=1 then -(dK 0 r:Int)else(dK 0 r:Int),true)else(0,false):=by
  intro a r hr ha;have hla:a<=l.length:=by
   grind [uG]
  have hrl:r.length=l.length - a:=by simp_all
  have hg0:r≠[]->(r.head?=some 48↔l.getD a 0=48):=fun h=>by
   simp_all
  by_cases hbad:l.length=a\/d<l.length - a\/(l.getD a 0=48/\1<l.length)
  ·rw[pW hbad,Zm];rw[Zw,jn,cN];rintro⟨⟨⟨c1,c2,c3⟩,c4⟩,c5⟩;grind
  by_cases hall:(l.drop a).all dw=true
  ·have hcond:(iF r d&&decide (a=0\/l.getD 1 0≠48))=true:=by
    rw[Zw,jn,cN];have hne:r≠[]:=fun e=>hbad (.inl (by grind))
    refine⟨⟨⟨hne,?_,by simp_all⟩,by omega⟩,?_⟩
    all_goals grind
   simp_all[numG_ok]
  rw[pn,Zm hbad,Zm hall,Zm];rw[Zw,cN];rintro⟨⟨⟨_,_,c3⟩,_⟩,_⟩;grind
 by_cases hh:l.head?=some 45
 ·rw[uM hh,g 1 (l.drop 1) rfl (.inr ⟨rfl,hh⟩)];simp_all[eY,de]
 rw[uN hh,g 0 l rfl (.inl ⟨rfl,hh⟩)];simp_all[eY,de]
end Go.Proofs.YtpbalelbenmmbaaGreatDoor
namespace Go.Proofs.YtpbalelbenmmbaaGreatDoor
open Go.Ab Tryz
def Uz{c:UInt8}:∀{w:ba}(l:ba),c∉w->aj c (w++c::l)=w::aj c l
 |[],l,_=>by rw[pt,aj,Zn rfl]
 |b::w,l,h=>by
  have h1:b≠c:=fun e=>h (e▸dp)
  exact l8 h1 (Uz l fun e=>h (dg _ e))
def VA{c:UInt8}:∀{w:ba},c∉w->aj c w=[w]
 |[],_=>rfl
 |b::w,h=>l8 (fun e=>h (by simp_all)) (VA fun e=>h (dg _ e))
theorem HH(x y:ba)(r:List ba)(sep:ba):Lib.join (x::y::r) sep=x++(sep++Lib.join (y::r) sep):=by
 rfl
def fy{α β:Type}(f:α->Option β):List α->Option (List β)
 |[]=>some []
 |a::l=>match f a with
  |none=>none
  |some b=>(fy f l).map (b:: ·)
section
variable{α β τ:Type}{f:α->Option β}
def EM{L:List α}{i:Nat}{out:List β}{b:β}(hg:fy f L=(fy f (L.drop i)).map (out++ ·))(hi:i<L.length)(hf:f L[i]=some b):fy f L=(fy f (L.drop (i+1))).map ((out++[b])++ ·):=by
 rw[hg,ci hi];simp only[fy,hf];cases fy f (L.drop (i+1))<;>simp
theorem EN{L:List α}{i:Nat}{out:List β}(hg:fy f L=(fy f (L.drop i)).map (out++ ·))(hi:i<L.length)(hf:f L[i]=none):fy f L=none:=by
 grind [List.drop_eq_getElem_cons,fy]
def CM{L:List α}{i:Nat}{out:List β}(hg:fy f L=(fy f (L.drop i)).map (out++ ·))(hi:i=L.length):fy f L=some out:=by
 simp_all[fy]
theorem Y0:∀{l:List α}{bs:List β},fy f l=some bs->bs.length=l.length
 |[],bs,h=>by simp_all[fy]
 |a::l,bs,h=>by
  simp only[fy]at h;split at h
  ·cases h
  rw[mn]at h;obtain⟨r,h1,rfl⟩:=h;rw[ge,ge,Y0 h1]
def W5{step:List β×τ->α->(List β×τ)×Option Code}{upd:τ->β->τ}{bad:List β×τ->Prop}(hs:∀q x b,f x=some b->step q x=((q.1++[b],upd q.2 b),none))(hn:∀q x,f x=none->∃q',step q x=(q',some .ret)/\bad q'):
  ∀(L:List α)(q0:List β×τ),(∀bs,fy f L=some bs->au (Ab.stepG step) (q0,none) L=(((q0.1++bs,bs.foldl upd q0.2),none),true))/\(fy f L=none->∃q',au (Ab.stepG step) (q0,none) L=((q',some .ret),false)/\bad q')
 |[],q0=>⟨fun bs h=>by simp_all[fy,au],fun h=>by cases h⟩
 |a::l,q0=>by
  cases hf:f a with
  |none=>
   obtain⟨q',h1,h2⟩:=hn q0 a hf;simp_all[fy,au,Ab.stepG]
  |some b=>
   have h1:=hs q0 a b hf;obtain⟨e1,e2⟩:=W5 hs hn l (q0.1++[b],upd q0.2 b);have h3:au (Ab.stepG step) (q0,none) (a::l)=au (Ab.stepG step) ((q0.1++[b],upd q0.2 b),none) l:=by
    rw[au,show Ab.stepG step (q0,none) a=(((q0.1++[b],upd q0.2 b),none),true)by simp_all[Ab.stepG],Zn rfl]
   rw[h3];constructor
   ·intro bs h;simp only[fy,hf,mn]at h;grind
   simp_all[fy]
def Ue{step:List β×τ->α->(List β×τ)×Option Code}{upd:τ->β->τ}{bad:List β×τ->Prop}(hs:∀q x b,f x=some b->step q x=((q.1++[b],upd q.2 b),none))(hn:∀q x,f x=none->∃q',step q x=(q',some .ret)/\bad q'){L:List α}{q0 q:List β×τ}
  (h:au (Ab.stepG step) (q0,none) L=((q,none),true)):∃bs,fy f L=some bs/\q=(q0.1++bs,bs.foldl upd q0.2):=by
 obtain⟨e1,e2⟩:=W5 hs hn L q0;cases hg:fy f L<;>grind
def Uh{step:List β×τ->α->(List β×τ)×Option Code}{upd:τ->β->τ}{bad:List β×τ->Prop}(hs:∀q x b,f x=some b->step q x=((q.1++[b],upd q.2 b),none))(hn:∀q x,f x=none->∃q',step q x=(q',some .ret)/\bad q'){L:List α}{q0 q:List β×τ}{cd:Code}
  (h:(au (Ab.stepG step) (q0,none) L).1=(q,some cd)):fy f L=none/\bad q/\cd=.ret:=by
 obtain⟨e1,e2⟩:=W5 hs hn L q0;cases hg:fy f L<;>grind
end
end Go.Proofs.YtpbalelbenmmbaaGreatDoor
namespace Go.Proofs.YtpbalelbenmmbaaGreatDoor
open Go.Ab Tryz
def Xb{a b:Int}(h:a=b):some (X.int .i64 a)=some (X.int .i64 b):=by rw[h]
def Xy(l:bd):(sorted l).Pairwise (fun x y=>x<=y):=by
 have:=At (le:=fun x y:Int=>decide (x<=y)) (by grind) (by grind) l;exact this.imp F
def Vv(l:bd)(g:Int->Bool):(sorted l).countP g=l.countP g:=(rp l _).countP_eq g
def before(l:bd)(x:Int)(i k:Nat):Nat:=(l.take k).countP (fun y=>decide (y<x))+((l.take k).take i).countP fun y=>decide (y=x)
theorem WS{l:bd}{k:Nat}(h:k<l.length)(g:Int->Bool):(l.take (k+1)).countP g=(l.take k).countP g+if g l[k]=true then 1 else 0:=by
 rw[←tF h,ww,List.countP_cons,List.countP_nil,gk]
def T9{l:bd}{i k:Nat}(h:k<l.length)(g:Int->Bool):((l.take (k+1)).take i).countP g=((l.take k).take i).countP g+if k<i/\g l[k]=true then 1 else 0:=by
 rw[List.take_take,List.take_take];by_cases hk:k<i
 ·grind [WS]
 grind
theorem YZ{l:bd}{x:Int}{i k:Nat}(h:k<l.length)(hc:l[k]<x\/(l[k]=x/\k<i)):(before l x i k:Int)+1=before l x i (k+1):=by
 unfold before;rw[WS h,T9 h];grind
theorem WR{l:bd}{x:Int}{i k:Nat}(h:k<l.length)(hc:¬(l[k]<x\/(l[k]=x/\k<i))):(before l x i k:Int)=before l x i (k+1):=by
 unfold before;rw[WS h,T9 h];grind
def O_(l:bd)(x:Int)(i k:Nat):before l x i k<=2 * k:=by
 grind [before,List.length_take]
def UQ(l:bd)(x:Int)(i:Nat):before l x i l.length=l.countP (fun y=>decide (y<x))+(l.take i).countP fun y=>decide (y=x):=by
 unfold before;simp
def Jx{s:bd}(hs:s.Pairwise fun x y=>x<=y){x:Int}{n:Nat}(h1:s.countP (fun y=>decide (y<x))<=n)(h2:n<s.countP (fun y=>decide (y<x))+s.countP fun y=>decide (y=x)):∃h:n<s.length,s[n]=x:=by
 have hle:s.countP (fun y=>decide (y<x))+s.countP (fun y=>decide (y=x))=s.countP fun y=>decide (y<=x):=by
  clear h1 h2 hs
  induction s<;>grind
 rw[hle]at h2;have hn:n<s.length:=dl h2 List.countP_le_length;refine⟨hn,?_⟩;have hp:=rl.1 hs;rcases Int.lt_trichotomy s[n] x with h|h|h
 ·exfalso;have e:(s.take (n+1)).countP (fun y=>decide (y<x))=(s.take (n+1)).length:=by
   rw[Ha];intro y hy;obtain⟨j,hj,rfl⟩:=ip hy;grind
  grind [List.take_append_drop]
 ·exact h
 exfalso;have e:(s.drop n).countP (fun y=>decide (y<=x))=0:=by
  rw[IR];intro y hy;obtain⟨j,hj,rfl⟩:=ip hy;rw[mp]at hj;rw[List.getElem_drop,jn];rcases wx j with h3|h3
  ·simp_all
  grind
 have h4:=ww (p:=fun y=>decide (y<=x)) (l₁:=s.take n) (l₂:=s.drop n);grind [List.take_append_drop]
def JH{l:bd}{i:Nat}(h:i<l.length):(l.take i).countP (fun y=>decide (y=l[i]))<l.countP fun y=>decide (y=l[i]):=by
 have h1:=WS h fun y=>decide (y=l[i])
 rw[Zn F]at h1;grind [List.take_append_drop]
def O8{l:bd}{i n:Nat}(h:i<l.length)(hn:before l l[i] i l.length=n):∃h:n<(sorted l).length,(sorted l)[n]=l[i]:=by
 rw[UQ]at hn;have:=JH h;refine Jx (Xy l) ?_ ?_<;>simp only[Vv]<;>omega
def Rn(x:Int):∀(l:bd)(j:Nat),j<l.countP (fun y=>decide (y=x))->∃i,∃h:i<l.length,l[i]=x/\(l.take i).countP (fun y=>decide (y=x))=j
 |[],j,h=>by simp at h
 |a::l,j,h=>by
  rw[List.countP_cons]at h;by_cases ha:a=x
  ·cases j with
   |zero=>exact⟨0,by simp,ha,rfl⟩
   |succ j=>
    rw[Zn (Zz ha)]at h;obtain⟨i,hi,e1,e2⟩:=Rn x l j I;exact⟨i+1,by grind,by grind,by simp_all⟩
  rw[Zm (by grind)]at h;obtain⟨i,hi,e1,e2⟩:=Rn x l j I;exact⟨i+1,by grind,by grind,by simp_all⟩
def LD{s:bd}(hs:s.Pairwise fun x y=>x<=y){n:Nat}(h:n<s.length):s.countP (fun y=>decide (y<s[n]))<=n/\n<s.countP fun y=>decide (y<=s[n]):=by
 have hp:=rl.1 hs;constructor
 ·have e:(s.drop n).countP (fun y=>decide (y<s[n]))=0:=by
   rw[IR];intro y hy;obtain⟨j,hj,rfl⟩:=ip hy;rw[mp]at hj;rw[List.getElem_drop,jn];rcases wx j with h3|h3
   all_goals simp_all
  have h4:=ww (p:=fun y=>decide (y<s[n])) (l₁:=s.take n) (l₂:=s.drop n);grind [List.take_append_drop]
 have e:(s.take (n+1)).countP (fun y=>decide (y<=s[n]))=(s.take (n+1)).length:=by
  rw[Ha];intro y hy;obtain⟨j,hj,rfl⟩:=ip hy;grind
 grind [List.take_append_drop]
def Pa(s:bd)(x:Int):s.countP (fun y=>decide (y<x))+s.countP (fun y=>decide (y=x))=s.countP fun y=>decide (y<=x):=by
 induction s<;>grind
def O9{l:bd}{n:Nat}(h:n<l.length):∃i,∃h:i<l.length,before l l[i] i l.length=n:=by
 have hs:n<(sorted l).length:=by rw[Vx];exact h
 obtain⟨h1,h2⟩:=LD (Xy l) hs;generalize (sorted l)[n]=x at h1 h2;rw[Vv]at h1 h2;have h3:=Pa l x;obtain⟨i,hi,e1,e2⟩:=Rn x l (n - l.countP fun y=>decide (y<x)) I;refine⟨i,hi,?_⟩;simp_all[UQ]
structure xz where
 records:List aX
 trim:Int
def Wi{l:bd}{n:Int}(hl:l.length<=100000)(hn:0<=n/\n<l.length):Ct prog 206 [ints l,bv n] (bv ((sorted l).getD n.toNat 0)):=by
 refine cI func206 O (ro 12 O ?_);refine OK.loop (G:=Nat) [] (fun i=>[(0,ints l),(1,bv n),(5,bv i)]) (fun i=>i<=l.length/\∀(j:Nat)(h:j<l.length),j<i->(before l l[j] j l.length:Int)≠n) (fun i=>l.length - i) 0 ⟨Zr _,fun j _ h=>by omega⟩ ⟨O,O,O,Zo⟩ (fun _=>O) ?_;rintro i ⟨hi,hg⟩;refine ro 5 O (kc (zk Z4 O) (rr 3 O (kB O (fun c11=>?_) (fun c11=>?_))))
 ·refine ro 16 O ?_;refine OK.loop (G:=Nat) [] (fun k=>[(0,ints l),(1,bv n),(5,bv i),(6,bv (before l l[i] i k)),(7,bv k)]) (fun k=>k<=l.length) (fun k=>l.length - k) 0 (Zr _) ⟨O,O,O,(Xb (by simp[before])),O,Zo⟩ (fun _=>O) ?_;rintro k hk;refine ro 5 O (kc (zk Z4 O) (rr 3 O (kB O (fun c17=>?_) (fun c17=>?_))))
  ·have hbl:=O_ l l[i] i k;refine ro 5 O ?_;by_cases g29:l[k]<l[i]
   ·refine kV (.c (zm O) (.c (zm O) (.c (zI Z4 O I O) (.c (zV Z8 O O) (.c (zm O) (.c (zm O) (.c (zI Z4 O I O) (.c (zV Z8 O O) (.c (S.lss .none O (zt O) (zt O)) (.c (zm O) (.c (zG O (by simp_all)) (.c (zG O (by simp_all)) (.c (zG O (by simp_all)) (.c (zG O (by simp_all)) (.c (zG O (by simp_all)) (.c (zG O (by simp_all)) (.c (zG O (by simp_all)) (.c (zG O (by simp_all)) (.c (zG O (by simp_all)) (.c (zG O (by simp_all)) (.c (zu O) (.c (zu O) (.c (zu O) (.c (zG O (by simp_all)) (.c (S.aQ .none O (zt O) .aJ (by simp_all)) .nil))))))))))))))))))))))))) ?_;refine Rd 14 O I ?_;refine Ab.D.lp ⟨k+1,I,I,O,O,O,(Xb (by grind [YZ])),O,Zo⟩
   by_cases g39:l[k]=l[i]
   ·refine kV (.c (zm O) (.c (zm O) (.c (zI Z4 O I O) (.c (zV Z8 O O) (.c (zm O) (.c (zm O) (.c (zI Z4 O I O) (.c (zV Z8 O O) (.c (S.lss .none O (zt O) (zt O)) (.c (zm O) (.c (S.move (.yes O O O (by simp_all)) O (zt O)) (.c (S.move (.yes O O O (by simp_all)) O (zt O)) (.c (S.aP Z4 (.yes O O O (by simp_all)) O (zt O) (zt O) O I O) (.c (S.Hz Z8 (.yes O O O (by simp_all)) O (zt O) O) (.c (S.move (.yes O O O (by simp_all)) O (zt O)) (.c (S.move (.yes O O O (by simp_all)) O (zt O)) (.c (S.aP Z4 (.yes O O O (by simp_all)) O (zt O) (zt O) O I O) (.c (S.Hz Z8 (.yes O O O (by simp_all)) O (zt O) O) (.c (S.eql (.yes O O O (by simp_all)) O (zt O) (zt O)) (.c (S.move (.yes O O O (by simp_all)) O (zt O)) (.c (S.move (.yes O O O (by simp_all)) O (zt O)) (.c (S.move (.yes O O O (by simp_all)) O (zt O)) (.c (S.lss (.yes O O O (by simp_all)) O (zt O) (zt O)) (.c (S.aQ (.yes O O O (by simp_all)) O (zt O) (zt O) (by simp_all)) (.c (S.aO .none O (zt O) (zt O) (by simp_all)) .nil))))))))))))))))))))))))) ?_;refine Ab.D.code (kB O (fun c44=>?_) (fun c44=>?_))
    ·refine Ro 12 O I ?_;refine Ab.D.lp ⟨k+1,I,I,O,O,O,(Xb (by grind [YZ])),O,Zo⟩
    refine Ro 8 O I ?_;refine Ab.D.lp ⟨k+1,I,I,O,O,O,(Xb (by grind [WR])),O,Zo⟩
   refine kV (.c (zm O) (.c (zm O) (.c (zI Z4 O I O) (.c (zV Z8 O O) (.c (zm O) (.c (zm O) (.c (zI Z4 O I O) (.c (zV Z8 O O) (.c (S.lss .none O (zt O) (zt O)) (.c (zm O) (.c (S.move (.yes O O O (by simp_all)) O (zt O)) (.c (S.move (.yes O O O (by simp_all)) O (zt O)) (.c (S.aP Z4 (.yes O O O (by simp_all)) O (zt O) (zt O) O I O) (.c (S.Hz Z8 (.yes O O O (by simp_all)) O (zt O) O) (.c (S.move (.yes O O O (by simp_all)) O (zt O)) (.c (S.move (.yes O O O (by simp_all)) O (zt O)) (.c (S.aP Z4 (.yes O O O (by simp_all)) O (zt O) (zt O) O I O) (.c (S.Hz Z8 (.yes O O O (by simp_all)) O (zt O) O) (.c (S.eql (.yes O O O (by simp_all)) O (zt O) (zt O)) (.c (S.move (.yes O O O (by simp_all)) O (zt O)) (.c (zG O (by simp_all)) (.c (zG O (by simp_all)) (.c (zG O (by simp_all)) (.c (S.aO (.yes O O O (by simp_all)) O (zt O) .aJ (by simp_all)) (.c (S.aO .none O (zt O) (zt O) (by simp_all)) .nil))))))))))))))))))))))))) ?_;refine Rd 10 O I ?_;refine Ab.D.lp ⟨k+1,I,I,O,O,O,(Xb (by grind [WR])),O,Zo⟩
  refine ro 9 O (kB O (fun c49=>?_) (fun c49=>?_))
  ·have hkl:k=l.length:=by omega
   subst hkl;obtain⟨hm,em⟩:=O8 (n:=n.toNat) I (show before l l[i] i l.length=n.toNat by omega);refine ro 4 O (kc (zI Z4 O I O) ?_);refine rr 4 O (kR O O ?_);simp_all
  refine Ro 8 O I (Ab.D.lp ⟨i+1,⟨by omega,?_⟩,I,O,O,O,Zo⟩);grind
 refine ro 7 O (kR O O ?_);exfalso;obtain⟨j,hj,e⟩:=O9 (l:=l) (n:=n.toNat) I;grind
def TL{p:bC}{l:List aX}{trim:Int}(hp:bA p=0)(hl:1<=l.length/\l.length<=1000)(hw:yA p l)(ht:0<=trim/\2 * trim<=l.length - 1):Ct prog 139 [.agg p.cs,.sl (l.map aX.cs),bv trim] (.agg (G6 p l trim).cs):=by
 refine cI func139 O fun{_ _}=>?_
 have hpp:=jc hp;refine ro 9 O (kc (zk YC O) (jm O (kc (zU M8 O O) (rr 11 O (OK.nP 7 2 900 1 O O O O O ?_)))));refine OK.loop (G:=Nat) [3,6,7,900] (fun i=>[(1,.sl (l.map aX.cs)),(2,bv trim),(3,.ptr 3 0),(1003,.box p.cs),(6,.ptr 6 0),(1006,.box [bv 0,bv 0,.bO]),(7,.ptr 7 0),(1007,.box [bv l.length,bv trim,.own 900 i]),(2900,.arr 1 ((List.range i).map (fun t=>[X.sl ((D6 p l trim t).map Range.cs)]))),(8,bv i)]) (fun i=>(i:Int)<=p.aR) (fun i=>p.aR.toNat - i) 0 I ⟨O,O,O,O,O,O,O,O,(bH (by rfl)),O,Zo⟩ (fun _=>O) ?_;rintro i hi;refine ro 9 O (kB O (fun c20=>?_) (fun c20=>?_))
 ·refine ro 6 O (RK.c (S.iI (k:=9) (sz:=2) .none O) (rr 9 O ?_));refine OK.loop (G:=Nat) [3,6,7,900,9] (fun c=>[(1,.sl (l.map aX.cs)),(2,bv trim),(3,.ptr 3 0),(1003,.box p.cs),(6,.ptr 6 0),(1006,.box [bv 0,bv 0,.bO]),(7,.ptr 7 0),(1007,.box [bv l.length,bv trim,.own 900 i]),(2900,.arr 1 ((List.range i).map (fun t=>[X.sl ((D6 p l trim t).map Range.cs)]))),(8,bv i),(9,.own 9 c),(2009,.arr 2 ((List.range c).map fun c=>(rN l trim i c).cs)),(10,bv c)]) (fun c=>c<=p.aq.length) (fun c=>p.aq.length - c) 0 (Zr _) ⟨O,O,O,O,O,O,O,O,(bH (by rfl)),O,(cw I),(bH (by rfl)),O,Zo⟩ (fun _=>O) ?_;rintro c hc;refine ro 6 O (kc (zk Z9 O) (rr 3 O (kB O (fun c27=>?_) (fun c27=>?_))))
  ·refine ro 6 O (RK.c (S.iI (k:=11) (sz:=1) .none O) (rr 9 O ?_));refine OK.loop (G:=Nat) [3,6,7,900,9,11] (fun k=>[(1,.sl (l.map aX.cs)),(2,bv trim),(3,.ptr 3 0),(1003,.box p.cs),(6,.ptr 6 0),(1006,.box [bv 0,bv 0,.bO]),(7,.ptr 7 0),(1007,.box [bv l.length,bv trim,.own 900 i]),(2900,.arr 1 ((List.range i).map (fun t=>[X.sl ((D6 p l trim t).map Range.cs)]))),(8,bv i),(9,.own 9 c),(2009,.arr 2 ((List.range c).map fun c=>(rN l trim i c).cs)),(10,bv c),(11,.own 11 k),(2011,.arr 1 ((col (l.take k) i c).map fun n=>[bv n])),(12,bv k)]) (fun k=>k<=l.length) (fun k=>l.length - k) 0 (Zr _) ⟨O,O,O,O,O,O,O,O,(bH (by rfl)),O,(cw I),(bH (by rfl)),O,(cw I),(bH (by rfl)),O,Zo⟩ (fun _=>O) ?_;rintro k hk;refine ro 5 O (kc (zk YC O) (rr 3 O (kB O (fun c33=>?_) (fun c33=>?_))))
   ·have h1:i<l[k].rows.length:=by have:=hw.rows k I;omega
    have h2:c<l[k].rows[i].values.length:=by have:=hw.vals k I i h1;omega
    refine ro 8 O (kc (zI YC O I O) ?_);refine rr 3 O (kc (zI Zj O h1 O) (rr 3 O (kc (zI Z4 O h2 O) (kc (zV Z8 O O) ?_))));refine RK.c (zM [[_]] ZY O O O O) (kc (zP ZY O O (by simp_all[qd]) (by rfl) I (by grind [maxLen])) ?_);refine Rr 9 O I ?_;refine Ab.D.lp ⟨k+1,I,I,O,O,O,O,O,O,O,O,(bH (by rfl)),O,(cw I),(bH (by rfl)),O,(cw I),(bH (by grind [D7])),O,Zo⟩
   have hkl:k=l.length:=by omega
   subst hkl;refine OK.exit O (Ab.D.code ?_);rw[fp]at *;have hcl:=qd l i c;have hrange:rN l trim i c=⟨(sorted (col l i c)).getD trim.toNat 0,(sorted (col l i c)).getD ((l.length:Int) - 1 - trim).toNat 0⟩:=by
    rw[rN,show((l.length:Int) - 1 - trim).toNat=l.length - 1 - trim.toNat by omega]
   refine OK.freeze 11 O O O (by simp_all) ?_;refine ro 4 O (kc (zK (Wi (l:=col l i c) (n:=trim) I I) call206 O) (jm O (jm O (kc (zk YC O) ?_))));refine Rr 3 O I (kc (zK (Wi (l:=col l i c) (n:=(l.length:Int) - 1 - trim) I I) call206 O) (kc (zU M6 O O) ?_));refine RK.c (zM [[_,_]] TZ O O O O) (kc (zP TZ O O F (by rfl) I (by grind [maxLen])) ?_);refine Rr 9 O I ?_;refine Ab.D.lp ⟨c+1,I,I,O,O,O,O,O,O,O,O,(bH (by rfl)),O,(cw I),(bH (by rw[tp,dE,fw,hrange];rfl)),O,Zo⟩
  refine OK.exit O (Ab.D.code (OK.freeze 9 O O O F ?_));refine ro 4 O ?_;refine RK.c (zM [[_]] O4 O O O O) (kc (zP O4 O O F (by rfl) I (by grind [maxLen])) ?_);refine Rr 10 O I ?_;refine Ab.D.lp ⟨i+1,I,I,O,O,O,O,O,O,O,O,(bH (by rw[show c=p.aq.length by omega,tp,dE];simp[D6])),O,Zo⟩
 refine ro 8 O ?_;refine OK.ret (aA.r1 (.bG O O O O WM O (.k (.same O) (.k (.same O) (.k (.own O O F) .z)))) ?_);rw[show i=p.aR.toNat by omega,G6,Envelope.cs,rn];rfl
end Go.Proofs.YtpbalelbenmmbaaGreatDoor
namespace Go.Proofs.YtpbalelbenmmbaaGreatDoor
open Go.Ab Tryz
def Fm{L:List bW}{q:Bool}(h:au (Ab.stepG (fun(_:Bool)(_:bW)=>(true,some Code.ret))) (false,none) L=((q,none),true)):L=[]/\q=false:=by
 cases L with
 |nil=>simp only[au,qD]at h;simp_all
 |cons d L=>simp[au,Ab.stepG]at h
def Fo{L:List bW}{q:Bool}{cd:Code}(h:(au (Ab.stepG (fun(_:Bool)(_:bW)=>(true,some Code.ret))) (false,none) L).1=(q,some cd)):L≠[]/\q=true/\cd=.ret:=by
 cases L with
 |nil=>simp[au]at h
 |cons d L=>
  simp_all[au,Ab.stepG]
def oX(x:Envelope)(r:aX):Int:=if(v7 x r).length≠0 then 2 else if(wB r).length≠0 then 1 else 0
def Ju(x:Envelope):Prop:=∀(i:Nat)(h:i<x.rows.length)(j:Nat)(h2:j<x.rows[i].length),x.rows[i][j].lo<=x.rows[i][j].hi
def JK{t:Nat}{rs:List Range}{c:Nat}{n:Int}(h:c<rs.length)(ho:rs[c].lo<=rs[c].hi)(hn:n>rs[c].hi):xN t rs c n=[⟨t,c,n - rs[c].hi⟩]:=by
 have e:iq n rs[c]=n - rs[c].hi:=by
  unfold iq;omega
 unfold xN;grind
def JM{t:Nat}{rs:List Range}{c:Nat}{n:Int}(h:c<rs.length)(ho:rs[c].lo<=rs[c].hi)(hn:n<rs[c].lo):xN t rs c n=[⟨t,c,n - rs[c].lo⟩]:=by
 have e:iq n rs[c]=n - rs[c].lo:=by
  unfold iq;omega
 unfold xN;grind
theorem JL{t:Nat}{rs:List Range}{c:Nat}{n:Int}(h:c<rs.length)(h1:¬n>rs[c].hi)(h2:¬n<rs[c].lo):xN t rs c n=[]:=by
 simp_all[iq,Zm,xN]
def Qb{D out rest more tail:List bW}(h:D=out++(more++rest++tail)):D=(out++more)++(rest++tail):=by rw[h];simp
def Mn{D out tail:List bW}(h:D=out++tail)(hD:D.length<=100000):out.length<=100000:=by
 grind
def LN{p:bC}{x:Envelope}(h:(ki p x).2=0):Ju x:=fun i hi j hj=>(Cj (((Ck h).2.2.2 i hi).2 j hj)).2
def PS{t n:Int}(h:eL t n≠0):eL t n=2:=by
 unfold eL at *;omega
def vj{x:Envelope}{r:aX}(hf:Gb x r)(hrl:r.rows.length<=100000)(hvl:∀(i:Nat)(h:i<r.rows.length),r.rows[i].values.length<=100000):Ct prog 231 [.agg x.cs,.agg r.cs] (.bool (decide ((v7 x r).length≠0))):=by
 refine cI func231 O (ro 12 O (kc (zK qC call279 O) (rr 3 O ?_)));refine OK.rangeFunc (ps:=[8]) (encs:=(fun d=>[.agg (bW.cs d)])) (L:=(v7 x r)) [4] [(4,.ptr 4 0)] (fun q=>[(1004,.box [.bool q])]) false (fun(_:Bool)(_:bW)=>(true,some Code.ret)) ((fun J g s0 Φ hst hcb=>Ar hf hrl hvl J g s0 Φ hst hcb)) call327 (.inl O) (zt O) O O ⟨O,O,Zo⟩ (fun _=>O) (fun _=>O) (fun _=>O) (fun _=>O) (fun _=>O) C O ?_ ?_ ?_
 ·rintro i x q hx hq lr c0 w0 p1 p2 hR1 hR2;refine OK.Hj ?_;refine⟨rfl,?_⟩;refine ro 6 O (OK.ret ?_);exact⟨rfl,rfl,Zo⟩
 ·rintro q hq;obtain⟨hL,hq0⟩:=Fm hq;subst hq0;refine rd 7 O (OK.ret (aA.r1 (.wI O O O O SP (.same O) O) ?_));grind
 rintro q cd hq;obtain⟨hL,hq1,hcd⟩:=Fo hq;subst hq1;subst hcd;refine OK.ret (aA.r1 (.wI O O O O SP (.same O) O) ?_);simp_all
def sw{p:bC}{x:Envelope}{r:aX}:Ct prog 176 [.agg p.cs,.agg x.cs,.agg r.cs] (.cf [bv (if dZ p x r=0 then oX x r else 0),bv (dZ p x r)]):=by
 refine cI func176 O (ro 15 O (kc (zK vl call230 O) (rr 9 O (kB O (fun c14=>?_) (fun c14=>?_)))))
 ·refine ro 7 O (kS O O O O ?_);simp_all
 have he:dZ p x r=0:=by omega
 have hb:=ED he;have hbr:=hb.rows;refine ro 8 O ?_;refine kc (zK (vj hb.fit I (fun i h=>by have:=hb.vals i h;omega)) call231 O) ?_;refine rr 3 O (OK.cond O O (fun c16=>?_) (fun c16=>?_))
 ·refine ro 6 O (kS O O O O ?_);simp_all[oX]
 refine ro 3 O (kc (zK (wD I) call232 O) (kc (zk Z4 O) ?_));refine rr 4 O (kB O (fun c20=>?_) (fun c20=>?_))
 ·refine ro 6 O (kS O O O O ?_);rw[Zn he,he,oX,Zm (ln c16),Zn I]
 refine ro 9 O (kS O O O O ?_);simp_all[oX]
def V0{l:List Range}(hlen:l.length<=100000):Ct prog 249 [.sl (l.map Range.cs)] (.sl (l.map Range.cs)):=by
 refine cI func249 O (kr (kc (S.assign .none O .fW) (rr 4 O (RK.c (zM [] TZ O O O O) (jm O ?_)))));refine RK.c (S.mQ TZ .none O (zt O) O (by rfl) (zt O) (by intro q hq;obtain⟨b,_,rfl⟩:=eI.1 hq;rfl) O (by grind) (by grind [maxLen])) ?_;refine rr 3 O ?_;refine OK.ret (aA.r1 (.tmp O O (.c (.own O O F) O) O) ?_);rfl
def WI{x:Envelope}(hlen:x.rows.length<=100000)(hvl:∀(i:Nat)(h:i<x.rows.length),x.rows[i].length<=100000):Ct prog 194 [.agg x.cs] (.agg x.cs):=by
 refine cI func194 O (ro 12 O (kc (zU M8 O O) (rr 11 O (OK.nP 3 2 890 1 O O O O O ?_))));refine OK.loop (G:=Nat) [1,2,3,890] (fun i=>[(1,.ptr 1 0),(1001,.box x.cs),(2,.ptr 2 0),(1002,.box [bv 0,bv 0,.bO]),(3,.ptr 3 0),(1003,.box [bv x.parts,bv x.trim,.own 890 i]),(2890,.arr 1 ((x.rows.take i).map (fun l=>[X.sl (l.map Range.cs)]))),(4,bv i)]) (fun i=>i<=x.rows.length) (fun i=>x.rows.length - i) 0 (Zr _) ⟨O,O,O,O,O,O,(bH (by rfl)),O,Zo⟩ (fun _=>O) ?_;rintro i hi;refine ro 6 O (kc (zk SI O) (rr 3 O (kB O (fun c14=>?_) (fun c14=>?_))))
 ·have hvli:=hvl i I;refine ro 4 O ?_;refine kV (.c (zf Ww O) (.c (zl PR O O O O) (.c (zf Ww O) (.c (zl PR O O O O) (.c (zm O) (.c (zI SI O I O) (.c (zV OW O O) (.c (zK (V0 (l:=x.rows[i]) hvli) call249 O) (.c (zM [[_]] O4 O O O O) (.c (zP O4 O O (by simp_all) (by rfl) I (by grind [maxLen])) (.c (zf Ww O) (.c (zS PR O O O O O O) .nil)))))))))))) ?_;refine Rd 7 O I ?_;refine Ab.D.lp ⟨i+1,I,I,O,O,O,O,O,O,(bH (by grind [tF])),O,Zo⟩
 refine ro 8 O ?_;refine OK.ret (aA.r1 (.bG O O O O WM O (.k (.same O) (.k (.same O) (.k (.own O O (by simp_all)) .z)))) ?_);rw[show i=x.rows.length by omega,fp];rfl
def Vm{x:Envelope}{r:aX}(hf:Gb x r)(hrl:r.rows.length<=100000)(hvl:∀(i:Nat)(h:i<r.rows.length),r.rows[i].values.length<=100000)(ho:Ju x)(hD:(v7 x r).length<=100000):Ct prog 251 [.agg x.cs,.agg r.cs] (devs (v7 x r)):=by
 refine cI func251 O (ro 4 O (kc (S.assign .none O .fW) (rr 4 O (RK.c (S.iI (k:=5) (sz:=3) .none O) (rr 9 O ?_)))));refine OK.mP [2,3,5] (fun(i:Nat)(out:List bW)=>[(2,.ptr 2 0),(1002,.box x.cs),(3,.ptr 3 0),(1003,.box r.cs),(5,.own 5 out.length),(2005,.arr 3 (out.map bW.cs)),(6,bv i)]) (fun i out=>i<=r.rows.length/\v7 x r=out++mT x i (r.rows.drop i)) (fun i out=>r.rows.length - i) (0) ([]) ⟨Zr _,O⟩ ⟨O,O,O,O,(cw (by rfl)),(bH (by rfl)),O,Zo⟩ (fun _ _=>O) ?_;rintro i out ⟨hi,hg⟩;refine ro 6 O (kc (zk Zj O) (rr 3 O (kB O (fun c14=>?_) (fun c14=>?_))))
 ·refine ro 10 O ?_;refine OK.mP [2,3,5] (fun(j:Nat)(out2:List bW)=>[(2,.ptr 2 0),(1002,.box x.cs),(3,.ptr 3 0),(1003,.box r.cs),(5,.own 5 out2.length),(2005,.arr 3 (out2.map bW.cs)),(6,bv i),(7,bv j)]) (fun j out2=>j<=r.rows[i].values.length/\v7 x r=out2++(iJ i (x.rows.getD i []) j (r.rows[i].values.drop j)++mT x (i+1) (r.rows.drop (i+1)))) (fun j out2=>r.rows[i].values.length - j) (0) (out) ⟨Zr _,by grind [xO]⟩ ⟨O,O,O,O,(cw I),(bH (by rfl)),O,O,Zo⟩ (fun _ _=>O) ?_;rintro j out2 ⟨hj,hg2⟩;refine ro 7 O (kc (zI Zj O I O) ?_);refine rr 2 O (kc (zk Z4 O) (rr 3 O (kB O (fun c25=>?_) (fun c25=>?_))))
  ·have hx:=hf.rows i I;have hxc:=hf.IQ i I hx j I;have hval:=hf.val i I j I;have hrng:=hf.Jk i hx j hxc;have hord:=ho i hx j hxc;have hol:=Mn hg2 hD;have hvli:=hvl i I;refine ro 5 O (kV (.c (zf Ql O) (.c (zl OU O O O O) (.c (zm O) (.c (zI Zj O I O) (.c (S.field Ti .none O (zt O) O) (.c (zV ZA O O) (.c (zm O) (.c (zI Z4 O I O) (.c (zV Z8 O O) (.c (zf Ww O) (.c (zl PR O O O O) (.c (zm O) (.c (zI SI O hx O) (.c (zV OW O O) (.c (zm O) (.c (zI SF O hxc O) (.c (S.fG MN .none O (zt O) O O) (.c (zA (c:=9) GB O) (.c (za O) (.c (zS MN O O O O O O) .nil)))))))))))))))))))) ?_);refine rd 10 O (kB O (fun c48=>?_) (fun c48=>?_))
   ·refine Ro 8 O I (kc (zU P6 O O) ?_);refine RK.c (zM [[_,_,_]] T3 O O O O) (kc (zP T3 O O F (by rfl) I (by grind [maxLen])) ?_);refine rr 11 O (kB O (fun c62=>?_) (fun c62=>?_))
    ·omega
    refine Ro 8 O I ?_;refine Ab.D.lp ⟨j+1,out2++[⟨i,j,r.rows[i].values[j] - x.rows[i][j].hi⟩],⟨by omega,?_⟩,I,O,O,O,O,(cw N),(bH (by first|rfl|(rw[dE];rfl)|(rw[dE,dE];rfl))),O,O,Zo⟩;rw[v8 I,getD_at hx,JK hxc hord c48]at hg2;simp_all
   refine ro 10 O (kB O (fun c62=>?_) (fun c62=>?_))
   ·refine Ro 8 O I (kc (zU P6 O O) ?_);refine RK.c (zM [[_,_,_]] T3 O O O O) (kc (zP T3 O O F (by rfl) I (by grind [maxLen])) ?_);refine Rr 9 O I ?_;refine Ab.D.lp ⟨j+1,out2++[⟨i,j,r.rows[i].values[j] - x.rows[i][j].lo⟩],⟨by omega,?_⟩,I,O,O,O,O,(cw N),(bH (by first|rfl|(rw[dE];rfl)|(rw[dE,dE];rfl))),O,O,Zo⟩;rw[v8 I,getD_at hx,JM hxc hord c62]at hg2;simp_all
   refine Ro 8 O I ?_;refine Ab.D.lp ⟨j+1,out2,⟨by omega,?_⟩,I,O,O,O,O,(cw I),(bH (by rfl)),O,O,Zo⟩;grind [v8,JL]
  refine Ro 8 O I ?_;refine Ab.D.lp ⟨i+1,out2,⟨by omega,?_⟩,I,O,O,O,O,(cw I),(bH (by rfl)),O,Zo⟩;rw[hg2,show j=r.rows[i].values.length by omega,co];rfl
 refine ro 8 O ?_;refine OK.ret (aA.r1 (.tmp O O (.c (.own O O F) O) O) ?_);rw[hg,show i=r.rows.length by omega,co,mT,lw];rfl
def Sn{x:Envelope}{r:aX}(hf:Gb x r)(hrl:r.rows.length<=100000)(hvl:∀(i:Nat)(h:i<r.rows.length),r.rows[i].values.length<=100000)(ho:Ju x)(hD:(v7 x r).length<=100000):Ct prog 199 [.agg x.cs,.agg r.cs] (bv (oX x r)):=by
 refine cI func199 O (ro 13 O (kc (zK (Vm hf hrl hvl ho hD) call251 O) (kc (zk si355 O) (rr 4 O (kB O (fun c5=>?_) (fun c5=>?_))))))
 ·refine ro 5 O (kR O O ?_);refine cy ?_;rw[oX,Zn I]
 refine ro 3 O (kc (zK (Ox I) call252 O) (kc (zk Z4 O) ?_));refine rr 4 O (kB O (fun c11=>?_) (fun c11=>?_))
 ·refine ro 5 O (kR O O ?_);refine cy ?_;rw[oX,Zm I,Zn I]
 refine ro 8 O (kR O O ?_);simp_all[oX]
end Go.Proofs.YtpbalelbenmmbaaGreatDoor
namespace Go.Proofs.YtpbalelbenmmbaaGreatDoor
open Go.Ab Tryz
def Sb{p:bC}{l:List aX}(h:kU p l=0):(1<=l.length/\l.length<=20)/\∀(k:Nat)(hk:k<l.length),(gB p l[k]).2=0/\(wB l[k]).length=0:=by
 grind [kU,fX,jg]
def Yx{α:Type}(g:Nat->α->Int):∀(l:List α)(i:Nat),(∀(j:Nat)(h:j<l.length),g (i+j) l[j]=0)->aK g i l=(0,0)
 |[],_,_=>rfl
 |x::l,i,h=>by
  have h0:=h 0 F;simp only[po,ib]at h0;rw[aK,Zm I];refine Yx g l (i+1) fun j hj=>?_
  have:=h (j+1) (by grind);grind
def LH{l:List aX}{t c k:Nat}(hk:k<l.length)(h1:t<l[k].rows.length)(h2:c<l[k].rows[t].values.length):(col l t c)[k]'(by rw[qd];exact hk)=l[k].rows[t].values[c]:=by
 simp_all[col]
structure SZ(p:bC)(l:List aX):Prop where
 aS:bA p=0
 len:1<=l.length/\l.length<=20
 chk:∀(k:Nat)(hk:k<l.length),(gB p l[k]).2=0/\(wB l[k]).length=0
 whole:yA p l
def NI{p:bC}{l:List aX}(hp:bA p=0)(h:kU p l=0):SZ p l:=⟨hp,(Sb h).1,(Sb h).2,D5 h⟩
def LI{p:bC}{l:List aX}(h:SZ p l){t c:Nat}(ht:(t:Int)<p.aR)(hc:c<p.aq.length):∀v∈col l t c, -1000000<=v/\v<=1000000:=by
 intro v hv;obtain⟨k,hk,rfl⟩:=ip hv;rw[qd]at hk;have h1:t<l[k].rows.length:=by have:=h.whole.rows k hk;omega
 have h2:c<l[k].rows[t].values.length:=by have:=h.whole.vals k hk t h1;omega
 rw[LH hk h1 h2];exact(Cm ((Cl (h.chk k hk).1).2 t h1)).2.2 c h2
def Vy{p:bC}{l:List aX}(h:SZ p l){t c n:Nat}(ht:(t:Int)<p.aR)(hc:c<p.aq.length)(hn:n<(sorted (col l t c)).length): -1000000<=(sorted (col l t c))[n]/\(sorted (col l t c))[n]<=1000000:=
 LI h ht hc _ ((rp (col l t c) _).mem_iff.1 (Zt hn))
def Jy{s:bd}(hs:s.Pairwise fun x y=>x<=y){i j:Nat}(h:i<=j)(hj:j<s.length):s[i]<=s[j]:=by
 rcases mx i j with h1|h1
 ·simp_all[rl]
 grind
def Mz{p:bC}{l:List aX}{trim:Int}{t c:Nat}(hc:c<(D6 p l trim t).length):(D6 p l trim t)[c]=rN l trim t c:=by
 simp[D6]
def QC(p:bC)(l:List aX)(trim:Int)(t:Nat):(D6 p l trim t).length=p.aq.length:=by simp[D6]
def LM{p:bC}{l:List aX}{trim:Int}{t:Nat}(ht:t<(G6 p l trim).rows.length):(G6 p l trim).rows[t]=D6 p l trim t:=by
 simp[G6]
theorem S9(p:bC)(l:List aX)(trim:Int):(G6 p l trim).rows.length=p.aR.toNat:=by simp[G6]
def R1{p:bC}{l:List aX}{trim:Int}(h:SZ p l)(ht:eL trim l.length=0):ki p (G6 p l trim)=(0,0):=by
 have hl:=h.len;have hp:=jc h.aS;have htr:=tg I ht;have e1:(G6 p l trim).parts=l.length:=rfl;have e2:(G6 p l trim).trim=trim:=rfl;unfold ki;rw[e1,e2,Zm I,Zm I,S9,Zm I];refine Yx _ _ 0 fun t htl=>?_
 rw[LM htl];rw[S9]at htl;unfold jB;rw[QC,Zm I];have:aK (fun _ x=>gu x) 0 (D6 p l trim t)=(0,0):=by
  refine Yx _ _ 0 fun c hc=>?_
  show gu _=0;rw[Mz hc];rw[QC]at hc;have hcl:=qd l t c;have hsl:=Vx (col l t c);have v1:=Vy h (show(t:Int)<p.aR by omega) hc (show trim.toNat<_ by omega);have v2:=Vy h (show(t:Int)<p.aR by omega) hc (show l.length - 1 - trim.toNat<_ by omega);have v3:=Jy (Xy (col l t c)) (show trim.toNat<=l.length - 1 - trim.toNat by omega) I;unfold gu rN;grind
 rw[this]
