import Derived.Lib.AppendIntMem
import Derived.Lib.AtoiAllCases
import Derived.Lib.AtoiErrMem
import Derived.Lib.ItoaLen
import Derived.Test.YtlmhpcghgjdjjaaGreatDoorYa
set_option linter.all false
set_option maxHeartbeats 1000000
open List renaming length->R
namespace Go.Proofs.Z9
open Go.Ab Tryz
set_option maxRecDepth 9999
def dw(b:UInt8):Bool:=decide (48<=b.toNat/\b.toNat<=57)
def dK(c:Nat)(l:ba):Nat:=l.foldl (fun a b=>a * 10+(b.toNat - 48)) c
theorem gV(a:Nat):dK a []=a:=rfl
theorem gJ(a:Nat)(b:UInt8)(l:ba):dK a (b::l)=dK (a * 10+(b.toNat - 48)) l:=aτ ..
def wO{l m:ba}(h:l≠[]):(l++m).head?=l.head?:=by
 cases l<;>grind
def iF(l:ba)(d:Nat):Bool:=(decide (l≠[])&&decide (R l<=d))&&((decide (R l=1)||decide (l.head?≠some 48))&&l.all dw)
def Canon(l:ba):Prop:=l≠[]/\(R l=1\/l.head?≠some 48)/\l.all dw=true
theorem cN{l:ba}{d:Nat}:iF l d=true↔Canon l/\R l<=d:=by
 unfold iF Canon;grind
def decV_snoc(b:UInt8):∀(l:ba)(a:Nat),dK a (l++[b])=dK a l * 10+(b.toNat - 48)
 |[],a=>by rfl
 |x::l,a=>by rw[H5,gJ,decV_snoc b l,gJ]
def jF:∀(l:ba)(a:Nat),l.all dw=true->dK a l<(a+1) * 10 ^ (R l)
 |[],a,_=>by rw[gV,aυ,Nat.pow_zero];omega
 |x::l,a,h=>by
  simp only[so,Zw]at h;have c:48<=x.toNat/\x.toNat<=57:=pf h.1;have b:=jF l (a * 10+(x.toNat - 48)) h.2;rw[gJ,tt,Nat.pow_succ];refine rp b ?_;rw[Nat.mul_comm (10 ^ (R l)) 10,←Nat.mul_assoc];exact m8 _ I
theorem qZ{k:Nat}(h:k<10):dw (UInt8.ofNat (48+k))=true/\(UInt8.ofNat (48+k)).toNat=48+k:=by
 have:(UInt8.ofNat (48+k)).toNat=48+k:=by rw[UInt8.toNat_ofNat'];omega
 exact⟨Zz I,this⟩
def uW{u:Nat}(h:¬u<10):Lib.decDigits u=Lib.decDigits (u / 10)++[UInt8.ofNat (48+u % 10)]:=by rw[Lib.decDigits,dif_neg h]
def dec_pos(u:Nat):Lib.decDigits u≠[]:=fun e=>by
 have a:=Lib.decDigits_length u;have b:=Lib.nDigits_pos u;rw[e]at a;simp at a;omega
theorem qT:∀(u:Nat),0<u->(Lib.decDigits u).head?≠some 48
 |u,h=>by
  by_cases a:u<10
  ·rw[Lib.decDigits_one a];intro e;have c:UInt8.ofNat (48+u)=48:=by grind
   have b:=(qZ a).2;simp_all
  rw[uW a,wO (dec_pos _)];exact qT (u / 10) I
def uH:∀(u:Nat),(Lib.decDigits u).all dw=true
 |u=>by
  by_cases a:u<10
  ·rw[Lib.decDigits_one a];rw[so,dχ,cν];exact(qZ a).1
  rw[uW a,cψ,uH (u / 10)];rw[so,dχ,cν,tn];grind [qZ]
theorem tq(u:Nat):Canon (Lib.decDigits u):=by
 refine⟨dec_pos u,?_,uH u⟩;grind [Lib.decDigits_one,qT]
def Qa:∀(u:Nat),dK 0 (Lib.decDigits u)=u
 |u=>by
  by_cases a:u<10
  ·grind [Lib.decDigits_one,gJ,gV,qZ]
  rw[uW a,decV_snoc,Qa (u / 10),(qZ (show u % 10<10 by omega)).2];omega
def kY:∀(n:Nat)(l:ba),R l=n->Canon l->Lib.decDigits (dK 0 l)=l:=by
 intro n
 induction n with
 |zero=>intro l j h;exact absurd (cι.1 j) h.1
 |succ n k=>
  intro l j h;obtain⟨h0,q,c⟩:=h;rcases List.eq_nil_or_concat l with rfl|⟨m,b,rfl⟩
  ·simp_all
  rw[List.concat_eq_append]at *;rw[cψ,Zw]at c;have p:48<=b.toNat/\b.toNat<=57:=by
   have:=c.2;simp only[so,dχ,cν]at this;exact pf this
  have a:UInt8.ofNat (48+(b.toNat - 48))=b:=by
   simp_all
  by_cases i:m=[]
  ·subst i;rw[bε];rw[gJ,gV,Nat.zero_mul,wc,Lib.decDigits_one I,a]
  have hh:m.head?≠some 48:=by
   grind
  have o:Canon m:=⟨i,.inr hh,c.1⟩;have d:=k m (by simp_all) o;have g:0<dK 0 m:=by
   refine Nat.pos_of_ne_zero fun e=>?_
   rw[e,Lib.decDigits_one C]at d;grind
  rw[decV_snoc,uW I,show(dK 0 m * 10+(b.toNat - 48)) / 10=dK 0 m by omega,show(dK 0 m * 10+(b.toNat - 48)) % 10=b.toNat - 48 by omega,d,a]
def qS:∀(l:ba)(a k:Nat),l.all dw=true->a<10 ^ k->k+R l<=18->Lib.parseUint10 a l=.ok (dK a l)
 |[],_,_,_,_,_=>by rfl
 |b::l,a,k,h,ha,hk=>by
  simp only[so,Zw]at h;have d:48<=b.toNat/\b.toNat<=57:=pf h.1;have e:(10:Nat) ^ k<=10 ^ 17:=aφ C (by grind);have g:(10:Nat) ^ 17=100000000000000000:=C
  have c:a * 10+(b.toNat - 48)<10 ^ (k+1):=I
  simp only[Lib.parseUint10];rw[Zn d,Zm I,Zm I];rw[gJ];exact qS l _ (k+1) h.2 c (by grind)
def x9{l:ba}(h:Canon l)(g:R l<=18):Lib.atoiAll l=.ok (dK 0 l:Int):=by
 obtain⟨h0,_,a⟩:=h;cases l with
 |nil=>simp_all
 |cons c r=>
  have j:48<=c.toNat/\c.toNat<=57:=by
   simp only[so,Zw]at a;exact pf a.1
  rw[Lib.atoiAll_plain c r I I];unfold Lib.parseMag;have d:=qS (c::r) 0 0 a C I;rw[Zm F,d];have e:=jF (c::r) 0 a;have b:(10:Nat) ^ (R (c::r))<=10 ^ 18:=aφ C g;have i:(10:Nat) ^ 18=1000000000000000000:=C
  unfold Lib.signless;grind
def nk(l:ba):IntKind.i64.wrap (bp l)=bp l:=by
 refine mn _ ?_;unfold bp;rcases h:Lib.atoiAll l with v|_|_
 ·exact Lib.atoiAll_bounds h
 all_goals simp[Lib.atoiSat_bounds]
theorem uI{n:Int}(h:0<=n):Lib.itoa n=Lib.decDigits n.toNat:=by simp_all[Lib.itoa,Zm]
def numOk(l:ba)(d:Nat):Bool:=(gC l&&(decide (0<=bp l)&&(decide (Lib.itoa (bp l)=l)&&decide (R l<=d))))
theorem tw{l:ba}(h:Canon l)(b:R l<=18):gC l=true/\bp l=(dK 0 l:Int)/\Lib.itoa (bp l)=l:=by
 have c:=x9 h b;have a:bp l=(dK 0 l:Int):=by grind [bp]
 refine⟨by grind [gC],a,?_⟩;rw[a,uI I,Int.toNat_natCast];exact kY _ l rfl h
def tW(l:ba){d:Nat}(hd:d<=18):numOk l d=iF l d:=by
 rw[cδ,cN];unfold numOk;simp only[Zw,tm];grind [uI,tq,tw]
def yN{l:ba}{d:Nat}(hd:d<=18)(h:iF l d=true):bp l=(dK 0 l:Int):=by
 obtain⟨a,b⟩:=cN.1 h;exact(tw a I).2.1
def iE(l:ba)(d:Nat):Int×Bool:=
 let a:=if l.head?=some 45 then 1 else 0
 if R l=a\/d<R l - a\/(l.getD a 0=48/\1<R l)then(0,false)
 else if(l.drop a).all dw=true then(if a=1 then -(dK 0 (l.drop a):Int)else(dK 0 (l.drop a):Int),true)else(0,false)
def B4{l:ba}{d:Nat}:((iE l d).2&&decide (0<=(iE l d).1))=iF l d/\(iF l d=true->(iE l d).1=(dK 0 l:Int)):=by
 by_cases k:l.head?=some 45
 ·cases l with
  |nil=>cases k
  |cons c r=>
   have p:c=45:=by grind
   subst p;have i:iF (45::r) d=false:=by
    simp[iF,dw]
   rw[i];refine⟨?_,fun h=>by cases h⟩;unfold iE;simp only[List.head?_cons,if_true];by_cases a:R (45::r)=1\/d<R (45::r) - 1\/((45::r:ba).getD 1 0=48/\1<R (45::r))
   ·simp_all
   rw[Zm a];by_cases b:((45::r:ba).drop 1).all dw=true
   ·rw[Zn b];have n:Canon r:=by
     refine⟨fun e=>a (.inl (by rw[e];rfl)),.inr fun e=>a (.inr (.inr ?_)),b⟩;cases r<;>grind
    have m:=kY _ r rfl n;have j:dK 0 r≠0:=fun e=>by
     rw[e,Lib.decDigits_one C]at m;grind
    simp_all
   grind
 unfold iE;simp only[Zm k];by_cases a:R l=0\/d<R l - 0\/(l.getD 0 0=48/\1<R l)
 ·rw[Zn a];have i:iF l d=false:=by
   rw[bι];intro e;obtain⟨⟨v,g,u⟩,t⟩:=cN.1 e;rcases a with a|a|⟨a,s⟩
   ·simp_all
   ·omega
   rcases g with g|g
   ·omega
   cases l<;>grind
  simp_all
 rw[Zm a,aα];have o:l≠[]:=fun e=>a (.inl (by rw[e];rfl))
 have hlen:R l<=d:=by
  omega
 have q:R l=1\/l.head?≠some 48:=by
  by_cases e:R l=1
  ·exact .inl e
  refine .inr fun g=>a (.inr (.inr ?_))
  cases l<;>grind
 by_cases b:l.all dw=true
 ·rw[Zn b,Zm C];refine⟨?_,fun _=>rfl⟩;simp_all[iF]
 rw[Zm b];have i:iF l d=false:=by
  rw[bι];intro e;exact b (cN.1 e).1.2.2
 simp_all
def qI{n:Int}(h:IntKind.i64.wrap n=n):R (Lib.itoa n)<=21:=by
 simp_all[zq,Lib.itoa_length_le]
def pn(a:Nat)(l:ba)(d:Nat):Int×Bool:=
 if R l=a\/d<R l - a\/(l.getD a 0=48/\1<R l)then(0,false)
 else if(l.drop a).all dw=true then(if a=1 then -(dK 0 (l.drop a):Int)else(dK 0 (l.drop a):Int),true)else(0,false)
def uM{l:ba}{d:Nat}(h:l.head?=some 45):iE l d=pn 1 l d:=by simp_all[iE,pn]
def uN{l:ba}{d:Nat}(h:¬l.head?=some 45):iE l d=pn 0 l d:=by simp_all[iE,pn]
def pW{a d:Nat}{l:ba}(h:R l=a\/d<R l - a\/(l.getD a 0=48/\1<R l)):pn a l d=(0,false):=Zn h
def nn{a d:Nat}{l:ba}(h:¬(R l=a\/d<R l - a\/(l.getD a 0=48/\1<R l))){i:Nat}(e:a<=i)(c:i<R l)(b:dw l[i]=false):pn a l d=(0,false):=by
 unfold pn;rw[Zm h,Zm];rw[Bool.not_eq_true,List.all_eq_false];exact⟨l[i],List.mem_drop_iff_getElem.2 ⟨i - a,I,by grind⟩,by grind⟩
def numG_ok{a d:Nat}{l:ba}(h:¬(R l=a\/d<R l - a\/(l.getD a 0=48/\1<R l)))(b:(l.drop a).all dw=true):pn a l d=(if a=1 then -(dK 0 (l.drop a):Int)else(dK 0 (l.drop a):Int),true):=by
 unfold pn;simp_all
def wP{a i:Nat}{l:ba}(c:a<=i)(b:i<R l):(l.take (i+1)).drop a=(l.take i).drop a++[l[i]]:=by
 grind [List.take_succ_eq_append_getElem]
def head_45{l:ba}(h:0<R l):l.head?=some 45↔(l[0].toNat:Int)=45:=by
 cases l with
 |nil=>simp at h
 |cons c r=>
  simp only[List.head?_cons,Kp,bθ];constructor
  ·rintro rfl;rfl
  intro e;exact cω.1 (by grind)
def uX{l:ba}{a:Nat}(h:a<R l):l.getD a 0=48↔(l[a].toNat:Int)=48:=by
 rw[tX h];constructor
 ·simp_all
 intro e;exact cω.1 (by grind)
def CW{b:UInt8}(h:48<=b.toNat/\b.toNat<=57):dw b=true:=Zz h
def p7{b:UInt8}(h:¬(48<=b.toNat/\b.toNat<=57)):dw b=false:=Zy h
def FK{k:Nat}(h:k<=18):(10:Nat) ^ k<=1000000000000000000:=by
 have:=aφ (n:=10) C h;omega
def FL{k:Nat}(h:k<=17):(10:Nat) ^ k<=100000000000000000:=by
 have:=aφ (n:=10) C h;omega
def HW:CX prog 179:=⟨⟨3,V⟩,fun n w h0 b a=>(strconv_Itoa n h0 b w a).mono (by
 rintro e c ⟨rfl,k,os,rfl⟩;exact⟨rfl,Lib.below_grow _ w (Zq _) k os⟩)⟩
def pS{n:Int}(h:IntKind.i64.wrap n=n):gz prog 179 [bv n] (.str (Lib.itoa n)):=HW.ct (by have:=qI h;omega)
def HX:CY prog 180:=by
 refine⟨⟨1,V⟩,⟨2,V⟩,fun l w es y x q p j k=>?_⟩;have s : prog.globalNamed "strconv.ErrSyntax" = some 1 := by kernel_rfl
 have r : prog.globalNamed "strconv.ErrRange" = some 2 := by kernel_rfl
 rw[s]at q;rw[r]at p;cases q;cases p;obtain⟨n,i,d⟩:=j;obtain⟨m,g,c⟩:=k;have a:(⟨l.toArray⟩:ByteArray).size=R l:=by show l.toArray.size=_;simp
 rcases h:Lib.atoiAll l with v|_|_
 ·skip
  refine(strconv_Atoi_ok ⟨l.toArray⟩ (by rw[a];omega) v h w).mono ?_;rintro e o ⟨rfl,hw⟩;have b:bp l=v:=by unfold bp;rw[h]
  refine⟨.nilIface,by rw[b],.inl ⟨by unfold gC;rw[h],rfl⟩,?_⟩;rcases hw with rfl|⟨t,rfl⟩
  ·exact Go.RowKit.Below.refl _ _
  exact Lib.bytesWorld_below _ _ _
 ·skip
  refine(strconv_Atoi_syntax ⟨l.toArray⟩ (by rw[a];omega) h n w i d).mono ?_;rintro e o ⟨u,rfl,_,_,hB⟩;have b:bp l=0:=by unfold bp;rw[h]
  exact⟨_,by rw[b],.inr ⟨by unfold gC;rw[h],_,_,rfl⟩,hB⟩
 skip
 refine(strconv_Atoi_range ⟨l.toArray⟩ (by rw[a];omega) h m w g c).mono ?_;rintro e o ⟨u,rfl,_,_,hB⟩;have b:bp l=Lib.atoiSat l:=by unfold bp;rw[h]
 exact⟨_,by rw[b],.inr ⟨by unfold gC;rw[h],_,_,rfl⟩,hB⟩
def uY{l:ba}(h:R l<=100000):gz prog 180 [.str l] (.cf [bv (bp l),.cb (CZ (gC l))]):=HX.ct I (nk l)
def O7{n:Int}(a: -1000000000000<=n/\n<=1000000000000):Ct prog 81 [bv n] (bv (n.natAbs:Int)):=by
 refine cI func81 O (ro 9 O ?_);refine kc (S.neg .none O (zt O) (mn _ I) (mn _ I)) (kc (S.max2 .none O (zt O) (zt O)) ?_);refine rr 3 O (kR O O ?_);refine cy ?_;split<;>omega
def vU{l:ba}{d:Nat}(M:R l<=100000)(hd:d<=18):Ct prog 40 [.str l,bv (d:Int)] (.cf [bv (iE l d).1,.bool (iE l d).2]):=by
 refine cI func40 O (ro 11 O ?_);refine OK.join (G:=Nat) [] (fun c=>[(0,.str l),(1,bv (d:Int)),(6,bv (c:Int))]) (fun c=>c<=R l/\c<=1/\iE l d=pn c l d) (fun _=>O) ?_ ?_
 ·refine ro 6 O (RK.bh (t:=12) O (fun J=>?_) (fun J=>?_))
  ·refine kc (S.move (zg O O) O (zt O)) (kc (S.fJ (n:=0) fR (zg O O) O (zt O) (.af O) O I) ?_);refine rr 4 O (kB O (fun A=>?_) (fun A=>?_))
   ·have hh:l.head?=some 45:=(head_45 I).2 A;refine ro 3 O (Ab.D.lp ⟨1,⟨I,I,by first|exact uM hh|exact uN hh⟩,O,O,O,Zo⟩)
   have hh:¬l.head?=some 45:=fun e=>A ((head_45 I).1 e)
   refine OK.skip (Ab.D.lp ⟨0,⟨I,I,by first|exact uM hh|exact uN hh⟩,O,O,O,Zo⟩)
  have hh:¬l.head?=some 45:=by rw[cι.1 (show R l=0 by omega)];simp
  refine rr 8 O (Ab.D.lp ⟨0,⟨I,I,by first|exact uM hh|exact uN hh⟩,O,O,O,Zo⟩)
 rintro c ⟨C,L,o⟩;refine ro 8 O (RK.bh (t:=21) O (fun H=>?_) (fun H=>?_))
 ·have b:=pW (l:=l) (a:=c) (d:=d) (.inl I);refine rr 27 O (kS O O O O ?_);rw[o,b]
  all_goals rfl
 refine Rr 8 O I (RK.bh (t:=29) O (fun F=>?_) (fun F=>?_))
 ·have b:=pW (l:=l) (a:=c) (d:=d) (.inr (.inl I));refine rr 19 O (kS O O O O ?_);rw[o,b]
  all_goals rfl
 refine rr 2 O (kc (S.fJ (n:=c) fR (zg O O) O (zt O) (zt O) I I) ?_);refine rr 2 O (RK.bh (t:=34) O (fun E=>?_) (fun E=>?_))
 ·refine rr 7 O (kB O (fun K=>?_) (fun K=>?_))
  ·have b:=pW (l:=l) (a:=c) (d:=d) (.inr (.inr ⟨(uX I).2 I,I⟩));refine ro 6 O (kS O O O O ?_);rw[o,b]
   all_goals rfl
  have p:¬(R l=c\/d<R l - c\/(l.getD c 0=48/\1<R l)):=by
   rintro(q|q|⟨q1,q2⟩)
   ·omega
   ·omega
   have:=(uX (l:=l) (a:=c) I).1 q1;omega
  refine ro 15 O ?_;refine OK.loop (G:=Nat) [] (fun i=>[(0,.str l),(1,bv (d:Int)),(6,bv (c:Int)),(7,bv ((dK 0 ((l.take i).drop c):Nat):Int)),(8,bv i)]) (fun i=>(c<=i/\i<=R l)/\((l.take i).drop c).all dw=true) (fun i=>R l - i) c ⟨⟨Zq _,C⟩,by rw[ut (by rw[sc];omega)];rfl⟩ ⟨O,O,(yL I),(yL (by rw[ut (by rw[sc];omega),gV];rfl)),(yL I),Zo⟩ (fun _=>O) ?_;rintro i ⟨hi,j⟩;refine ro 9 O (kB O (fun z=>?_) (fun z=>?_))
  ·have h:i<R l:=I
   have g:=jF ((l.take i).drop c) 0 j;rw[vd,sc,wc,cβ]at g;have B:=rp g (FL (k:=min i (R l) - c) I);clear g;refine ro 9 O (kc (S.fJ (n:=i) fR .none O (zt O) (zt O) O h) (rr 2 O (RK.bh (t:=51) O (fun w=>?_) (fun w=>?_))))
   ·have m:dw l[i]=false:=p7 I;have b:=nn p hi.1 h m;refine rr 14 O (kS O O O O ?_);rw[o,b]
    all_goals rfl
   refine rr 2 O (kc (S.fJ (n:=i) fR (zg O O) O (zt O) (zt O) O h) (rr 4 O (kB O (fun y=>?_) (fun y=>?_))))
   ·have m:dw l[i]=false:=p7 I;have b:=nn p hi.1 h m;refine ro 6 O (kS O O O O ?_);rw[o,b]
    all_goals rfl
   have u:dw l[i]=true:=CW I;have v:=decV_snoc l[i] ((l.take i).drop c) 0;refine ro 4 O ?_;refine kc (S.mul .none O (.af O) (zt O) (mn _ I) (mn _ I)) (jm O (jm O (kc (S.fJ (n:=i) fR .none O (zt O) (zt O) O h) (kc (S.sub .none O (zt O) (.af O) (bν _ I) (bν _ I)) (kc (S.conv .none O (zt O) underlying5 underlying3 (mn _ I) (mn _ I)) ?_)))));refine Rr 10 O I ?_;refine Ab.D.lp ⟨i+1,⟨I,by rw[wP hi.1 h,cψ,j,so,u];rfl⟩,I,O,O,O,(yL (by rw[wP hi.1 h,v];omega)),O,Zo⟩
  have g:=jF ((l.take i).drop c) 0 j;rw[vd,sc,wc,cβ]at g;have r:=rp g (FK (k:=min i (R l) - c) I);clear g;have s:l.take i=l:=sg I;rw[s]at j r⊢;have b:=numG_ok p j;refine ro 9 O (kB O (fun x=>?_) (fun x=>?_))
  ·rw[Zn (show c=1 by omega),←Int.zero_sub]at b;refine OK.bN (jm O (kc (S.neg .none O (zt O) (mn _ I) (mn _ I)) ?_));refine rr 10 O (kS O O O O ?_);rw[o,b]
   all_goals rfl
  rw[Zm (show¬c=1 by omega)]at b;refine ro 9 O (kS O O O O ?_);rw[o,b]
  all_goals rfl
 have p:¬(R l=c\/d<R l - c\/(l.getD c 0=48/\1<R l)):=by
  rintro(q|q|⟨q1,q2⟩)
  ·omega
  ·omega
  have:=(uX (l:=l) (a:=c) I).1 q1;omega
 refine rr 23 O ?_;refine OK.loop (G:=Nat) [] (fun i=>[(0,.str l),(1,bv (d:Int)),(6,bv (c:Int)),(7,bv ((dK 0 ((l.take i).drop c):Nat):Int)),(8,bv i)]) (fun i=>(c<=i/\i<=R l)/\((l.take i).drop c).all dw=true) (fun i=>R l - i) c ⟨⟨Zq _,C⟩,by rw[ut (by rw[sc];omega)];rfl⟩ ⟨O,O,(yL I),(yL (by rw[ut (by rw[sc];omega),gV];rfl)),(yL I),Zo⟩ (fun _=>O) ?_;rintro i ⟨hi,j⟩;refine ro 9 O (kB O (fun z=>?_) (fun z=>?_))
 ·have h:i<R l:=I
  have g:=jF ((l.take i).drop c) 0 j;rw[vd,sc,wc,cβ]at g;have B:=rp g (FL (k:=min i (R l) - c) I);clear g;refine ro 9 O (kc (S.fJ (n:=i) fR .none O (zt O) (zt O) O h) (rr 2 O (RK.bh (t:=51) O (fun w=>?_) (fun w=>?_))))
  ·have m:dw l[i]=false:=p7 I;have b:=nn p hi.1 h m;refine rr 14 O (kS O O O O ?_);rw[o,b]
   all_goals rfl
  refine rr 2 O (kc (S.fJ (n:=i) fR (zg O O) O (zt O) (zt O) O h) (rr 4 O (kB O (fun y=>?_) (fun y=>?_))))
  ·have m:dw l[i]=false:=p7 I;have b:=nn p hi.1 h m;refine ro 6 O (kS O O O O ?_);rw[o,b]
   all_goals rfl
  have u:dw l[i]=true:=CW I;have v:=decV_snoc l[i] ((l.take i).drop c) 0;refine ro 4 O ?_;refine kc (S.mul .none O (.af O) (zt O) (mn _ I) (mn _ I)) (jm O (jm O (kc (S.fJ (n:=i) fR .none O (zt O) (zt O) O h) (kc (S.sub .none O (zt O) (.af O) (bν _ I) (bν _ I)) (kc (S.conv .none O (zt O) underlying5 underlying3 (mn _ I) (mn _ I)) ?_)))));refine Rr 10 O I ?_;refine Ab.D.lp ⟨i+1,⟨I,by rw[wP hi.1 h,cψ,j,so,u];rfl⟩,I,O,O,O,(yL (by rw[wP hi.1 h,v];omega)),O,Zo⟩
 have g:=jF ((l.take i).drop c) 0 j;rw[vd,sc,wc,cβ]at g;have r:=rp g (FK (k:=min i (R l) - c) I);clear g;have s:l.take i=l:=sg I;rw[s]at j r⊢;have b:=numG_ok p j;refine ro 9 O (kB O (fun x=>?_) (fun x=>?_))
 ·rw[Zn (show c=1 by omega),←Int.zero_sub]at b;refine OK.bN (jm O (kc (S.neg .none O (zt O) (mn _ I) (mn _ I)) ?_));refine rr 10 O (kS O O O O ?_);rw[o,b]
  all_goals rfl
 rw[Zm (show¬c=1 by omega)]at b;refine ro 9 O (kS O O O O ?_);rw[o,b]
 all_goals rfl
def C0{l:ba}{c:UInt8}(r:R l<=100000):Ct prog 82 [.str l,.int .u8 (c.toNat:Int)] (.sl ((aj c l).map fun s=>[.str s])):=by
 refine cI func82 O (kr (kc (S.assign .none O .fW) (rr 4 O (RK.c (S.iI (k:=5) (sz:=1) .none O) (rr 14 O ?_)))));refine OK.FH [5] (fun(i:Nat)(f:Nat)(out:List ba)=>[(0,.str l),(1,.int .u8 (c.toNat:Int)),(5,.own 5 (R out)),(2005,.arr 1 (out.map fun s=>[.str s])),(6,bv f),(7,bv i)]) (fun i f out=>(f<=i/\i<=R l)/\aj c l=out++Cp ((l.take i).drop f) (aj c (l.drop i))/\R out<=i) (fun i f out=>R l - i) (0) (0) ([]) ⟨⟨Zq _,Zr _⟩,by simp[yU (gr c l)],Zq _⟩ ⟨O,O,(cw N),(bH N),O,O,Zo⟩ (fun _ _ _=>O) ?_;rintro i f out ⟨hi,o,q⟩;refine ro 9 O (kB O (fun p=>?_) (fun p=>?_))
 ·have b:i<R l:=by omega
  have j:=np b;have m:=wP (a:=f) hi.1 b;refine ro 8 O (kc (S.fJ (n:=i) fR .none O (zt O) (zt O) O b) (rr 4 O (kB O (fun g=>?_) (fun g=>?_))))
  ·have d:aj c l=(out++[(l.take i).drop f])++Cp ((l.take (i+1)).drop (i+1)) (aj c (l.drop (i+1))):=by rw[o,j,HC (Fy.1 g),ut (l:=l.take (i+1)) (by rw[sc];omega)];simp
   refine ro 6 O ?_;refine kc (S.ir (lo:=f) (hi:=i) (l':=(l.take i).drop f) fR .none O (zt O) (.inr ⟨_,_,O,(zt O),O⟩) (.inr ⟨_,_,O,(zt O),O⟩) I I O) (RK.c (zM [[_]] XP O O O O) ?_);refine kc (zP XP O O F N I (by simp only[maxLen];omega)) ?_;refine Rr 15 O I ?_;refine Ab.D.lp ⟨i+1,i+1,out++[(l.take i).drop f],⟨by omega,d,by first|omega|(simp;omega)⟩,I,O,O,(cw F),(bH F),(yL I),O,Zo⟩
  have d:aj c l=out++Cp ((l.take (i+1)).drop f) (aj c (l.drop (i+1))):=by rw[o,j,HD (fun e=>g (Fy.2 e)),m]
  refine Ro 8 O I ?_;refine Ab.D.lp ⟨i+1,f,out,⟨by omega,d,by first|omega|(simp;omega)⟩,I,O,O,(cw F),(bH F),(yL I),O,Zo⟩
 have h:aj c l=out++[l.drop f]:=by rw[o,ut (l:=l) (i:=i) I,sg I];simp[aj,Cp]
 refine ro 7 O ?_;refine kc (S.ir (lo:=f) (l':=l.drop f) fR .none O (zt O) (.inr ⟨_,_,O,(zt O),O⟩) (.inl ⟨O,O,O⟩) I I (by rw[List.take_length])) ?_;refine RK.c (zM [[_]] XP O O O O) ?_;refine kc (zP XP O O F N I (by simp only[maxLen];omega)) ?_;refine rr 3 O ?_;refine OK.ret (aA.r1 (.tmp O O (.c (.own O O N) O) O) ?_);rw[h,ne]
 all_goals rfl
end Go.Proofs.Z9
namespace Go.Proofs.Z9
open Go.Ab Tryz
structure Words where
 numbers:bd
 texts:List ba
 deriving DecidableEq
def Words.cs(w:Words):bi:=[.sl (w.numbers.map fun n=>[bv n]),.sl (w.texts.map fun s=>[.str s])]
def aH:ba->ba->Bool->Words->Words×Bool
 |[],_,more,w=>(w,!more)
 |k::ks,rest,more,w=>
  if more=false then(⟨[],[]⟩,false)
  else if k=114 then({w with texts:=w.texts++[rest]},true)
  else if k=119 then(if(aL 32 rest).1=[]then(⟨[],[]⟩,false)else aH ks (aL 32 rest).2.1 (aL 32 rest).2.2 {w with texts:=w.texts++[(aL 32 rest).1]})
  else if numOk (aL 32 rest).1 7=true then aH ks (aL 32 rest).2.1 (aL 32 rest).2.2 {w with numbers:=w.numbers++[bp (aL 32 rest).1]}else(⟨[],[]⟩,false)
def kf(text kinds:ba):Words×Bool:=aH kinds (aL 32 text).2.1 (aL 32 text).2.2 ⟨[],[]⟩
def gR:List ba:=[[110,111,116,101],[115,116,97,114,116],[102,114,97,109,101],[101,110,100],[103,111,111,100],[98,97,100],[99,111,105,108],[114,101,112,97,105,114],[109,97,114,107],[115,101,99,116,105,111,110],[114,101,99,105,112,101],[109,111,100,101,108],[108,101,97,114,110]]
def yM:bd:=[0,1,1,1,1,1,2,2,3,3,4,4,4]
def kinds:List ba:=[[114],[110,119,119],[114],[],[110],[110],[119,110],[119],[110],[110,114],[119,114],[110],[110]]
def dS(word:ba):Option Nat:=ix (fun v=>decide (word=v)) gR
structure vN where
 verb:ba
 oF:ba
 coil:ba
 rest:ba
 num:Int
 deriving DecidableEq
def vN.cs(x:vN):bi:=[.str x.verb,.str x.oF,.str x.coil,.str x.rest,bv x.num]
def lj(l:ba):Int×Bool:=((iE l 7).1,(iE l 7).2&&decide (l.head?≠some 45))
def pO(l:ba):(lj l).2=numOk l 7/\(numOk l 7=true->(lj l).1=bp l):=by
 obtain⟨e,b⟩:=B4 (l:=l) (d:=7);rw[tW l I];refine⟨?_,fun h=>by rw[yN I h];exact b h⟩;rw[←e];show((iE l 7).2&&decide (l.head?≠some 45))=((iE l 7).2&&decide (0<=(iE l 7).1));cases i:(iE l 7).2 with
 |false=>rfl
 |true=>
  by_cases g:l.head?=some 45
  ·have j:iF l 7=false:=by
    unfold iF;cases l with
    |nil=>rfl
    |cons c r=>
     simp_all[dw]
   simp_all
  have a:0<=(iE l 7).1:=by
   unfold iE;grind
  simp_all
def fH(text:ba):vN×Bool:=
 let verb:=(aL 32 text).1
 let rest:=(aL 32 text).2.1
 let more:=(aL 32 text).2.2
 let x:vN:=⟨verb,[],[],rest,0⟩
 let a:=aj 32 rest
 if verb=gR[0]\/verb=gR[2]then(x,more)
 else if verb=gR[3]then(x,!more)
 else if verb=gR[1]then
  if R a≠3\/a.getD 1 []=[]\/a.getD 2 []=[]then(x,false)
  else({x with num:=(lj (a.getD 0 [])).1,oF:=a.getD 1 [],coil:=a.getD 2 []},(lj (a.getD 0 [])).2)
 else if verb=gR[4]\/verb=gR[5]\/verb=gR[8]\/verb=gR[11]\/verb=gR[12]then({x with num:=(lj rest).1},(lj rest).2)
 else if verb=gR[6]then
  if R a≠2\/a.getD 0 []=[]then(x,false)
  else({x with coil:=a.getD 0 [],num:=(lj (a.getD 1 [])).1},(lj (a.getD 1 [])).2)
 else if verb=gR[7]then({x with coil:=rest},decide (R a=1)&&decide (rest≠[]))
 else if verb=gR[9]then({x with rest:=(aL 32 rest).2.1,num:=(lj (aL 32 rest).1).1},(lj (aL 32 rest).1).2&&(aL 32 rest).2.2)
 else({x with oF:=(aL 32 rest).1,rest:=(aL 32 rest).2.1},(aL 32 rest).2.2&&decide ((aL 32 rest).1≠[]))
def ig(k:Nat)(x:vN):Words:=match k with
 |0|2=>⟨[],[x.rest]⟩
 |1=>⟨[x.num],[x.oF,x.coil]⟩
 |3=>⟨[],[]⟩
 |6=>⟨[x.num],[x.coil]⟩
 |7=>⟨[],[x.coil]⟩
 |9=>⟨[x.num],[x.rest]⟩
 |10=>⟨[],[x.oF,x.rest]⟩
 |_=>⟨[x.num],[]⟩
def kM{l:ba}(h:(aL 32 l).2.2=false):(aL 32 l).1=l/\(aL 32 l).2.1=[]:=by
 by_cases hi:0<=Lib.indexByte l 32
 ·simp_all[qt]
 rw[oI hi];simp
theorem sM(l:ba):R (aj 32 l)=1↔(aL 32 l).2.2=false:=by
 rw[iY 32 l];have h:=gr 32 (aL 32 l).2.1;grind
def yO{c:UInt8}:∀{l:ba},0<=Lib.indexByte l c->c∈l
 |[],h=>by simp[Lib.indexByte]at h
 |b::l,h=>by
  rw[mM]at h;split at h
  ·simp_all
  split at h
  ·omega
  exact rl _ (yO I)
theorem oJ{l:ba}(h:(aL 32 l).2.2=true):numOk l 7=false:=by
 rw[tW l I];by_cases hi:0<=Lib.indexByte l 32
 ·cases a:iF l 7 with
  |false=>rfl
  |true=>
   exfalso;obtain⟨⟨_,_,b⟩,_⟩:=cN.1 a;have c:=rm.1 b _ (yO hi);simp[dw]at c
 simp_all[oI]
def vO(rest:ba)(more:Bool)(b:more=false->rest=[])(w:Words):(aH [110] rest more w).2=(lj rest).2/\((lj rest).2=true->(aH [110] rest more w).1={w with numbers:=w.numbers++[(lj rest).1]}):=by
 obtain⟨a,g⟩:=pO rest;cases more with
 |false=>
  have e:numOk rest 7=false:=by rw[b rfl];rfl
  rw[aH,Zn rfl,a,e];simp
 |true=>
  rw[aH,Zm C,Zm C,Zm C];cases c:(aL 32 rest).2.2 with
  |false=>
   rw[(kM c).1,a];cases d:numOk rest 7 with
   |false=>simp
   |true=>rw[Zn rfl,aH];simp_all
  |true=>
   grind [oJ,aH]
theorem kN{l:ba}(h:(aL 32 l).2.2=false):aj 32 l=[l]:=by simp_all[iY]
theorem kP{l:ba}(h:(aL 32 l).2.2=true):aj 32 l=(aL 32 l).1::aj 32 (aL 32 l).2.1:=by rw[iY 32 l,h,Zn rfl]
theorem sN(l:ba):1<=R (aj 32 l):=by
 grind [gr]
def jy(l:ba):(aj 32 l).getD 0 []=(aL 32 l).1:=by
 grind [aL,kN,kP]
theorem kQ(rest:ba)(more:Bool)(w:Words):aH [114] rest more w=if more=true then({w with texts:=w.texts++[rest]},true)else(⟨[],[]⟩,false):=by
 cases more
 all_goals rfl
def sO(rest:ba)(more:Bool)(w:Words):aH [119] rest more w=if more=true/\(aL 32 rest).1≠[]then({w with texts:=w.texts++[(aL 32 rest).1]},!(aL 32 rest).2.2)else(⟨[],[]⟩,false):=by
 cases more
 ·rfl
 rw[aH,Zm C,Zm C,Zn rfl];by_cases h:(aL 32 rest).1=[]
 ·simp_all
 rw[Zm h,Zn ⟨rfl,h⟩,aH]
def Es{text:ba}{k:Nat}(q:dS (aL 32 text).1=some k):(kf text (kinds.getD k [])).2=(fH text).2/\((fH text).2=true->(kf text (kinds.getD k [])).1=ig k (fH text).1):=by
 obtain⟨i,n⟩:=eE q;have n:(aL 32 text).1=gR.getD k []:=by simp_all
 have d:(aL 32 text).2.2=false->(aL 32 text).2.1=[]:=fun h=>(kM h).2
 unfold kf fH;simp only[n];generalize (aL 32 text).2.1=rest at *;generalize (aL 32 text).2.2=more at *;have j:k<13:=i;have a:(aH [110] rest more ⟨[],[]⟩).2=(lj rest).2/\((lj rest).2=true->(aH [110] rest more ⟨[],[]⟩).1=⟨[(lj rest).1],[]⟩):=vO rest more d _
 match k,j with
 |0,_=>rw[Zn C];show(aH [114] rest more _).2=more/\(more=true->(aH [114] rest more _).1=_);grind [kQ,ig]
 |1,_=>
  rw[Zm C,Zm C,Zn C];show(aH [110,119,119] rest more _).2=_/\(_->(aH [110,119,119] rest more _).1=_);cases more with
  |false=>
   rw[d rfl,Zn (.inl C),aH,Zn rfl];simp
  |true=>
   obtain⟨m,l⟩:=pO (aL 32 rest).1;rw[aH,Zm C,Zm C,Zm C,jy];cases p:numOk (aL 32 rest).1 7 with
   |false=>
    grind
   |true=>
    rw[Zn rfl,aH];cases b:(aL 32 rest).2.2 with
    |false=>rw[Zn rfl,kN b,Zn (.inl F)];simp
    |true=>
     rw[Zm C,Zm C,Zn rfl,kP b];have v:((aL 32 rest).1::aj 32 (aL 32 rest).2.1).getD 1 []=(aL 32 (aL 32 rest).2.1).1:=jy _;rw[v];generalize (aL 32 rest).2.1=r1;by_cases s:(aL 32 r1).1=[]
     ·simp_all
     rw[Zm s,sO];cases c:(aL 32 r1).2.2 with
     |false=>rw[Zm F,kN c,Zn (.inl F)];simp
     |true=>
      rw[kP c];have u:((aL 32 rest).1::(aL 32 r1).1::aj 32 (aL 32 r1).2.1).getD 2 []=(aL 32 (aL 32 r1).2.1).1:=jy _;rw[u];generalize (aL 32 r1).2.1=r2;by_cases r:(aL 32 r2).1=[]
      ·simp_all
      rw[Zn ⟨rfl,r⟩];cases t:(aL 32 r2).2.2 with
      |false=>
       simp_all[kN,ig]
      |true=>
       rw[kP t,Zn (.inl (by
        grind [sN]))]
       simp
 |2,_=>rw[Zn C];show(aH [114] rest more _).2=more/\(more=true->(aH [114] rest more _).1=_);grind [kQ,ig]
 |3,_=>rw[Zm C,Zn C];exact⟨rfl,fun _=>rfl⟩
 |4,_=>rw[Zm C,Zm C,Zm C,Zn C];exact⟨a.1,fun h=>a.2 h⟩
 |5,_=>rw[Zm C,Zm C,Zm C,Zn C];exact⟨a.1,fun h=>a.2 h⟩
 |6,_=>
  rw[Zm C,Zm C,Zm C,Zm C,Zn C];show(aH [119,110] rest more _).2=_/\(_->(aH [119,110] rest more _).1=_);cases more with
  |false=>
   rw[d rfl,Zn (.inl C),aH,Zn rfl];simp
  |true=>
   rw[aH,Zm C,Zm C,Zn rfl,jy];by_cases g:(aL 32 rest).1=[]
   ·simp_all
   obtain⟨g1,g2⟩:=vO (aL 32 rest).2.1 (aL 32 rest).2.2 (fun h=>(kM h).2) ⟨[],[]++[(aL 32 rest).1]⟩;rw[Zm g,g1];cases b:(aL 32 rest).2.2 with
   |false=>
    rw[kN b,Zn (.inl F),(kM b).2];exact⟨rfl,fun h=>by cases h⟩
   |true=>
    rw[b]at g2;rw[kP b];generalize (aL 32 rest).2.1=r1 at *;cases c:(aL 32 r1).2.2 with
    |false=>
     rw[kN c,Zm (by simp[g])];refine⟨rfl,fun h=>?_⟩;rw[g2 h];rfl
    |true=>
     rw[kP c,Zn (.inl (by
      grind [sN])),(pO r1).1,oJ c]
     simp
 |7,_=>
  rw[Zm C,Zm C,Zm C,Zm C,Zm C,Zn C];show(aH [119] rest more _).2=_/\(_->(aH [119] rest more _).1=_);rw[sO];cases b:(aL 32 rest).2.2 with
  |false=>
   have e:=(sM rest).2 b;rw[(kM b).1];cases more with
   |false=>simp_all
   |true=>
    by_cases o:rest=[]
    ·grind
    rw[Zn ⟨rfl,o⟩,e];simp[o,ig]
  |true=>
   grind [sM]
 |8,_=>rw[Zm C,Zm C,Zm C,Zn C];exact⟨a.1,fun h=>a.2 h⟩
 |9,_=>
  rw[Zm C,Zm C,Zm C,Zm C,Zm C,Zm C,Zn C];show(aH [110,114] rest more _).2=_/\(_->(aH [110,114] rest more _).1=_);obtain⟨m,l⟩:=pO (aL 32 rest).1;cases more with
  |false=>rw[d rfl,aH,Zn rfl];exact⟨rfl,fun h=>by cases h⟩
  |true=>
   rw[aH,Zm C,Zm C,Zm C,m];cases p:numOk (aL 32 rest).1 7 with
   |false=>simp
   |true=>
    rw[Zn rfl,kQ];cases b:(aL 32 rest).2.2 with
    |false=>simp
    |true=>rw[Zn rfl];exact⟨rfl,fun _=>by simp[ig,l p]⟩
 |10,_=>
  rw[Zm C,Zm C,Zm C,Zm C,Zm C,Zm C,Zm C];show(aH [119,114] rest more _).2=_/\(_->(aH [119,114] rest more _).1=_);cases more with
  |false=>rw[d rfl,aH,Zn rfl];exact⟨rfl,fun h=>by cases h⟩
  |true=>
   rw[aH,Zm C,Zm C,Zn rfl];by_cases g:(aL 32 rest).1=[]
   ·simp_all
   rw[Zm g,kQ,Zz g,cν];cases b:(aL 32 rest).2.2 with
   |false=>simp
   |true=>rw[Zn rfl];exact⟨rfl,fun _=>by rfl⟩
 |11,_=>rw[Zm C,Zm C,Zm C,Zn C];exact⟨a.1,fun h=>a.2 h⟩
 |12,_=>rw[Zm C,Zm C,Zm C,Zn C];exact⟨a.1,fun h=>a.2 h⟩
end Go.Proofs.Z9
namespace Go.Proofs.Z9
open Go.Ab Tryz
def qR(l:ba):ba:=if l.head?=some 45 then l.drop 1 else l
def eY(l:ba)(d:Nat):Bool:=if l.head?=some 45 then iF (l.drop 1) d&&decide (l.getD 1 0≠48)else iF l d
def de(l:ba):Int:=if l.head?=some 45 then -(dK 0 (l.drop 1):Int)else(dK 0 l:Int)
def me(l:ba)(below:Bool)(d:Nat):Bool:=gC l&&(decide (Lib.itoa (bp l)=l)&&((below||decide (0<=bp l))&&decide (R (qR l)<=d)))
theorem uG{l:ba}(h:l.head?=some 45):∃r,l=45::r:=by
 cases l<;>grind
def CJ(u:Nat):(Lib.decDigits u).head?≠some 45:=fun h=>by
 obtain⟨r,e⟩:=uG h;have:=uH u;rw[e,so]at this;simp[dw]at this
theorem tj(n:Int):(Lib.itoa n).head?=some 45↔n<0:=by
 by_cases h:n<0
 ·obtain⟨u,rfl⟩:∃u:Nat,n= -(u:Int):=⟨n.natAbs,I⟩;rw[Lib.itoa_neg u I];simp_all
 simp_all[uI,CJ]
theorem CK{r:ba}(h:Canon r)(h0:dK 0 r=0):r=[48]:=by
 have a:=kY _ r rfl h;simp_all[Lib.decDigits_one]
theorem CL{r:ba}(h:Canon r)(e:R r<=18)(h0:r.head?≠some 48):Lib.atoiAll (45::r)=.ok (-(dK 0 r:Int))/\Lib.itoa (-(dK 0 r:Int))=45::r:=by
 have c:=qS r 0 0 h.2.2 C I;have d:=jF r 0 h.2.2;have a:(10:Nat) ^ (R r)<=10 ^ 18:=aφ C e;have g:(10:Nat) ^ 18=1000000000000000000:=C
 have b:1<=dK 0 r:=by
  grind [CK]
 refine⟨?_,?_⟩
 ·rw[Lib.atoiAll_minus];unfold Lib.parseMag;rw[Zm h.1,c];unfold Lib.signed;grind
 rw[Lib.itoa_neg _ b,kY _ r rfl h]
theorem og{r:ba}(h:r≠[]):r.head?=some 48↔r.getD 0 0=48:=by
 cases r<;>grind
def uJ{l:ba}{d:Nat}(hd:d<=18):me l true d=eY l d/\(eY l d=true->bp l=de l):=by
 by_cases hh:l.head?=some 45
 ·obtain⟨r,rfl⟩:=uG hh;have b:eY (45::r) d=(iF r d&&decide (r.getD 0 0≠48)):=Zn hh;have a:de (45::r)= -(dK 0 r:Int):=Zn hh;have e:qR (45::r)=r:=Zn hh;rw[b,a];have key:iF r d=true->r.getD 0 0≠48->Lib.atoiAll (45::r)=.ok (-(dK 0 r:Int))/\Lib.itoa (-(dK 0 r:Int))=45::r:=fun h c=>by
   grind [cN,CL,og]
  constructor
  ·rw[cδ];unfold me;rw[e];simp only[Zw,tm,cυ,true_and];constructor
   ·rintro⟨_,c,h3⟩;have i:bp (45::r)<0:=by
     grind [tj]
    obtain⟨u,g⟩:∃u:Nat,bp (45::r)= -(u:Int):=⟨(bp (45::r)).natAbs,I⟩;rw[g,Lib.itoa_neg u I,v6]at c;grind [cN,tq,qT,og]
   simp_all[bp,gC,cN]
  simp_all[bp]
 have b:eY l d=iF l d:=Zm hh;have a:de l=(dK 0 l:Int):=Zm hh;have e:qR l=l:=Zm hh;rw[b,a];refine⟨?_,yN hd⟩;rw[←tW l hd];grind [me,numOk,tj]
def Gs{l:ba}{d:Nat}(hd:d<=18):me l false d=(eY l d&&decide (0<=de l)):=by
 obtain⟨b,a⟩:=uJ (l:=l) hd;grind [me]
def Cb{l:ba}{d:Nat}:iE l d=if eY l d=true then(de l,true)else(0,false):=by
 have g:∀(a:Nat)(r:ba),r=l.drop a->(a=0/\¬l.head?=some 45\/a=1/\l.head?=some 45)->pn a l d=if(iF r d&&decide (a=0\/l.getD 1 0≠48))=true then(if a=1 then -(dK 0 r:Int)else(dK 0 r:Int),true)else(0,false):=by
  intro a r o p;have m:a<=R l:=by
   grind [uG]
  have k:R r=R l - a:=by simp_all
  have n:r≠[]->(r.head?=some 48↔l.getD a 0=48):=fun h=>by
   simp_all
  by_cases b:R l=a\/d<R l - a\/(l.getD a 0=48/\1<R l)
  ·rw[pW b,Zm];rw[Zw,tm,cN];rintro⟨⟨⟨c1,c2,c3⟩,c4⟩,c5⟩;grind
  by_cases c:(l.drop a).all dw=true
  ·have j:(iF r d&&decide (a=0\/l.getD 1 0≠48))=true:=by
    rw[Zw,tm,cN];have i:r≠[]:=fun e=>b (.inl (by grind))
    refine⟨⟨⟨i,?_,by simp_all⟩,I⟩,?_⟩
    all_goals grind
   simp_all[numG_ok]
  rw[pn,Zm b,Zm c,Zm];rw[Zw,cN];rintro⟨⟨⟨_,_,c3⟩,_⟩,_⟩;grind
 by_cases hh:l.head?=some 45
 ·rw[uM hh,g 1 (l.drop 1) rfl (.inr ⟨rfl,hh⟩)];simp_all[eY,de]
 rw[uN hh,g 0 l rfl (.inl ⟨rfl,hh⟩)];simp_all[eY,de]
end Go.Proofs.Z9
namespace Go.Proofs.Z9
open Go.Ab Tryz
def Uz{c:UInt8}:∀{w:ba}(l:ba),c∉w->aj c (w++c::l)=w::aj c l
 |[],l,_=>by rw[bε,aj,Zn rfl]
 |b::w,l,h=>by
  have a:b≠c:=fun e=>h (e▸rv)
  exact l8 a (Uz l fun e=>h (rl _ e))
def VA{c:UInt8}:∀{w:ba},c∉w->aj c w=[w]
 |[],_=>rfl
 |b::w,h=>l8 (fun e=>h (by simp_all)) (VA fun e=>h (rl _ e))
theorem HH(x y:ba)(r:List ba)(sep:ba):Lib.join (x::y::r) sep=x++(sep++Lib.join (y::r) sep):=by
 rfl
def fy{α β:Type}(f:α->Option β):List α->Option (List β)
 |[]=>some []
 |a::l=>match f a with
  |none=>none
  |some b=>(fy f l).map (b:: ·)
section
variable{α β τ:Type}{f:α->Option β}
def EM{L:List α}{i:Nat}{out:List β}{b:β}(a:fy f L=(fy f (L.drop i)).map (out++ ·))(hi:i<R L)(c:f L[i]=some b):fy f L=(fy f (L.drop (i+1))).map ((out++[b])++ ·):=by
 rw[a,np hi];simp only[fy,c];cases fy f (L.drop (i+1))<;>simp
def EN{L:List α}{i:Nat}{out:List β}(a:fy f L=(fy f (L.drop i)).map (out++ ·))(hi:i<R L)(b:f L[i]=none):fy f L=none:=by
 grind [List.drop_eq_getElem_cons,fy]
def CM{L:List α}{i:Nat}{out:List β}(a:fy f L=(fy f (L.drop i)).map (out++ ·))(hi:i=R L):fy f L=some out:=by
 simp_all[fy]
theorem Y0:∀{l:List α}{bs:List β},fy f l=some bs->R bs=R l
 |[],bs,h=>by simp_all[fy]
 |a::l,bs,h=>by
  simp only[fy]at h;split at h
  ·cases h
  rw[M2]at h;obtain⟨r,b,rfl⟩:=h;rw[tt,tt,Y0 b]
def W5{step:List β×τ->α->(List β×τ)×Option Code}{upd:τ->β->τ}{bad:List β×τ->Prop}(i:∀q x b,f x=some b->step q x=((q.1++[b],upd q.2 b),none))(j:∀q x,f x=none->∃d,step q x=(d,some .ret)/\bad d):
  ∀(L:List α)(c:List β×τ),(∀e,fy f L=some e->au (Ab.stepG step) (c,none) L=(((c.1++e,e.foldl upd c.2),none),true))/\(fy f L=none->∃d,au (Ab.stepG step) (c,none) L=((d,some .ret),false)/\bad d)
 |[],c=>⟨fun e h=>by simp_all[fy,au],fun h=>by cases h⟩
 |a::l,c=>by
  cases g:f a with
  |none=>
   obtain⟨d,m,n⟩:=j c a g;simp_all[fy,au,Ab.stepG]
  |some b=>
   have m:=i c a b g;obtain⟨p,o⟩:=W5 i j l (c.1++[b],upd c.2 b);have k:au (Ab.stepG step) (c,none) (a::l)=au (Ab.stepG step) ((c.1++[b],upd c.2 b),none) l:=by
    rw[au,show Ab.stepG step (c,none) a=(((c.1++[b],upd c.2 b),none),true)by simp_all[Ab.stepG],Zn rfl]
   rw[k];constructor
   ·intro e h;simp only[fy,g,M2]at h;grind
   simp_all[fy]
def Ue{step:List β×τ->α->(List β×τ)×Option Code}{upd:τ->β->τ}{bad:List β×τ->Prop}(e:∀q x b,f x=some b->step q x=((q.1++[b],upd q.2 b),none))(g:∀q x,f x=none->∃d,step q x=(d,some .ret)/\bad d){L:List α}{a q:List β×τ}
  (h:au (Ab.stepG step) (a,none) L=((q,none),true)):∃c,fy f L=some c/\q=(a.1++c,c.foldl upd a.2):=by
 obtain⟨k,j⟩:=W5 e g L a;cases i:fy f L<;>grind
def Uh{step:List β×τ->α->(List β×τ)×Option Code}{upd:τ->β->τ}{bad:List β×τ->Prop}(e:∀q x b,f x=some b->step q x=((q.1++[b],upd q.2 b),none))(g:∀q x,f x=none->∃c,step q x=(c,some .ret)/\bad c){L:List α}{a q:List β×τ}{d:Code}
  (h:(au (Ab.stepG step) (a,none) L).1=(q,some d)):fy f L=none/\bad q/\d=.ret:=by
 obtain⟨k,j⟩:=W5 e g L a;cases i:fy f L<;>grind
end
end Go.Proofs.Z9
namespace Go.Proofs.Z9
open Go.Ab Tryz
def Xb{a b:Int}(h:a=b):some (X.int .i64 a)=some (X.int .i64 b):=by rw[h]
def Xy(l:bd):(sorted l).Pairwise (fun x y=>x<=y):=by
 have:=eα (le:=fun x y:Int=>decide (x<=y)) (by grind) (by grind) l;exact this.imp F
def Vv(l:bd)(g:Int->Bool):(sorted l).countP g=l.countP g:=(bμ l _).countP_eq g
def before(l:bd)(x:Int)(i k:Nat):Nat:=(l.take k).countP (fun y=>decide (y<x))+((l.take k).take i).countP fun y=>decide (y=x)
theorem WS{l:bd}{k:Nat}(h:k<R l)(g:Int->Bool):(l.take (k+1)).countP g=(l.take k).countP g+if g l[k]=true then 1 else 0:=by
 rw[←tF h,dη,List.countP_cons,List.countP_nil,wc]
def T9{l:bd}{i k:Nat}(h:k<R l)(g:Int->Bool):((l.take (k+1)).take i).countP g=((l.take k).take i).countP g+if k<i/\g l[k]=true then 1 else 0:=by
 rw[List.take_take,List.take_take];by_cases a:k<i
 ·grind [WS]
 grind
def YZ{l:bd}{x:Int}{i k:Nat}(h:k<R l)(a:l[k]<x\/(l[k]=x/\k<i)):(before l x i k:Int)+1=before l x i (k+1):=by
 unfold before;rw[WS h,T9 h];grind
def WR{l:bd}{x:Int}{i k:Nat}(h:k<R l)(a:¬(l[k]<x\/(l[k]=x/\k<i))):(before l x i k:Int)=before l x i (k+1):=by
 unfold before;rw[WS h,T9 h];grind
def O_(l:bd)(x:Int)(i k:Nat):before l x i k<=2 * k:=by
 grind [before,List.length_take]
def UQ(l:bd)(x:Int)(i:Nat):before l x i (R l)=l.countP (fun y=>decide (y<x))+(l.take i).countP fun y=>decide (y=x):=by
 unfold before;simp
def Jx{s:bd}(c:s.Pairwise fun x y=>x<=y){x:Int}{n:Nat}(k:s.countP (fun y=>decide (y<x))<=n)(b:n<s.countP (fun y=>decide (y<x))+s.countP fun y=>decide (y=x)):∃h:n<R s,s[n]=x:=by
 have hle:s.countP (fun y=>decide (y<x))+s.countP (fun y=>decide (y=x))=s.countP fun y=>decide (y<=x):=by
  clear k b c
  induction s<;>grind
 rw[hle]at b;have g:n<R s:=rp b List.countP_le_length;refine⟨g,?_⟩;have l:=aπ.1 c;rcases Int.lt_trichotomy s[n] x with h|h|h
 ·exfalso;have e:(s.take (n+1)).countP (fun y=>decide (y<x))=R (s.take (n+1)):=by
   rw[eκ];intro y a;obtain⟨j,d,rfl⟩:=i6 a;grind
  grind [List.take_append_drop]
 ·exact h
 exfalso;have e:(s.drop n).countP (fun y=>decide (y<=x))=0:=by
  rw[List.countP_eq_zero];intro y a;obtain⟨j,d,rfl⟩:=i6 a;rw[vd]at d;rw[List.getElem_drop,tm];rcases dθ j with i|i
  ·simp_all
  grind
 have m:=dη (p:=fun y=>decide (y<=x)) (l₁:=s.take n) (l₂:=s.drop n);grind [List.take_append_drop]
def JH{l:bd}{i:Nat}(h:i<R l):(l.take i).countP (fun y=>decide (y=l[i]))<l.countP fun y=>decide (y=l[i]):=by
 have a:=WS h fun y=>decide (y=l[i])
 rw[Zn F]at a;grind [List.take_append_drop]
def O8{l:bd}{i n:Nat}(h:i<R l)(a:before l l[i] i (R l)=n):∃h:n<R (sorted l),(sorted l)[n]=l[i]:=by
 rw[UQ]at a;have:=JH h;refine Jx (Xy l) ?_ ?_<;>simp only[Vv]<;>omega
def Rn(x:Int):∀(l:bd)(j:Nat),j<l.countP (fun y=>decide (y=x))->∃i,∃h:i<R l,l[i]=x/\(l.take i).countP (fun y=>decide (y=x))=j
 |[],j,h=>by simp at h
 |a::l,j,h=>by
  rw[List.countP_cons]at h;by_cases b:a=x
  ·cases j with
   |zero=>exact⟨0,F,b,rfl⟩
   |succ j=>
    rw[Zn (Zz b)]at h;obtain⟨i,hi,d,c⟩:=Rn x l j I;exact⟨i+1,by grind,by grind,by simp_all⟩
  rw[Zm (by grind)]at h;obtain⟨i,hi,d,c⟩:=Rn x l j I;exact⟨i+1,by grind,by grind,by simp_all⟩
def LD{s:bd}(c:s.Pairwise fun x y=>x<=y){n:Nat}(h:n<R s):s.countP (fun y=>decide (y<s[n]))<=n/\n<s.countP fun y=>decide (y<=s[n]):=by
 have g:=aπ.1 c;constructor
 ·have e:(s.drop n).countP (fun y=>decide (y<s[n]))=0:=by
   rw[List.countP_eq_zero];intro y a;obtain⟨j,b,rfl⟩:=i6 a;rw[vd]at b;rw[List.getElem_drop,tm];rcases dθ j with d|d
   all_goals simp_all
  have i:=dη (p:=fun y=>decide (y<s[n])) (l₁:=s.take n) (l₂:=s.drop n);grind [List.take_append_drop]
 have e:(s.take (n+1)).countP (fun y=>decide (y<=s[n]))=R (s.take (n+1)):=by
  rw[eκ];intro y a;obtain⟨j,b,rfl⟩:=i6 a;grind
 grind [List.take_append_drop]
def Pa(s:bd)(x:Int):s.countP (fun y=>decide (y<x))+s.countP (fun y=>decide (y=x))=s.countP fun y=>decide (y<=x):=by
 induction s<;>grind
def O9{l:bd}{n:Nat}(h:n<R l):∃i,∃h:i<R l,before l l[i] i (R l)=n:=by
 have c:n<R (sorted l):=by rw[Vx];exact h
 obtain⟨b,a⟩:=LD (Xy l) c;generalize (sorted l)[n]=x at b a;rw[Vv]at b a;have d:=Pa l x;obtain⟨i,hi,g,e⟩:=Rn x l (n - l.countP fun y=>decide (y<x)) I;refine⟨i,hi,?_⟩;simp_all[UQ]
structure xz where
 records:List aX
 trim:Int
def Wi{l:bd}{n:Int}(x:R l<=100000)(w:0<=n/\n<R l):Ct prog 232 [ints l,bv n] (bv ((sorted l).getD n.toNat 0)):=by
 refine cI func232 O (ro 12 O ?_);refine OK.loop (G:=Nat) [] (fun i=>[(0,ints l),(1,bv n),(5,bv i)]) (fun i=>i<=R l/\∀(j:Nat)(h:j<R l),j<i->(before l l[j] j (R l):Int)≠n) (fun i=>R l - i) 0 ⟨Zr _,fun j _ h=>by omega⟩ ⟨O,O,O,Zo⟩ (fun _=>O) ?_;rintro i ⟨hi,r⟩;refine ro 5 O (kc (zk Z4 O) (rr 3 O (kB O (fun q=>?_) (fun q=>?_))))
 ·refine ro 16 O ?_;refine OK.loop (G:=Nat) [] (fun k=>[(0,ints l),(1,bv n),(5,bv i),(6,bv (before l l[i] i k)),(7,bv k)]) (fun k=>k<=R l) (fun k=>R l - k) 0 (Zr _) ⟨O,O,O,(Xb (by simp[before])),O,Zo⟩ (fun _=>O) ?_;rintro k y;refine ro 5 O (kc (zk Z4 O) (rr 3 O (kB O (fun p=>?_) (fun p=>?_))))
  ·have u:=O_ l l[i] i k;refine ro 5 O ?_;by_cases b:l[k]<l[i]
   ·refine kV (.c (zm O) (.c (zm O) (.c (zI Z4 O I O) (.c (zV Z8 O O) (.c (zm O) (.c (zm O) (.c (zI Z4 O I O) (.c (zV Z8 O O) (.c (S.lss .none O (zt O) (zt O)) (.c (zm O) (.c (zG O W) (.c (zG O W) (.c (zG O W) (.c (zG O W) (.c (zG O W) (.c (zG O W) (.c (zG O W) (.c (zG O W) (.c (zG O W) (.c (zG O W) (.c (zu O) (.c (zu O) (.c (zu O) (.c (zG O W) (.c (S.aQ .none O (zt O) .aJ W) .nil))))))))))))))))))))))))) ?_;refine Rd 14 O I ?_;refine Ab.D.lp ⟨k+1,I,I,O,O,O,(Xb (by first|exact YZ I (.inl b)|exact YZ I (.inr ⟨a,by omega⟩)|exact WR I I)),O,Zo⟩
   by_cases a:l[k]=l[i]
   ·refine kV (.c (zm O) (.c (zm O) (.c (zI Z4 O I O) (.c (zV Z8 O O) (.c (zm O) (.c (zm O) (.c (zI Z4 O I O) (.c (zV Z8 O O) (.c (S.lss .none O (zt O) (zt O)) (.c (zm O) (.c (S.move (.yes O O O W) O (zt O)) (.c (S.move (.yes O O O W) O (zt O)) (.c (S.aP Z4 (.yes O O O W) O (zt O) (zt O) O I O) (.c (S.Hz Z8 (.yes O O O W) O (zt O) O) (.c (S.move (.yes O O O W) O (zt O)) (.c (S.move (.yes O O O W) O (zt O)) (.c (S.aP Z4 (.yes O O O W) O (zt O) (zt O) O I O) (.c (S.Hz Z8 (.yes O O O W) O (zt O) O) (.c (S.eql (.yes O O O W) O (zt O) (zt O)) (.c (S.move (.yes O O O W) O (zt O)) (.c (S.move (.yes O O O W) O (zt O)) (.c (S.move (.yes O O O W) O (zt O)) (.c (S.lss (.yes O O O W) O (zt O) (zt O)) (.c (S.aQ (.yes O O O W) O (zt O) (zt O) W) (.c (S.aO .none O (zt O) (zt O) W) .nil))))))))))))))))))))))))) ?_;refine Ab.D.code (kB O (fun o=>?_) (fun o=>?_))
    ·refine Ro 12 O I ?_;refine Ab.D.lp ⟨k+1,I,I,O,O,O,(Xb (by first|exact YZ I (.inl b)|exact YZ I (.inr ⟨a,by omega⟩)|exact WR I I)),O,Zo⟩
    refine Ro 8 O I ?_;refine Ab.D.lp ⟨k+1,I,I,O,O,O,(Xb (by first|exact YZ I (.inl b)|exact YZ I (.inr ⟨a,by omega⟩)|exact WR I I)),O,Zo⟩
   refine kV (.c (zm O) (.c (zm O) (.c (zI Z4 O I O) (.c (zV Z8 O O) (.c (zm O) (.c (zm O) (.c (zI Z4 O I O) (.c (zV Z8 O O) (.c (S.lss .none O (zt O) (zt O)) (.c (zm O) (.c (S.move (.yes O O O W) O (zt O)) (.c (S.move (.yes O O O W) O (zt O)) (.c (S.aP Z4 (.yes O O O W) O (zt O) (zt O) O I O) (.c (S.Hz Z8 (.yes O O O W) O (zt O) O) (.c (S.move (.yes O O O W) O (zt O)) (.c (S.move (.yes O O O W) O (zt O)) (.c (S.aP Z4 (.yes O O O W) O (zt O) (zt O) O I O) (.c (S.Hz Z8 (.yes O O O W) O (zt O) O) (.c (S.eql (.yes O O O W) O (zt O) (zt O)) (.c (S.move (.yes O O O W) O (zt O)) (.c (zG O W) (.c (zG O W) (.c (zG O W) (.c (S.aO (.yes O O O W) O (zt O) .aJ W) (.c (S.aO .none O (zt O) (zt O) W) .nil))))))))))))))))))))))))) ?_;refine Rd 10 O I ?_;refine Ab.D.lp ⟨k+1,I,I,O,O,O,(Xb (by first|exact YZ I (.inl b)|exact YZ I (.inr ⟨a,by omega⟩)|exact WR I I)),O,Zo⟩
  refine ro 9 O (kB O (fun d=>?_) (fun d=>?_))
  ·have g:k=R l:=by omega
   subst g;obtain⟨t,v⟩:=O8 (n:=n.toNat) I (show before l l[i] i (R l)=n.toNat by omega);refine ro 4 O (kc (zI Z4 O I O) ?_);refine rr 4 O (kR O O ?_);refine cy ?_;rw[zW t,v]
  refine Ro 8 O I (Ab.D.lp ⟨i+1,⟨by omega,?_⟩,I,O,O,O,Zo⟩);intro j m z;rcases w7 j i with s|s
  ·exact r j m s
  have:j=i:=by omega
  subst this;rw[show R l=k by omega];exact d
 refine ro 7 O (kR O O ?_);exfalso;obtain⟨j,m,e⟩:=O9 (l:=l) (n:=n.toNat) I;exact r j m I I
def TL{p:bC}{l:List aX}{trim:Int}(o:bA p=0)(s:1<=R l/\R l<=1000)(hw:yA p l)(r:0<=trim/\2 * trim<=R l - 1):Ct prog 177 [.agg p.cs,.sl (l.map aX.cs),bv trim] (.agg (G6 p l trim).cs):=by
 refine cI func177 O fun{_ _}=>?_
 have m:=jc o;refine ro 9 O (kc (zk Yd O) (jm O (kc (zU JB O O) (rr 11 O (OK.nP 7 2 900 1 O O O O O ?_)))));refine OK.loop (G:=Nat) [3,6,7,900] (fun i=>[(1,.sl (l.map aX.cs)),(2,bv trim),(3,.ptr 3 0),(1003,.box p.cs),(6,.ptr 6 0),(1006,.box [bv 0,bv 0,.bO]),(7,.ptr 7 0),(1007,.box [bv (R l),bv trim,.own 900 i]),(2900,.arr 1 ((List.range i).map (fun t=>[X.sl ((D6 p l trim t).map Range.cs)]))),(8,bv i)]) (fun i=>(i:Int)<=p.aR) (fun i=>p.aR.toNat - i) 0 I ⟨O,O,O,O,O,O,O,O,(bH N),O,Zo⟩ (fun _=>O) ?_;rintro i hi;refine ro 9 O (kB O (fun h=>?_) (fun h=>?_))
 ·refine ro 6 O (RK.c (S.iI (k:=9) (sz:=2) .none O) (rr 9 O ?_));refine OK.loop (G:=Nat) [3,6,7,900,9] (fun c=>[(1,.sl (l.map aX.cs)),(2,bv trim),(3,.ptr 3 0),(1003,.box p.cs),(6,.ptr 6 0),(1006,.box [bv 0,bv 0,.bO]),(7,.ptr 7 0),(1007,.box [bv (R l),bv trim,.own 900 i]),(2900,.arr 1 ((List.range i).map (fun t=>[X.sl ((D6 p l trim t).map Range.cs)]))),(8,bv i),(9,.own 9 c),(2009,.arr 2 ((List.range c).map fun c=>(rN l trim i c).cs)),(10,bv c)]) (fun c=>c<=R p.aq) (fun c=>R p.aq - c) 0 (Zr _) ⟨O,O,O,O,O,O,O,O,(bH N),O,(cw N),(bH N),O,Zo⟩ (fun _=>O) ?_;rintro c v;refine ro 6 O (kc (zk Z2 O) (rr 3 O (kB O (fun g=>?_) (fun g=>?_))))
  ·refine ro 6 O (RK.c (S.iI (k:=11) (sz:=1) .none O) (rr 9 O ?_));refine OK.loop (G:=Nat) [3,6,7,900,9,11] (fun k=>[(1,.sl (l.map aX.cs)),(2,bv trim),(3,.ptr 3 0),(1003,.box p.cs),(6,.ptr 6 0),(1006,.box [bv 0,bv 0,.bO]),(7,.ptr 7 0),(1007,.box [bv (R l),bv trim,.own 900 i]),(2900,.arr 1 ((List.range i).map (fun t=>[X.sl ((D6 p l trim t).map Range.cs)]))),(8,bv i),(9,.own 9 c),(2009,.arr 2 ((List.range c).map fun c=>(rN l trim i c).cs)),(10,bv c),(11,.own 11 k),(2011,.arr 1 ((col (l.take k) i c).map fun n=>[bv n])),(12,bv k)]) (fun k=>k<=R l) (fun k=>R l - k) 0 (Zr _) ⟨O,O,O,O,O,O,O,O,(bH N),O,(cw N),(bH N),O,(cw N),(bH N),O,Zo⟩ (fun _=>O) ?_;rintro k u;refine ro 5 O (kc (zk Yd O) (rr 3 O (kB O (fun e=>?_) (fun e=>?_))))
   ·have d:i<R l[k].rows:=by have:=hw.rows k I;omega
    have j:c<R l[k].rows[i].values:=by have:=hw.vals k I i d;omega
    refine ro 8 O (kc (zI Yd O I O) ?_);refine rr 3 O (kc (zI Za O d O) (rr 3 O (kc (zI Z4 O j O) (kc (zV Z8 O O) ?_))));refine RK.c (zM [[_]] ZM O O O O) ?_;refine kc (zP ZM O O (by simp only[Zx,qd,sc];omega) N I (by simp only[maxLen];omega)) ?_;refine Rr 9 O I ?_;refine Ab.D.lp ⟨k+1,I,I,O,O,O,O,O,O,O,O,(bH N),O,(cw N),(bH N),O,(cw N),(bH (by rw[←D7 I d j,ne];rfl)),O,Zo⟩
   have b:k=R l:=by omega
   subst b;refine OK.exit O (Ab.D.code ?_);rw[List.take_length]at *;have q:=qd l i c;have a:rN l trim i c=⟨(sorted (col l i c)).getD trim.toNat 0,(sorted (col l i c)).getD ((R l:Int) - 1 - trim).toNat 0⟩:=by
    rw[rN,show((R l:Int) - 1 - trim).toNat=R l - 1 - trim.toNat by omega]
   refine OK.freeze 11 O O O (by simp only[Zx,qd]) ?_;refine ro 4 O (kc (zK (Wi (l:=col l i c) (n:=trim) I I) call232 O) (jm O (jm O (kc (zk Yd O) ?_))));refine Rr 3 O I (kc (zK (Wi (l:=col l i c) (n:=(R l:Int) - 1 - trim) I I) call232 O) (kc (zU M6 O O) ?_));refine RK.c (zM [[_,_]] MY O O O O) ?_;refine kc (zP MY O O N N I (by simp only[maxLen];omega)) ?_;refine Rr 9 O I ?_;refine Ab.D.lp ⟨c+1,I,I,O,O,O,O,O,O,O,O,(bH N),O,(cw N),(bH (by rw[cε,ne,ta,a];rfl)),O,Zo⟩
  refine OK.exit O (Ab.D.code (OK.freeze 9 O O O F ?_));refine ro 4 O ?_;refine RK.c (zM [[_]] LW O O O O) ?_;refine kc (zP LW O O N N I (by simp only[maxLen];omega)) ?_;refine Rr 10 O I ?_;refine Ab.D.lp ⟨i+1,I,I,O,O,O,O,O,O,O,O,(bH (by rw[show c=R p.aq by omega,cε,ne];simp only[D6,x3,ta,H2];rfl)),O,Zo⟩
 refine ro 8 O ?_;refine OK.ret (aA.r1 (.bG O O O O V7 O (.k (.same O) (.k (.same O) (.k (.own O O N) .z)))) ?_);rw[show i=p.aR.toNat by omega,G6,Envelope.cs,x3];rfl
end Go.Proofs.Z9
namespace Go.Proofs.Z9
open Go.Ab Tryz
def Fm{L:List bW}{q:Bool}(h:au (Ab.stepG (fun(_:Bool)(_:bW)=>(true,some Code.ret))) (false,none) L=((q,none),true)):L=[]/\q=false:=by
 cases L with
 |nil=>simp only[au,aψ]at h;simp_all
 |cons d L=>simp[au,Ab.stepG]at h
def Fo{L:List bW}{q:Bool}{a:Code}(h:(au (Ab.stepG (fun(_:Bool)(_:bW)=>(true,some Code.ret))) (false,none) L).1=(q,some a)):L≠[]/\q=true/\a=.ret:=by
 cases L with
 |nil=>simp[au]at h
 |cons d L=>
  simp_all[au,Ab.stepG]
def oX(x:Envelope)(r:aX):Int:=if(v7 x r).length≠0 then 2 else if(R (wB r))≠0 then 1 else 0
def Ju(x:Envelope):Prop:=∀(i:Nat)(h:i<R x.rows)(j:Nat)(a:j<R x.rows[i]),x.rows[i][j].lo<=x.rows[i][j].hi
def JK{t:Nat}{rs:List Range}{c:Nat}{n:Int}(h:c<R rs)(a:rs[c].lo<=rs[c].hi)(b:n>rs[c].hi):xN t rs c n=[⟨t,c,n - rs[c].hi⟩]:=by
 have e:iq n rs[c]=n - rs[c].hi:=by
  unfold iq;omega
 unfold xN;grind
def JM{t:Nat}{rs:List Range}{c:Nat}{n:Int}(h:c<R rs)(a:rs[c].lo<=rs[c].hi)(b:n<rs[c].lo):xN t rs c n=[⟨t,c,n - rs[c].lo⟩]:=by
 have e:iq n rs[c]=n - rs[c].lo:=by
  unfold iq;omega
 unfold xN;grind
def JL{t:Nat}{rs:List Range}{c:Nat}{n:Int}(h:c<R rs)(b:¬n>rs[c].hi)(a:¬n<rs[c].lo):xN t rs c n=[]:=by
 simp_all[iq,Zm,xN]
def Qb{D out rest more tail:List bW}(h:D=out++(more++rest++tail)):D=(out++more)++(rest++tail):=by rw[h];simp
def Mn{D out tail:List bW}(h:D=out++tail)(a:R D<=100000):R out<=100000:=by
 grind
def LN{p:bC}{x:Envelope}(h:(ki p x).2=0):Ju x:=fun i hi j a=>(Cj (((Ck h).2.2.2 i hi).2 j a)).2
def PS{t n:Int}(h:eL t n≠0):eL t n=2:=by
 unfold eL at *;omega
def vj{x:Envelope}{r:aX}(p:Gb x r)(e:R r.rows<=100000)(b:∀(i:Nat)(h:i<R r.rows),R r.rows[i].values<=100000):Ct prog 257 [.agg x.cs,.agg r.cs] (.bool (decide ((v7 x r).length≠0))):=by
 refine cI func257 O (ro 12 O (kc (zK qC call302 O) (rr 3 O ?_)));refine OK.rangeFunc (ps:=[8]) (encs:=(fun d=>[.agg (bW.cs d)])) (L:=(v7 x r)) [4] [(4,.ptr 4 0)] (fun q=>[(1004,.box [.bool q])]) false (fun(_:Bool)(_:bW)=>(true,some Code.ret)) ((fun J g o Φ c m=>Ar p e b J g o Φ c m)) call352 (.inl O) (zt O) O O ⟨O,O,Zo⟩ (fun _=>O) (fun _=>O) (fun _=>O) (fun _=>O) (fun _=>O) C O ?_ ?_ ?_
 ·rintro i x q w a lr c0 w0 v u t s;refine OK.Hj ?_;refine⟨rfl,?_⟩;refine ro 6 O (OK.ret ?_);exact⟨rfl,rfl,Zo⟩
 ·rintro q a;obtain⟨n,k⟩:=Fm a;subst k;refine rd 7 O (OK.ret (aA.r1 (.wI O O O O SP (.same O) O) ?_));rw[n];rfl
 rintro q y a;obtain⟨n,j,l⟩:=Fo a;subst j;subst l;refine OK.ret (aA.r1 (.wI O O O O SP (.same O) O) ?_);rw[Zz (by simpa using n)]
def sw{p:bC}{x:Envelope}{r:aX}:Ct prog 204 [.agg p.cs,.agg x.cs,.agg r.cs] (.cf [bv (if dZ p x r=0 then oX x r else 0),bv (dZ p x r)]):=by
 refine cI func204 O (ro 15 O (kc (zK vl call256 O) (rr 9 O (kB O (fun c=>?_) (fun c=>?_)))))
 ·refine ro 7 O (kS O O O O ?_);rw[Zm (show¬dZ p x r=0 from c)]
 have b:dZ p x r=0:=I
 have d:=ED b;have g:=d.rows;refine ro 8 O ?_;refine kc (zK (vj d.fit I (fun i h=>by have:=d.vals i h;omega)) call257 O) ?_;refine rr 3 O (OK.cond O O (fun a=>?_) (fun a=>?_))
 ·refine ro 6 O (kS O O O O ?_);rw[Zn b,b,oX,Zn (pf a)]
 refine ro 3 O (kc (zK (wD I) call258 O) (kc (zk Z4 O) ?_));refine rr 4 O (kB O (fun e=>?_) (fun e=>?_))
 ·refine ro 6 O (kS O O O O ?_);rw[Zn b,b,oX,Zm (a6 a),Zn I]
 refine ro 9 O (kS O O O O ?_);rw[Zn b,b,oX,Zm (a6 a),Zm I]
def V0{l:List Range}(hlen:R l<=100000):Ct prog 275 [.sl (l.map Range.cs)] (.sl (l.map Range.cs)):=by
 refine cI func275 O (kr (kc (S.assign .none O .fW) (rr 4 O (RK.c (zM [] MY O O O O) (jm O ?_)))));refine RK.c (S.mQ MY .none O (zt O) O N (zt O) (by intro q a;obtain⟨b,_,rfl⟩:=rx.1 a;rfl) O (by simp only[Zx];omega) (by simp only[maxLen,Zx];omega)) ?_;refine rr 3 O ?_;refine OK.ret (aA.r1 (.tmp O O (.c (.own O O N) O) O) ?_);rfl
def WI{x:Envelope}(hlen:R x.rows<=100000)(b:∀(i:Nat)(h:i<R x.rows),R x.rows[i]<=100000):Ct prog 222 [.agg x.cs] (.agg x.cs):=by
 refine cI func222 O (ro 12 O (kc (zU JB O O) (rr 11 O (OK.nP 3 2 890 1 O O O O O ?_))));refine OK.loop (G:=Nat) [1,2,3,890] (fun i=>[(1,.ptr 1 0),(1001,.box x.cs),(2,.ptr 2 0),(1002,.box [bv 0,bv 0,.bO]),(3,.ptr 3 0),(1003,.box [bv x.parts,bv x.trim,.own 890 i]),(2890,.arr 1 ((x.rows.take i).map (fun l=>[X.sl (l.map Range.cs)]))),(4,bv i)]) (fun i=>i<=R x.rows) (fun i=>R x.rows - i) 0 (Zr _) ⟨O,O,O,O,O,O,(bH N),O,Zo⟩ (fun _=>O) ?_;rintro i hi;refine ro 6 O (kc (zk VC O) (rr 3 O (kB O (fun d=>?_) (fun d=>?_))))
 ·have a:=b i I;refine ro 4 O ?_;refine kV (.c (zf WY O) (.c (zl QU O O O O) (.c (zf WY O) (.c (zl QU O O O O) (.c (zm O) (.c (zI VC O I O) (.c (zV j3 O O) (.c (zK (V0 (l:=x.rows[i]) a) call275 O) (.c (zM [[_]] LW O O O O) (.c (zP LW O O (by first|(simp;done)|(simp;omega)) N I (by simp only[maxLen];omega)) (.c (zf WY O) (.c (zS QU O O O O O O) .nil)))))))))))) ?_;refine Rd 7 O I ?_;refine Ab.D.lp ⟨i+1,I,I,O,O,O,O,O,O,(bH (by rw[←tF I];simp only[ne,ta,H2])),O,Zo⟩
 refine ro 8 O ?_;refine OK.ret (aA.r1 (.bG O O O O V7 O (.k (.same O) (.k (.same O) (.k (.own O O N) .z)))) ?_);rw[show i=R x.rows by omega,List.take_length];rfl
def Vm{x:Envelope}{r:aX}(n:Gb x r)(w:R r.rows<=100000)(o:∀(i:Nat)(h:i<R r.rows),R r.rows[i].values<=100000)(z:Ju x)(A:(v7 x r).length<=100000):Ct prog 276 [.agg x.cs,.agg r.cs] (devs (v7 x r)):=by
 refine cI func276 O (ro 4 O (kc (S.assign .none O .fW) (rr 4 O (RK.c (S.iI (k:=5) (sz:=3) .none O) (rr 9 O ?_)))));refine OK.mP [2,3,5] (fun(i:Nat)(out:List bW)=>[(2,.ptr 2 0),(1002,.box x.cs),(3,.ptr 3 0),(1003,.box r.cs),(5,.own 5 (R out)),(2005,.arr 3 (out.map bW.cs)),(6,bv i)]) (fun i out=>i<=R r.rows/\v7 x r=out++mT x i (r.rows.drop i)) (fun i out=>R r.rows - i) (0) ([]) ⟨Zr _,O⟩ ⟨O,O,O,O,(cw N),(bH N),O,Zo⟩ (fun _ _=>O) ?_;rintro i out ⟨hi,v⟩;refine ro 6 O (kc (zk Za O) (rr 3 O (kB O (fun q=>?_) (fun q=>?_))))
 ·refine ro 10 O ?_;refine OK.mP [2,3,5] (fun(j:Nat)(a:List bW)=>[(2,.ptr 2 0),(1002,.box x.cs),(3,.ptr 3 0),(1003,.box r.cs),(5,.own 5 (R a)),(2005,.arr 3 (a.map bW.cs)),(6,bv i),(7,bv j)]) (fun j a=>j<=R r.rows[i].values/\v7 x r=a++(iJ i (x.rows.getD i []) j (r.rows[i].values.drop j)++mT x (i+1) (r.rows.drop (i+1)))) (fun j a=>R r.rows[i].values - j) (0) (out) ⟨Zr _,by rw[v,xO I];rfl⟩ ⟨O,O,O,O,(cw N),(bH N),O,O,Zo⟩ (fun _ _=>O) ?_;rintro j a ⟨B,b⟩;refine ro 7 O (kc (zI Za O I O) ?_);refine rr 2 O (kc (zk Z4 O) (rr 3 O (kB O (fun p=>?_) (fun p=>?_))))
  ·have g:=n.rows i I;have d:=n.IQ i I g j I;have t:=n.val i I j I;have u:=n.Jk i g j d;have l:=z i g j d;have y:=Mn b A;have s:=o i I;refine ro 5 O (kV (.c (zf Qf O) (.c (zl LR O O O O) (.c (zm O) (.c (zI Za O I O) (.c (S.field SQ .none O (zt O) O) (.c (zV Zd O O) (.c (zm O) (.c (zI Z4 O I O) (.c (zV Z8 O O) (.c (zf WY O) (.c (zl QU O O O O) (.c (zm O) (.c (zI VC O g O) (.c (zV j3 O O) (.c (zm O) (.c (zI LQ O d O) (.c (S.fG MN .none O (zt O) O O) (.c (zA (c:=9) GB O) (.c (za O) (.c (zS MN O O O O O O) .nil)))))))))))))))))))) ?_);refine rd 10 O (kB O (fun m=>?_) (fun m=>?_))
   ·refine Ro 8 O I (kc (zU O1 O O) ?_);refine RK.c (zM [[_,_,_]] Tn O O O O) ?_;refine kc (zP Tn O O F N I (by simp only[maxLen];omega)) ?_;refine rr 11 O (kB O (fun e=>?_) (fun e=>?_))
    ·refine Ro 8 O I (kc (zU O1 O O) ?_);refine RK.c (zM [[_,_,_]] Tn O O O O) ?_;refine kc (zP Tn O O F N (by first|omega|(simp;omega)) (by simp only[maxLen];omega)) ?_;refine Rr 9 O I ?_;refine Ab.D.lp ⟨j+1,a++[⟨i,j,r.rows[i].values[j] - x.rows[i][j].hi⟩]++[⟨i,j,r.rows[i].values[j] - x.rows[i][j].lo⟩],⟨by omega,?_⟩,I,O,O,O,O,(cw N),(bH (by first|rfl|(rw[ne];rfl)|(rw[ne,ne];rfl))),O,O,Zo⟩;exfalso;omega
    refine Ro 8 O I ?_;refine Ab.D.lp ⟨j+1,a++[⟨i,j,r.rows[i].values[j] - x.rows[i][j].hi⟩],⟨by omega,?_⟩,I,O,O,O,O,(cw N),(bH (by first|rfl|(rw[ne];rfl)|(rw[ne,ne];rfl))),O,O,Zo⟩;rw[v8 I,getD_at g,JK d l m]at b;rw[getD_at g];exact Qb b
   refine ro 10 O (kB O (fun e=>?_) (fun e=>?_))
   ·refine Ro 8 O I (kc (zU O1 O O) ?_);refine RK.c (zM [[_,_,_]] Tn O O O O) ?_;refine kc (zP Tn O O F N (by first|omega|(simp;omega)) (by simp only[maxLen];omega)) ?_;refine Rr 9 O I ?_;refine Ab.D.lp ⟨j+1,a++[⟨i,j,r.rows[i].values[j] - x.rows[i][j].lo⟩],⟨by omega,?_⟩,I,O,O,O,O,(cw N),(bH (by first|rfl|(rw[ne];rfl)|(rw[ne,ne];rfl))),O,O,Zo⟩;rw[v8 I,getD_at g,JM d l e]at b;rw[getD_at g];exact Qb b
   refine Ro 8 O I ?_;refine Ab.D.lp ⟨j+1,a,⟨by omega,?_⟩,I,O,O,O,O,(cw N),(bH (by first|rfl|(rw[ne];rfl)|(rw[ne,ne];rfl))),O,O,Zo⟩;rw[v8 I,getD_at g,JL d m e]at b;rw[getD_at g];exact b
  refine Ro 8 O I ?_;refine Ab.D.lp ⟨i+1,a,⟨by omega,?_⟩,I,O,O,O,O,(cw N),(bH N),O,Zo⟩;rw[b,show j=R r.rows[i].values by omega,no];rfl
 refine ro 8 O ?_;refine OK.ret (aA.r1 (.tmp O O (.c (.own O O N) O) O) ?_);rw[v,show i=R r.rows by omega,no,mT,i8];rfl
def Sn{x:Envelope}{r:aX}(e:Gb x r)(b:R r.rows<=100000)(a:∀(i:Nat)(h:i<R r.rows),R r.rows[i].values<=100000)(d:Ju x)(g:(v7 x r).length<=100000):Ct prog 226 [.agg x.cs,.agg r.cs] (bv (oX x r)):=by
 refine cI func226 O (ro 13 O (kc (zK (Vm e b a d g) call276 O) (kc (zk si382 O) (rr 4 O (kB O (fun j=>?_) (fun j=>?_))))))
 ·refine ro 5 O (kR O O ?_);refine cy ?_;rw[oX,Zn I]
 refine ro 3 O (kc (zK (Ox I) call277 O) (kc (zk Z4 O) ?_));refine rr 4 O (kB O (fun c=>?_) (fun c=>?_))
 ·refine ro 5 O (kR O O ?_);refine cy ?_;rw[oX,Zm I,Zn I]
 refine ro 8 O (kR O O ?_);refine cy ?_;rw[oX,Zm I,Zm I]
end Go.Proofs.Z9
namespace Go.Proofs.Z9
open Go.Ab Tryz
def Sb{p:bC}{l:List aX}(h:kU p l=0):(1<=R l/\R l<=20)/\∀(k:Nat)(a:k<R l),(gB p l[k]).2=0/\R (wB l[k])=0:=by
 grind [kU,fX,jg]
def Yx{α:Type}(g:Nat->α->Int):∀(l:List α)(i:Nat),(∀(j:Nat)(h:j<R l),g (i+j) l[j]=0)->aK g i l=(0,0)
 |[],_,_=>rfl
 |x::l,i,h=>by
  have h0:=h 0 F;simp only[bγ,Kp]at h0;rw[aK,Zm I];refine Yx g l (i+1) fun j a=>?_
  have:=h (j+1) (by grind);grind
def LH{l:List aX}{t c k:Nat}(a:k<R l)(d:t<R l[k].rows)(b:c<R l[k].rows[t].values):(col l t c)[k]'(by rw[qd];exact a)=l[k].rows[t].values[c]:=by
 simp_all[col]
structure SZ(p:bC)(l:List aX):Prop where
 aS:bA p=0
 len:1<=l.length/\l.length<=20
 chk:∀(k:Nat)(hk:k<l.length),(gB p l[k]).2=0/\(wB l[k]).length=0
 whole:yA p l
def NI{p:bC}{l:List aX}(a:bA p=0)(h:kU p l=0):SZ p l:=⟨a,(Sb h).1,(Sb h).2,D5 h⟩
def LI{p:bC}{l:List aX}(h:SZ p l){t c:Nat}(g:(t:Int)<p.aR)(i:c<R p.aq):∀v∈col l t c, -1000000<=v/\v<=1000000:=by
 intro v e;obtain⟨k,a,rfl⟩:=i6 e;rw[qd]at a;have b:t<R l[k].rows:=by have:=h.whole.rows k a;omega
 have d:c<R l[k].rows[t].values:=by have:=h.whole.vals k a t b;omega
 rw[LH a b d];exact(Cm ((Cl (h.chk k a).1).2 t b)).2.2 c d
def Vy{p:bC}{l:List aX}(h:SZ p l){t c n:Nat}(a:(t:Int)<p.aR)(d:c<R p.aq)(b:n<R (sorted (col l t c))): -1000000<=(sorted (col l t c))[n]/\(sorted (col l t c))[n]<=1000000:=
 LI h a d _ ((bμ (col l t c) _).mem_iff.1 (Zt b))
def Jy{s:bd}(b:s.Pairwise fun x y=>x<=y){i j:Nat}(h:i<=j)(c:j<R s):s[i]<=s[j]:=by
 rcases w7 i j with a|a
 ·simp_all[aπ]
 grind
def Mz{p:bC}{l:List aX}{trim:Int}{t c:Nat}(a:c<R (D6 p l trim t)):(D6 p l trim t)[c]=rN l trim t c:=by
 simp[D6]
def QC(p:bC)(l:List aX)(trim:Int)(t:Nat):R (D6 p l trim t)=R p.aq:=by simp[D6]
def LM{p:bC}{l:List aX}{trim:Int}{t:Nat}(a:t<R (G6 p l trim).rows):(G6 p l trim).rows[t]=D6 p l trim t:=by
 simp[G6]
theorem S9(p:bC)(l:List aX)(trim:Int):R (G6 p l trim).rows=p.aR.toNat:=by simp[G6]
def R1{p:bC}{l:List aX}{trim:Int}(h:SZ p l)(e:eL trim (R l)=0):ki p (G6 p l trim)=(0,0):=by
 have r:=h.len;have q:=jc h.aS;have d:=tg I e;have k:(G6 p l trim).parts=R l:=rfl;have j:(G6 p l trim).trim=trim:=rfl;unfold ki;rw[k,j,Zm I,Zm I,S9,Zm I];refine Yx _ _ 0 fun t a=>?_
 rw[LM a];rw[S9]at a;unfold jB;rw[QC,Zm I];have:aK (fun _ x=>gu x) 0 (D6 p l trim t)=(0,0):=by
  refine Yx _ _ 0 fun c b=>?_
  show gu _=0;rw[Mz b];rw[QC]at b;have i:=qd l t c;have g:=Vx (col l t c);have o:=Vy h (show(t:Int)<p.aR by omega) b (show trim.toNat<_ by omega);have n:=Vy h (show(t:Int)<p.aR by omega) b (show R l - 1 - trim.toNat<_ by omega);have m:=Jy (Xy (col l t c)) (show trim.toNat<=R l - 1 - trim.toNat by omega) I;unfold gu rN;grind
 rw[this]
