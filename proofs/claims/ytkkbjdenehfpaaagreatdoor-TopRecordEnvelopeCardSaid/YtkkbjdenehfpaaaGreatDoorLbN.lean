import Derived.Lib.AppendIntMem
import Derived.Lib.AtoiAllCases
import Derived.Lib.AtoiErrMem
import Derived.Lib.ItoaLen
import Derived.Test.YtkkbjdenehfpaaaGreatDoorWpN
set_option linter.all false
set_option maxHeartbeats 1000000
open List renaming length->R
namespace Go.Proofs.Z_
open Go.Ab Tryz
set_option maxRecDepth 9999
def W0(b:UInt8):Bool:=decide<|48<=b.toNat/\b.toNat<=57
def Wq(c:Nat)(l:ba):Nat:=l.foldl (λa b=>a * 10+(b.toNat - 48)) c
theorem Pz(a:Nat):Wq a []=a:=rfl
theorem S_(a:Nat)(b:UInt8)(l:ba):Wq a (b::l)=Wq (a * 10+(b.toNat - 48)) l:=aτ ..
variable{l:ba}
theorem nA{m:ba}(h:l≠[]):(l++m).head?=l.head?:=by
 cases l<;>grind
def TF(l:ba)(d:Nat):Bool:=(decide (l≠[])&&decide (R l<=d))&&((decide (R l=1)||decide (l.head?≠some 48))&&l.all W0)
def Canon(l:ba):Prop:=l≠[]/\(R l=1\/l.head?≠some 48)/\l.all W0=true
variable{d:Nat}
theorem XS:TF l d=true↔Canon l/\R l<=d:=by
 unfold TF Canon;grind
def Rp(b:UInt8):∀(l:ba)(a:Nat),Wq a (l++[b])=Wq a l * 10+(b.toNat - 48)
 |[],a=>by rfl
 |x::l,a=>by rw[H5,S_,Rp b l,S_]
def Sb:∀(l:ba)(a:Nat),l.all W0=true->Wq a l<(a+1) * 10 ^ (R l)
 |[],a,_=>by rw[Pz,aυ,Nat.pow_zero];omega
 |x::l,a,h=>by
  simp only[so,Zw]at h;have c:48<=x.toNat/\x.toNat<=57:=pf h.1;have b:=Sb l (a * 10+(x.toNat - 48)) h.2;rw[S_,tt,Nat.pow_succ];refine rp b ?_;rw[Nat.mul_comm (10 ^ (R l)) 10,←Nat.mul_assoc];exact m8 _ I
variable{k:Nat}
theorem Rb(h:k<10):W0 (UInt8.ofNat<|48+k)=true/\(UInt8.ofNat<|48+k).toNat=48+k:=by
 have:(UInt8.ofNat<|48+k).toNat=48+k:=by rw[UInt8.toNat_ofNat'];omega
 exact⟨Zz I,this⟩
def Lc{u:Nat}(h:¬u<10):Lib.decDigits u=Lib.decDigits (u / 10)++[UInt8.ofNat<|48+u % 10]:=by rw[Lib.decDigits,dif_neg h]
def v7(u:Nat):Lib.decDigits u≠[]:=λe=>by
 have a:=Lib.decDigits_length u;have b:=Lib.nDigits_pos u;rw[e]at a;simp at a;omega
theorem HB:∀(u:Nat),0<u->(Lib.decDigits u).head?≠some 48
 |u,h=>by
  by_cases a:u<10
  ·rw[Lib.decDigits_one a];intro e;have c:UInt8.ofNat (48+u)=48:=by grind
   have b:=(Rb a).2;simp_all
  rw[Lc a,nA<|v7 _];exact HB (u / 10) I
theorem Jx:∀(u:Nat),(Lib.decDigits u).all W0=true
 |u=>by
  by_cases a:u<10
  ·rw[Lib.decDigits_one a];rw[so,dχ,cν];exact(Rb a).1
  rw[Lc a,cψ,Jx<|u / 10];rw[so,dχ,cν,tn];grind [Rb]
theorem Ls(u:Nat):Canon<|Lib.decDigits u:=by
 refine⟨v7 u,?_,Jx u⟩;grind [Lib.decDigits_one,HB]
theorem v8:∀(u:Nat),Wq 0 (Lib.decDigits u)=u
 |u=>by
  by_cases a:u<10
  ·grind [Lib.decDigits_one,S_,Pz,Rb]
  rw[Lc a,Rp,v8<|u / 10,(Rb (show u % 10<10 by omega)).2];omega
theorem OZ:∀(n:Nat)(l:ba),R l=n->Canon l->Lib.decDigits (Wq 0 l)=l:=by
 intro n
 induction n with
 |zero=>intro l j h;exact absurd (cι.1 j) h.1
 |succ n k=>
  intro l j h;obtain⟨h0,q,c⟩:=h;rcases List.eq_nil_or_concat l with rfl|⟨m,b,rfl⟩
  ·simp_all
  rw[List.concat_eq_append]at *;rw[cψ,Zw]at c;have p:48<=b.toNat/\b.toNat<=57:=by
   have:=c.2;simp only[so,dχ,cν]at this;exact pf this
  have a:UInt8.ofNat (48+(b.toNat - 48))=b:=by
   simp_all
  by_cases i:m=[]
  ·subst i;rw[bε];rw[S_,Pz,Nat.zero_mul,wc,Lib.decDigits_one I,a]
  have hh:m.head?≠some 48:=by
   grind
  have o:Canon m:=⟨i,.inr hh,c.1⟩;have d:=k m (by simp_all) o;have g:0<Wq 0 m:=by
   refine Nat.pos_of_ne_zero λe=>?_
   rw[e,Lib.decDigits_one C]at d;grind
  rw[Rp,Lc I,show(Wq 0 m * 10+(b.toNat - 48)) / 10=Wq 0 m by omega,show(Wq 0 m * 10+(b.toNat - 48)) % 10=b.toNat - 48 by omega,d,a]
theorem Iy:∀(l:ba)(a k:Nat),l.all W0=true->a<10 ^ k->k+R l<=18->Lib.parseUint10 a l=.ok (Wq a l)
 |[],_,_,_,_,_=>by rfl
 |b::l,a,k,h,ha,hk=>by
  simp only[so,Zw]at h;have d:48<=b.toNat/\b.toNat<=57:=pf h.1;have e:(10:Nat) ^ k<=10 ^ 17:=aφ C (by grind);have g:(10:Nat) ^ 17=100000000000000000:=C
  have c:a * 10+(b.toNat - 48)<10 ^ (k+1):=I
  simp only[Lib.parseUint10];rw[Zn d,Zm I,Zm I];rw[S_];exact Iy l _ (k+1) h.2 c (by grind)
theorem yd(h:Canon l)(g:R l<=18):Lib.atoiAll l=.ok (Wq 0 l:Int):=by
 obtain⟨h0,_,a⟩:=h;cases l with
 |nil=>simp_all
 |cons c r=>
  have j:48<=c.toNat/\c.toNat<=57:=by
   simp only[so,Zw]at a;exact pf a.1
  rw[Lib.atoiAll_plain c r I I];unfold Lib.parseMag;have d:=Iy (c::r) 0 0 a C I;rw[Zm F,d];have e:=Sb (c::r) 0 a;have b:(10:Nat) ^ (R<|c::r)<=10 ^ 18:=aφ C g;have i:(10:Nat) ^ 18=1000000000000000000:=C
  unfold Lib.signless;grind
def Px(l:ba):IntKind.i64.wrap (YZ l)=YZ l:=by
 refine mn _ ?_;unfold YZ;rcases h:Lib.atoiAll l with v|_|_
 ·exact Lib.atoiAll_bounds h
 all_goals simp[Lib.atoiSat_bounds]
variable{n:Int}
theorem MO(h:0<=n):Lib.itoa n=Lib.decDigits n.toNat:=by simp_all[Lib.itoa,Zm]
def YB(l:ba)(d:Nat):Bool:=(SD l&&(decide (0<=YZ l)&&(decide (Lib.itoa (YZ l)=l)&&decide (R l<=d))))
theorem He(h:Canon l)(b:R l<=18):SD l=true/\YZ l=(Wq 0 l:Int)/\Lib.itoa (YZ l)=l:=by
 have c:=yd h b;have a:YZ l=(Wq 0 l:Int):=by grind [YZ]
 refine⟨by grind [SD],a,?_⟩;rw[a,MO I,Int.toNat_natCast];exact OZ _ l rfl h
theorem Tt(l:ba)(hd:d<=18):YB l d=TF l d:=by
 rw[cδ,XS];unfold YB;simp only[Zw,de];grind [MO,Ls,He]
def O8(hd:d<=18)(h:TF l d=true):YZ l=(Wq 0 l:Int):=by
 obtain⟨a,b⟩:=XS.1 h;exact(He a I).2.1
def Wn(l:ba)(d:Nat):Int×Bool:=
 let a:=if l.head?=some 45 then 1 else 0
 if R l=a\/d<R l - a\/(l.getD a 0=48/\1<R l)then(0,false)
 else if(l.drop a).all W0=true then(if a=1 then -(Wq 0 (l.drop a):Int)else(Wq 0 (l.drop a):Int),true)else(0,false)
theorem PM{l:ba}{d:Nat}:((Wn l d).2&&decide (0<=(Wn l d).1))=TF l d/\(TF l d=true->(Wn l d).1=(Wq 0 l:Int)):=by
 by_cases k:l.head?=some 45
 ·cases l with
  |nil=>cases k
  |cons c r=>
   have p:c=45:=by grind
   subst p;have i:TF (45::r) d=false:=by
    simp[TF,W0]
   rw[i];refine⟨?_,λh=>by cases h⟩;unfold Wn;simp only[List.head?_cons,if_true];by_cases a:R (45::r)=1\/d<R (45::r) - 1\/((45::r:ba).getD 1 0=48/\1<R (45::r))
   ·simp_all
   rw[Zm a];by_cases b:((45::r:ba).drop 1).all W0=true
   ·rw[Zn b];have n:Canon r:=by
     refine⟨λe=>a<|.inl<|by rw[e];rfl,.inr λe=>a<|.inr<|.inr ?_,b⟩;cases r<;>grind
    have m:=OZ _ r rfl n;have j:Wq 0 r≠0:=λe=>by
     rw[e,Lib.decDigits_one C]at m;grind
    simp_all
   grind
 unfold Wn;simp only[Zm k];by_cases a:R l=0\/d<R l - 0\/(l.getD 0 0=48/\1<R l)
 ·rw[Zn a];have i:TF l d=false:=by
   rw[bι];intro e;obtain⟨⟨v,g,u⟩,t⟩:=XS.1 e;rcases a with a|a|⟨a,s⟩
   ·simp_all
   ·omega
   rcases g with g|g
   ·omega
   cases l<;>grind
  simp_all
 rw[Zm a,aα];have o:l≠[]:=λe=>a (.inl<|by rw[e];rfl)
 have qk:R l<=d:=by
  omega
 have q:R l=1\/l.head?≠some 48:=by
  by_cases e:R l=1
  ·exact .inl e
  refine .inr λg=>a<|.inr<|.inr ?_
  cases l<;>grind
 by_cases b:l.all W0=true
 ·rw[Zn b,Zm C];refine⟨?_,λ_=>rfl⟩;simp_all[TF]
 rw[Zm b];have i:TF l d=false:=by
  rw[bι];intro e;exact b (XS.1 e).1.2.2
 simp_all
def OE(h:IntKind.i64.wrap n=n):R (Lib.itoa n)<=21:=by
 simp_all[Az,Lib.itoa_length_le]
def Kl(a:Nat)(l:ba)(d:Nat):Int×Bool:=
 if R l=a\/d<R l - a\/(l.getD a 0=48/\1<R l)then(0,false)
 else if(l.drop a).all W0=true then(if a=1 then -(Wq 0 (l.drop a):Int)else(Wq 0 (l.drop a):Int),true)else(0,false)
def Eh(h:l.head?=some 45):Wn l d=Kl 1 l d:=by simp_all[Wn,Kl]
def Eg(h:¬l.head?=some 45):Wn l d=Kl 0 l d:=by simp_all[Wn,Kl]
variable{a:Nat}
def JM(h:R l=a\/d<R l - a\/(l.getD a 0=48/\1<R l)):Kl a l d=(0,false):=Zn h
variable{i:Nat}
theorem M4(h:¬(R l=a\/d<R l - a\/(l.getD a 0=48/\1<R l)))(e:a<=i)(c:i<R l)(b:W0 l[i]=false):Kl a l d=(0,false):=by
 unfold Kl;rw[Zm h,Zm];rw[Bool.not_eq_true,List.all_eq_false];exact⟨l[i],List.mem_drop_iff_getElem.2 ⟨i - a,I,by grind⟩,by grind⟩
def Ei(h:¬(R l=a\/d<R l - a\/(l.getD a 0=48/\1<R l)))(b:(l.drop a).all W0=true):Kl a l d=(if a=1 then -(Wq 0 (l.drop a):Int)else(Wq 0 (l.drop a):Int),true):=by
 unfold Kl;simp_all
theorem Gn(c:a<=i)(b:i<R l):(l.take<|i+1).drop a=(l.take i).drop a++[l[i]]:=by
 grind [List.take_succ_eq_append_getElem]
theorem DS(h:0<R l):l.head?=some 45↔(l[0].toNat:Int)=45:=by
 cases l with
 |nil=>simp at h
 |cons c r=>
  simp only[List.head?_cons,Kp,bθ];constructor
  ·rintro rfl;rfl
  intro e;exact cω.1 (by grind)
theorem DQ(h:a<R l):l.getD a 0=48↔(l[a].toNat:Int)=48:=by
 rw[TJ h];constructor
 ·simp_all
 intro e;exact cω.1 (by grind)
def mo{b:UInt8}(h:48<=b.toNat/\b.toNat<=57):W0 b=true:=Zz h
def Jy{b:UInt8}(h:¬(48<=b.toNat/\b.toNat<=57)):W0 b=false:=Zy h
def eW(h:k<=18):(10:Nat) ^ k<=1000000000000000000:=by
 have:=aφ (n:=10) C h;omega
def eV(h:k<=17):(10:Nat) ^ k<=100000000000000000:=by
 have:=aφ (n:=10) C h;omega
def itoaI:kQ prog 81:=⟨⟨1,V⟩,λn w h0 b a=>(strconv_Itoa n h0 b w a).mono (by
 rintro e c ⟨rfl,k,os,rfl⟩;exact⟨rfl,Lib.below_grow _ w (Zq _) k os⟩)⟩
def N9(h:IntKind.i64.wrap n=n):Q7 prog 81 [bv n]<|.str<|Lib.itoa n:=itoaI.ct (by have:=OE h;omega)
def atoiI:kM prog 146:=by
 refine⟨⟨2,V⟩,⟨3,V⟩,λl w es y x q p j k=>?_⟩;have s : prog.globalNamed "strconv.ErrSyntax" = some 2 := by kernel_rfl
 have r : prog.globalNamed "strconv.ErrRange" = some 3 := by kernel_rfl
 rw[s]at q;rw[r]at p;cases q;cases p;obtain⟨n,i,d⟩:=j;obtain⟨m,g,c⟩:=k;have a:(⟨l.toArray⟩:ByteArray).size=R l:=by show l.toArray.size=_;simp
 rcases h:Lib.atoiAll l with v|_|_
 ·skip
  refine(strconv_Atoi_ok ⟨l.toArray⟩ (by rw[a];omega) v h w).mono ?_;rintro e o ⟨rfl,hw⟩;have b:YZ l=v:=by unfold YZ;rw[h]
  refine⟨.nilIface,by rw[b],.inl ⟨by unfold SD;rw[h],rfl⟩,?_⟩;rcases hw with rfl|⟨t,rfl⟩
  ·exact Go.RowKit.Below.refl _ _
  exact Lib.bytesWorld_below _ _ _
 ·skip
  refine(strconv_Atoi_syntax ⟨l.toArray⟩ (by rw[a];omega) h n w i d).mono ?_;rintro e o ⟨u,rfl,_,_,hB⟩;have b:YZ l=0:=by unfold YZ;rw[h]
  exact⟨_,by rw[b],.inr ⟨by unfold SD;rw[h],_,_,rfl⟩,hB⟩
 skip
 refine(strconv_Atoi_range ⟨l.toArray⟩ (by rw[a];omega) h m w g c).mono ?_;rintro e o ⟨u,rfl,_,_,hB⟩;have b:YZ l=Lib.atoiSat l:=by unfold YZ;rw[h]
 exact⟨_,by rw[b],.inr ⟨by unfold SD;rw[h],_,_,rfl⟩,hB⟩
def Js(h:R l<=100000):Q7 prog 146 [.str l]<|.Yy [bv<|YZ l,.cb<|xY<|SD l]:=atoiI.ct I<|Px l
def Dk(a: -1000000000000<=n/\n<=1000000000000):Ct prog 332 [bv n]<|bv (n.natAbs:Int):=by
 refine cI func332 O<|ro 9 O ?_;refine kc (S.neg .none O (zt O) (mn _ I)<|mn _ I)<|kc (S.max2 .none O (zt O)<|zt O) ?_;refine rr 3 O<|kR O O ?_;refine YL ?_;split<;>omega
def Sw(M:R l<=100000)(hd:d<=18):Ct prog 73 [.str l,bv (d:Int)]<|.Yy [bv (Wn l d).1,.bool (Wn l d).2]:=by
 refine cI func73 O<|ro 11 O ?_;refine OK.join (G:=Nat) [] (λc=>[(0,.str l),(1,bv (d:Int)),(6,bv (c:Int))]) (λc=>c<=R l/\c<=1/\Wn l d=Kl c l d) (λ_=>O) ?_ ?_
 ·refine ro 6 O<|RK.ZS (t:=12) O (λJ=>?_) λJ=>?_
  ·refine kc (S.move (zg O O) O<|zt O)<|kc (S.Xc (n:=0) W6 (zg O O) O (zt O) (.Zg O) O I) ?_;refine rr 4 O<|kB O (λA=>?_) λA=>?_
   ·have hh:l.head?=some 45:=(DS I).2 A;refine ro 3 O (Ab.D.lp ⟨1,⟨I,I,by first|exact Eh hh|exact Eg hh⟩,O,O,O,Zo⟩)
   have hh:¬l.head?=some 45:=λe=>A<|(DS I).1 e
   refine OK.skip (Ab.D.lp ⟨0,⟨I,I,by first|exact Eh hh|exact Eg hh⟩,O,O,O,Zo⟩)
  have hh:¬l.head?=some 45:=by rw[cι.1 (show R l=0 by omega)];simp
  refine rr 8 O (Ab.D.lp ⟨0,⟨I,I,by first|exact Eh hh|exact Eg hh⟩,O,O,O,Zo⟩)
 rintro c ⟨C,L,o⟩;refine ro 8 O<|RK.ZS (t:=21) O (λH=>?_) λH=>?_
 ·have b:=JM (l:=l) (a:=c) (d:=d)<|.inl I;refine rr 27 O<|kS O O O O ?_;rw[o,b]
  all_goals rfl
 refine Rr 8 O I<|RK.ZS (t:=29) O (λF=>?_) λF=>?_
 ·have b:=JM (l:=l) (a:=c) (d:=d)<|.inr<|.inl I;refine rr 19 O<|kS O O O O ?_;rw[o,b]
  all_goals rfl
 refine rr 2 O<|kc (S.Xc (n:=c) W6 (zg O O) O (zt O) (zt O) I I) ?_;refine rr 2 O<|RK.ZS (t:=34) O (λE=>?_) λE=>?_
 ·refine rr 7 O<|kB O (λK=>?_) λK=>?_
  ·have b:=JM (l:=l) (a:=c) (d:=d)<|.inr<|.inr ⟨(DQ I).2 I,I⟩;refine ro 6 O<|kS O O O O ?_;rw[o,b]
   all_goals rfl
  have p:¬(R l=c\/d<R l - c\/(l.getD c 0=48/\1<R l)):=by
   rintro(q|q|⟨q1,q2⟩)
   ·omega
   ·omega
   have:=(DQ (l:=l) (a:=c) I).1 q1;omega
  refine ro 15 O ?_;refine OK.loop (G:=Nat) [] (λi=>[(0,.str l),(1,bv (d:Int)),(6,bv (c:Int)),(7,bv ((Wq 0 ((l.take i).drop c):Nat):Int)),(8,bv i)]) (λi=>(c<=i/\i<=R l)/\((l.take i).drop c).all W0=true) (λi=>R l - i) c ⟨⟨Zq _,C⟩,by rw[ut<|by rw[sc];omega];rfl⟩ ⟨O,O,(OT I),(OT<|by rw[ut (by rw[sc];omega),Pz];rfl),(OT I),Zo⟩ (λ_=>O) ?_;rintro i ⟨hi,j⟩;refine ro 9 O<|kB O (λz=>?_) λz=>?_
  ·have h:i<R l:=I
   have g:=Sb ((l.take i).drop c) 0 j;rw[vd,sc,wc,cβ]at g;have B:=rp g<|eV (k:=min i (R l) - c) I;clear g;refine ro 9 O<|kc (S.Xc (n:=i) W6 .none O (zt O) (zt O) O h)<|rr 2 O<|RK.ZS (t:=51) O (λw=>?_) λw=>?_
   ·have m:W0 l[i]=false:=Jy I;have b:=M4 p hi.1 h m;refine rr 14 O<|kS O O O O ?_;rw[o,b]
    all_goals rfl
   refine rr 2 O<|kc (S.Xc (n:=i) W6 (zg O O) O (zt O) (zt O) O h)<|rr 4 O<|kB O (λy=>?_) λy=>?_
   ·have m:W0 l[i]=false:=Jy I;have b:=M4 p hi.1 h m;refine ro 6 O<|kS O O O O ?_;rw[o,b]
    all_goals rfl
   have u:W0 l[i]=true:=mo I;have v:=Rp l[i] ((l.take i).drop c) 0;refine ro 4 O ?_;refine kc (S.mul .none O (.Zg O) (zt O) (mn _ I)<|mn _ I)<|jm O<|jm O<|kc (S.Xc (n:=i) W6 .none O (zt O) (zt O) O h)<|kc (S.sub .none O (zt O) (.Zg O) (bν _ I)<|bν _ I)<|kc (S.conv .none O (zt O) underlying5 underlying3 (mn _ I)<|mn _ I) ?_;refine Rr 10 O I ?_;refine Ab.D.lp ⟨i+1,⟨I,by rw[Gn hi.1 h,cψ,j,so,u];rfl⟩,I,O,O,O,(OT<|by rw[Gn hi.1 h,v];omega),O,Zo⟩
  have g:=Sb ((l.take i).drop c) 0 j;rw[vd,sc,wc,cβ]at g;have r:=rp g<|eW (k:=min i (R l) - c) I;clear g;have s:l.take i=l:=sg I;rw[s]at j r⊢;have b:=Ei p j;refine ro 9 O<|kB O (λx=>?_) λx=>?_
  ·rw[Zn (show c=1 by omega),←Int.zero_sub]at b;refine OK.R3<|jm O<|kc (S.neg .none O (zt O) (mn _ I)<|mn _ I) ?_;refine rr 10 O<|kS O O O O ?_;rw[o,b]
   all_goals rfl
  rw[Zm (show¬c=1 by omega)]at b;refine ro 9 O<|kS O O O O ?_;rw[o,b]
  all_goals rfl
 have p:¬(R l=c\/d<R l - c\/(l.getD c 0=48/\1<R l)):=by
  rintro(q|q|⟨q1,q2⟩)
  ·omega
  ·omega
  have:=(DQ (l:=l) (a:=c) I).1 q1;omega
 refine rr 23 O ?_;refine OK.loop (G:=Nat) [] (λi=>[(0,.str l),(1,bv (d:Int)),(6,bv (c:Int)),(7,bv ((Wq 0 ((l.take i).drop c):Nat):Int)),(8,bv i)]) (λi=>(c<=i/\i<=R l)/\((l.take i).drop c).all W0=true) (λi=>R l - i) c ⟨⟨Zq _,C⟩,by rw[ut<|by rw[sc];omega];rfl⟩ ⟨O,O,(OT I),(OT<|by rw[ut (by rw[sc];omega),Pz];rfl),(OT I),Zo⟩ (λ_=>O) ?_;rintro i ⟨hi,j⟩;refine ro 9 O<|kB O (λz=>?_) λz=>?_
 ·have h:i<R l:=I
  have g:=Sb ((l.take i).drop c) 0 j;rw[vd,sc,wc,cβ]at g;have B:=rp g<|eV (k:=min i (R l) - c) I;clear g;refine ro 9 O<|kc (S.Xc (n:=i) W6 .none O (zt O) (zt O) O h)<|rr 2 O<|RK.ZS (t:=51) O (λw=>?_) λw=>?_
  ·have m:W0 l[i]=false:=Jy I;have b:=M4 p hi.1 h m;refine rr 14 O<|kS O O O O ?_;rw[o,b]
   all_goals rfl
  refine rr 2 O<|kc (S.Xc (n:=i) W6 (zg O O) O (zt O) (zt O) O h)<|rr 4 O<|kB O (λy=>?_) λy=>?_
  ·have m:W0 l[i]=false:=Jy I;have b:=M4 p hi.1 h m;refine ro 6 O<|kS O O O O ?_;rw[o,b]
   all_goals rfl
  have u:W0 l[i]=true:=mo I;have v:=Rp l[i] ((l.take i).drop c) 0;refine ro 4 O ?_;refine kc (S.mul .none O (.Zg O) (zt O) (mn _ I)<|mn _ I)<|jm O<|jm O<|kc (S.Xc (n:=i) W6 .none O (zt O) (zt O) O h)<|kc (S.sub .none O (zt O) (.Zg O) (bν _ I)<|bν _ I)<|kc (S.conv .none O (zt O) underlying5 underlying3 (mn _ I)<|mn _ I) ?_;refine Rr 10 O I ?_;refine Ab.D.lp ⟨i+1,⟨I,by rw[Gn hi.1 h,cψ,j,so,u];rfl⟩,I,O,O,O,(OT<|by rw[Gn hi.1 h,v];omega),O,Zo⟩
 have g:=Sb ((l.take i).drop c) 0 j;rw[vd,sc,wc,cβ]at g;have r:=rp g<|eW (k:=min i (R l) - c) I;clear g;have s:l.take i=l:=sg I;rw[s]at j r⊢;have b:=Ei p j;refine ro 9 O<|kB O (λx=>?_) λx=>?_
 ·rw[Zn (show c=1 by omega),←Int.zero_sub]at b;refine OK.R3<|jm O<|kc (S.neg .none O (zt O) (mn _ I)<|mn _ I) ?_;refine rr 10 O<|kS O O O O ?_;rw[o,b]
  all_goals rfl
 rw[Zm (show¬c=1 by omega)]at b;refine ro 9 O<|kS O O O O ?_;rw[o,b]
 all_goals rfl
def Rl{c:UInt8}(r:R l<=100000):Ct prog 39 [.str l,.int .u8 (c.toNat:Int)]<|.sl<|(Z7 c l).map λs=>[.str s]:=by
 refine cI func39 O<|kr<|kc (S.assign .none O .Ya)<|rr 4 O<|RK.c (S.XG (k:=5) (sz:=1) .none O)<|rr 14 O ?_;refine OK.fV [5] (λ(i:Nat)(f:Nat)(qm:List ba)=>[(0,.str l),(1,.int .u8 (c.toNat:Int)),(5,.own 5<|R qm),(2005,.arr 1<|qm.map λs=>[.str s]),(6,bv f),(7,bv i)]) (λi f qm=>(f<=i/\i<=R l)/\Z7 c l=qm++lE ((l.take i).drop f) (Z7 c<|l.drop i)/\R qm<=i) (λi f qm=>R l - i) 0 0 ([]) ⟨⟨Zq _,Zr _⟩,by simp[vM<|UN c l],Zq _⟩ ⟨O,O,(ZH N),(ZX N),O,O,Zo⟩ (λ_ _ _=>O) ?_;rintro i f qm ⟨hi,o,q⟩;refine ro 9 O<|kB O (λp=>?_) λp=>?_
 ·have b:i<R l:=by omega
  have j:=np b;have m:=Gn (a:=f) hi.1 b;refine ro 8 O<|kc (S.Xc (n:=i) W6 .none O (zt O) (zt O) O b)<|rr 4 O<|kB O (λg=>?_) λg=>?_
  ·have d:Z7 c l=(qm++[(l.take i).drop f])++lE ((l.take<|i+1).drop<|i+1) (Z7 c<|l.drop<|i+1):=by rw[o,j,att_c<|fI.1 g,ut (l:=l.take<|i+1)<|by rw[sc];omega];simp
   refine ro 6 O ?_;refine kc (S.VI (lo:=f) (hi:=i) (l':=(l.take i).drop f) W6 .none O (zt O) (.inr ⟨_,_,O,(zt O),O⟩) (.inr ⟨_,_,O,(zt O),O⟩) I I O)<|RK.c (zM [[_]] Qf O O O O) ?_;refine kc (zP Qf O O F N I<|by simp only[maxLen];omega) ?_;refine Rr 15 O I ?_;refine Ab.D.lp ⟨i+1,i+1,qm++[(l.take i).drop f],⟨by omega,d,by first|omega|(simp;omega)⟩,I,O,O,(ZH F),(ZX F),(OT I),O,Zo⟩
  have d:Z7 c l=qm++lE ((l.take<|i+1).drop f) (Z7 c<|l.drop<|i+1):=by rw[o,j,att_n λe=>g<|fI.2 e,m]
  refine Ro 8 O I ?_;refine Ab.D.lp ⟨i+1,f,qm,⟨by omega,d,by first|omega|(simp;omega)⟩,I,O,O,(ZH F),(ZX F),(OT I),O,Zo⟩
 have h:Z7 c l=qm++[l.drop f]:=by rw[o,ut (l:=l) (i:=i) I,sg I];simp[Z7,lE]
 refine ro 7 O ?_;refine kc (S.VI (lo:=f) (l':=l.drop f) W6 .none O (zt O) (.inr ⟨_,_,O,(zt O),O⟩) (.inl ⟨O,O,O⟩) I I<|by rw[List.take_length]) ?_;refine RK.c (zM [[_]] Qf O O O O) ?_;refine kc (zP Qf O O F N I<|by simp only[maxLen];omega) ?_;refine rr 3 O ?_;refine OK.ret<|Y3.r1 (.tmp O O (.c (.own O O N) O) O) ?_;rw[h,ne]
 all_goals rfl
structure Words where
 numbers:bd
 texts:List ba
 deriving DecidableEq
def Words.cs(w:Words):bi:=[.sl<|w.numbers.map λn=>[bv n],.sl<|w.texts.map λs=>[.str s]]
def Zl:ba->ba->Bool->Words->Words×Bool
 |[],_,xc,w=>(w,!xc)
 |k::ks,vk,xc,w=>
  if xc=false then(⟨[],[]⟩,false)
  else if k=114 then({w with texts:=w.texts++[vk]},true)
  else if k=119 then(if(ZQ 32 vk).1=[]then(⟨[],[]⟩,false)else Zl ks (ZQ 32 vk).2.1 (ZQ 32 vk).2.2 {w with texts:=w.texts++[(ZQ 32 vk).1]})
  else if YB (ZQ 32 vk).1 7=true then Zl ks (ZQ 32 vk).2.1 (ZQ 32 vk).2.2 {w with numbers:=w.numbers++[YZ (ZQ 32 vk).1]}else(⟨[],[]⟩,false)
def Q9(text kinds:ba):Words×Bool:=Zl kinds (ZQ 32 text).2.1 (ZQ 32 text).2.2 ⟨[],[]⟩
def Z4:List ba:=[[110,111,116,101],[115,116,97,114,116],[102,114,97,109,101],[101,110,100],[103,111,111,100],[98,97,100],[99,111,105,108],[114,101,112,97,105,114],[109,97,114,107],[115,101,99,116,105,111,110],[114,101,99,105,112,101],[109,111,100,101,108],[108,101,97,114,110]]
def S2:bd:=[0,1,1,1,1,1,2,2,3,3,4,4,4]
def kinds:List ba:=[[114],[110,119,119],[114],[],[110],[110],[119,110],[119],[110],[110,114],[119,114],[110],[110]]
def X2(word:ba):Option Nat:=ix (λv=>decide<|word=v) Z4
structure Sv where
 verb:ba
 Yr:ba
 Yb:ba
 rest:ba
 num:Int
 deriving DecidableEq
def Sv.cs(x:Sv):bi:=[.str x.verb,.str x.Yr,.str x.Yb,.str x.rest,bv x.num]
def Ut(l:ba):Int×Bool:=((Wn l 7).1,(Wn l 7).2&&decide (l.head?≠some 45))
theorem Nw(l:ba):(Ut l).2=YB l 7/\(YB l 7=true->(Ut l).1=YZ l):=by
 obtain⟨e,b⟩:=PM (l:=l) (d:=7);rw[Tt l I];refine⟨?_,λh=>by rw[O8 I h];exact b h⟩;rw[←e];show((Wn l 7).2&&decide (l.head?≠some 45))=((Wn l 7).2&&decide (0<=(Wn l 7).1));cases i:(Wn l 7).2 with
 |false=>rfl
 |true=>
  by_cases g:l.head?=some 45
  ·have j:TF l 7=false:=by
    unfold TF;cases l with
    |nil=>rfl
    |cons c r=>
     simp_all[W0]
   simp_all
  have a:0<=(Wn l 7).1:=by
   unfold Wn;grind
  simp_all
def Yn(text:ba):Sv×Bool:=
 let verb:=(ZQ 32 text).1
 let vk:=(ZQ 32 text).2.1
 let xc:=(ZQ 32 text).2.2
 let x:Sv:=⟨verb,[],[],vk,0⟩
 let a:=Z7 32 vk
 if verb=Z4[0]\/verb=Z4[2]then(x,xc)
 else if verb=Z4[3]then(x,!xc)
 else if verb=Z4[1]then
  if R a≠3\/a.getD 1 []=[]\/a.getD 2 []=[]then(x,false)
  else({x with num:=(Ut<|a.getD 0 []).1,Yr:=a.getD 1 [],Yb:=a.getD 2 []},(Ut<|a.getD 0 []).2)
 else if verb=Z4[4]\/verb=Z4[5]\/verb=Z4[8]\/verb=Z4[11]\/verb=Z4[12]then({x with num:=(Ut vk).1},(Ut vk).2)
 else if verb=Z4[6]then
  if R a≠2\/a.getD 0 []=[]then(x,false)
  else({x with Yb:=a.getD 0 [],num:=(Ut<|a.getD 1 []).1},(Ut<|a.getD 1 []).2)
 else if verb=Z4[7]then({x with Yb:=vk},decide (R a=1)&&decide (vk≠[]))
 else if verb=Z4[9]then({x with rest:=(ZQ 32 vk).2.1,num:=(Ut (ZQ 32 vk).1).1},(Ut (ZQ 32 vk).1).2&&(ZQ 32 vk).2.2)
 else({x with Yr:=(ZQ 32 vk).1,rest:=(ZQ 32 vk).2.1},(ZQ 32 vk).2.2&&decide ((ZQ 32 vk).1≠[]))
def Q6(k:Nat)(x:Sv):Words:=match k with
 |0|2=>⟨[],[x.rest]⟩
 |1=>⟨[x.num],[x.Yr,x.Yb]⟩
 |3=>⟨[],[]⟩
 |6=>⟨[x.num],[x.Yb]⟩
 |7=>⟨[],[x.Yb]⟩
 |9=>⟨[x.num],[x.rest]⟩
 |10=>⟨[],[x.Yr,x.rest]⟩
 |_=>⟨[x.num],[]⟩
def Oc(h:(ZQ 32 l).2.2=false):(ZQ 32 l).1=l/\(ZQ 32 l).2.1=[]:=by
 by_cases hi:0<=Lib.indexByte l 32
 ·simp_all[KG]
 rw[Nz hi];simp
theorem GZ(l:ba):R (Z7 32 l)=1↔(ZQ 32 l).2.2=false:=by
 rw[Rn 32 l];have h:=UN 32 (ZQ 32 l).2.1;grind
def DW{c:UInt8}:∀{l:ba},0<=Lib.indexByte l c->c∈l
 |[],h=>by simp[Lib.indexByte]at h
 |b::l,h=>by
  rw[PE]at h;split at h
  ·simp_all
  split at h
  ·omega
  exact rl _<|DW I
theorem KU(h:(ZQ 32 l).2.2=true):YB l 7=false:=by
 rw[Tt l I];by_cases hi:0<=Lib.indexByte l 32
 ·cases a:TF l 7 with
  |false=>rfl
  |true=>
   exfalso;obtain⟨⟨_,_,b⟩,_⟩:=XS.1 a;have c:=bj.1 b _<|DW hi;simp[W0]at c
 simp_all[Nz]
theorem BF(vk:ba)(xc:Bool)(b:xc=false->vk=[])(w:Words):(Zl [110] vk xc w).2=(Ut vk).2/\((Ut vk).2=true->(Zl [110] vk xc w).1={w with numbers:=w.numbers++[(Ut vk).1]}):=by
 obtain⟨a,g⟩:=Nw vk;cases xc with
 |false=>
  have e:YB vk 7=false:=by rw[b rfl];rfl
  rw[Zl,Zn rfl,a,e];simp
 |true=>
  rw[Zl,Zm C,Zm C,Zm C];cases c:(ZQ 32 vk).2.2 with
  |false=>
   rw[(Oc c).1,a];cases d:YB vk 7 with
   |false=>simp
   |true=>rw[Zn rfl,Zl];simp_all
  |true=>
   grind [KU,Zl]
theorem Pe(h:(ZQ 32 l).2.2=false):Z7 32 l=[l]:=by simp_all[Rn]
theorem Pf(h:(ZQ 32 l).2.2=true):Z7 32 l=(ZQ 32 l).1::Z7 32 (ZQ 32 l).2.1:=by rw[Rn 32 l,h,Zn rfl]
theorem Gh(l:ba):1<=R (Z7 32 l):=by
 grind [UN]
theorem Rc(l:ba):(Z7 32 l).getD 0 []=(ZQ 32 l).1:=by
 grind [ZQ,Pe,Pf]
theorem Pd(vk:ba)(xc:Bool)(w:Words):Zl [114] vk xc w=if xc=true then({w with texts:=w.texts++[vk]},true)else(⟨[],[]⟩,false):=by
 cases xc
 all_goals rfl
def Gr(vk:ba)(xc:Bool)(w:Words):Zl [119] vk xc w=if xc=true/\(ZQ 32 vk).1≠[]then({w with texts:=w.texts++[(ZQ 32 vk).1]},!(ZQ 32 vk).2.2)else(⟨[],[]⟩,false):=by
 cases xc
 ·rfl
 rw[Zl,Zm C,Zm C,Zn rfl];by_cases h:(ZQ 32 vk).1=[]
 ·simp_all
 rw[Zm h,Zn ⟨rfl,h⟩,Zl]
theorem text_eq{text:ba}(q:X2 (ZQ 32 text).1=some k):(Q9 text<|kinds.getD k []).2=(Yn text).2/\((Yn text).2=true->(Q9 text<|kinds.getD k []).1=Q6 k (Yn text).1):=by
 obtain⟨i,n⟩:=Y8 q;have n:(ZQ 32 text).1=Z4.getD k []:=by simp_all
 have d:(ZQ 32 text).2.2=false->(ZQ 32 text).2.1=[]:=λh=>(Oc h).2
 unfold Q9 Yn;simp only[n];generalize (ZQ 32 text).2.1=vk at *;generalize (ZQ 32 text).2.2=xc at *;have j:k<13:=i;have a:(Zl [110] vk xc ⟨[],[]⟩).2=(Ut vk).2/\((Ut vk).2=true->(Zl [110] vk xc ⟨[],[]⟩).1=⟨[(Ut vk).1],[]⟩):=BF vk xc d _
 match k,j with
 |0,_=>rw[Zn C];show(Zl [114] vk xc _).2=xc/\(xc=true->(Zl [114] vk xc _).1=_);grind [Pd,Q6]
 |1,_=>
  rw[Zm C,Zm C,Zn C];show(Zl [110,119,119] vk xc _).2=_/\(_->(Zl [110,119,119] vk xc _).1=_);cases xc with
  |false=>
   rw[d rfl,Zn<|.inl C,Zl,Zn rfl];simp
  |true=>
   obtain⟨m,l⟩:=Nw (ZQ 32 vk).1;rw[Zl,Zm C,Zm C,Zm C,Rc];cases p:YB (ZQ 32 vk).1 7 with
   |false=>
    grind
   |true=>
    rw[Zn rfl,Zl];cases b:(ZQ 32 vk).2.2 with
    |false=>rw[Zn rfl,Pe b,Zn<|.inl F];simp
    |true=>
     rw[Zm C,Zm C,Zn rfl,Pf b];have v:((ZQ 32 vk).1::Z7 32 (ZQ 32 vk).2.1).getD 1 []=(ZQ 32 (ZQ 32 vk).2.1).1:=Rc _;rw[v];generalize (ZQ 32 vk).2.1=r1;by_cases s:(ZQ 32 r1).1=[]
     ·simp_all
     rw[Zm s,Gr];cases c:(ZQ 32 r1).2.2 with
     |false=>rw[Zm F,Pe c,Zn<|.inl F];simp
     |true=>
      rw[Pf c];have u:((ZQ 32 vk).1::(ZQ 32 r1).1::Z7 32 (ZQ 32 r1).2.1).getD 2 []=(ZQ 32 (ZQ 32 r1).2.1).1:=Rc _;rw[u];generalize (ZQ 32 r1).2.1=r2;by_cases r:(ZQ 32 r2).1=[]
      ·simp_all
      rw[Zn ⟨rfl,r⟩];cases t:(ZQ 32 r2).2.2 with
      |false=>
       simp_all[Pe,Q6]
      |true=>
       rw[Pf t,Zn (.inl (by
        grind [Gh]))]
       simp
 |2,_=>rw[Zn C];show(Zl [114] vk xc _).2=xc/\(xc=true->(Zl [114] vk xc _).1=_);grind [Pd,Q6]
 |3,_=>rw[Zm C,Zn C];exact⟨rfl,λ_=>rfl⟩
 |4,_=>rw[Zm C,Zm C,Zm C,Zn C];exact⟨a.1,λh=>a.2 h⟩
 |5,_=>rw[Zm C,Zm C,Zm C,Zn C];exact⟨a.1,λh=>a.2 h⟩
 |6,_=>
  rw[Zm C,Zm C,Zm C,Zm C,Zn C];show(Zl [119,110] vk xc _).2=_/\(_->(Zl [119,110] vk xc _).1=_);cases xc with
  |false=>
   rw[d rfl,Zn<|.inl C,Zl,Zn rfl];simp
  |true=>
   rw[Zl,Zm C,Zm C,Zn rfl,Rc];by_cases g:(ZQ 32 vk).1=[]
   ·simp_all
   obtain⟨g1,g2⟩:=BF (ZQ 32 vk).2.1 (ZQ 32 vk).2.2 (λh=>(Oc h).2) ⟨[],[]++[(ZQ 32 vk).1]⟩;rw[Zm g,g1];cases b:(ZQ 32 vk).2.2 with
   |false=>
    rw[Pe b,Zn<|.inl F,(Oc b).2];exact⟨rfl,λh=>by cases h⟩
   |true=>
    rw[b]at g2;rw[Pf b];generalize (ZQ 32 vk).2.1=r1 at *;cases c:(ZQ 32 r1).2.2 with
    |false=>
     rw[Pe c,Zm<|by simp[g]];refine⟨rfl,λh=>?_⟩;rw[g2 h];rfl
    |true=>
     rw[Pf c,Zn (.inl (by
      grind [Gh])),(Nw r1).1,KU c]
     simp
 |7,_=>
  rw[Zm C,Zm C,Zm C,Zm C,Zm C,Zn C];show(Zl [119] vk xc _).2=_/\(_->(Zl [119] vk xc _).1=_);rw[Gr];cases b:(ZQ 32 vk).2.2 with
  |false=>
   have e:=(GZ vk).2 b;rw[(Oc b).1];cases xc with
   |false=>simp_all
   |true=>
    by_cases o:vk=[]
    ·grind
    rw[Zn ⟨rfl,o⟩,e];simp[o,Q6]
  |true=>
   grind [GZ]
 |8,_=>rw[Zm C,Zm C,Zm C,Zn C];exact⟨a.1,λh=>a.2 h⟩
 |9,_=>
  rw[Zm C,Zm C,Zm C,Zm C,Zm C,Zm C,Zn C];show(Zl [110,114] vk xc _).2=_/\(_->(Zl [110,114] vk xc _).1=_);obtain⟨m,l⟩:=Nw (ZQ 32 vk).1;cases xc with
  |false=>rw[d rfl,Zl,Zn rfl];exact⟨rfl,λh=>by cases h⟩
  |true=>
   rw[Zl,Zm C,Zm C,Zm C,m];cases p:YB (ZQ 32 vk).1 7 with
   |false=>simp
   |true=>
    rw[Zn rfl,Pd];cases b:(ZQ 32 vk).2.2 with
    |false=>simp
    |true=>rw[Zn rfl];exact⟨rfl,λ_=>by simp[Q6,l p]⟩
 |10,_=>
  rw[Zm C,Zm C,Zm C,Zm C,Zm C,Zm C,Zm C];show(Zl [119,114] vk xc _).2=_/\(_->(Zl [119,114] vk xc _).1=_);cases xc with
  |false=>rw[d rfl,Zl,Zn rfl];exact⟨rfl,λh=>by cases h⟩
  |true=>
   rw[Zl,Zm C,Zm C,Zn rfl];by_cases g:(ZQ 32 vk).1=[]
   ·simp_all
   rw[Zm g,Pd,Zz g,cν];cases b:(ZQ 32 vk).2.2 with
   |false=>simp
   |true=>rw[Zn rfl];exact⟨rfl,λ_=>by rfl⟩
 |11,_=>rw[Zm C,Zm C,Zm C,Zn C];exact⟨a.1,λh=>a.2 h⟩
 |12,_=>rw[Zm C,Zm C,Zm C,Zn C];exact⟨a.1,λh=>a.2 h⟩
def Je(l:ba):ba:=if l.head?=some 45 then l.drop 1 else l
def UW(l:ba)(d:Nat):Bool:=if l.head?=some 45 then TF (l.drop 1) d&&decide (l.getD 1 0≠48)else TF l d
def WR(l:ba):Int:=if l.head?=some 45 then -(Wq 0 (l.drop 1):Int)else(Wq 0 l:Int)
def LO(l:ba)(below:Bool)(d:Nat):Bool:=SD l&&(decide (Lib.itoa (YZ l)=l)&&((below||decide (0<=YZ l))&&decide (R (Je l)<=d)))
theorem DT(h:l.head?=some 45):∃r,l=45::r:=by
 cases l<;>grind
def mg(u:Nat):(Lib.decDigits u).head?≠some 45:=λh=>by
 obtain⟨r,e⟩:=DT h;have:=Jx u;rw[e,so]at this;simp[W0]at this
theorem FA(n:Int):(Lib.itoa n).head?=some 45↔n<0:=by
 by_cases h:n<0
 ·obtain⟨u,rfl⟩:∃u:Nat,n= -(u:Int):=⟨n.natAbs,I⟩;rw[Lib.itoa_neg u I];simp_all
 simp_all[MO,mg]
theorem mj{r:ba}(h:Canon r)(h0:Wq 0 r=0):r=[48]:=by
 have a:=OZ _ r rfl h;simp_all[Lib.decDigits_one]
theorem oy{r:ba}(h:Canon r)(e:R r<=18)(h0:r.head?≠some 48):Lib.atoiAll (45::r)=.ok (-(Wq 0 r:Int))/\Lib.itoa (-(Wq 0 r:Int))=45::r:=by
 have c:=Iy r 0 0 h.2.2 C I;have d:=Sb r 0 h.2.2;have a:(10:Nat) ^ (R r)<=10 ^ 18:=aφ C e;have g:(10:Nat) ^ 18=1000000000000000000:=C
 have b:1<=Wq 0 r:=by
  grind [mj]
 refine⟨?_,?_⟩
 ·rw[Lib.atoiAll_minus];unfold Lib.parseMag;rw[Zm h.1,c];unfold Lib.signed;grind
 rw[Lib.itoa_neg _ b,OZ _ r rfl h]
theorem Fw{r:ba}(h:r≠[]):r.head?=some 48↔r.getD 0 0=48:=by
 cases r<;>grind
theorem Ek(hd:d<=18):LO l true d=UW l d/\(UW l d=true->YZ l=WR l):=by
 by_cases hh:l.head?=some 45
 ·obtain⟨r,rfl⟩:=DT hh;have b:UW (45::r) d=(TF r d&&decide (r.getD 0 0≠48)):=Zn hh;have a:WR (45::r)= -(Wq 0 r:Int):=Zn hh;have e:Je (45::r)=r:=Zn hh;rw[b,a];have vy:TF r d=true->r.getD 0 0≠48->Lib.atoiAll (45::r)=.ok (-(Wq 0 r:Int))/\Lib.itoa (-(Wq 0 r:Int))=45::r:=λh c=>by
   grind [XS,oy,Fw]
  constructor
  ·rw[cδ];unfold LO;rw[e];simp only[Zw,de,cυ,true_and];constructor
   ·rintro⟨_,c,h3⟩;have i:YZ (45::r)<0:=by
     grind [FA]
    obtain⟨u,g⟩:∃u:Nat,YZ (45::r)= -(u:Int):=⟨(YZ<|45::r).natAbs,I⟩;rw[g,Lib.itoa_neg u I,v6]at c;grind [XS,Ls,HB,Fw]
   simp_all[YZ,SD,XS]
  simp_all[YZ]
 have b:UW l d=TF l d:=Zm hh;have a:WR l=(Wq 0 l:Int):=Zm hh;have e:Je l=l:=Zm hh;rw[b,a];refine⟨?_,O8 hd⟩;rw[←Tt l hd];grind [LO,YB,FA]
theorem bR(hd:d<=18):LO l false d=(UW l d&&decide (0<=WR l)):=by
 obtain⟨b,a⟩:=Ek (l:=l) hd;grind [LO]
theorem oP:Wn l d=if UW l d=true then(WR l,true)else(0,false):=by
 have g:∀(a:Nat)(r:ba),r=l.drop a->(a=0/\¬l.head?=some 45\/a=1/\l.head?=some 45)->Kl a l d=if(TF r d&&decide (a=0\/l.getD 1 0≠48))=true then(if a=1 then -(Wq 0 r:Int)else(Wq 0 r:Int),true)else(0,false):=by
  intro a r o p;have m:a<=R l:=by
   grind [DT]
  have k:R r=R l - a:=by simp_all
  have n:r≠[]->(r.head?=some 48↔l.getD a 0=48):=λh=>by
   simp_all
  by_cases b:R l=a\/d<R l - a\/(l.getD a 0=48/\1<R l)
  ·rw[JM b,Zm];rw[Zw,de,XS];rintro⟨⟨⟨c1,c2,c3⟩,c4⟩,c5⟩;grind
  by_cases c:(l.drop a).all W0=true
  ·have j:(TF r d&&decide (a=0\/l.getD 1 0≠48))=true:=by
    rw[Zw,de,XS];have i:r≠[]:=λe=>b (.inl<|by grind)
    refine⟨⟨⟨i,?_,by simp_all⟩,I⟩,?_⟩
    all_goals grind
   simp_all[Ei]
  rw[Kl,Zm b,Zm c,Zm];rw[Zw,XS];rintro⟨⟨⟨_,_,c3⟩,_⟩,_⟩;grind
 by_cases hh:l.head?=some 45
 ·rw[Eh hh,g 1 (l.drop 1) rfl<|.inr ⟨rfl,hh⟩];simp_all[UW,WR]
 rw[Eg hh,g 0 l rfl<|.inl ⟨rfl,hh⟩];simp_all[UW,WR]
def Gf{c:UInt8}:∀{w:ba}(l:ba),c∉w->Z7 c (w++c::l)=w::Z7 c l
 |[],l,_=>by rw[bε,Z7,Zn rfl]
 |b::w,l,h=>by
  have a:b≠c:=λe=>h<|e▸rv
  exact S5 a<|Gf l λe=>h<|rl _ e
def I9{c:UInt8}:∀{w:ba},c∉w->Z7 c w=[w]
 |[],_=>rfl
 |b::w,h=>S5 (λe=>h<|by simp_all)<|I9 λe=>h<|rl _ e
theorem join2(x y:ba)(r:List ba)(sep:ba):Lib.join (x::y::r) sep=x++(sep++Lib.join (y::r) sep):=by
 rfl
def YT{α β:Type}(f:α->Option β):List α->Option (List β)
 |[]=>some []
 |a::l=>match f a with
  |none=>none
  |some b=>(YT f l).map (b:: ·)
section
variable{α β τ:Type}{f:α->Option β}
def JF{L:List α}{qm:List β}{b:β}(a:YT f L=(YT f<|L.drop i).map (qm++ ·))(hi:i<R L)(c:f L[i]=some b):YT f L=(YT f<|L.drop<|i+1).map ((qm++[b])++ ·):=by
 rw[a,np hi];simp only[YT,c];cases YT f (L.drop<|i+1)<;>simp
theorem QH{L:List α}{qm:List β}(a:YT f L=(YT f<|L.drop i).map (qm++ ·))(hi:i<R L)(b:f L[i]=none):YT f L=none:=by
 grind [List.drop_eq_getElem_cons,YT]
def MC{L:List α}{qm:List β}(a:YT f L=(YT f<|L.drop i).map (qm++ ·))(hi:i=R L):YT f L=some qm:=by
 simp_all[YT]
theorem SM:∀{l:List α}{bs:List β},YT f l=some bs->R bs=R l
 |[],bs,h=>by simp_all[YT]
 |a::l,bs,h=>by
  simp only[YT]at h;split at h
  ·cases h
  rw[M2]at h;obtain⟨r,b,rfl⟩:=h;rw[tt,tt,SM b]
theorem MD{xn:List β×τ->α->(List β×τ)×Option Code}{upd:τ->β->τ}{bad:List β×τ->Prop}(hs:∀q x b,f x=some b->xn q x=((q.1++[b],upd q.2 b),none))(i:∀q x,f x=none->∃d,xn q x=(d,some .ret)/\bad d):
  ∀(L:List α)(c:List β×τ),(∀e,YT f L=some e->ZZ (Ab.stepG xn) (c,none) L=(((c.1++e,e.foldl upd c.2),none),true))/\(YT f L=none->∃d,ZZ (Ab.stepG xn) (c,none) L=((d,some .ret),false)/\bad d)
 |[],c=>⟨λe h=>by simp_all[YT,ZZ],λh=>by cases h⟩
 |a::l,c=>by
  cases g:f a with
  |none=>
   obtain⟨d,k,m⟩:=i c a g;simp_all[YT,ZZ,Ab.stepG]
  |some b=>
   have k:=hs c a b g;obtain⟨o,n⟩:=MD hs i l (c.1++[b],upd c.2 b);have j:ZZ (Ab.stepG xn) (c,none) (a::l)=ZZ (Ab.stepG xn) ((c.1++[b],upd c.2 b),none) l:=by
    rw[ZZ,show Ab.stepG xn (c,none) a=(((c.1++[b],upd c.2 b),none),true)by simp_all[Ab.stepG],Zn rfl]
   rw[j];constructor
   ·intro e h;simp only[YT,g,M2]at h;grind
   simp_all[YT]
theorem Fp{xn:List β×τ->α->(List β×τ)×Option Code}{upd:τ->β->τ}{bad:List β×τ->Prop}(hs:∀q x b,f x=some b->xn q x=((q.1++[b],upd q.2 b),none))(e:∀q x,f x=none->∃d,xn q x=(d,some .ret)/\bad d){L:List α}{a q:List β×τ}
  (h:ZZ (Ab.stepG xn) (a,none) L=((q,none),true)):∃c,YT f L=some c/\q=(a.1++c,c.foldl upd a.2):=by
 obtain⟨j,i⟩:=MD hs e L a;cases g:YT f L<;>grind
theorem Fu{xn:List β×τ->α->(List β×τ)×Option Code}{upd:τ->β->τ}{bad:List β×τ->Prop}(hs:∀q x b,f x=some b->xn q x=((q.1++[b],upd q.2 b),none))(e:∀q x,f x=none->∃c,xn q x=(c,some .ret)/\bad c){L:List α}{a q:List β×τ}{d:Code}
  (h:(ZZ (Ab.stepG xn) (a,none) L).1=(q,some d)):YT f L=none/\bad q/\d=.ret:=by
 obtain⟨j,i⟩:=MD hs e L a;cases g:YT f L<;>grind
end
def MS{a b:Int}(h:a=b):some (X.int .i64 a)=some (X.int .i64 b):=by rw[h]
theorem N1(l:bd):(sorted l).Pairwise (λx y=>x<=y):=by
 have:=eα (le:=λx y:Int=>decide<|x<=y) (by grind) (by grind) l;exact this.imp F
def I5(l:bd)(g:Int->Bool):(sorted l).countP g=l.countP g:=(bμ l _).countP_eq g
def before(l:bd)(x:Int)(i k:Nat):Nat:=(l.take k).countP (λy=>decide<|y<x)+((l.take k).take i).countP λy=>decide<|y=x
theorem Mp{l:bd}(h:k<R l)(g:Int->Bool):(l.take<|k+1).countP g=(l.take k).countP g+if g l[k]=true then 1 else 0:=by
 rw[←Wh h,dη,List.countP_cons,List.countP_nil,wc]
theorem Fc{l:bd}(h:k<R l)(g:Int->Bool):((l.take<|k+1).take i).countP g=((l.take k).take i).countP g+if k<i/\g l[k]=true then 1 else 0:=by
 rw[ra,ra];by_cases a:k<i
 ·grind [Mp]
 grind
theorem TN{l:bd}{x:Int}(h:k<R l)(a:l[k]<x\/(l[k]=x/\k<i)):(before l x i k:Int)+1=before l x i (k+1):=by
 unfold before;rw[Mp h,Fc h];grind
theorem Mm{l:bd}{x:Int}(h:k<R l)(a:¬(l[k]<x\/(l[k]=x/\k<i))):(before l x i k:Int)=before l x i (k+1):=by
 unfold before;rw[Mp h,Fc h];grind
theorem sY(l:bd)(x:Int)(i k:Nat):before l x i k<=2 * k:=by
 grind [before,List.length_take]
def Hv(l:bd)(x:Int)(i:Nat):before l x i (R l)=l.countP (λy=>decide<|y<x)+(l.take i).countP λy=>decide (y=x):=by
 unfold before;simp
variable{s:bd}
theorem asc_at(hs:s.Pairwise λx y=>x<=y){x:Int}{n:Nat}(i:s.countP (λy=>decide<|y<x)<=n)(b:n<s.countP (λy=>decide<|y<x)+s.countP λy=>decide<|y=x):∃h:n<R s,s[n]=x:=by
 have xf:s.countP (λy=>decide<|y<x)+s.countP (λy=>decide<|y=x)=s.countP λy=>decide (y<=x):=by
  clear i b hs
  induction s<;>grind
 rw[xf]at b;have d:n<R s:=rp b List.countP_le_length;refine⟨d,?_⟩;have k:=aπ.1 hs;rcases Int.lt_trichotomy s[n] x with h|h|h
 ·exfalso;have e:(s.take<|n+1).countP (λy=>decide<|y<x)=R (s.take<|n+1):=by
   rw[eκ];intro y a;obtain⟨j,c,rfl⟩:=dl a;grind
  grind [List.take_append_drop]
 ·exact h
 exfalso;have e:(s.drop n).countP (λy=>decide<|y<=x)=0:=by
  rw[List.countP_eq_zero];intro y a;obtain⟨j,c,rfl⟩:=dl a;rw[vd]at c;rw[List.getElem_drop,de];rcases dθ j with g|g
  ·simp_all
  grind
 have l:=dη (p:=λy=>decide<|y<=x) (l₁:=s.take n) (l₂:=s.drop n);grind [List.take_append_drop]
theorem av{l:bd}(h:i<R l):(l.take i).countP (λy=>decide<|y=l[i])<l.countP λy=>decide (y=l[i]):=by
 have a:=Mp h λy=>decide<|y=l[i]
 rw[Zn F]at a;grind [List.take_append_drop]
def sW{l:bd}{n:Nat}(h:i<R l)(a:before l l[i] i (R l)=n):∃h:n<R (sorted l),(sorted l)[n]=l[i]:=by
 rw[Hv]at a;have:=av h;refine asc_at (N1 l) ?_ ?_<;>simp only[I5]<;>omega
theorem yV(x:Int):∀(l:bd)(j:Nat),j<l.countP (λy=>decide<|y=x)->∃i,∃h:i<R l,l[i]=x/\(l.take i).countP (λy=>decide<|y=x)=j
 |[],j,h=>by simp at h
 |a::l,j,h=>by
  rw[List.countP_cons]at h;by_cases b:a=x
  ·cases j with
   |zero=>exact⟨0,F,b,rfl⟩
   |succ j=>
    rw[Zn<|Zz b]at h;obtain⟨i,hi,d,c⟩:=yV x l j I;exact⟨i+1,by grind,by grind,by simp_all⟩
  rw[Zm<|by grind]at h;obtain⟨i,hi,d,c⟩:=yV x l j I;exact⟨i+1,by grind,by grind,by simp_all⟩
theorem gn(hs:s.Pairwise λx y=>x<=y){n:Nat}(h:n<R s):s.countP (λy=>decide<|y<s[n])<=n/\n<s.countP λy=>decide (y<=s[n]):=by
 have d:=aπ.1 hs;constructor
 ·have e:(s.drop n).countP (λy=>decide<|y<s[n])=0:=by
   rw[List.countP_eq_zero];intro y a;obtain⟨j,b,rfl⟩:=dl a;rw[vd]at b;rw[List.getElem_drop,de];rcases dθ j with c|c
   all_goals simp_all
  have g:=dη (p:=λy=>decide<|y<s[n]) (l₁:=s.take n) (l₂:=s.drop n);grind [List.take_append_drop]
 have e:(s.take<|n+1).countP (λy=>decide<|y<=s[n])=R (s.take<|n+1):=by
  rw[eκ];intro y a;obtain⟨j,b,rfl⟩:=dl a;grind
 grind [List.take_append_drop]
theorem s9(s:bd)(x:Int):s.countP (λy=>decide<|y<x)+s.countP (λy=>decide<|y=x)=s.countP λy=>decide (y<=x):=by
 induction s<;>grind
def sX{l:bd}{n:Nat}(h:n<R l):∃i,∃h:i<R l,before l l[i] i (R l)=n:=by
 have hs:n<R (sorted l):=by rw[I6];exact h
 obtain⟨b,a⟩:=gn (N1 l) hs;generalize (sorted l)[n]=x at b a;rw[I5]at b a;have c:=s9 l x;obtain⟨i,hi,e,d⟩:=yV x l (n - l.countP λy=>decide<|y<x) I;refine⟨i,hi,?_⟩;simp_all[Hv]
structure LearnedX where
 records:List ZG
 trim:Int
def K2{l:bd}(x:R l<=100000)(w:0<=n/\n<R l):Ct prog 208 [ints l,bv n]<|bv<|(sorted l).getD n.toNat 0:=by
 refine cI func208 O<|ro 12 O ?_;refine OK.loop (G:=Nat) [] (λi=>[(0,ints l),(1,bv n),(5,bv i)]) (λi=>i<=R l/\∀(j:Nat)(h:j<R l),j<i->(before l l[j] j (R l):Int)≠n) (λi=>R l - i) 0 ⟨Zr _,λj _ h=>by omega⟩ ⟨O,O,O,Zo⟩ (λ_=>O) ?_;rintro i ⟨hi,r⟩;refine ro 5 O<|kc (zk X9 O)<|rr 3 O<|kB O (λq=>?_) λq=>?_
 ·refine ro 16 O ?_;refine OK.loop (G:=Nat) [] (λk=>[(0,ints l),(1,bv n),(5,bv i),(6,bv<|before l l[i] i k),(7,bv k)]) (λk=>k<=R l) (λk=>R l - k) 0 (Zr _) ⟨O,O,O,(MS<|by simp[before]),O,Zo⟩ (λ_=>O) ?_;rintro k y;refine ro 5 O<|kc (zk X9 O)<|rr 3 O<|kB O (λp=>?_) λp=>?_
  ·have u:=sY l l[i] i k;refine ro 5 O ?_;by_cases b:l[k]<l[i]
   ·refine kV (.c (zm O)<|.c (zm O)<|.c (zI X9 O I O)<|.c (zV YK O O)<|.c (zm O)<|.c (zm O)<|.c (zI X9 O I O)<|.c (zV YK O O)<|.c (S.lss .none O (zt O)<|zt O)<|.c (zm O)<|.c (zG O W)<|.c (zG O W)<|.c (zG O W)<|.c (zG O W)<|.c (zG O W)<|.c (zG O W)<|.c (zG O W)<|.c (zG O W)<|.c (zG O W)<|.c (zG O W)<|.c (zu O)<|.c (zu O)<|.c (zu O)<|.c (zG O W)<|.c (S.Tc .none O (zt O) .Wx W) .nil) ?_;refine Rd 14 O I ?_;refine Ab.D.lp ⟨k+1,I,I,O,O,O,(MS<|by first|exact TN I (.inl b)|exact TN I (.inr ⟨a,by omega⟩)|exact Mm I I),O,Zo⟩
   by_cases a:l[k]=l[i]
   ·refine kV (.c (zm O)<|.c (zm O)<|.c (zI X9 O I O)<|.c (zV YK O O)<|.c (zm O)<|.c (zm O)<|.c (zI X9 O I O)<|.c (zV YK O O)<|.c (S.lss .none O (zt O)<|zt O)<|.c (zm O)<|.c (S.move (.yes O O O W) O<|zt O)<|.c (S.move (.yes O O O W) O<|zt O)<|.c (S.Zi X9 (.yes O O O W) O (zt O) (zt O) O I O)<|.c (S.Q_ YK (.yes O O O W) O (zt O) O)<|.c (S.move (.yes O O O W) O<|zt O)<|.c (S.move (.yes O O O W) O<|zt O)<|.c (S.Zi X9 (.yes O O O W) O (zt O) (zt O) O I O)<|.c (S.Q_ YK (.yes O O O W) O (zt O) O)<|.c (S.eql (.yes O O O W) O (zt O)<|zt O)<|.c (S.move (.yes O O O W) O<|zt O)<|.c (S.move (.yes O O O W) O<|zt O)<|.c (S.move (.yes O O O W) O<|zt O)<|.c (S.lss (.yes O O O W) O (zt O)<|zt O)<|.c (S.Tc (.yes O O O W) O (zt O) (zt O) W)<|.c (S.Ug .none O (zt O) (zt O) W) .nil) ?_;refine Ab.D.code<|kB O (λo=>?_) λo=>?_
    ·refine Ro 12 O I ?_;refine Ab.D.lp ⟨k+1,I,I,O,O,O,(MS<|by first|exact TN I (.inl b)|exact TN I (.inr ⟨a,by omega⟩)|exact Mm I I),O,Zo⟩
    refine Ro 8 O I ?_;refine Ab.D.lp ⟨k+1,I,I,O,O,O,(MS<|by first|exact TN I (.inl b)|exact TN I (.inr ⟨a,by omega⟩)|exact Mm I I),O,Zo⟩
   refine kV (.c (zm O)<|.c (zm O)<|.c (zI X9 O I O)<|.c (zV YK O O)<|.c (zm O)<|.c (zm O)<|.c (zI X9 O I O)<|.c (zV YK O O)<|.c (S.lss .none O (zt O)<|zt O)<|.c (zm O)<|.c (S.move (.yes O O O W) O<|zt O)<|.c (S.move (.yes O O O W) O<|zt O)<|.c (S.Zi X9 (.yes O O O W) O (zt O) (zt O) O I O)<|.c (S.Q_ YK (.yes O O O W) O (zt O) O)<|.c (S.move (.yes O O O W) O<|zt O)<|.c (S.move (.yes O O O W) O<|zt O)<|.c (S.Zi X9 (.yes O O O W) O (zt O) (zt O) O I O)<|.c (S.Q_ YK (.yes O O O W) O (zt O) O)<|.c (S.eql (.yes O O O W) O (zt O)<|zt O)<|.c (S.move (.yes O O O W) O<|zt O)<|.c (zG O W)<|.c (zG O W)<|.c (zG O W)<|.c (S.Ug (.yes O O O W) O (zt O) .Wx W)<|.c (S.Ug .none O (zt O) (zt O) W) .nil) ?_;refine Rd 10 O I ?_;refine Ab.D.lp ⟨k+1,I,I,O,O,O,(MS<|by first|exact TN I (.inl b)|exact TN I (.inr ⟨a,by omega⟩)|exact Mm I I),O,Zo⟩
  refine ro 9 O<|kB O (λd=>?_) λd=>?_
  ·have g:k=R l:=by omega
   subst g;obtain⟨t,v⟩:=sW (n:=n.toNat) I (show before l l[i] i (R l)=n.toNat by omega);refine ro 4 O<|kc (zI X9 O I O) ?_;refine rr 4 O<|kR O O ?_;refine YL ?_;rw[DR t,v]
  refine Ro 8 O I (Ab.D.lp ⟨i+1,⟨by omega,?_⟩,I,O,O,O,Zo⟩);intro j m z;rcases w7 j i with s|s
  ·exact r j m s
  have:j=i:=by omega
  subst this;rw[show R l=k by omega];exact d
 refine ro 7 O<|kR O O ?_;exfalso;obtain⟨j,m,e⟩:=sX (l:=l) (n:=n.toNat) I;exact r j m I I
variable{x3:Int}{p:Zf}
def EB{l:List ZG}(o:Y_ p=0)(s:1<=R l/\R l<=1000)(hw:Lk p l)(r:0<=x3/\2 * x3<=R l - 1):Ct prog 162 [.agg p.cs,.sl<|l.map ZG.cs,bv x3]<|.agg (OM p l x3).cs:=by
 refine cI func162 O λ{_ _}=>?_
 have m:=X_ o;refine ro 9 O<|kc (zk Kz O)<|jm O<|kc (zU bz O O)<|rr 11 O<|OK.VL 7 2 900 1 O O O O O ?_;refine OK.loop (G:=Nat) [3,6,7,900] (λi=>[(1,.sl<|l.map ZG.cs),(2,bv x3),(3,.ptr 3 0),(1003,.box p.cs),(6,.ptr 6 0),(1006,.box [bv 0,bv 0,.ZM]),(7,.ptr 7 0),(1007,.box [bv<|R l,bv x3,.own 900 i]),(2900,.arr 1<|(List.range i).map λt=>[X.sl<|(OP p l x3 t).map Range.cs]),(8,bv i)]) (λi=>(i:Int)<=p.ticks) (λi=>p.ticks.toNat - i) 0 I ⟨O,O,O,O,O,O,O,O,(ZX N),O,Zo⟩ (λ_=>O) ?_;rintro i hi;refine ro 9 O<|kB O (λh=>?_) λh=>?_
 ·refine ro 6 O<|RK.c (S.XG (k:=9) (sz:=2) .none O)<|rr 9 O ?_;refine OK.loop (G:=Nat) [3,6,7,900,9] (λc=>[(1,.sl<|l.map ZG.cs),(2,bv x3),(3,.ptr 3 0),(1003,.box p.cs),(6,.ptr 6 0),(1006,.box [bv 0,bv 0,.ZM]),(7,.ptr 7 0),(1007,.box [bv<|R l,bv x3,.own 900 i]),(2900,.arr 1<|(List.range i).map λt=>[X.sl<|(OP p l x3 t).map Range.cs]),(8,bv i),(9,.own 9 c),(2009,.arr 2<|(List.range c).map λc=>(S0 l x3 i c).cs),(10,bv c)]) (λc=>c<=R p.ZY) (λc=>R p.ZY - c) 0 (Zr _) ⟨O,O,O,O,O,O,O,O,(ZX N),O,(ZH N),(ZX N),O,Zo⟩ (λ_=>O) ?_;rintro c v;refine ro 6 O<|kc (zk X1 O)<|rr 3 O<|kB O (λg=>?_) λg=>?_
  ·refine ro 6 O<|RK.c (S.XG (k:=11) (sz:=1) .none O)<|rr 9 O ?_;refine OK.loop (G:=Nat) [3,6,7,900,9,11] (λk=>[(1,.sl<|l.map ZG.cs),(2,bv x3),(3,.ptr 3 0),(1003,.box p.cs),(6,.ptr 6 0),(1006,.box [bv 0,bv 0,.ZM]),(7,.ptr 7 0),(1007,.box [bv<|R l,bv x3,.own 900 i]),(2900,.arr 1<|(List.range i).map λt=>[X.sl<|(OP p l x3 t).map Range.cs]),(8,bv i),(9,.own 9 c),(2009,.arr 2<|(List.range c).map λc=>(S0 l x3 i c).cs),(10,bv c),(11,.own 11 k),(2011,.arr 1<|(col (l.take k) i c).map λn=>[bv n]),(12,bv k)]) (λk=>k<=R l) (λk=>R l - k) 0 (Zr _) ⟨O,O,O,O,O,O,O,O,(ZX N),O,(ZH N),(ZX N),O,(ZH N),(ZX N),O,Zo⟩ (λ_=>O) ?_;rintro k u;refine ro 5 O<|kc (zk Kz O)<|rr 3 O<|kB O (λe=>?_) λe=>?_
   ·have d:i<R l[k].rows:=by have:=hw.rows k I;omega
    have j:c<R l[k].rows[i].values:=by have:=hw.vals k I i d;omega
    refine ro 8 O<|kc (zI Kz O I O) ?_;refine rr 3 O<|kc (zI Oz O d O)<|rr 3 O<|kc (zI X9 O j O)<|kc (zV YK O O) ?_;refine RK.c (zM [[_]] Xr O O O O) ?_;refine kc (zP Xr O O (by simp only[Zx,TX,sc];omega) N I<|by simp only[maxLen];omega) ?_;refine Rr 9 O I ?_;refine Ab.D.lp ⟨k+1,I,I,O,O,O,O,O,O,O,O,(ZX N),O,(ZH N),(ZX N),O,(ZH N),(ZX<|by rw[←AV I d j,ne];rfl),O,Zo⟩
   have b:k=R l:=by omega
   subst b;refine OK.exit O<|Ab.D.code ?_;rw[List.take_length]at *;have q:=TX l i c;have a:S0 l x3 i c=⟨(sorted<|col l i c).getD x3.toNat 0,(sorted<|col l i c).getD ((R l:Int) - 1 - x3).toNat 0⟩:=by
    rw[S0,show((R l:Int) - 1 - x3).toNat=R l - 1 - x3.toNat by omega]
   refine OK.freeze 11 O O O (by simp only[Zx,TX]) ?_;refine ro 4 O<|kc (zK (K2 (l:=col l i c) (n:=x3) I I) call208 O)<|jm O<|jm O<|kc (zk Kz O) ?_;refine Rr 3 O I<|kc (zK (K2 (l:=col l i c) (n:=(R l:Int) - 1 - x3) I I) call208 O)<|kc (zU lQ O O) ?_;refine RK.c (zM [[_,_]] xH O O O O) ?_;refine kc (zP xH O O N N I<|by simp only[maxLen];omega) ?_;refine Rr 9 O I ?_;refine Ab.D.lp ⟨c+1,I,I,O,O,O,O,O,O,O,O,(ZX N),O,(ZH N),(ZX<|by rw[cε,ne,ta,a];rfl),O,Zo⟩
  refine OK.exit O<|Ab.D.code<|OK.freeze 9 O O O F ?_;refine ro 4 O ?_;refine RK.c (zM [[_]] ga O O O O) ?_;refine kc (zP ga O O N N I<|by simp only[maxLen];omega) ?_;refine Rr 10 O I ?_;refine Ab.D.lp ⟨i+1,I,I,O,O,O,O,O,O,O,O,(ZX<|by rw[show c=R p.ZY by omega,cε,ne];simp only[OP,fw,ta,H2];rfl),O,Zo⟩
 refine ro 8 O ?_;refine OK.ret<|Y3.r1 (.XU O O O O L5 O<|.k (.same O)<|.k (.same O)<|.k (.own O O N) .z) ?_;rw[show i=p.ticks.toNat by omega,OM,Envelope.cs,fw];rfl
def G1{l:List ZG}(e:R l<=100000)(b:∀(i:Nat)(h:i<R l),R l[i].rows<=100000)(a:∀(i:Nat)(h:i<R l)(k:Nat)(g:k<R l[i].rows),R l[i].rows[k].values<=100000):Ct prog 23 [.sl<|l.map ZG.cs]<|.sl<|l.map ZG.cs:=by
 refine cI func23 O<|kr<|kc (S.assign .none O .Ya)<|rr 4 O<|RK.c (S.XG (k:=3) (sz:=1) .none O)<|rr 9 O ?_;refine OK.loop (G:=Nat) [3] (λi=>[(0,.sl<|l.map ZG.cs),(3,.own 3 i),(2003,.arr 1<|(l.take i).map ZG.cs),(4,bv i)]) (λi=>i<=R l) (λi=>R l - i) 0 (Zr _) ⟨O,(ZH N),(ZX N),O,Zo⟩ (λ_=>O) ?_;rintro i hi;refine ro 5 O<|kc (zk Kz O)<|rr 3 O<|kB O (λd=>?_) λd=>?_
 ·refine ro 8 O<|kc (zI Kz O I O)<|kc (S.Vj AD .none O (zt O) O O)<|kc (zK (OI (b i I)<|a i I) call28 O) ?_;refine RK.c (zM [[_]] vB O O O O) ?_;refine kc (zP vB O O (by simp;omega) N I<|by simp only[maxLen];omega) ?_;refine Rr 9 O I ?_;refine Ab.D.lp ⟨i+1,I,I,O,(ZH N),(ZX<|by rw[←Wh I,ne];rfl),O,Zo⟩
 refine ro 8 O ?_;refine OK.ret<|Y3.r1 (.tmp O O (.c (.own O O N) O) O) ?_;rw[show i=R l by omega,List.take_length]
def gA{L:List YP}{q:Bool}(h:ZZ (Ab.stepG λ(_:Bool)(_:YP)=>(true,some Code.ret)) (false,none) L=((q,none),true)):L=[]/\q=false:=by
 cases L with
 |nil=>simp only[ZZ,aψ]at h;simp_all
 |cons d L=>simp[ZZ,Ab.stepG]at h
def gB{L:List YP}{q:Bool}{a:Code}(h:(ZZ (Ab.stepG λ(_:Bool)(_:YP)=>(true,some Code.ret)) (false,none) L).1=(q,some a)):L≠[]/\q=true/\a=.ret:=by
 cases L with
 |nil=>simp[ZZ]at h
 |cons d L=>
  simp_all[ZZ,Ab.stepG]
def Us(x:Envelope)(r:ZG):Int:=if(R<|N_ x r)≠0 then 2 else if(R<|P7 r)≠0 then 1 else 0
def OrdT(x:Envelope):Prop:=∀(i:Nat)(h:i<R x.rows)(j:Nat)(a:j<R x.rows[i]),x.rows[i][j].lo<=x.rows[i][j].hi
variable{rs:List Range}{c t:Nat}
theorem aA(h:c<R rs)(a:rs[c].lo<=rs[c].hi)(b:n>rs[c].hi):S7 t rs c n=[⟨t,c,n - rs[c].hi⟩]:=by
 have e:UR n rs[c]=n - rs[c].hi:=by
  unfold UR;omega
 unfold S7;grind
theorem aC(h:c<R rs)(a:rs[c].lo<=rs[c].hi)(b:n<rs[c].lo):S7 t rs c n=[⟨t,c,n - rs[c].lo⟩]:=by
 have e:UR n rs[c]=n - rs[c].lo:=by
  unfold UR;omega
 unfold S7;grind
def aB(h:c<R rs)(b:¬n>rs[c].hi)(a:¬n<rs[c].lo):S7 t rs c n=[]:=by
 simp_all[UR,Zm,S7]
def v_{D qm vk xc tail:List YP}(h:D=qm++(xc++vk++tail)):D=(qm++xc)++(vk++tail):=by rw[h];simp
theorem iX{D qm tail:List YP}(h:D=qm++tail)(a:R D<=100000):R qm<=100000:=by
 grind
variable{x:Envelope}
def j9(h:(Ve p x).2=0):OrdT x:=λi hi j a=>(BY<|((Nk h).2.2.2 i hi).2 j a).2
def xK{t:Int}(h:XI t n≠0):XI t n=2:=by
 unfold XI at *;omega
variable{r:ZG}
def D8(p:kP x r)(e:R r.rows<=100000)(b:∀(i:Nat)(h:i<R r.rows),R r.rows[i].values<=100000):Ct prog 60 [.agg x.cs,.agg r.cs]<|.bool<|decide<|R (N_ x r)≠0:=by
 refine cI func60 O<|ro 12 O<|kc (zK Ik call86 O)<|rr 3 O ?_;refine OK.rangeFunc (ps:=[8]) (encs:=(λd=>[.agg<|YP.cs d])) (L:=(N_ x r)) [4] [(4,.ptr 4 0)] (λq=>[(1004,.box [.bool q])]) false (λ(_:Bool)(_:YP)=>(true,some Code.ret)) ((λJ g o Φ c m=>tT p e b J g o Φ c m)) call144 (.inl O) (zt O) O O ⟨O,O,Zo⟩ (λ_=>O) (λ_=>O) (λ_=>O) (λ_=>O) (λ_=>O) C O ?_ ?_ ?_
 ·rintro i x q w a lr c0 w0 v u t s;refine OK.skipQ ?_;refine⟨rfl,?_⟩;refine ro 6 O<|OK.ret ?_;exact⟨rfl,rfl,Zo⟩
 ·rintro q a;obtain⟨n,k⟩:=gA a;subst k;refine rd 7 O<|OK.ret<|Y3.r1 (.Py O O O O CI (.same O) O) ?_;rw[n];rfl
 rintro q y a;obtain⟨n,j,l⟩:=gB a;subst j;subst l;refine OK.ret<|Y3.r1 (.Py O O O O CI (.same O) O) ?_;rw[Zz<|by simpa using n]
def GI:Ct prog 27 [.agg p.cs,.agg x.cs,.agg r.cs]<|.Yy [bv (if Xa p x r=0 then Us x r else 0),bv<|Xa p x r]:=by
 refine cI func27 O<|ro 15 O<|kc (zK D9 call59 O)<|rr 9 O<|kB O (λc=>?_) λc=>?_
 ·refine ro 7 O<|kS O O O O ?_;rw[Zm (show¬Xa p x r=0 from c)]
 have b:Xa p x r=0:=I
 have d:=vN b;have g:=d.rows;refine ro 8 O ?_;refine kc (zK (D8 d.fit I λi h=>by have:=d.vals i h;omega) call60 O) ?_;refine rr 3 O<|OK.cond O O (λa=>?_) λa=>?_
 ·refine ro 6 O<|kS O O O O ?_;rw[Zn b,b,Us,Zn<|pf a]
 refine ro 3 O<|kc (zK (Bw I) call61 O)<|kc (zk X9 O) ?_;refine rr 4 O<|kB O (λe=>?_) λe=>?_
 ·refine ro 6 O<|kS O O O O ?_;rw[Zn b,b,Us,Zm<|dg a,Zn I]
 refine ro 9 O<|kS O O O O ?_;rw[Zn b,b,Us,Zm<|dg a,Zm I]
def Kc{l:List Range}(qk:R l<=100000):Ct prog 58 [.sl<|l.map Range.cs]<|.sl<|l.map Range.cs:=by
 refine cI func58 O<|kr<|kc (S.assign .none O .Ya)<|rr 4 O<|RK.c (zM [] xH O O O O)<|jm O ?_;refine RK.c (S.V2 xH .none O (zt O) O N (zt O) (by intro q a;obtain⟨b,_,rfl⟩:=rx.1 a;rfl) O (by simp only[Zx];omega)<|by simp only[maxLen,Zx];omega) ?_;refine rr 3 O ?_;refine OK.ret<|Y3.r1 (.tmp O O (.c (.own O O N) O) O) ?_;rfl
def LZ(qk:R x.rows<=100000)(b:∀(i:Nat)(h:i<R x.rows),R x.rows[i]<=100000):Ct prog 26 [.agg x.cs]<|.agg x.cs:=by
 refine cI func26 O<|ro 12 O<|kc (zU bz O O)<|rr 11 O<|OK.VL 3 2 890 1 O O O O O ?_;refine OK.loop (G:=Nat) [1,2,3,890] (λi=>[(1,.ptr 1 0),(1001,.box x.cs),(2,.ptr 2 0),(1002,.box [bv 0,bv 0,.ZM]),(3,.ptr 3 0),(1003,.box [bv x.parts,bv x.trim,.own 890 i]),(2890,.arr 1<|(x.rows.take i).map λl=>[X.sl<|l.map Range.cs]),(4,bv i)]) (λi=>i<=R x.rows) (λi=>R x.rows - i) 0 (Zr _) ⟨O,O,O,O,O,O,(ZX N),O,Zo⟩ (λ_=>O) ?_;rintro i hi;refine ro 6 O<|kc (zk vq O)<|rr 3 O<|kB O (λd=>?_) λd=>?_
 ·have a:=b i I;refine ro 4 O ?_;refine kV (.c (zf Gu O)<|.c (zl gO O O O O)<|.c (zf Gu O)<|.c (zl gO O O O O)<|.c (zm O)<|.c (zI vq O I O)<|.c (zV Pw O O)<|.c (zK (Kc (l:=x.rows[i]) a) call58 O)<|.c (zM [[_]] ga O O O O)<|.c (zP ga O O (by first|(simp;done)|(simp;omega)) N I<|by simp only[maxLen];omega)<|.c (zf Gu O)<|.c (zS gO O O O O O O) .nil) ?_;refine Rd 7 O I ?_;refine Ab.D.lp ⟨i+1,I,I,O,O,O,O,O,O,(ZX<|by rw[←Wh I];simp only[ne,ta,H2]),O,Zo⟩
 refine ro 8 O ?_;refine OK.ret<|Y3.r1 (.XU O O O O L5 O<|.k (.same O)<|.k (.same O)<|.k (.own O O N) .z) ?_;rw[show i=R x.rows by omega,List.take_length];rfl
def IS(n:kP x r)(w:R r.rows<=100000)(o:∀(i:Nat)(h:i<R r.rows),R r.rows[i].values<=100000)(z:OrdT x)(A:R (N_ x r)<=100000):Ct prog 247 [.agg x.cs,.agg r.cs]<|devs<|N_ x r:=by
 refine cI func247 O<|ro 4 O<|kc (S.assign .none O .Ya)<|rr 4 O<|RK.c (S.XG (k:=5) (sz:=3) .none O)<|rr 9 O ?_;refine OK.We [2,3,5] (λ(i:Nat)(qm:List YP)=>[(2,.ptr 2 0),(1002,.box x.cs),(3,.ptr 3 0),(1003,.box r.cs),(5,.own 5<|R qm),(2005,.arr 3<|qm.map YP.cs),(6,bv i)]) (λi qm=>i<=R r.rows/\N_ x r=qm++S9 x i (r.rows.drop i)) (λi qm=>R r.rows - i) 0 ([]) ⟨Zr _,O⟩ ⟨O,O,O,O,(ZH N),(ZX N),O,Zo⟩ (λ_ _=>O) ?_;rintro i qm ⟨hi,v⟩;refine ro 6 O<|kc (zk Oz O)<|rr 3 O<|kB O (λq=>?_) λq=>?_
 ·refine ro 10 O ?_;refine OK.We [2,3,5] (λ(j:Nat)(a:List YP)=>[(2,.ptr 2 0),(1002,.box x.cs),(3,.ptr 3 0),(1003,.box r.cs),(5,.own 5<|R a),(2005,.arr 3<|a.map YP.cs),(6,bv i),(7,bv j)]) (λj a=>j<=R r.rows[i].values/\N_ x r=a++(Uo i (x.rows.getD i []) j (r.rows[i].values.drop j)++S9 x (i+1) (r.rows.drop<|i+1))) (λj a=>R r.rows[i].values - j) 0 qm ⟨Zr _,by rw[v,HC I];rfl⟩ ⟨O,O,O,O,(ZH N),(ZX N),O,O,Zo⟩ (λ_ _=>O) ?_;rintro j a ⟨B,b⟩;refine ro 7 O<|kc (zI Oz O I O) ?_;refine rr 2 O<|kc (zk X9 O)<|rr 3 O<|kB O (λp=>?_) λp=>?_
  ·have g:=n.rows i I;have d:=n.cols i I g j I;have t:=n.val i I j I;have u:=n.rng i g j d;have l:=z i g j d;have y:=iX b A;have s:=o i I;refine ro 5 O<|kV (.c (zf dB O)<|.c (zl vm O O O O)<|.c (zm O)<|.c (zI Oz O I O)<|.c (S.field Dz .none O (zt O) O)<|.c (zV Md O O)<|.c (zm O)<|.c (zI X9 O I O)<|.c (zV YK O O)<|.c (zf Gu O)<|.c (zl gO O O O O)<|.c (zm O)<|.c (zI vq O g O)<|.c (zV Pw O O)<|.c (zm O)<|.c (zI uv O d O)<|.c (S.Vj kK .none O (zt O) O O)<|.c (zA (c:=9) ze24 O)<|.c (za O)<|.c (zS kK O O O O O O) .nil) ?_;refine rd 10 O<|kB O (λm=>?_) λm=>?_
   ·refine Ro 8 O I<|kc (zU jU O O) ?_;refine RK.c (zM [[_,_,_]] xP O O O O) ?_;refine kc (zP xP O O F N I<|by simp only[maxLen];omega) ?_;refine rr 11 O<|kB O (λe=>?_) λe=>?_
    ·refine Ro 8 O I<|kc (zU jU O O) ?_;refine RK.c (zM [[_,_,_]] xP O O O O) ?_;refine kc (zP xP O O F N (by first|omega|(simp;omega))<|by simp only[maxLen];omega) ?_;refine Rr 9 O I ?_;refine Ab.D.lp ⟨j+1,a++[⟨i,j,r.rows[i].values[j] - x.rows[i][j].hi⟩]++[⟨i,j,r.rows[i].values[j] - x.rows[i][j].lo⟩],⟨by omega,?_⟩,I,O,O,O,O,(ZH N),(ZX<|by first|rfl|(rw[ne];rfl)|(rw[ne,ne];rfl)),O,O,Zo⟩;exfalso;omega
    refine Ro 8 O I ?_;refine Ab.D.lp ⟨j+1,a++[⟨i,j,r.rows[i].values[j] - x.rows[i][j].hi⟩],⟨by omega,?_⟩,I,O,O,O,O,(ZH N),(ZX<|by first|rfl|(rw[ne];rfl)|(rw[ne,ne];rfl)),O,O,Zo⟩;rw[Sc I,getD_at g,aA d l m]at b;rw[getD_at g];exact v_ b
   refine ro 10 O<|kB O (λe=>?_) λe=>?_
   ·refine Ro 8 O I<|kc (zU jU O O) ?_;refine RK.c (zM [[_,_,_]] xP O O O O) ?_;refine kc (zP xP O O F N (by first|omega|(simp;omega))<|by simp only[maxLen];omega) ?_;refine Rr 9 O I ?_;refine Ab.D.lp ⟨j+1,a++[⟨i,j,r.rows[i].values[j] - x.rows[i][j].lo⟩],⟨by omega,?_⟩,I,O,O,O,O,(ZH N),(ZX<|by first|rfl|(rw[ne];rfl)|(rw[ne,ne];rfl)),O,O,Zo⟩;rw[Sc I,getD_at g,aC d l e]at b;rw[getD_at g];exact v_ b
   refine Ro 8 O I ?_;refine Ab.D.lp ⟨j+1,a,⟨by omega,?_⟩,I,O,O,O,O,(ZH N),(ZX<|by first|rfl|(rw[ne];rfl)|(rw[ne,ne];rfl)),O,O,Zo⟩;rw[Sc I,getD_at g,aB d m e]at b;rw[getD_at g];exact b
  refine Ro 8 O I ?_;refine Ab.D.lp ⟨i+1,a,⟨by omega,?_⟩,I,O,O,O,O,(ZH N),(ZX N),O,Zo⟩;rw[b,show j=R r.rows[i].values by omega,da];rfl
 refine ro 8 O ?_;refine OK.ret<|Y3.r1 (.tmp O O (.c (.own O O N) O) O) ?_;rw[v,show i=R r.rows by omega,da,S9,i8];rfl
def Cq(e:kP x r)(b:R r.rows<=100000)(a:∀(i:Nat)(h:i<R r.rows),R r.rows[i].values<=100000)(d:OrdT x)(g:R (N_ x r)<=100000):Ct prog 201 [.agg x.cs,.agg r.cs]<|bv<|Us x r:=by
 refine cI func201 O<|ro 13 O<|kc (zK (IS e b a d g) call247 O)<|kc (zk si348 O)<|rr 4 O<|kB O (λj=>?_) λj=>?_
 ·refine ro 5 O<|kR O O ?_;refine YL ?_;rw[Us,Zn I]
 refine ro 3 O<|kc (zK (qq I) call248 O)<|kc (zk X9 O) ?_;refine rr 4 O<|kB O (λc=>?_) λc=>?_
 ·refine ro 5 O<|kR O O ?_;refine YL ?_;rw[Us,Zm I,Zn I]
 refine ro 8 O<|kR O O ?_;refine YL ?_;rw[Us,Zm I,Zm I]
theorem Cf{l:List ZG}(h:Wu p l=0):(1<=R l/\R l<=20)/\∀(k:Nat)(a:k<R l),(Vv p l[k]).2=0/\R (P7 l[k])=0:=by
 grind [Wu,U5,TT]
theorem Se{α:Type}(g:Nat->α->Int):∀(l:List α)(i:Nat),(∀(j:Nat)(h:j<R l),g (i+j) l[j]=0)->ZP g i l=(0,0)
 |[],_,_=>rfl
 |x::l,i,h=>by
  have h0:=h 0 F;simp only[bγ,Kp]at h0;rw[ZP,Zm I];refine Se g l (i+1) λj a=>?_
  have:=h (j+1) (by grind);grind
def gu{l:List ZG}(a:k<R l)(d:t<R l[k].rows)(b:c<R l[k].rows[t].values):(col l t c)[k]'(by rw[TX];exact a)=l[k].rows[t].values[c]:=by
 simp_all[col]
structure C_(p:Zf)(l:List ZG):Prop where
 plan:Y_ p=0
 len:1<=l.length/\l.length<=20
 chk:∀(k:Nat)(hk:k<l.length),(Vv p l[k]).2=0/\(P7 l[k]).length=0
 whole:Lk p l
def nO{l:List ZG}(a:Y_ p=0)(h:Wu p l=0):C_ p l:=⟨a,(Cf h).1,(Cf h).2,CP h⟩
def gw{l:List ZG}(h:C_ p l)(g:(t:Int)<p.ticks)(i:c<R p.ZY):∀v∈col l t c, -1000000<=v/\v<=1000000:=by
 intro v e;obtain⟨k,a,rfl⟩:=dl e;rw[TX]at a;have b:t<R l[k].rows:=by have:=h.whole.rows k a;omega
 have d:c<R l[k].rows[t].values:=by have:=h.whole.vals k a t b;omega
 rw[gu a b d];exact(z7<|(Cb (h.chk k a).1).2 t b).2.2 c d
def I7{l:List ZG}(h:C_ p l){n:Nat}(a:(t:Int)<p.ticks)(d:c<R p.ZY)(b:n<R (sorted<|col l t c)): -1000000<=(sorted<|col l t c)[n]/\(sorted<|col l t c)[n]<=1000000:=
 gw h a d _ ((bμ (col l t c) _).mem_iff.1<|Zt b)
theorem sN(hs:s.Pairwise λx y=>x<=y){j:Nat}(h:i<=j)(b:j<R s):s[i]<=s[j]:=by
 rcases w7 i j with a|a
 ·simp_all[aπ]
 grind
def jD{l:List ZG}(a:c<R (OP p l x3 t)):(OP p l x3 t)[c]=S0 l x3 t c:=by
 simp[OP]
def xh(p:Zf)(l:List ZG)(x3:Int)(t:Nat):R (OP p l x3 t)=R p.ZY:=by simp[OP]
def gE{l:List ZG}(a:t<R (OM p l x3).rows):(OM p l x3).rows[t]=OP p l x3 t:=by
 simp[OM]
theorem Dx(p:Zf)(l:List ZG)(x3:Int):R (OM p l x3).rows=p.ticks.toNat:=by simp[OM]
theorem Bs{l:List ZG}(h:C_ p l)(e:XI x3 (R l)=0):Ve p (OM p l x3)=(0,0):=by
 have r:=h.len;have q:=X_ h.plan;have d:=Pk I e;have k:(OM p l x3).parts=R l:=rfl;have j:(OM p l x3).trim=x3:=rfl;unfold Ve;rw[k,j,Zm I,Zm I,Dx,Zm I];refine Se _ _ 0 λt a=>?_
 rw[gE a];rw[Dx]at a;unfold Up;rw[xh,Zm I];have:ZP (λ_ x=>WE x) 0 (OP p l x3 t)=(0,0):=by
  refine Se _ _ 0 λc b=>?_
  show WE _=0;rw[jD b];rw[xh]at b;have i:=TX l t c;have g:=I6<|col l t c;have o:=I7 h (show(t:Int)<p.ticks by omega) b (show x3.toNat<_ by omega);have n:=I7 h (show(t:Int)<p.ticks by omega) b (show R l - 1 - x3.toNat<_ by omega);have m:=sN (N1<|col l t c) (show x3.toNat<=R l - 1 - x3.toNat by omega) I;unfold WE S0;grind
 rw[this]
def C4{t:Nat}{rs:List Range}:∀(l:bd)(c:Nat),(∀(j:Nat)(h:j<R l),UR l[j] (rs.getD (c+j) ⟨0,0⟩)=0)->Uo t rs c l=[]
 |[],_,_=>rfl
 |n::l,c,h=>by
  have h0:=h 0 F;simp only[bγ,Kp]at h0;rw[Uo,C4 l (c+1) λj a=>by
   have:=h (j+1) (by simpa using a);rw[aι]at this;rw[show c+1+j=c+(j+1)by omega];exact this]
  unfold S7;rw[h0,Zm F];rfl
def AH{x:Envelope}:∀(l:List Row)(t:Nat),(∀(i:Nat)(h:i<R l)(j:Nat)(b:j<R l[i].values),UR l[i].values[j] ((x.rows.getD (t+i) []).getD j ⟨0,0⟩)=0)->S9 x t l=[]
 |[],_,_=>rfl
 |r::l,t,h=>by
  rw[S9,AH l (t+1) λi hi j a=>by
   have:=h (i+1) (by simpa using hi) j (by simpa using a);simp only[aι]at this;rw[show t+1+i=t+(i+1)by omega];exact this]
  rw[C4 r.values 0 λj a=>by
   have:=h 0 F j (by simpa using a);simp only[Kp,bγ]at this;rw[wc];exact this]
  rfl
def qj{l:List ZG}(h:C_ p l)(a:k<R l):N_ (OM p l 0) l[k]=[]:=by
 refine AH _ 0 λt d c o=>?_
 have v:=h.whole.rows k a;have u:=h.whole.vals k a t d;have b:c<R p.ZY:=I
 have w:=h.len;have q:(OM p l 0).rows.getD t []=OP p l 0 t:=by rw[getD_at (by rw[Dx];omega),gE]
 rw[wc,q,getD_at (by rw[xh];exact b),jD];have m:=TX l t c;have g:=I6<|col l t c;have j:l[k].rows[t].values[c]∈sorted (col l t c):=by
  rw[←gu a d o];exact(bμ (col l t c) _).mem_iff.2<|Zt _
 obtain⟨n,i,e⟩:=dl j;have s:=sN (N1<|col l t c) (show 0<=n by omega) i;have r:=sN (N1<|col l t c) (show n<=R l - 1 by omega) I;unfold UR S0;simp only[show(0:Int).toNat=0 from rfl,ek];rw[DR I,DR I,Zm I,Zm I];rfl
def CW{l:List ZG}(h:C_ p l)(c:k<R l):Xa p (OM p l 0) l[k]=0/\Us (OM p l 0) l[k]=0:=by
 have e:XI 0 (R l)=0:=by
  have:=h.len;unfold XI;have:=Int.tdiv_nonneg (a:=(R l:Int) - 1) (b:=2) I I;rw[Zn I]
 have d:=Bs h e;have g:=h.chk k c;constructor
 ·unfold Xa;rw[h.plan,d];simp[g.1]
 unfold Us;rw[qj h c,Zm F,Zm I]
