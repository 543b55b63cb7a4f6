import Derived.Test.YtpbalelbenmmbaaGreatDoorUc
set_option linter.all false
set_option maxHeartbeats 4000000
namespace Go.Proofs.YtpbalelbenmmbaaGreatDoor
open Go.Ab Tryz
set_option maxRecDepth 9999
def jl(n:Net)(vq:ba):Option Nat:=ix (fun p:bf=>decide (p.name=vq)) n.av
def ax.head(H:ax)(x:Entry):Int:=aF [ae (decide (H.entries<60)) 8,ae (jl H.jq x.vq).isSome 6,ae (decide (0<=x.at_/\x.at_<=1000000000000)) 2,ae (decide (x.at_>=H.time)) 9,ae (decide ((x.text.length:Int)<=600)) 8,ae (x.text.all isPrint) 3,ae (dS (aL 32 x.text).1).isSome 7]
def mO(k:Nat)(H:ax)(L:vN):HE:=match k with
 |0=>(H,0)
 |1=>fT H L.num L.oF L.coil
 |2=>frameT H (aY L.rest).1 (aY L.rest).2
 |3=>n8 H
 |4=>cK H L.num gj
 |5=>cK H L.num Ei
 |6=>qj H L.coil L.num
 |7=>tS H L.coil
 |8=>cK H L.num yE
 |9=>cK H L.num (yQ L.rest)
 |10=>eG H L.oF L.rest
 |11=>cK H L.num fe
 |_=>gS H L.num
def ax.tail(H:ax)(x:Entry)(i k:Nat):Int:=aF [ae (decide ((H.jq.av[i]?.map bf.role).getD 0>=yM.getD k 0)) 18,ae (kf x.text (kinds.getD k [])).2 7]
def bX(H:ax)(x:Entry):HE:=
 if H.head x≠0 then(H,H.head x)else match jl H.jq x.vq,dS (aL 32 x.text).1 with
 |some i,some k=>
  if H.tail x i k≠0 then(H,H.tail x i k)else
  let r:=mO k H (fH x.text).1
  if r.2≠0 then r else({r.1 with time:=x.at_,entries:=r.1.entries+1},0)
 |_,_=>(H,7)
def DI{α:Type}(g:α->Bool)(l:List α):decide (bq g 0 l>=0)=(ix g l).isSome:=by
 rw[my];grind
def head_eq(A:HA)(x:Entry):A.plain.head x=aF [ae (decide (A.entries<60)) 8,ae (decide (bq (fun p:bf=>decide (p.name=x.vq)) 0 A.jq.av>=0)) 6,ae (decide (0<=x.at_/\x.at_<=1000000000000)) 2,ae (decide (x.at_>=A.time)) 9,ae (decide ((x.text.length:Int)<=600)) 8,ae (!!(x.text.all isPrint)) 3,ae (dS (aL 32 x.text).1).isSome 7]:=by
 rw[DI,Bool.not_not];rfl
def GY{a b c d e f:Bool}:aF [ae a 8,ae b 6,ae c 2,ae d 9,ae e 8,ae f 3,ae false 7]≠0:=by
 cases a<;>cases b<;>cases c<;>cases d<;>cases e<;>cases f<;>decide
def DJ{a b c d e f g:Bool}(h:aF [ae a 8,ae b 6,ae c 2,ae d 9,ae e 8,ae f 3,ae g 7]=0):a=true/\b=true/\c=true/\d=true/\e=true/\f=true/\g=true:=by
 cases a<;>cases b<;>cases c<;>cases d<;>cases e<;>cases f<;>cases g<;>first|exact absurd h C|simp
def Fg{a b:Bool}(h:aF [ae a 18,ae b 7]=0):a=true/\b=true:=by
 cases a<;>cases b<;>first|exact absurd h C|simp
def GZ{H:ax}{x:Entry}(h:H.head x=0):H.entries<60/\(jl H.jq x.vq).isSome=true/\(0<=x.at_/\x.at_<=1000000000000)/\x.at_>=H.time/\(x.text.length:Int)<=600/\x.text.all isPrint=true/\(dS (aL 32 x.text).1).isSome=true:=by
 obtain⟨h1,h2,h3,h4,h5,h6,h7⟩:=DJ h;simp_all
def DK(k:Nat):(kinds.getD k []).length<=3/\∀b∈kinds.getD k [],b.toNat<128:=by
 by_cases h:k<13
 ·match k,h with
  |0,_=>decide
  |1,_=>decide
  |2,_=>decide
  |3,_=>decide
  |4,_=>decide
  |5,_=>decide
  |6,_=>decide
  |7,_=>decide
  |8,_=>decide
  |9,_=>decide
  |10,_=>decide
  |11,_=>decide
  |12,_=>decide
 have e:kinds.getD k []=[]:=by
  unfold List.getD;rw[pv (by show 13<=k;omega)];rfl
 simp_all
theorem DL{c:UInt8}{l:ba}:(aL c l).2.1=[]\/∃n,(aL c l).2.1=l.drop n:=by
 by_cases h:0<=Lib.indexByte l c
 ·rw[qt h];grind
 rw[oI h];simp
def Bj{c:UInt8}{l:ba}:∃n,(aL c l).1=l.take n:=by
 by_cases h:0<=Lib.indexByte l c
 ·rw[qt h];grind
 rw[oI h];exact⟨l.length,by simp⟩
structure Of(t l:ba):Prop where
 len:l.length<=t.length
 sub:∀b∈l,b∈t
theorem Of.nil(t:ba):Of t []:=⟨Zr _,fun b h=>by cases h⟩
def Of.refl(t:ba):Of t t:=⟨Zq _,fun _ h=>h⟩
theorem Of.trans{a b c:ba}(h:Of a b)(k:Of b c):Of a c:=⟨gc k.len h.len,fun x hx=>h.sub x (k.sub x hx)⟩
def Of.take(t:ba)(n:Nat):Of t (t.take n):=⟨List.length_take_le' _ _,fun _ h=>List.mem_of_mem_take h⟩
theorem Of.drop(t:ba)(n:Nat):Of t (t.drop n):=⟨by simp,fun _ h=>wi h⟩
theorem Of.rest(c:UInt8)(t:ba):Of t (aL c t).2.1:=by
 grind [DL,nil,drop]
theorem Of.first(c:UInt8)(t:ba):Of t (aL c t).1:=by
 obtain⟨n,h⟩:=Bj (c:=c) (l:=t);simp_all[take]
def Of.split(c:UInt8){t w:ba}(h:w∈aj c t):Of t w:=by
 have key:∀(n:Nat)(t:ba),t.length<=n->∀w∈aj c t,Of t w:=by
  intro n
  induction n with
  |zero=>
   intro t ht w hw;have:t=[]:=ft I;subst this;rw[iY]at hw;split at hw
   ·rename_i h2;exact absurd h2 (by rw[show(aL c ([]:ba)).2.2=false from rfl];decide)
   simp_all[refl]
  |succ n ih=>
   intro t ht w hw;rw[iY]at hw;split at hw
   ·rename_i h2;rw[ed]at hw;rcases hw with rfl|hw
    all_goals grind [first,Of.rest,trans,qt,oI]
   simp_all[refl]
 exact key _ t (Zq _) w h
def G0{t:ba}{L:List ba}(h:∀w∈L,Of t w)(i:Nat):Of t (L.getD i []):=by
 unfold List.getD;cases e:L[i]? with
 |none=>exact .nil t
 |some w=>grind
def Fh(t:ba):Of t (fH t).1.rest/\Of t (fH t).1.oF/\Of t (fH t).1.coil:=by
 have hr:=Of.rest 32 t;have hs:∀w∈aj 32 (aL 32 t).2.1,Of t w:=fun w hw=>hr.trans (.split 32 hw)
 have g:=fun i=>G0 hs i
 have h1:=hr.trans (Of.first 32 (aL 32 t).2.1);have h2:=hr.trans (Of.rest 32 (aL 32 t).2.1);grind [Of.nil,fH]
def yP(n:Net):Prop:=(0<=n.lo/\n.lo<=10000)/\(0<=n.hi/\n.hi<=10000)
def lG(k:Nat):Prop:=∀{A:HA}{m:Int},A.Ok m->m+2<=1000->bA A.aS=0->yP A.jq->∀{L:vN},(L.rest.length<=600/\L.oF.length<=600/\L.coil.length<=600/\L.rest.all isPrint=true)->
 dU prog (Du k) [] [.raw (pV A.b),.agg (ig k L).cs] [(3000,.res (aa A.mem))] [(3000,.res (JX A.b (mO k A.plain L).1 (m+2)))] (bv (mO k A.plain L).2)
def DM{k:Nat}(h:k<13):∀args w,(callFunc (Du k) args).run prog w=.ok (.enter (Du k) args) w:=by
 match k,h with
 |0,_=>exact call111
 |1,_=>exact call112
 |2,_=>exact call113
 |3,_=>exact call114
 |4,_=>exact call115
 |5,_=>exact call116
 |6,_=>exact call117
 |7,_=>exact call118
 |8,_=>exact call119
 |9,_=>exact call120
 |10,_=>exact call121
 |11,_=>exact call122
 |12,_=>exact call123
def eff_0:lG 0:=fun hok hm _ _ _ _=>(Ol hok hm).ef
def HZ:lG 1:=fun hok hm _ _ _ _=>(Bg hok hm).ef
def H6:lG 2:=fun hok hm hp _ _ hl=>Bh hok hm hl.1 hp
def H7:lG 3:=fun hok hm _ _ _ _=>(Fb hok hm).ef
def H8:lG 4:=fun hok hm _ _ _ _=>DN hok hm
def eff_5:lG 5:=fun hok hm _ _ _ _=>Mu hok hm
def HY:lG 6:=fun hok hm _ _ _ _=>(xl hok hm).ef
def eff_7:lG 7:=fun hok hm _ _ _ _=>(Rv hok hm).ef
def eff_8:lG 8:=fun hok hm _ _ _ _=>Oj hok hm
def GD:lG 11:=fun hok hm _ _ _ _=>Bi hok hm
def GF:lG 12:=fun hok hm _ _ _ _=>(Be hok hm).ef
theorem jo{H:ax}{n:Int}{f:ax->Nat->HE}(hf:∀i,(f H i).1.entries=H.entries):(cK H n f).1.entries=H.entries:=by
 unfold cK;split
 ·rfl
 rename_i i _;split
 ·exact hf i
 grind
def DP(k:Nat)(H:ax)(L:vN):(mO k H L).1.entries=H.entries:=by
 have hs:∀r i,(yQ r H i).1.entries=H.entries:=fun r i=>by
  unfold yQ;dsimp only
  repeat' split
  all_goals rfl
 have hg:∀i,(gj H i).1.entries=H.entries:=fun i=>by unfold gj;split<;>rfl
 have hb:∀i,(Ei H i).1.entries=H.entries:=fun i=>by unfold Ei;split<;>rfl
 have hk:∀i,(yE H i).1.entries=H.entries:=fun i=>by unfold yE;split<;>rfl
 have hm:∀i,(fe H i).1.entries=H.entries:=fun i=>by grind [fe]
 unfold mO;split
 ·rfl
 ·grind [fT]
 ·unfold frameT;repeat' split
  all_goals rfl
 ·unfold n8;split<;>rfl
 ·exact jo hg
 ·exact jo hb
 ·grind [qj]
 ·grind [tS]
 ·exact jo hk
 all_goals grind [jo,eG,gS]
def xm{H:ax}{x:Entry}(h:H.head x≠0):bX H x=(H,H.head x):=by unfold bX;grind
def DQ{H:ax}{x:Entry}{i k:Nat}(h:H.head x=0)(hi:jl H.jq x.vq=some i)(hk:dS (aL 32 x.text).1=some k)(h2:H.tail x i k≠0):bX H x=(H,H.tail x i k):=by
 simp_all[bX]
def DR{H:ax}{x:Entry}{i k:Nat}(h:H.head x=0)(hi:jl H.jq x.vq=some i)(hk:dS (aL 32 x.text).1=some k)(h2:H.tail x i k=0)(h3:(mO k H (fH x.text).1).2≠0):bX H x=mO k H (fH x.text).1:=by
 simp_all[bX]
def DS{H:ax}{x:Entry}{i k:Nat}(h:H.head x=0)(hi:jl H.jq x.vq=some i)(hk:dS (aL 32 x.text).1=some k)(h2:H.tail x i k=0)(h3:(mO k H (fH x.text).1).2=0):bX H x=({(mO k H (fH x.text).1).1 with time:=x.at_,entries:=(mO k H (fH x.text).1).1.entries+1},0):=by
 simp_all[bX]
def yw{p:bf}{x:Entry}:Ct prog 73 [.agg p.cs,.b5 x.cs] (.bool (decide (p.name=x.vq))):=by
 refine cI func73 O (ro 16 O (kR O O ?_));rfl
def vf{l:List bf}{x:Entry}:Ct prog 72 [.sl (l.map bf.cs),.fn 73 [.b5 x.cs]] (bv (bq (fun p:bf=>decide (p.name=x.vq)) 0 l)):=by
 refine cI func72 O (OK.eW (rows:=l.map bf.cs) (t:=0) O O fun hlen=>?_);rw[Zx]at hlen;unfold maxLen at hlen;refine ro 9 O (kc (zk Ys O) (rr 4 O ?_));refine OK.loop (G:=Nat) [] (fun i=>[(0,.sl (l.map bf.cs)),(1,.fn 73 [.b5 x.cs]),(7,bv l.length),(8,bv i)]) (fun i=>i<=l.length/\bq (fun p:bf=>decide (p.name=x.vq)) 0 l=bq (fun p:bf=>decide (p.name=x.vq)) i (l.drop i)) (fun i=>l.length - i) 0 ⟨Zr _,O⟩ ⟨O,O,O,O,Zo⟩ (fun _=>O) ?_;rintro i ⟨hi,hg⟩;refine ro 6 O (kB O (fun c9=>?_) (fun c9=>?_))
 ·have hil:i<l.length:=by omega
  refine ro 15 O (kc (zI Ys O I O) (kc (S.fG Lo .none O (zt O) O O) (kc (S.ij (yw (p:=l[i]) (x:=x)) call73 .none O (zt O) (zc O .nil) O O O) (kD (kB O (fun c16=>?_) (fun c16=>?_))))))
  ·refine ro 6 O (kR O O ?_);simp_all[bT]
  refine Ro 7 O I (Ab.D.lp ⟨i+1,⟨by omega,?_⟩,I,O,O,O,O,Zo⟩);simp_all[bT]
 refine ro 7 O (kR O O ?_);refine cy ?_;have:i=l.length:=by omega
 subst this;rw[hg,co];rfl
def Al{A:HA}{m:Int}(hok:A.Ok m)(hm:m+2<=1000)(hpe:bA A.aS=0)(hce:yP A.jq){x:Entry}(hx:x.text.length<=100000)(hE:∀k,dS (aL 32 x.text).1=some k->lG k):dU prog 46 [] [.raw (pV A.b),.agg x.cs] [(3000,.res (aa A.mem))] [(3000,.res (JX A.b (bX A.plain x).1 (m+2)))] (.int .i64 (bX A.plain x).2):=by
 refine cH func46 O fun hT=>?_
 refine ro 7 O (OK.freezeP [] [(0,.raw (pV A.b)),(3000,.res (aa A.mem))] 3 O O O O O O ⟨O,O,Zo⟩ O (ro 6 O ?_));refine kc (zH SN O (aa.dQ (k:=.bn) O O (.same _))) (kc (S.dx .none O (zt O) O) (kc (zK (vf (l:=A.jq.av) (x:=x)) call72 O) ?_));refine rr 5 O (kc (S.assign .none O .oL) (rr 6 O (kc (zK (str_Cut (l:=x.text) (c:=32) hx) call75 O) (rr 10 O ?_))));rcases hk:dS (aL 32 x.text).1 with _|k
 ·have hhd:=head_eq A x;rw[hk]at hhd;refine OK.bN (jm O (kc (zK (Dw hk) call76 O) (rr 9 O ?_)));refine kV (.c (zm O) (.c (zn O O) (.c (zr Zd O) (.c (zH Z8 O (aa.dQ (k:=.bn) O O (.same _))) (.c (S.lss .none O (zt O) (.af O)) (.c (zK ak call58 O) (.c (zm O) (.c (S.geq .none O (zt O) (.af O)) (.c (zK ak call58 O) (.c (S.field Wv .none O (zt O) O) (.c (zV Z8 O O) (.c (zK cv call55 O) (.c (zK ak call58 O) (.c (S.field Wv .none O (zt O) O) (.c (zV Z8 O O) (.c (zm O) (.c (zn O O) (.c (zr Tc O) (.c (zH Z8 O (aa.dQ (k:=.bn) O O (.same _))) (.c (S.geq .none O (zt O) (zt O)) (.c (zK ak call58 O) (.c (S.field UU .none O (zt O) O) (.c (zV Y9 O O) (.c (S.dP underlying9 .none O (zt O)) (.c (S.leq .none O (zt O) (.af O)) (.c (zK ak call58 O) (.c (S.field UU .none O (zt O) O) (.c (zV Y9 O O) (.c (zm O) (.c (zK (jk hx) call77 O) (.c (S.not .none O (zt O)) (.c (zK ak call58 O) (.c (zm O) (.c (zK ak call58 O) (.c (zM [[_],[_],[_],[_],[_],[_],[_]] ZX O O O O) (.c (S.callL (bF (l:=[_,_,_,_,_,_,_])) call57 .none O (zc O .nil) (.cons (.p (.own O O) O) .nil) O) (.c (za O) .nil))))))))))))))))))))))))))))))))))))) ?_;refine rd 8 O (kB O (fun c74=>?_) (fun c74=>?_))
  ·have hne:A.plain.head x≠0:=by simp_all
   have hT0:=xm hne;refine ro 6 O ?_;have hT:=hT0;refine OK.bU (J':=JX A.b (bX A.plain x).1 (m+2)) O (JX.az _ _ _) (fun h Y w hj=>HA.jx hok I hm (by rw[hT]) hj) ?_;refine OK.ret ⟨aA.r1 (zo O O) ?_,O,Zo⟩;simp_all
  exact absurd GY c74
 have hhd:=head_eq A x;rw[hk]at hhd;have hk13:k<13:=(eE hk).1;refine OK.bN (jm O (kc (zK (Dx hk) call76 O) (rr 9 O ?_)));refine kV (.c (zm O) (.c (zn O O) (.c (zr Zd O) (.c (zH Z8 O (aa.dQ (k:=.bn) O O (.same _))) (.c (S.lss .none O (zt O) (.af O)) (.c (zK ak call58 O) (.c (zm O) (.c (S.geq .none O (zt O) (.af O)) (.c (zK ak call58 O) (.c (S.field Wv .none O (zt O) O) (.c (zV Z8 O O) (.c (zK cv call55 O) (.c (zK ak call58 O) (.c (S.field Wv .none O (zt O) O) (.c (zV Z8 O O) (.c (zm O) (.c (zn O O) (.c (zr Tc O) (.c (zH Z8 O (aa.dQ (k:=.bn) O O (.same _))) (.c (S.geq .none O (zt O) (zt O)) (.c (zK ak call58 O) (.c (S.field UU .none O (zt O) O) (.c (zV Y9 O O) (.c (S.dP underlying9 .none O (zt O)) (.c (S.leq .none O (zt O) (.af O)) (.c (zK ak call58 O) (.c (S.field UU .none O (zt O) O) (.c (zV Y9 O O) (.c (zm O) (.c (zK (jk hx) call77 O) (.c (S.not .none O (zt O)) (.c (zK ak call58 O) (.c (zm O) (.c (zK ak call58 O) (.c (zM [[_],[_],[_],[_],[_],[_],[_]] ZX O O O O) (.c (S.callL (bF (l:=[_,_,_,_,_,_,_])) call57 .none O (zc O .nil) (.cons (.p (.own O O) O) .nil) O) (.c (za O) .nil))))))))))))))))))))))))))))))))))))) ?_;refine rd 8 O (kB O (fun c74=>?_) (fun c74=>?_))
 ·have hne:A.plain.head x≠0:=by simp_all
  have hT0:=xm hne;refine ro 6 O ?_;have hT:=hT0;refine OK.bU (J':=JX A.b (bX A.plain x).1 (m+2)) O (JX.az _ _ _) (fun h Y w hj=>HA.jx hok I hm (by rw[hT]) hj) ?_;refine OK.ret ⟨aA.r1 (zo O O) ?_,O,Zo⟩;simp_all
 have h0:A.plain.head x=0:=by simp_all
 obtain⟨q1,q2,q3,q4,q5,q6,q7⟩:=GZ h0;obtain⟨i,hi⟩:=fj.1 q2;have hil:i<A.jq.av.length:=(eE hi).1;have hii:bq (fun p:bf=>decide (p.name=x.vq)) 0 A.jq.av=(i:Int):=by rw[my,show ix (fun p:bf=>decide (p.name=x.vq)) A.jq.av=some i from hi]
 obtain⟨lo1,lo2,lo3⟩:=Fh x.text;have hL:(fH x.text).1.rest.length<=600/\(fH x.text).1.oF.length<=600/\(fH x.text).1.coil.length<=600/\(fH x.text).1.rest.all isPrint=true:=⟨by have:=lo1.len;omega,by have:=lo2.len;omega,by have:=lo3.len;omega,dj.2 fun b hb=>dj.1 q6 b (lo1.sub b hb)⟩;have htl:A.plain.tail x i k=aF [ae (decide (A.jq.av[i].role>=yM.getD k 0)) 18,ae (kf x.text (kinds.getD k [])).2 7]:=by unfold ax.tail;rw[show A.plain.jq.av[i]?=some A.jq.av[i]from Zv hil];rfl
 refine ro 8 O (kc (S.dB (Bf (text:=x.text) (ks:=kinds.getD k []) hx (DK k)) hT call78 .none O (zc O (zc O .nil)) O) (rr 10 O ?_));refine kV (.c (zm O) (.c (zn O O) (.c (zr Y5 O) (.c (zr XP O) (.c (zr Xr O) (.c (zH SN O (aa.dQ (k:=.bn) O O (.same _))) (.c (zm O) (.c (S.aP (n:=i) Ys .none O (zt O) (zt O) hii hil O) (.c (S.field S_ .none O (zt O) O) (.c (zV Z8 O O) (.c (zf Qi O) (.c (zl Z8 O O O O) (.c (S.geq .none O (zt O) (zt O)) (.c (zK ak call58 O) (.c (zm O) (.c (zK ak call58 O) (.c (zM [[_],[_]] ZX O O O O) (.c (S.callL (bF (l:=[_,_])) call57 .none O (zc O .nil) (.cons (.p (.own O O) O) .nil) O) (.c (za O) .nil))))))))))))))))))) ?_;refine rd 7 O (kB O (fun c103=>?_) (fun c103=>?_))
 ·have hn2:A.plain.tail x i k≠0:=by simp_all
  have hT0:=DQ h0 hi hk hn2;refine ro 6 O ?_;have hT:=hT0;refine OK.bU (J':=JX A.b (bX A.plain x).1 (m+2)) O (JX.az _ _ _) (fun h Y w hj=>HA.jx hok I hm (by rw[hT]) hj) ?_;refine OK.ret ⟨aA.r1 (zo O O) ?_,O,Zo⟩;grind
 have h2:A.plain.tail x i k=0:=by simp_all
 obtain⟨_,hrt⟩:=Fg (Zu.1 c103);obtain⟨tx1,tx2⟩:=Es hk;have hws:=tx2 (tx1▸hrt);rw[hws];refine ro 9 O ?_;refine RK.c (S.uy (((hE k hk hok hm hpe hce hL).jR hT (aa.az _))) (JX.az _ _ _) (DM hk13) .none O (zt O) (zc O (zc O .nil)) O O O O) ?_;refine rr 9 O (kB O (fun c111=>?_) (fun c111=>?_))
 ·have hT0:=DR h0 hi hk h2 c111;refine ro 6 O ?_;refine OK.bU (J':=JX A.b (bX A.plain x).1 (m+2)) O (JX.az _ _ _) (fun h Y w hj=>by grind) ?_;refine OK.ret ⟨aA.r1 (zo O O) ?_,O,Zo⟩;rw[hT0]
 have hr0:(mO k A.plain (fH x.text).1).2=0:=Zu.1 c111;have hT0:=DS h0 hi hk h2 hr0;refine OK.Bv O fun A1 hb1 hpl1 hok1=>?_
 have he1:A1.entries=A.entries:=(eQ ax.entries hpl1).trans (DP k A.plain _);have hen:=hok1.en;have q1b:A.entries<60:=q1;rw[←hb1];refine ro 9 O (kc (S.dc (xs':=({A1 with time:=x.at_}:HA).cs) (.bn) Z8 .none (zt O) (zt O) O O O O O O O) (rr 7 O ?_));refine kc (zH (u:=bv A1.entries) Z8 O (aa.dQ (k:=.bn) (HM.bw _ _ _) O (.same _))) ?_;refine Rr 3 O I ?_;refine kc (S.dc (xs':=({A1 with time:=x.at_,entries:=A1.entries+1}:HA).cs) (.bn) Z8 .none (zt O) (zt O) O (HM.bw _ _ _) O O O O O) ?_;refine rr 3 O ?_;rw[HM.set_set];refine OK.Dv (A1:={A1 with time:=x.at_,entries:=A1.entries+1}) hok1 O O ⟨O,O⟩ ⟨O,O⟩ ⟨O,O⟩ ⟨O,O⟩ (by grind) fun hok2=>?_
 refine ro 4 O ?_;refine OK.bU (J':=JX A1.b (bX A.plain x).1 (m+2)) O (JX.az _ _ _) (fun h Y w hj=>jM hok2 I hm O (by rw[hT0,←hpl1];rfl) hj) ?_;refine OK.ret ⟨aA.r1 (zo O O) ?_,O,Zo⟩;rw[hT0]
end Go.Proofs.YtpbalelbenmmbaaGreatDoor
namespace Go.Proofs.YtpbalelbenmmbaaGreatDoor
open Go.Ab Tryz
def NW{l:ba}(h:(lj l).2=true):0<=(lj l).1/\(lj l).1<=10000000:=by
 obtain⟨h1,h2⟩:=pO l;rw[h1]at h;have h3:iF l 7=true:=by simp_all[tW]
 obtain⟨hc,hl⟩:=cN.1 h3;rw[h2 h,yN I h3];have h4:=jF l 0 hc.2.2;have h5:10 ^ l.length<=10 ^ 7:=pi C hl;omega
def R2{t:ba}(h:(fH t).2=true):0<=(fH t).1.num/\(fH t).1.num<=10000000:=by
 revert h;unfold fH;dsimp only
 repeat' split
 all_goals intro h
 all_goals simp_all[NW]
def Sx(n:Net)(x:Entry):Int:=((n.av[(jl n x.vq).getD 0]?).map bf.role).getD 0
def UA(n:Net)(s:State)(x:Entry)(last:Int):SE:=
 if jl n x.vq=none then(s,6)else if¬(0<=x.at_/\x.at_<=1000000000000)then(s,2)else if x.at_<last then(s,9)else if 600<x.text.length then(s,8)else if x.text.all isPrint=false then(s,3)
 else if dS (aL 32 x.text).1=none then(s,7)else if Sx n x<yM.getD ((dS (aL 32 x.text).1).getD 0) 0 then(s,18)else if(fH x.text).2=false then(s,7)else ZT n s (fH x.text).1
def Py(w:ba)(i:Nat):Int:=match dS w with
 |some k=>if k<i then yM.getD k 0 else -1
 |none=> -1
def MQ:∀k:Nat,k<13->dS (gR.getD k [])=some k:=by decide
def rUp_0(w:ba):Py w 0= -1:=by grind [Py]
theorem Lh{w:ba}{k:Nat}(hk:k<13)(h:gR.getD k []=w):Py w (k+1)=yM.getD k 0:=by subst h;unfold Py;rw[MQ k hk];simp
theorem Lg{w:ba}{k:Nat}(hk:k<13)(h:¬gR.getD k []=w):Py w (k+1)=Py w k:=by
 unfold Py;cases e:dS w with
 |none=>rfl
 |some j=>
  have hj:j≠k:=fun ej=>by
   subst ej;obtain⟨h1,h2⟩:=eE e;simp_all
  grind
def rUp_n{w:ba}(h:Py w 13<0):dS w=none:=by
 unfold Py at h;cases e:dS w with
 |none=>rfl
 |some k=>
  have hk:k<13:=(eE e).1;rw[e]at h;dsimp only at h;rw[Zn hk]at h;have:∀k:Nat,k<13->¬yM.getD k 0<0:=by decide
  grind
def rUp_s{w:ba}(h:¬Py w 13<0):∃k,k<13/\dS w=some k/\Py w 13=yM.getD k 0:=by
 unfold Py at h⊢;grind
def Uq{b:UInt8}(h:(b.toNat:Int)<32\/(b.toNat:Int)>126):isPrint b=false:=Zy I
theorem Og{b:UInt8}(h1:¬(b.toNat:Int)<32)(h2:¬(b.toNat:Int)>126):isPrint b=true:=Zz I
def MX{α:Type}{g:α->Bool}{l:List α}{j:Nat}(h:j<l.length)(hg:g l[j]=false):(l.drop j).all g=false:=by grind [List.drop_eq_getElem_cons]
theorem Jw{α:Type}{g:α->Bool}{l:List α}{j:Nat}(h:j<l.length)(hg:g l[j]=true):(l.drop j).all g=(l.drop (j+1)).all g:=by grind [List.drop_eq_getElem_cons]
def S3{n:Int}:Ct prog 80 [bv n] (.bool (decide (0<=n/\n<=1000000000000))):=by
 refine cI func80 O (ro 8 O (kc (zK gx call35 O) (rr 3 O (kR O O ?_))));rfl
def Ry{n:Net}(hpn:n.aS.length<=1000)(hn:(0<=n.lo/\n.lo<=1000000000)/\(0<=n.hi/\n.hi<=1000000000)/\ve n.limit=true){s:State}(hg:s.Good (bP n.aS).1)(hmd:s.Lw (bP n.aS).1){x:Entry}{last:Int}(hx:x.text.length<=100000):Ct prog 48 [.agg n.cs,.agg s.cs,.agg x.cs,bv last] (.cf [.agg (UA n s x last).1.cs,bv (UA n s x last).2]):=by
 refine cI func48 O (ro 14 O (kc (zK (TI (s:=n) (n:=x.vq)) call79 O) (rr 10 O (kB O (fun c25=>?_) (fun c25=>?_)))))
 ·have hT:UA n s x last=_:=Zn (X1 c25);refine ro 7 O (kT O O Z_ O O O ?_);rw[hT];try rfl
 obtain⟨w,hw⟩:=X2 c25;have hwi:=ZC hw;have hwl:w<n.av.length:=(eE hw).1;have hpx:jl n x.vq=some w:=hw;have e0:UA n s x last=_:=Zm (by simp_all);refine ro 7 O (kc (zK (S3 (n:=x.at_)) call80 O) (kc (S.not .none O (zt O)) (kD (OK.cond O O (fun c30=>?_) (fun c30=>?_)))))
 ·have hT:=e0.trans (Zn (by grind));refine ro 7 O (kT O O Z_ O O O ?_);rw[hT];try rfl
 have e1:=e0.trans (Zm (by simp_all));refine ro 11 O (kB O (fun c35=>?_) (fun c35=>?_))
 ·have hT:=e1.trans (Zn c35);refine ro 7 O (kT O O Z_ O O O ?_);rw[hT];try rfl
 have e2:=e1.trans (Zm c35);refine ro 11 O (kB O (fun c40=>?_) (fun c40=>?_))
 ·have hT:=e2.trans (Zn I);refine ro 7 O (kT O O Z_ O O O ?_);rw[hT];try rfl
 have e3:=e2.trans (Zm I);refine ro 9 O ?_;refine OK.loop (G:=Nat) [4,5,6,8] (fun j=>[(4,.ptr 4 0),(1004,.box n.cs),(5,.ptr 5 0),(1005,.box s.cs),(6,.ptr 6 0),(1006,.box x.cs),(8,.ptr 8 0),(1008,.box [.bO,.bO,.bO,.bO,bv 0,bv 0,.bO]),(10,bv (bq (fun p:bf=>decide (p.name=x.vq)) 0 n.av)),(11,bv j)]) (fun j=>j<=x.text.length/\x.text.all isPrint=(x.text.drop j).all isPrint) (fun j=>x.text.length - j) 0 ⟨Zr _,O⟩ ⟨O,O,O,O,O,O,O,O,O,O,Zo⟩ (fun _=>O) ?_;rintro j ⟨hj,hp⟩;refine ro 10 O (kB O (fun c46=>?_) (fun c46=>?_))
 ·have hjl:j<x.text.length:=by omega
  refine ro 9 O (kc (S.fJ (n:=j) fR .none O (zt O) (zt O) O hjl) (rr 2 O (RK.bh (t:=54) O (fun g54=>?_) (fun g54=>?_))))
  ·have hT:=e3.trans (Zn (hp.trans (MX hjl (Uq (.inl g54)))));refine rr 16 O (kT O O Z_ O O O ?_);rw[hT];try rfl
  refine rr 3 O (kc (S.fJ (n:=j) fR (zg O O) O (zt O) (zt O) O hjl) (rr 4 O (kB O (fun c60=>?_) (fun c60=>?_))))
  ·have hT:=e3.trans (Zn (hp.trans (MX hjl (Uq (.inr c60)))));refine ro 7 O (kT O O Z_ O O O ?_);rw[hT];try rfl
  refine Ro 8 O I (Ab.D.lp ⟨j+1,⟨by omega,by grind [Jw,Og]⟩,I,O,O,O,O,O,O,O,O,O,O,Zo⟩)
 have e4:=e3.trans (Zm (by grind));refine ro 6 O (kc (zK (XW (s:=x.text) hx) call81 O) (rr 16 O (kc (zK Sg call82 O) (rr 10 O ?_))));refine OK.loop (G:=Nat) [4,5,6,8] (fun i=>[(4,.ptr 4 0),(1004,.box n.cs),(5,.ptr 5 0),(1005,.box s.cs),(6,.ptr 6 0),(1006,.box x.cs),(8,.ptr 8 0),(1008,.box [.bO,.bO,.bO,.bO,bv 0,bv 0,.bO]),(10,bv (bq (fun p:bf=>decide (p.name=x.vq)) 0 n.av)),(12,.str (aL 32 x.text).1),(15,bv (Py (aL 32 x.text).1 i)),(16,.sl (gR.map fun v=>[.str v])),(17,bv i)]) (fun i=>i<=13) (fun i=>13 - i) 0 C ⟨O,O,O,O,O,O,O,O,O,O,(yL (rUp_0 _).symm),O,O,Zo⟩ (fun _=>O) ?_;rintro i hi;refine ro 5 O (kc (zk Z9 O) (rr 3 O (kB O (fun c73=>?_) (fun c73=>?_))))
 ·have hi13:i<13:=by have:(i:Int)<gR.length:=c73;have h13:gR.length=13:=rfl;omega
  refine ro 8 O (kc (zI Z9 O (show i<gR.length from hi13) O) (rr 5 O (kB O (fun c81=>?_) (fun c81=>?_))))
  ·refine OK.bN (kc (zK Sf call83 O) (jm O (kc (zI Z4 O (show i<yM.length from hi13) O) (Rr 10 O I ?_))));refine Ab.D.lp ⟨i+1,I,I,O,O,O,O,O,O,O,O,O,O,(yL (by grind [Lh])),O,O,Zo⟩
  refine Ro 8 O I ?_;refine Ab.D.lp ⟨i+1,I,I,O,O,O,O,O,O,O,O,O,O,(yL (by grind [Lg])),O,O,Zo⟩
 obtain rfl:i=13:=by have:¬(i:Int)<gR.length:=c73;have h13:gR.length=13:=rfl;omega
 refine ro 9 O (kB O (fun c87=>?_) (fun c87=>?_))
 ·have hT:=e4.trans (Zn (rUp_n c87));refine ro 7 O (kT O O Z_ O O O ?_);rw[hT];try rfl
 obtain⟨k,hk,hvk,hrk⟩:=rUp_s c87;have e5:=e4.trans (Zm (by simp_all));have hro:Sx n x=n.av[w].role:=by grind [Sx]
 rw[hvk,hro]at e5;refine ro 8 O (kc (S.aP (n:=w) Ys .none O (zt O) (zt O) hwi hwl O) (rr 6 O (kB O (fun c96=>?_) (fun c96=>?_))))
 ·have hT:=e5.trans (Zn (by simp_all));refine ro 7 O (kT O O Z_ O O O ?_);rw[hT];try rfl
 have e6:=e5.trans (Zm (by simp_all));refine ro 6 O (kc (zK (Se (s:=x.text) hx) call84 O) (rr 12 O (kc (S.not .none O (zt O)) (kD (OK.cond O O (fun c105=>?_) (fun c105=>?_))))))
 ·have hT:=e6.trans (Zn (by simp_all));refine ro 7 O (kT O O Z_ O O O ?_);rw[hT];try rfl
 have hT:=e6.trans (Zm (by simp_all));refine ro 7 O ?_;refine kc (zK (Rz hpn hn hg hmd (L:=(fH x.text).1) (by have:=(Fh x.text).1.len;omega) (R2 (by simp_all))) call85 O) ?_;refine rr 6 O (kT O O Z_ O O O ?_);rw[hT];try rfl
end Go.Proofs.YtpbalelbenmmbaaGreatDoor
namespace Go.Proofs.YtpbalelbenmmbaaGreatDoor
open Go.Ab Tryz
def br(l:List bf)(i:Nat)(p:bf):Int:=aF [ae (bS p.name) 4,ae (decide (¬(p.name∈(l.take i).map bf.name))) 5,ae (decide (0<=p.role/\p.role<=4)) 15]
def eX(n:Net):Int:=aF [ae (decide ((n.av.length:Int)>0)) 10,ae (decide ((n.av.length:Int)<=8)) 8]
def gA(n:Net):Bool:=decide (0<=n.limit/\n.limit<=2000)&&(decide (0<=n.lo/\n.lo<=10000)&&decide (0<=n.hi/\n.hi<=10000))
def lX(n:Net):Int:=aF [(bP n.aS).2,ae (gA n) 2,ae (decide (n.lo<=n.hi)) 9]
def size_le{n:Net}(h:eX n=0):(n.av.length:Int)<=8:=by
 unfold eX at h;by_cases h2:(n.av.length:Int)<=8
 ·exact h2
 exfalso;rw[Zy h2]at h;cases hd:decide ((n.av.length:Int)>0)<;>rw[hd]at h<;>exact absurd h C
def iG(n:Net):Int×Int:=if eX n≠0 then(0,eX n)else if(aK (br n.av) 0 n.av).2≠0 then aK (br n.av) 0 n.av else(0,lX n)
def Net.zero:Net:=⟨[],[],0,0,0⟩
def mN(n:Net):Net×bC:=if eX n≠0\/(aK (br n.av) 0 n.av).2≠0 then(Net.zero,⟨[],0⟩)else(n,(bP n.aS).1)
theorem qw{n:Net}(h:eX n≠0):iG n=(0,eX n)/\mN n=(Net.zero,⟨[],0⟩):=by unfold iG mN;simp_all
theorem tY{n:Net}(h:eX n=0)(h2:(aK (br n.av) 0 n.av).2≠0):iG n=aK (br n.av) 0 n.av/\mN n=(Net.zero,⟨[],0⟩):=by unfold iG mN;simp_all
theorem tZ{n:Net}(h:eX n=0)(h2:(aK (br n.av) 0 n.av).2=0):iG n=(0,lX n)/\mN n=(n,(bP n.aS).1):=by
 unfold iG mN;simp_all
def B6{n:Net}(h:(iG n).2=0):mN n=(n,(bP n.aS).1)/\(bP n.aS).2=0:=by
 by_cases h1:eX n=0
 ·by_cases h2:(aK (br n.av) 0 n.av).2=0
  ·obtain⟨e1,e2⟩:=tZ h1 h2;rw[e1]at h;refine⟨e2,?_⟩;have h':lX n=0:=h;unfold lX at h';rw[aF]at h';omega
  simp_all[tY]
 simp_all[qw]
def B7{n:Net}(h:(iG n).2=0):lX n=0:=by
 grind [tZ,tY,qw]
def F5{n:Net}(h:(iG n).2=0):yP n:=by
 have h1:=B7 h;have hp:=(B6 h).2;unfold lX at h1;rw[hp,aF,Zm C]at h1;cases hr:gA n with
 |false=>simp_all[aF,ae]
 |true=>
  unfold gA at hr;rw[Zw,Zw]at hr;exact⟨dC hr.2.1,dC hr.2.2⟩
def vP{l:ba}(h:(bP l).2=0):bA (bP l).1=0:=by
 unfold bP at h⊢;grind
def xL{l:List bf}{i:Nat}(h:i<l.length):(l.take (i+1)).map bf.name=(l.take i).map bf.name++[l[i].name]:=by rw[dT h,dE];rfl
def ax.init(n:Net)(p:bC):ax:=⟨n,p,[],[],[],[],⟨0,0,[]⟩,false,0,0⟩
def HA.init(b:Nat)(n:Net)(p:bC):HA:=⟨b,n,p,none,[],none,[],none,[],none,[],⟨0,0,[]⟩,false,0,0⟩
def HA.B8(b:Nat)(n:Net)(p:bC):(HM.set (fun _:Key=>none) .bn (some (b,.box (HA.init b n p).cs)))=(HA.init b n p).mem:=by
 funext k;cases k with
 |bn=>rfl
 |v i=>rfl
 |c i=>rfl
 |p i=>rfl
 |f i=>rfl
 |e i=>rfl
 |_=>rfl
def HA.Et(b:Nat)(n:Net)(p:bC):(HA.init b n p).Ok 0:=
 ⟨fun _=>rfl,fun _=>rfl,fun _=>rfl,fun _=>rfl,(fun v h=>by cases h),(fun v h=>by cases h),by decide,(by show(0:Int)<=0/\(0:Int)<=60;decide),Int.le_refl _,Int.le_refl _,Int.le_refl _,Int.le_refl _,(fun v h=>by cases h),(fun v h=>by cases h),(fun v h=>by cases h),(fun v h=>by cases h),(fun v h=>by cases h),(fun v h=>by cases h),(fun v h=>by cases h),(fun v h=>by cases h),(fun v h=>by cases h)⟩
def runT:ax->Nat->List Entry->ax×Int×Int
 |H,_,[]=>(H,0,0)
 |H,i,x::l=>if(bX H x).2≠0 then((bX H x).1,(i:Int),(bX H x).2)else runT (bX H x).1 (i+1) l
def ua(n:Net)(l:List Entry):Int:=aF [(iG n).2,ae (decide ((l.length:Int)<=60)) 8]
def bl(n:Net)(l:List Entry):ax×Int×Int:=if ua n l≠0 then(ax.init n (bP n.aS).1,0,ua n l)else runT (ax.init n (bP n.aS).1) 0 l
def F6{n:Net}{l:List Entry}(h:ua n l=0):(iG n).2=0/\(l.length:Int)<=60:=by
 unfold ua at h;rw[aF]at h;by_cases h1:(iG n).2=0
 ·rw[Zm I,aF]at h;refine⟨h1,?_⟩;by_cases h2:(l.length:Int)<=60
  ·exact h2
  rw[Zy h2]at h;exact absurd h C
 omega
def sR{H:ax}{l:List Entry}{i:Nat}(h:i<l.length):runT H i (l.drop i)=if(bX H l[i]).2≠0 then((bX H l[i]).1,(i:Int),(bX H l[i]).2)else runT (bX H l[i]).1 (i+1) (l.drop (i+1)):=by
 rw[ci h,runT]
def oK(H:ax)(x:Entry):(bX H x).1.aS=H.aS/\(bX H x).1.jq=H.jq:=by
 have ha:∀(n:Int)(f:ax->Nat->HE),(∀i,(f H i).1.aS=H.aS/\(f H i).1.jq=H.jq)->(cK H n f).1.aS=H.aS/\(cK H n f).1.jq=H.jq:=fun n f hf=>by
  unfold cK;split
  ·simp
  rename_i i _;split
  ·exact hf i
  grind
 have he:∀k L,(mO k H L).1.aS=H.aS/\(mO k H L).1.jq=H.jq:=by
  intro k L;unfold mO;split
  ·simp
  ·unfold fT;grind
  ·unfold frameT;repeat' split
   all_goals exact⟨rfl,rfl⟩
  ·unfold n8;split<;>exact⟨rfl,rfl⟩
  ·exact ha _ _ fun i=>by unfold gj;split<;>exact⟨rfl,rfl⟩
  ·exact ha _ _ fun i=>by unfold Ei;split<;>exact⟨rfl,rfl⟩
  ·unfold qj;grind
  ·unfold tS;grind
  ·exact ha _ _ fun i=>by unfold yE;split<;>exact⟨rfl,rfl⟩
  ·refine ha _ _ fun i=>?_
   unfold yQ;dsimp only
   repeat' split
   all_goals exact⟨rfl,rfl⟩
  ·unfold eG;grind
  ·exact ha _ _ fun i=>by unfold fe;grind
  unfold gS;grind
 unfold bX;grind
def F7(e:Int)(b:Nat):Value:=if e=0 then pV b else .pointer none
theorem B9{e:Int}{b:Nat}(h:e≠0):F7 e b=.pointer none:=Zm h
def uc{e:Int}{b:Nat}(h:e=0):F7 e b=pV b:=Zn h
def sS(l:List Entry):Prop:=∀x∈l,x.text.length<=100000/\∀k,dS (aL 32 x.text).1=some k->lG k
def pP(e:Int)(H:ax)(A:HA):bm:=fun h Y w=>e=0->(A.Ok 400/\A.plain=H)/\aa A.mem h Y w
def pP.az(e:Int)(H:ax)(A:HA):aZ (pP e H A):=fun h h' Y w w' hj a1 a2 a3 a4 a5 he=>⟨(hj he).1,aa.az A.mem _ _ _ _ _ (hj he).2 a1 a2 a3 a4 a5⟩
def pP.mono{e:Int}{H:ax}{A:HA}:∀h Y Y' w,pP e H A h Y w->(∀b,Y b->Y' b)->pP e H A h Y' w:=fun _ _ _ _ hj hY he=>⟨(hj he).1,(hj he).2.mono hY⟩
def OK.ud{E:Env}{U:bc}{s:St}{code:Code}{Q:bo}{e:Int}{H:ax}{A:HA}(he:e=0)(hl:Ab.look s 3000=some (.res (pP e H A)))(h:A.Ok 400->A.plain=H->OK E code Q U ((3000,.res (aa A.mem))::s)):OK E code Q U s:=
 OK.ue (p:=A.Ok 400/\A.plain=H) hl (fun _ _ _ hj=>(hj he).1) fun hp=>OK.bU hl (aa.az _) (fun _ _ _ hj=>(hj he).2) (h hp.1 hp.2)
def xM{l:List bf}{i:Nat}{p:bf}(h:br l i p=0):p.name∉(l.take i).map bf.name:=by
 unfold br at h;intro hm;rw[Zy (Zp hm)]at h;grind [aF,ae]
def Hr{a b:List ba}(h:a=b):some (X.omap (jz (qx a)))=some (X.omap (jz (qx b))):=by rw[h]
def Ca{H:ax}{l:List Entry}{i:Nat}(h:i<l.length)(he:(bX H l[i]).2≠0):runT H i (l.drop i)=((bX H l[i]).1,(i:Int),(bX H l[i]).2):=by rw[sR h,Zn he]
theorem Eu{H:ax}{l:List Entry}{i:Nat}(h:i<l.length)(he:(bX H l[i]).2=0):runT H i (l.drop i)=runT (bX H l[i]).1 (i+1) (l.drop (i+1)):=by simp_all[sR]
def fV(n:Net)(l:List Entry)(num:Int):Int:=if(bl n l).2.2≠0 then(bl n l).2.2 else sU num ((bl n l).1.vr num).isSome
def qy(n:Net)(l:List Entry)(num:Int)(A:HA):Value:=if(bl n l).2.2=0 then rW A.pb (ix (fun v=>decide (v.p.num=num)) A.parts)else .pointer none
def sV{n:Int}:Ct prog 67 [bv n] (.bool (decide (0<=n/\n<=10000))):=by
 refine cI func67 O (ro 8 O (kc (zK cv call55 O) (rr 3 O (kR O O ?_))));rfl
def vQ{n:Net}(hp:n.aS.length<=1000):gz prog 42 [.agg n.cs] (.cf [.agg ((mN n).1.cs++(mN n).2.cs),bv (iG n).1,bv (iG n).2]):=by
 refine cT func42 O fun hT=>?_
 refine ro 10 O ?_;refine kV (.c (zf Xr O) (.c (zl SN O O O O) (.c (zk Ys O) (.c (S.gtr .none O (zt O) (.af O)) (.c (zK ak call58 O) (.c (zf Xr O) (.c (zl SN O O O O) (.c (zk Ys O) (.c (S.leq .none O (zt O) (.af O)) (.c (zK ak call58 O) (.c (zM [[_],[_]] ZX O O O O) (.c (S.callL (bF (l:=[_,_])) call57 .none O (zc O .nil) (.cons (.p (.own O O) O) .nil) O) (.c (za O) .nil))))))))))))) ?_;refine rd 7 O (kB O (fun c27=>?_) (fun c27=>?_))
 ·have hz:eX n≠0:=c27;obtain⟨hN,hS⟩:=qw hz;refine kr (kc (zU RM O O) (rr 6 O (OK.ret (aA.r3 (.bG O O O O Xm O (.k .bO (.k (.same O) (.k (.same O) (.k (.same O) (.k (.same O) (.k .bO (.k (.same O) .z)))))))) (zo O O) (zo O O) ?_))));rw[hN,hS];rfl
 have hz:eX n=0:=Zu.1 c27;have hl8:=size_le hz;refine ro 4 O (RK.c (S.vR (k:=30) O .none O) (rr 8 O (kc (zk Ys O) (rr 4 O ?_))));refine OK.loop (G:=Nat) [1,2,30] (fun i=>[(1,.ptr 1 0),(1001,.box n.cs),(2,.ptr 2 0),(1002,.box [.bO,.str [],bv 0,bv 0,bv 0,.bO,bv 0]),(6,.jt 30),(1030,.omap (jz (qx ((n.av.take i).map bf.name)))),(32,.sl (n.av.map bf.cs)),(33,bv n.av.length),(34,bv i)]) (fun i=>i<=n.av.length/\aK (br n.av) 0 n.av=aK (br n.av) i (n.av.drop i)) (fun i=>n.av.length - i) 0 ⟨Zr _,O⟩ ⟨O,O,O,O,O,O,O,O,O,Zo⟩ (fun _=>O) ?_;rintro i ⟨hi,hg⟩;refine ro 6 O (kB O (fun c35=>?_) (fun c35=>?_))
 ·have hil:i<n.av.length:=by omega
  refine ro 7 O (kc (zI Ys O I O) ?_);refine rr 7 O ?_;refine kV (.c (zf WW O) (.c (zl Y9 O O O O) (.c (zK jA call65 O) (.c (zK ak call58 O) (.c (zm O) (.c (zf WW O) (.c (zl Y9 O O O O) (.c (S.Ev (ks:=(n.av.take i).map bf.name) underlying150 underlying9 zeroValue4 O .none O (zt O) (zt O) O O) (.c (S.jP .none O (zt O)) (.c (zK ak call58 O) (.c (zf S_ O) (.c (zl Z8 O O O O) (.c (zK cv call55 O) (.c (zK ak call58 O) (.c (zM [[_],[_],[_]] ZX O O O O) (.c (S.callL (bF (l:=[_,_,_])) call57 .none O (zc O .nil) (.cons (.p (.own O O) O) .nil) O) (.c (za O) .nil))))))))))))))))) ?_;refine rd 8 O (kB O (fun c56=>?_) (fun c56=>?_))
  ·have hpe:br n.av i n.av[i]≠0:=c56;have hee:aK (br n.av) 0 n.av=((i:Int),br n.av i n.av[i]):=by simp_all[bE]
   obtain⟨hN,hS⟩:=tY hz (by grind);rw[hee]at hN;refine kr (kc (zU RM O O) (rr 7 O (OK.ret (aA.r3 (.bG O O O O Xm O (.k .bO (.k (.same O) (.k (.same O) (.k (.same O) (.k (.same O) (.k .bO (.k (.same O) .z)))))))) (zo O O) (zo O O) ?_))));rw[hN,hS];rfl
  have hpe:br n.av i n.av[i]=0:=Zu.1 c56;have hnm:n.av[i].name∉(n.av.take i).map bf.name:=xM hpe;refine ro 6 O (kc (S.Ew (ks:=(n.av.take i).map bf.name) underlying150 underlying9 .none (zt O) (zt O) .aJ O O hnm) (Rr 7 O I ?_));refine Ab.D.lp ⟨i+1,⟨by omega,by simp_all[bE]⟩,I,O,O,O,O,O,(Hr (by rw[xL hil])),O,O,O,Zo⟩
 refine ro 3 O ?_;have hie:i=n.av.length:=by omega
 have hee:(aK (br n.av) 0 n.av).2=0:=by rw[hg,hie,co];rfl
 obtain⟨hN,hS⟩:=tZ hz hee;refine ro 3 O (kc (S.dB (rX (l:=n.aS) I) hT call66 .none O (zc O .nil) O) ?_);refine rr 10 O (kc (S.assign .none O .oL) (rr 6 O (kc (zK cv call55 O) (jm O (RK.bh (t:=73) O (fun g73=>?_) (fun g73=>?_))))))
 ·refine rr 4 O (kc (S.ij (sV) call67 (zg O O) O (zt O) (zc O .nil) O O O) (rr 2 O (RK.bh (t:=80) O (fun g80=>?_) (fun g80=>?_))))
  ·refine rr 4 O (kc (S.ij (sV) call67 (zg O O) O (zt O) (zc O .nil) O O O) (rr 5 O ?_));refine kV (.c (zL XB O O O O) (.c (zL Za O O O O) (.c (zU RM O O) (.c (zm O) (.c (zm O) (.c (zK ak call58 O) (.c (zf YH O) (.c (zf Ze O) (.c (zl Z8 O O O O) (.c (zf YH O) (.c (zf YU O) (.c (zl Z8 O O O O) (.c (S.leq .none O (zt O) (zt O)) (.c (zK ak call58 O) (.c (zM [[_],[_],[_]] ZX O O O O) (.c (S.callL (bF (l:=[_,_,_])) call57 .none O (zc O .nil) (.cons (.p (.own O O) O) .nil) O) (.c (zS Xm O O O O O O) (.c (zi O O) (.c (za O) .nil))))))))))))))))))) (Ab.D.code (OK.ret (aA.r3 (zy O O Xm O) (zo O O) (zo O O) ?_)));rw[hN,hS];refine eQ (fun e=>X.cf [.agg (n.cs++(bP n.aS).1.cs),bv 0,bv e]) ?_;simp_all[lX,gA]
  refine rr 10 O ?_;refine kV (.c (zL XB O O O O) (.c (zL Za O O O O) (.c (zU RM O O) (.c (zm O) (.c (zm O) (.c (zK ak call58 O) (.c (zf YH O) (.c (zf Ze O) (.c (zl Z8 O O O O) (.c (zf YH O) (.c (zf YU O) (.c (zl Z8 O O O O) (.c (S.leq .none O (zt O) (zt O)) (.c (zK ak call58 O) (.c (zM [[_],[_],[_]] ZX O O O O) (.c (S.callL (bF (l:=[_,_,_])) call57 .none O (zc O .nil) (.cons (.p (.own O O) O) .nil) O) (.c (zS Xm O O O O O O) (.c (zi O O) (.c (za O) .nil))))))))))))))))))) (Ab.D.code (OK.ret (aA.r3 (zy O O Xm O) (zo O O) (zo O O) ?_)));rw[hN,hS];refine eQ (fun e=>X.cf [.agg (n.cs++(bP n.aS).1.cs),bv 0,bv e]) ?_;simp_all[lX,gA,Zy]
 refine rr 17 O ?_;refine kV (.c (zL XB O O O O) (.c (zL Za O O O O) (.c (zU RM O O) (.c (zm O) (.c (zm O) (.c (zK ak call58 O) (.c (zf YH O) (.c (zf Ze O) (.c (zl Z8 O O O O) (.c (zf YH O) (.c (zf YU O) (.c (zl Z8 O O O O) (.c (S.leq .none O (zt O) (zt O)) (.c (zK ak call58 O) (.c (zM [[_],[_],[_]] ZX O O O O) (.c (S.callL (bF (l:=[_,_,_])) call57 .none O (zc O .nil) (.cons (.p (.own O O) O) .nil) O) (.c (zS Xm O O O O O O) (.c (zi O O) (.c (za O) .nil))))))))))))))))))) (Ab.D.code (OK.ret (aA.r3 (zy O O Xm O) (zo O O) (zo O O) ?_)));rw[hN,hS];refine eQ (fun e=>X.cf [.agg (n.cs++(bP n.aS).1.cs),bv 0,bv e]) ?_;simp_all[lX,gA,Zy]
def lY{n:Net}{l:List Entry}(hp:n.aS.length<=1000)(hE:sS l):vS prog 45 [.agg n.cs,.sl (l.map Entry.cs)] (fun A:HA=>.cf [.raw (F7 (bl n l).2.2 A.b),bv (bl n l).2.1,bv (bl n l).2.2]) (fun A:HA=>pP (bl n l).2.2 (bl n l).1 A):=by
 refine vS.intro (rs:=[.tmp 4,.tmp 5,.tmp 6]) func45 rfl ntmps45 results45 rfl rfl rfl fun w h hT=>?_
 refine OK.ug Key (OK.eW (rows:=l.map Entry.cs) (t:=1) O O fun hlen=>?_);rw[Zx]at hlen;unfold maxLen at hlen;have hR0:ua n l≠0->bl n l=(ax.init n (bP n.aS).1,0,ua n l):=fun h=>by unfold bl;grind
 have hR1:ua n l=0->bl n l=runT (ax.init n (bP n.aS).1) 0 l:=fun h=>by simp_all[bl]
 refine ro 3 O (kc (S.assign .none O .lq) (rr 7 O (kc (S.dB (vQ I) hT call42 .none O (zc O .nil) O) ?_)));refine rr 15 O (kc (zk Y8 O) (kc (S.leq .none O (zt O) (.af O)) (kc (zK ak call58 O) ?_)));refine RK.c (zM [[_],[_]] ZX O O O O) (kc (S.callL (bF (l:=[_,_])) call57 .none O (zc O .nil) (.cons (.p (.own O O) O) .nil) O) ?_);refine rr 9 O (kB O (fun c28=>?_) (fun c28=>?_))
 ·have hL:ua n l≠0:=c28;have hT:=hR0 hL;refine ro 3 O (kc (S.assign .none O .lq) (rr 4 O ?_));refine OK.bU (J':=pP (bl n l).2.2 (bl n l).1 (HA.init 0 n (bP n.aS).1)) O (pP.az _ _ _) (fun h Y w hj he=>absurd he (by simp_all)) ?_;refine OK.ret ⟨(HA.init 0 n (bP n.aS).1),aA.r3 (zo O O) (zo O O) (zo O O) ?_,O⟩;rw[hT];dsimp only;rw[B9 hL]
  try rfl
 have hL:ua n l=0:=Zu.1 c28;have hR:=hR1 hL;obtain⟨hN0,hlen60⟩:=F6 hL;obtain⟨hS,hP0⟩:=B6 hN0;rw[hS];refine ro 5 O (kc (zU bu130 O O) (RK.c (S.Ex (k:=32) O .none O (zt O) O) (rr 5 O (OK.Hs 10 .bn (cells':=(HA.init 0 n (bP n.aS).1).cs) O O O ⟨.inl ⟨O,O⟩,.inl ⟨O,O⟩,.inl ⟨O,O⟩,.inl ⟨O,O⟩,.inl ⟨O,O⟩,.inl ⟨O,O⟩,.inl ⟨O,O⟩,.inl ⟨O,O⟩,.inl ⟨O,O⟩,.inl ⟨O,O⟩,.inl ⟨O,O⟩,.inl ⟨O,O⟩,.inl ⟨O,O⟩,.inr ⟨O,O⟩,.inl ⟨O,O⟩,.inl ⟨O,O⟩,.inl ⟨O,O⟩,Zo⟩ O fun b=>?_))));refine OK.bU (J':=JX b (ax.init n (bP n.aS).1) (2 * ((0:Nat):Int))) O (JX.az _ _ _) (fun h Y w hj=>⟨HA.init b n (bP n.aS).1,⟨O,O,HA.Et _ _ _⟩,by rw[←HA.B8];exact hj⟩) ?_;refine OK.bN (jm O (kc (zk Y8 O) (rr 4 O ?_)));refine OK.mP [] (fun(i:Nat)(H:ax)=>[(10,.raw (pV b)),(33,.sl (l.map Entry.cs)),(34,bv l.length),(35,bv i),(3000,.res (JX b H (2 * (i:Int))))]) (fun i H=>i<=l.length/\bl n l=runT H i (l.drop i)/\bA H.aS=0/\yP H.jq) (fun i H=>l.length - i) (0) ((ax.init n (bP n.aS).1)) ⟨Zr _,hR,vP hP0,F5 hN0⟩ ⟨O,O,O,O,O,Zo⟩ (fun _ _=>O) ?_;rintro i H ⟨hi,hg,hpe,hce⟩;refine ro 6 O (kB O (fun c36=>?_) (fun c36=>?_))
 ·have hil:i<l.length:=by omega
  obtain⟨hx1,hx2⟩:=hE _ (Zt hil);refine ro 7 O (kc (zI Y8 O I O) ?_);refine rr 7 O (OK.Bv O fun A hb hpl hok=>?_);subst hb;subst hpl;refine ro 3 O ?_;refine RK.c (S.ik (((Al hok I hpe hce hx1 hx2).jR hT (aa.az _))) (JX.az _ _ _) call46 .none O (zc O (zc O .nil)) O O) ?_;refine rr 9 O (kB O (fun c44=>?_) (fun c44=>?_))
  ·have hT:=hg.trans (Ca hil c44);refine ro 4 O (kc (S.assign .none O .lq) (rr 4 O ?_));refine OK.bU (J':=pP (bl n l).2.2 (bl n l).1 (HA.init 0 n (bP n.aS).1)) O (pP.az _ _ _) (fun h Y w hj he=>absurd he (by grind)) ?_;refine OK.ret ⟨(HA.init 0 n (bP n.aS).1),aA.r3 (zo O O) (zo O O) (zo O O) ?_,O⟩;grind [B9]
  have he0:=Zu.1 c44;refine Ro 7 O I ?_;refine Ab.D.lp ⟨i+1,(bX A.plain l[i]).1,⟨by omega,by grind [Eu],by simp_all[oK],by simp_all[oK]⟩,I,O,O,O,O,(lZ (by rfl)),Zo⟩
 have hT:bl n l=(H,0,0):=by rw[hg,show i=l.length by omega,co];rfl
 refine ro 10 O (OK.Bv O fun A2 hb2 hpl2 hok2=>?_);subst hb2;refine OK.bU (J':=pP (bl n l).2.2 (bl n l).1 A2) O (pP.az _ _ _) (fun h Y w hj he=>⟨⟨hok2.more I I,by grind⟩,hj⟩) ?_;refine OK.ret ⟨A2,aA.r3 (zo O O) (zo O O) (zo O O) ?_,O⟩;rw[hT];rfl
def TD{n:Net}{l:List Entry}(hp:n.aS.length<=1000)(hE:sS l):gz prog 13 [.agg n.cs,.sl (l.map Entry.cs)] (.cf [bv (bl n l).2.1,bv (bl n l).2.2]):=by
 refine cT func13 O fun hT=>?_
 refine ro 11 O ?_;refine RK.qz (((lY hp hE).at hT)) (fun _=>pP.az _ _ _) (fun _=>pP.mono) call45 O (zc O (zc O .nil)) O fun A=>?_
 refine rr 17 O (kS O O O O ?_);rfl
def Am{n:Net}{l:List Entry}{num:Int}(hp:n.aS.length<=1000)(hE:sS l):vS prog 49 [.agg n.cs,.sl (l.map Entry.cs),bv num] (fun A:HA=>.cf [.raw (qy n l num A),bv (fV n l num)]) (fun A:HA=>pP (bl n l).2.2 (bl n l).1 A):=by
 refine vS.intro (rs:=[.tmp 6,.tmp 7]) func49 rfl ntmps49 results49 rfl rfl rfl fun w h hT=>?_
 refine ro 3 O (kc (S.assign .none O .lq) (rr 7 O ?_));refine RK.qz (((lY hp hE).at hT)) (fun _=>pP.az _ _ _) (fun _=>pP.mono) call45 O (zc O (zc O .nil)) O fun A=>?_
 refine rr 16 O (kB O (fun c19=>?_) (fun c19=>?_))
 ·refine ro 3 O (kc (S.assign .none O .lq) (rr 3 O (OK.ret ⟨A,aA.r2 (zo O O) (zo O O) ?_,O⟩)));simp_all[qy,fV]
 have he0:(bl n l).2.2=0:=Zu.1 c19;refine ro 3 O (OK.ud he0 O fun hok hpl=>?_);rw[uc he0];have hpx:A.plain.vr num=ix (fun v=>decide (v.p.num=num)) A.parts:=HA.gG A num;refine ro 3 O (kc (S.fI ((fun J hS hJ=>(vT hok hS hJ).jR hS)) call86 .none O (zc O (zc O .nil)) O O) ?_);refine rr 6 O ?_;refine OK.bU (J':=pP (bl n l).2.2 (bl n l).1 A) O (pP.az _ _ _) (fun h Y w hj he=>⟨⟨hok,hpl⟩,hj⟩) ?_;refine OK.ret ⟨A,aA.r2 (zo O O) (zo O O) ?_,O⟩;simp_all[qy,fV]
end Go.Proofs.YtpbalelbenmmbaaGreatDoor
namespace Go.Proofs.YtpbalelbenmmbaaGreatDoor
open Go.Ab Tryz
def Xc:∀(n:Nat)(l:bc),l.Nodup->(∀x∈l,x<n)->l.length<=n
 |0,l,_,h=>by
  cases l with
  |nil=>simp
  |cons x l=>exact absurd (h x dp) (wl _)
 |n+1,l,hn,h=>by
  have h1:=Xc n (l.erase n) (hn.erase n) fun x hx=>by
   grind
  grind
def Tq{pl:bC}{l:List Frame}(hp:bA pl=0)(h:Iu pl l):l.length<=12:=by
 have hpp:=jc hp;have h1:=Xc 12 (l.map fun f=>f.tick.toNat) (by
  rw[List.nodup_iff_pairwise_ne,List.pairwise_map,rl];intro i j hi hj hij e;have a:=(D9 (h.1 _ (Zt hi))).1;have b:=(D9 (h.1 _ (Zt hj))).1;exact absurd (h.2 i j _ _ (Zv hi) (Zv hj) I) I) fun x hx=>by
  obtain⟨f,hf,rfl⟩:=eI.1 hx;have a:=(D9 (h.1 f hf)).1;omega
 simp_all
def MP{t n:Int}(h:0<=t)(h2:2 * t<n):eL t n=0:=Zn ⟨h,by
 grind⟩
def Pp{r:aX}(h:r.rows.all (fun x=>x.known)=true):(wB r).length=0:=by
 have key:∀(l:List Row)(k:Nat),(l.all fun x=>x.known)=true->gX k l=[]:=by
  intro l
  induction l with
  |nil=>intro k _;rfl
  |cons x l ih=>
   simp_all[gX]
 simp_all[wB]
def W4{e:Int}{l:bd}(h:e≠0):aF (e::l)=e:=by rw[aF,Zn h]
theorem W0(l:bd):aF (0::l)=aF l:=by rfl
def Zg(e:Int)(l:bd):aF (ae true e::l)=aF l:=W0 l
theorem Yz{e:Int}(h:e≠0)(l:bd):aF (ae false e::l)=e:=W4 h
def Pv(H:ax)(i j:Nat):((H.Ff i).p j).num=(H.p j).num:=by
 grind [ax.p,ax.Ff]
def Rk(H:ax)(i:Nat):(H.Ff i).st=H.st.Ff i:=by
 show State.mk _ _ _ _ _=State.mk _ _ _ _ _;congr 1
 ·show(H.parts.map _).map _=(H.parts.map _).map _;rw[rn,rn];refine ne fun q _=>?_
  simp only[Function.comp,Zb];grind
 exact ne fun j _=>Pv H i j
structure HS(H:ax):Prop where
 inv:MS H
 nd:H.aI.Nodup
 R7:MT H
 pl:bA H.aS=0
 fr:∀q∈H.parts,Iu H.aS q.1.frames
 ju:∀q∈H.parts,q.1.place=0->q.1.lP=false
 wh:∀i∈H.aI,(H.p i).place≠0/\mw H.aS (H.p i)=true
 Js:H.bz=decide (0<H.env.rows.length)
 env:0<H.env.rows.length->(ki H.aS H.env).2=0
 rc:∀q∈H.aU,O2 6 q.1.phases
 lf:∀q∈H.aC,q.1.nM<=1000
section
variable{H:ax}{i:Nat}
theorem Wf{q:Part×bd}(h:H.parts[i]?=some q):H.p i=q.1:=by simp_all[ax.p]
theorem HS.good(h:HS H):H.st.Good H.aS:=by
 have hlc:=h.inv.lc;have hlp:=h.inv.lp;have hlv:=h.inv.lv;refine⟨⟨?_,?_,?_,?_,?_,fun i hi=>?_,fun p hp=>?_,fun r hr=>?_,fun c hc=>?_⟩,fun p hp=>?_,fun p hp h0=>?_,h.env,h.pl⟩
 ·show(H.aU.map _).length<=_;grind
 ·show(H.aC.map _).length<=_;simp_all
 ·show(H.parts.map _).length<=_;grind
 ·show(H.aI.map _).length<=_;rw[Zx];have:=Xc _ _ h.nd h.inv.aI;omega
 ·show H.env.rows.length<=_;by_cases e:0<H.env.rows.length
  ·have:=(Ck (h.env e)).2.2.1;have:=jc h.pl;omega
  omega
 ·have hi:i<H.env.rows.length:=hi;have:=((Ck (h.env I)).2.2.2 i hi).1;have:=jc h.pl;show H.env.rows[i].length<=_;omega
 ·obtain⟨q,hq,rfl⟩:=eI.1 hp;refine⟨by have:=Tq h.pl (h.fr q hq);omega,fun f hf=>?_⟩;have:=(D9 ((h.fr q hq).1 f hf)).2;have:=jc h.pl;omega
 ·obtain⟨q,hq,rfl⟩:=eI.1 hr;exact h.rc q hq
 ·obtain⟨q,hq,rfl⟩:=eI.1 hc;have:=h.inv.shots q hq;have:=h.lf q hq;omega
 ·obtain⟨q,hq,rfl⟩:=eI.1 hp;exact⟨h.fr q hq,by have:=Tq h.pl (h.fr q hq);omega⟩
 obtain⟨q,hq,rfl⟩:=eI.1 hp;exact h.ju q hq h0
theorem HS.vr(h:HS H)(hi:i<H.parts.length):H.st.vr (H.p i).num=some i:=by
 rw[RG];cases e:H.vr (H.p i).num with
 |none=>
  have:=(YO _ _ 0).1 e _ (Zt hi);rw[Wf (Zv hi)]at this;simp_all
 |some j=>
  obtain⟨h1,h2⟩:=eE e;have h3:(H.p j).num=(H.p i).num:=by rw[Wf (Zv h1)];simp_all
  rw[h.R7 j i h1 hi h3]
def HS.mods(h:HS H):H.st.Lw H.aS:=fun m hm=>by
 obtain⟨i,hi,rfl⟩:=eI.1 hm;exact⟨i,h.vr (h.inv.aI i hi),by rw[Zb];exact(h.wh i hi).2⟩
theorem PB(hi:MS H)(name rest:ba):((eG H name rest).1.st,(eG H name rest).2)=TF H.st name rest:=by
 unfold eG TF;dsimp only;have e:H.st.yB.length=H.aU.length:=Zx ..;rw[e,←OO hi.iN];cases h1:bS name
 ·simp
 simp only[Bool.true_eq_false,if_false];have hlv:=hi.lv;by_cases h2:(iM rest).2=0
 ·rw[h2,W0,Zm (c:=(0:Int)≠0) (fun h=>h rfl)];by_cases h3:H.aU.length=6
  ·simp_all[Yz]
  rw[Zz I,Zg,Zm (c:=aF []≠0) (fun h=>h rfl),Zm h3];refine eQ (fun q=>(q,(0:Int))) ?_;show State.mk ((H.aU++[_]).map _) _ _ _ _=State.mk _ _ _ _ _;rw[dE];congr 1;congr 1;grind
 simp_all[W4]
def HS.nB(h:HS H):H.st.nB H.aS=H.nB:=by
 show(H.aI.map fun i=>(H.p i).num).map _=H.aI.map _;rw[rn];refine ne fun i hi=>?_
 have h0:=h.inv.aI i hi;show ZO H.aS (H.st.oc (H.p i).num).frames=fM H.aS (H.p i).frames;unfold State.oc;rw[h.vr h0,Option.getD_some,Zb];have hq:=Wf (Zv h0);have hf:=h.fr _ (Zt h0);rw[hq];exact(Xe (Iu.rec h.pl hf (by have:=Tq h.pl hf;omega))).symm
def HS.Om(h:HS H)(h0:H.nB.length≠0):kU H.aS H.nB=0:=by
 have hl:H.nB.length=H.aI.length:=Zx ..;have hm:=Xc _ _ h.nd h.inv.aI;have hlp:=h.inv.lp;unfold kU;rw[Zm h0,Zm I];refine Wt _ _ 0 fun k hk=>?_
 have hk2:k<H.aI.length:=by omega
 have e:H.nB[k]=fM H.aS (H.p H.aI[k]).frames:=ti ..;have hi:=h.inv.aI _ (Zt hk2);have hq:=Wf (Zv hi);have hf:=h.fr _ (Zt hi);have hw:=(h.wh _ (Zt hk2)).2;rw[e];unfold mw at hw;rw[hq]at hw⊢;rw[Xe (Iu.rec h.pl hf (by have:=Tq h.pl hf;omega))]at hw⊢;unfold jg;rw[Zm (by rw[(Xf h.pl hf.1).1];decide),Zn (Pp hw)]
theorem NJ(h:HS H){n:Int}(hn:0<=n):((gS H n).1.st,(gS H n).2)=Rh H.aS H.st n:=by
 unfold gS Rh;rw[h.nB];have e1:fg H.aS H.nB n=if kU H.aS H.nB≠0 then kU H.aS H.nB else eL n H.nB.length:=by
  unfold fg gv;rw[Zm (c:=bA H.aS≠0) (fun e=>e h.pl)]
 by_cases h0:H.nB.length=0
 ·simp_all[kU]
 rw[Zm h0];have e2:=h.Om h0;have e3:fg H.aS H.nB n=eL n H.nB.length:=by omega
 by_cases h3:eL n H.nB.length=0
 ·have h4:=tg I h3;rw[e3,h3,Zn rfl,Zm I];refine eQ (fun q=>(q,(0:Int))) ?_;show State.mk _ _ _ _ _=State.mk _ _ _ _ _;congr 1;exact Zn (e3.trans h3)
 have h5:=PS h3;rw[e3,h5,Zm C];by_cases h6:2 * n>=H.nB.length
 all_goals simp_all[MP]
theorem MF(H:ax){n:Net}(hn:H.jq=n)(rest:ba)(i:Nat):((yQ rest H i).1.st,(yQ rest H i).2)=Yb n rest H.st i:=by
 subst hn;unfold yQ Yb;rw[Zb];by_cases h1:(H.p i).place≠1
 ·simp_all
 rw[Zm h1,Zm h1];by_cases h2:(DH rest).2≠0
 ·simp_all
 rw[Zm h2,Zm h2];dsimp only;by_cases h3:(It (DH rest).1 H.jq.limit).2≠0
 ·simp_all
 rw[Zm h3,Zm h3];refine eQ (fun q=>(q,(0:Int))) ?_;have ho:H.outside (It (DH rest).1 H.jq.limit).1=Va H.jq (It (DH rest).1 H.jq.limit).1:=by
  simp[ax.outside,Va]
 rw[ho];split
 ·rw[Rk];exact eQ (fun s:State=>s.Ff i) (Ym H i fun _=>rfl)
 exact Ym H i fun _=>rfl
end
end Go.Proofs.YtpbalelbenmmbaaGreatDoor
namespace Go.Proofs.YtpbalelbenmmbaaGreatDoor
open Go.Ab Tryz
def MU(pl:bC)(p p':Part):Prop:=p'.num=p.num/\Iu pl p'.frames/\(p'.place=0->p'.lP=false)/\(p.place≠0->p'.place≠0/\p'.frames=p.frames)
section
variable{H H':ax}{i j:Nat}
def HS.keep(h:HS H)(hj:j<H.parts.length):MU H.aS (H.p j) (H.p j):=by
 have hq:=Wf (Zv hj);rw[hq];exact⟨rfl,h.fr _ (Zt hj),h.ju _ (Zt hj),fun e=>⟨e,rfl⟩⟩
theorem HS.re(h:HS H)(e1:H'.aU=H.aU)(e2:H'.aC=H.aC)(e3:H'.aI=H.aI)(e4:H'.env=H.env)(e5:H'.bz=H.bz)(e6:H'.aS=H.aS)(e7:0<=H'.entries)(el:H'.parts.length=H.parts.length)(hp:∀j,j<H.parts.length->MU H.aS (H.p j) (H'.p j)):HS H':=by
 have hq:∀q∈H'.parts,∃j,j<H.parts.length/\H'.p j=q.1:=fun q hq=>by
  obtain⟨j,hj,rfl⟩:=ip hq;grind [Wf]
 refine⟨⟨?_,?_,?_,?_,?_,e7,?_⟩,?_,fun a b ha hb e=>?_,?_,fun q hm=>?_,fun q hm=>?_,fun a ha=>?_,?_,?_,?_,?_⟩
 ·rw[e1];exact h.inv.iN
 ·rw[e2];exact h.inv.shots
 ·rw[el];exact h.inv.lp
 ·rw[e2];exact h.inv.lc
 ·rw[e1];exact h.inv.lv
 ·rw[e3,el];exact h.inv.aI
 ·rw[e3];exact h.nd
 ·rw[el]at ha hb;exact h.R7 a b ha hb (by rw[←(hp a ha).1,←(hp b hb).1,e])
 ·rw[e6];exact h.pl
 ·obtain⟨j,hj,e⟩:=hq q hm;rw[e6,←e];exact(hp j hj).2.1
 ·obtain⟨j,hj,e⟩:=hq q hm;rw[←e];exact(hp j hj).2.2.1
 ·rw[e3]at ha;obtain⟨a1,a2⟩:=h.wh a ha;obtain⟨b1,b2⟩:=(hp a (h.inv.aI a ha)).2.2.2 a1;simp_all[mw]
 ·rw[e4,e5];exact h.Js
 ·rw[e4,e6];exact h.env
 ·rw[e1];exact h.rc
 rw[e2];exact h.lf
theorem p_set(H:ax)(i:Nat)(f:Part->Part)(hj:j<H.parts.length):(H.eC i f).p j=if i=j then f (H.p j)else H.p j:=by
 grind [ax.p,ax.eC]
theorem HS.eC(h:HS H){f:Part->Part}(hf:i<H.parts.length->MU H.aS (H.p i) (f (H.p i))):HS (H.eC i f):=by
 refine h.re rfl rfl rfl rfl rfl rfl h.inv.LL (sa ..) fun j hj=>?_
 rw[p_set H i f hj];split
 ·simp_all
 exact h.keep hj
def HS.jO(h:HS H):HS (H.jO i):=by
 refine h.re rfl rfl rfl rfl rfl rfl h.inv.LL (sa ..) fun j hj=>?_
 rw[N_];exact h.keep hj
theorem HS.Ff(h:HS H):HS (H.Ff i):=by
 refine h.re rfl rfl rfl rfl rfl rfl h.inv.LL (Zx ..) fun j hj=>?_
 have k:=h.keep hj;have e:(H.Ff i).p j=H.p j\/(H.Ff i).p j={H.p j with marked:=true}:=by
  unfold ax.p ax.Ff;grind
 rcases e with e|e
 ·grind
 rw[e];exact⟨k.1,k.2.1,k.2.2.1,k.2.2.2⟩
def HS.tick(h:HS H)(t:Int):HS {H with time:=t,entries:=H.entries+1}:=
 h.re rfl rfl rfl rfl rfl rfl (by have:=h.inv.LL;show 0<=H.entries+1;omega) rfl fun j hj=>h.keep hj
def HS.about(h:HS H){n:Int}{f:ax->Nat->HE}(hf:∀i,i<H.parts.length->HS (f H i).1):HS (cK H n f).1:=by
 unfold cK;cases e:H.vr n with
 |none=>exact h
 |some i=>
  have k:=hf i (eE e).1;dsimp only;split
  ·exact k.jO
  exact k
def HS.good_(h:HS H)(hi:i<H.parts.length):HS (gj H i).1:=by
 unfold gj;split
 ·exact h.eC (f:=fun p=>{p with place:=2}) fun hi=>by have k:=h.keep hi;exact⟨rfl,k.2.1,Z,fun e=>⟨Z,rfl⟩⟩
 exact h
def HS.bad_(h:HS H)(hi:i<H.parts.length):HS (Ei H i).1:=by
 unfold Ei;split
 ·exact h.eC (f:=fun p=>{p with place:=3}) fun hi=>by have k:=h.keep hi;exact⟨rfl,k.2.1,Z,fun e=>⟨Z,rfl⟩⟩
 exact h
def HS.mark_(h:HS H)(hi:i<H.parts.length):HS (yE H i).1:=by
 unfold yE;split
 ·exact h.eC (f:=fun p=>{p with marked:=true}) fun hi=>by have k:=h.keep hi;exact⟨rfl,k.2.1,k.2.2.1,k.2.2.2⟩
 exact h
def HS.sect_(h:HS H)(rest:ba)(hi:i<H.parts.length):HS (yQ rest H i).1:=by
 unfold yQ;dsimp only;split
 ·exact h
 split
 ·exact h
 split
 ·exact h
 have k:HS (H.eC i fun p=>{p with place:=4,depth:=(It (DH rest).1 H.jq.limit).1}):=h.eC fun hi=>by have k:=h.keep hi;exact⟨rfl,k.2.1,Z,fun e=>⟨Z,rfl⟩⟩
 dsimp only;split
 ·exact k.Ff
 exact k
def HS.end_(h:HS H):HS (n8 H).1:=by
 unfold n8;cases e:H.xE with
 |none=>exact h
 |some i=>exact(h.eC fun hi=>by have k:=h.keep hi;exact⟨rfl,k.2.1,Z,fun e=>⟨Z,rfl⟩⟩).jO
theorem HS.J7(h:HS H)(f:Frame)(e0:Int):HS (frameT H f e0).1:=by
 unfold frameT;cases e:H.xE with
 |none=>exact h
 |some i=>
  dsimp only;split
  ·exact h
  split
  ·exact h
  rename_i h1;obtain⟨hi,hg⟩:=eE e;have h0:(H.p i).place=0:=by rw[Wf (Zv hi)];simp_all
  cases hF:(H.p i).frames.find? (fun g=>decide (g.tick=f.tick))with
  |none=>
   refine(h.eC fun hi=>?_).jO;have k:=h.keep hi;refine⟨rfl,⟨fun g hg=>?_,fun a b x y ha hb e=>?_⟩,k.2.2.1,fun e=>absurd h0 e⟩
   ·rcases List.mem_append.1 hg with hg|hg
    ·exact k.2.1.1 g hg
    simp_all
   have hn:∀g∈(H.p i).frames,g.tick≠f.tick:=fun g hg=>by
    simp_all
   have hx:∀{a:Nat}{x:Frame},((H.p i).frames++[f])[a]?=some x->(H.p i).frames[a]?=some x\/a=(H.p i).frames.length/\x=f:=fun{a x} ha=>by
    grind
   rcases hx ha with a1|⟨a1,a2⟩<;>rcases hx hb with b1|⟨b1,b2⟩
   ·exact k.2.1.2 a b x y a1 b1 e
   all_goals grind
  |some g=>
   dsimp only;split
   ·exact h.jO
   exact h
theorem HS.Kl(h:HS H)(hi:i<H.parts.length):HS (fe H i).1:=by
 unfold fe;dsimp only;split
 case isFalse=>exact h
 case isTrue h0=>
  have a:(H.p i).place≠0/\mw H.aS (H.p i)=true/\H.aI.contains i=false:=by
   grind [aF,ae]
  refine⟨⟨h.inv.iN,h.inv.shots,h.inv.lp,h.inv.lc,h.inv.lv,h.inv.LL,fun m hm=>?_⟩,?_,h.R7,h.pl,h.fr,h.ju,fun m hm=>?_,h.Js,h.env,h.rc,h.lf⟩
  ·rcases List.mem_append.1 hm with hm|hm
   ·exact h.inv.aI m hm
   simp_all
  ·refine List.nodup_append.2 ⟨h.nd,by simp,fun x hx y hy e=>?_⟩;simp_all
  rcases List.mem_append.1 hm with hm|hm
  ·exact h.wh m hm
  rw[df.1 hm];exact⟨a.1,a.2.1⟩
def HS.QX(h:HS H){l:List (o6×Int)}(hl:l.length<=4)(hs:∀q∈l,0<=q.1.shots/\q.1.shots<=q.1.nM/\q.1.nM<=1000):HS {H with aC:=l}:=
 ⟨⟨h.inv.iN,fun q hq=>⟨(hs q hq).1,(hs q hq).2.1⟩,h.inv.lp,hl,h.inv.lv,h.inv.LL,h.inv.aI⟩,h.nd,h.R7,h.pl,h.fr,h.ju,h.wh,h.Js,h.env,h.rc,fun q hq=>(hs q hq).2.2⟩
def HS.cl(h:HS H):∀q∈H.aC,0<=q.1.shots/\q.1.shots<=q.1.nM/\q.1.nM<=1000:=fun q hq=>⟨(h.inv.shots q hq).1,(h.inv.shots q hq).2,h.lf q hq⟩
def UM{α:Type}{P:α->Prop}{l:List α}{f:α->α}{j:Nat}(h:∀x∈l,P x)(hf:∀hj:j<l.length,P (f l[j])):∀x∈l.modify j f,P x:=fun x hx=>by
 obtain⟨k,hk,rfl⟩:=ip hx;rw[List.getElem_modify];rw[sa]at hk;split
 ·rename_i e;subst e;exact hf hk
 exact h _ (Zt hk)
theorem HS.coil_(h:HS H)(name:ba)(nM:Int):HS (qj H name nM).1:=by
 unfold qj;dsimp only;split
 case isFalse=>exact h
 case isTrue h0=>
  have a:(1<=nM/\nM<=1000)/\(H.aC.length:Int)<4:=by
   refine⟨Bl h0 rfl,?_⟩;grind [aF,ae]
  refine h.QX (by grind) fun q hq=>?_
  rcases List.mem_append.1 hq with hq|hq
  ·exact h.cl q hq
  grind
theorem HS.My(h:HS H)(name:ba):HS (tS H name).1:=by
 unfold tS;split
 ·exact h
 split
 ·exact h
 refine h.QX (by rw[sa];exact h.inv.lc) (UM h.cl fun hj=>?_);have:=h.cl _ (Zt hj);grind
theorem HS.KX(h:HS H)(n:Int)(r c:ba):HS (fT H n r c).1:=by
 by_cases he:aF [ae (decide (n<=1000000)) 2,ae (H.vr n).isNone 5,ae ((H.Ec r).isSome&&(H.Bs c).isSome) 6,ae H.xE.isNone 17]=0
 case neg=>rw[xg rfl he];exact h
 obtain⟨_,e2,e3,_⟩:=Dz he;rw[Zw]at e3;obtain⟨k,hk⟩:=fj.1 e3.1;obtain⟨j,hj⟩:=fj.1 e3.2;have hkl:=(j5 hk).1;have hjl:=(eE hj).1;rw[DA he hk (Zv hkl) hj (Zv hjl)];split
 ·exact h
 rename_i h2;obtain⟨f1,f2⟩:=GU (Zu.1 h2);have f1:=dC f1;have f2:=dC f2;have hc:HS {H with aC:=H.aC.modify j fun q=>({q.1 with shots:=q.1.shots+1},q.2)}:=by
  refine h.QX (by rw[sa];exact h.inv.lc) (UM h.cl fun hj=>?_);have:=h.cl _ (Zt hj);grind
 have hn:=Option.isNone_iff_eq_none.1 e2;have hlast:∀a,a<H.parts.length->∀q:Part×bd,(ax.p {H with parts:=H.parts++[q]} a)=H.p a:=fun a ha q=>by
  simp_all[ax.p,ly]
 have hnew:∀q:Part×bd,ax.p {H with parts:=H.parts++[q]} H.parts.length=q.1:=fun q=>by
  simp[ax.p]
 have hno:∀a,a<H.parts.length->(H.p a).num≠n:=fun a ha e=>by
  have:=(YO _ _ 0).1 hn _ (Zt ha);grind [Wf]
 refine⟨⟨h.inv.iN,hc.inv.shots,?_,hc.inv.lc,h.inv.lv,h.inv.LL,fun m hm=>?_⟩,h.nd,fun a b ha hb e=>?_,h.pl,fun q hq=>?_,fun q hq=>?_,fun m hm=>?_,h.Js,h.env,h.rc,hc.lf⟩
 ·grind
 ·have:=h.inv.aI m hm;grind
 ·rw[Zs,pu]at ha hb;rcases mx a H.parts.length with la|la<;>rcases mx b H.parts.length with lb|lb
  ·exact h.R7 a b la lb ((eQ Part.num (hlast a la _)).symm.trans (e.trans (eQ Part.num (hlast b lb _))))
  ·have eb:b=H.parts.length:=by omega
   subst eb;exact absurd ((eQ Part.num (hlast a la _)).symm.trans (e.trans (eQ Part.num (hnew _)))) (hno a la)
  ·have ea:a=H.parts.length:=by omega
   subst ea;exact absurd ((eQ Part.num (hlast b lb _)).symm.trans (e.symm.trans (eQ Part.num (hnew _)))) (hno b lb)
  omega
 ·rcases List.mem_append.1 hq with hq|hq
  ·exact h.fr q hq
  rw[df.1 hq];exact⟨(fun _ hx=>by cases hx),fun _ _ _ _ hx=>by cases hx⟩
 ·rcases List.mem_append.1 hq with hq|hq
  ·exact h.ju q hq
  simp_all
 have k:=h.wh m hm;have e:=hlast m (h.inv.aI m hm);exact⟨fun e2=>k.1 ((eQ Part.place (e _)).symm.trans e2),(eQ (mw H.aS) (e _)).trans k.2⟩
end
end Go.Proofs.YtpbalelbenmmbaaGreatDoor
namespace Go.Proofs.YtpbalelbenmmbaaGreatDoor
open Go.Ab Tryz
theorem O2.up:∀(d:Nat){l:List Ph},O2 d l->O2 (d+1) l
 |0,l,h=>by
  have h:l=[]:=h;subst h;exact⟨Zr _,fun p hp=>by cases hp⟩
 |d+1,_,h=>⟨h.1,fun p hp=>O2.up d (h.2 p hp)⟩
theorem Qz:∀d,O2 d []
 |0=>rfl
 |_+1=>⟨Zr _,fun p hp=>by cases hp⟩
theorem KE:∀(m:Nat){l:List Ph},(cQ (bu m) l).2=0->O2 (m+2) l:=by
 have key:∀(m:Nat){l:List Ph},(cQ (bu m) l).2=0->l.length<=1000:=fun m l h=>by
  grind [NK]
 have body:∀{m:Nat}{p:Ph},bu m p=0->p.kind≠5->p.body=[]:=fun{m p} h h5=>by
  by_cases hk:0<=p.kind/\p.kind<=5
  ·have he:n6 p=0:=by
    grind [vK]
   have hc:lW p=true:=by
    unfold n6 at he;cases hc:lW p
    ·rw[hc]at he;cases he
    rfl
   simp_all[j9]
  simp_all[Ak]
 intro m
 induction m with
 |zero=>
  intro l h;refine⟨key 0 h,fun p hp=>?_⟩;by_cases h5:p.kind=5
  ·obtain⟨_,m',e,_⟩:=nu ((nr h).2 p hp) h5;omega
  grind [nr,Qz]
 |succ m ih=>
  intro l h;refine⟨key _ h,fun p hp=>?_⟩;by_cases h5:p.kind=5
  ·obtain⟨_,m',e,h2⟩:=nu ((nr h).2 p hp) h5;simp_all
  grind [nr,Qz]
def Mt{s:ba}(h:(iM s).2=0):O2 6 (iM s).1:=by
 unfold iM at h⊢;by_cases h1:2000<s.length
 ·simp_all
 rw[Zm h1]at h⊢;dsimp only at h⊢;split at h
 ·cases h
 rename_i h2;rw[Zm h2];split at h
 ·omega
 rename_i h3;rw[Zm h3];grind [O2.up,KE,GK]
section
variable{H:ax}{i j k:Nat}{n:Net}
theorem HS.Mv(h:HS H)(name rest:ba):HS (eG H name rest).1:=by
 unfold eG;dsimp only;split
 ·exact h
 by_cases h2:(iM rest).2=0
 ·rw[h2,W0];by_cases h3:(H.aU.length:Int)<6
  ·rw[Zz h3,Zg,Zm (c:=aF []≠0) (fun h=>h rfl)];refine⟨⟨h.inv.iN.snoc ?_,h.inv.shots,h.inv.lp,h.inv.lc,by grind,h.inv.LL,h.inv.aI⟩,h.nd,h.R7,h.pl,h.fr,h.ju,h.wh,h.Js,h.env,fun q hq=>?_,h.lf⟩
   ·dsimp only;cases e:H.Ec name with
    |none=>rw[filter_none (Wb e)];rfl
    |some j=>
     obtain⟨q,h4,_,h5⟩:=VE h.inv.iN e;simp_all
   rcases List.mem_append.1 hq with hq|hq
   ·exact h.rc q hq
   simp_all[Mt]
  simp_all[Zy,Yz]
 simp_all[W4]
theorem HS.Kh(h:HS H)(t:Int):HS (gS H t).1:=by
 unfold gS;split
 ·rename_i h1;have e0:lK H.aS H.nB t=G6 H.aS H.nB t:=Zn h1;have h2:kU H.aS H.nB=0/\eL t H.nB.length=0:=by
   unfold fg gv at h1;omega
  have hv:=R1 (NI h.pl h2.1) h2.2;have hp:=jc h.pl;refine⟨⟨h.inv.iN,h.inv.shots,h.inv.lp,h.inv.lc,h.inv.lv,h.inv.LL,h.inv.aI⟩,h.nd,h.R7,h.pl,h.fr,h.ju,h.wh,?_,fun _=>?_,h.rc,h.lf⟩
  all_goals grind [S9]
 exact h
def HS.IZ(h:HS H)(k:Nat)(L:vN):HS (mO k H L).1:=by
 unfold mO;split
 ·exact h
 ·exact h.KX ..
 ·exact h.J7 ..
 ·exact h.end_
 ·exact h.about fun _ hi=>h.good_ hi
 ·exact h.about fun _ hi=>h.bad_ hi
 ·exact h.coil_ ..
 ·exact h.My ..
 ·exact h.about fun _ hi=>h.mark_ hi
 ·exact h.about fun _ hi=>h.sect_ _ hi
 ·exact h.Mv ..
 ·exact h.about fun _ hi=>h.Kl hi
 exact h.Kh _
def HS.enter(h:HS H)(x:Entry):HS (bX H x).1:=by
 unfold bX;split
 ·exact h
 split
 ·split
  ·exact h
  dsimp only;split
  ·exact h.IZ ..
  exact(h.IZ ..).tick _
 exact h
def Kz{m:Int}(h:H.vr m=some i):i<H.parts.length:=(eE h).1
theorem Po(t:ba):(fH t).1.verb=(aL 32 t).1:=by
 grind [fH]
def JO(h:HS H)(hn:H.jq=n)(hp:H.aS=(bP n.aS).1)(hk:k<13){L:vN}(hL:L.verb=gR.getD k [])(h0:0<=L.num):((mO k H L).1.st,(mO k H L).2)=ZT n H.st L:=by
 unfold ZT;rw[hL,←hp]
 match k,hk with
 |0,_=>rfl
 |1,_=>rw[Zm (c:=gR.getD 1 []=gR[0]) C,Zn (c:=gR.getD 1 []=gR[1]) rfl];exact OS h.inv ..
 |2,_=>rw[Zm (c:=gR.getD 2 []=gR[0]) C,Zm (c:=gR.getD 2 []=gR[1]) C,Zn (c:=gR.getD 2 []=gR[2]) rfl];exact Nw ..
 |3,_=>rw[Zm (c:=gR.getD 3 []=gR[0]) C,Zm (c:=gR.getD 3 []=gR[1]) C,Zm (c:=gR.getD 3 []=gR[2]) C,Zn (c:=gR.getD 3 []=gR[3]) rfl];exact(JQ H).trans (by rw[h.Js];rfl)
 |4,_=>rw[Zm (c:=gR.getD 4 []=gR[0]) C,Zm (c:=gR.getD 4 []=gR[1]) C,Zm (c:=gR.getD 4 []=gR[2]) C,Zm (c:=gR.getD 4 []=gR[3]) C,Zn (c:=gR.getD 4 []=gR[4]) rfl];exact XZ fun i _=>Mb H i
 |5,_=>rw[Zm (c:=gR.getD 5 []=gR[0]) C,Zm (c:=gR.getD 5 []=gR[1]) C,Zm (c:=gR.getD 5 []=gR[2]) C,Zm (c:=gR.getD 5 []=gR[3]) C,Zm (c:=gR.getD 5 []=gR[4]) C,Zn (c:=gR.getD 5 []=gR[5]) rfl];exact XZ fun i _=>JA H i
 |6,_=>rw[Zm (c:=gR.getD 6 []=gR[0]) C,Zm (c:=gR.getD 6 []=gR[1]) C,Zm (c:=gR.getD 6 []=gR[2]) C,Zm (c:=gR.getD 6 []=gR[3]) C,Zm (c:=gR.getD 6 []=gR[4]) C,Zm (c:=gR.getD 6 []=gR[5]) C,Zn (c:=gR.getD 6 []=gR[6]) rfl];exact LG ..
 |7,_=>rw[Zm (c:=gR.getD 7 []=gR[0]) C,Zm (c:=gR.getD 7 []=gR[1]) C,Zm (c:=gR.getD 7 []=gR[2]) C,Zm (c:=gR.getD 7 []=gR[3]) C,Zm (c:=gR.getD 7 []=gR[4]) C,Zm (c:=gR.getD 7 []=gR[5]) C,Zm (c:=gR.getD 7 []=gR[6]) C,Zn (c:=gR.getD 7 []=gR[7]) rfl];exact PJ ..
 |8,_=>rw[Zm (c:=gR.getD 8 []=gR[0]) C,Zm (c:=gR.getD 8 []=gR[1]) C,Zm (c:=gR.getD 8 []=gR[2]) C,Zm (c:=gR.getD 8 []=gR[3]) C,Zm (c:=gR.getD 8 []=gR[4]) C,Zm (c:=gR.getD 8 []=gR[5]) C,Zm (c:=gR.getD 8 []=gR[6]) C,Zm (c:=gR.getD 8 []=gR[7]) C,Zn (c:=gR.getD 8 []=gR[8]) rfl];exact XZ fun i _=>Mg H i
 |9,_=>rw[Zm (c:=gR.getD 9 []=gR[0]) C,Zm (c:=gR.getD 9 []=gR[1]) C,Zm (c:=gR.getD 9 []=gR[2]) C,Zm (c:=gR.getD 9 []=gR[3]) C,Zm (c:=gR.getD 9 []=gR[4]) C,Zm (c:=gR.getD 9 []=gR[5]) C,Zm (c:=gR.getD 9 []=gR[6]) C,Zm (c:=gR.getD 9 []=gR[7]) C,Zm (c:=gR.getD 9 []=gR[8]) C,Zn (c:=gR.getD 9 []=gR[9]) rfl];exact XZ fun i _=>MF H hn L.rest i
 |10,_=>rw[Zm (c:=gR.getD 10 []=gR[0]) C,Zm (c:=gR.getD 10 []=gR[1]) C,Zm (c:=gR.getD 10 []=gR[2]) C,Zm (c:=gR.getD 10 []=gR[3]) C,Zm (c:=gR.getD 10 []=gR[4]) C,Zm (c:=gR.getD 10 []=gR[5]) C,Zm (c:=gR.getD 10 []=gR[6]) C,Zm (c:=gR.getD 10 []=gR[7]) C,Zm (c:=gR.getD 10 []=gR[8]) C,Zm (c:=gR.getD 10 []=gR[9]) C,Zn (c:=gR.getD 10 []=gR[10]) rfl];exact PB h.inv ..
 |11,_=>rw[Zm (c:=gR.getD 11 []=gR[0]) C,Zm (c:=gR.getD 11 []=gR[1]) C,Zm (c:=gR.getD 11 []=gR[2]) C,Zm (c:=gR.getD 11 []=gR[3]) C,Zm (c:=gR.getD 11 []=gR[4]) C,Zm (c:=gR.getD 11 []=gR[5]) C,Zm (c:=gR.getD 11 []=gR[6]) C,Zm (c:=gR.getD 11 []=gR[7]) C,Zm (c:=gR.getD 11 []=gR[8]) C,Zm (c:=gR.getD 11 []=gR[9]) C,Zm (c:=gR.getD 11 []=gR[10]) C,Zn (c:=gR.getD 11 []=gR[11]) rfl];exact XZ fun i hi=>NV h.inv h.R7 (Kz hi)
 |12,_=>rw[Zm (c:=gR.getD 12 []=gR[0]) C,Zm (c:=gR.getD 12 []=gR[1]) C,Zm (c:=gR.getD 12 []=gR[2]) C,Zm (c:=gR.getD 12 []=gR[3]) C,Zm (c:=gR.getD 12 []=gR[4]) C,Zm (c:=gR.getD 12 []=gR[5]) C,Zm (c:=gR.getD 12 []=gR[6]) C,Zm (c:=gR.getD 12 []=gR[7]) C,Zm (c:=gR.getD 12 []=gR[8]) C,Zm (c:=gR.getD 12 []=gR[9]) C,Zm (c:=gR.getD 12 []=gR[10]) C,Zm (c:=gR.getD 12 []=gR[11]) C];exact NJ h h0
theorem MM(h:HS H)(hn:H.jq=n)(hp:H.aS=(bP n.aS).1)(x:Entry)(he:H.entries<60):((bX H x).1.st,(bX H x).2)=UA n H.st x H.time:=by
 unfold UA bX ax.head;rw[Zz he,Zg,hn];cases e1:jl n x.vq with
 |none=>rfl
 |some i=>
  rw[Zm (c:=some i=none) Z,Option.isSome_some,Zg];by_cases e2:0<=x.at_/\x.at_<=1000000000000
  case neg=>simp_all[Zy,Yz]
  rw[Zz e2,Zg,Zm (c:=¬(0<=x.at_/\x.at_<=1000000000000)) (Zp e2)];by_cases e3:x.at_<H.time
  case pos=>simp_all[Zy,Yz]
  rw[Zz (show x.at_>=H.time by omega),Zg,Zm e3];by_cases e4:600<x.text.length
  case pos=>rw[Zy (show¬(x.text.length:Int)<=600 by omega),Yz C,Zn C,Zn e4]
  rw[Zz (show(x.text.length:Int)<=600 by omega),Zg,Zm e4];cases e5:x.text.all isPrint with
  |false=>rfl
  |true=>
   rw[Zg,Zm (c:=true=false) Z];cases e6:dS (aL 32 x.text).1 with
   |none=>rfl
   |some k=>
    rw[Option.isSome_some,Zg,Zm (c:=aF []≠0) (fun h=>h rfl),Zm (c:=some k=none) Z];dsimp only;unfold ax.tail;have hr:Sx n x=(n.av[i]?.map bf.role).getD 0:=by simp_all[Sx]
    rw[hr,hn,Option.getD_some,(Es e6).1];by_cases e7:(n.av[i]?.map bf.role).getD 0<yM.getD k 0
    case pos=>simp_all[Zy,Yz]
    rw[Zz (show(n.av[i]?.map bf.role).getD 0>=yM.getD k 0 by omega),Zg,Zm e7];cases e8:(fH x.text).2 with
    |false=>rfl
    |true=>
     rw[Zg,Zm (c:=aF []≠0) (fun h=>h rfl),Zm (c:=true=false) Z];obtain⟨hk,hv⟩:=eE e6;have hv:(aL 32 x.text).1=gR.getD k []:=by simp_all
     have ev:(fH x.text).1.verb=(aL 32 x.text).1:=Po x.text;rw[←JO h hn hp hk (ev.trans hv) (R2 e8).1];by_cases e9:(mO k H (fH x.text).1).2=0
     ·rw[Zm (Zp e9),e9];rfl
     simp_all
end
def HS.init{n:Net}{p:bC}(h:bA p=0):HS (ax.init n p):=
 ⟨⟨(fun i q hq=>by cases hq),(fun q hq=>by cases hq),Zr _,Zr _,Zr _,Int.le_refl 0,fun i hi=>by cases hi⟩,List.nodup_nil,(fun i j hi=>by cases hi),h,(fun q hq=>by cases hq),(fun q hq=>by cases hq),(fun i hi=>by cases hi),rfl,Z,(fun q hq=>by cases hq),fun q hq=>by cases hq⟩
end Go.Proofs.YtpbalelbenmmbaaGreatDoor
namespace Go.Proofs.YtpbalelbenmmbaaGreatDoor
open Go.Ab Tryz
def mo(n:Net):Bool:=decide (n.av.length<=10)&&decide (n.aS.length<=80)&&n.av.all fun p=>decide (p.name.length<=20)
def AW{n:Net}(h:mo n=true):n.aS.length<=80:=by
 simp_all[mo]
def sizeE_0{n:Net}(h:n.av.length=0):eX n=10:=by unfold eX;rw[h];rfl
theorem sizeE_8{n:Net}(h:8<n.av.length):eX n=8:=by
 unfold eX;rw[Zz (show((n.av.length:Nat):Int)>0 by omega),Zy (show¬((n.av.length:Nat):Int)<=8 by omega)];rfl
def E6{n:Net}(h0:n.av.length≠0)(h:¬8<n.av.length):eX n=0:=by
 unfold eX;rw[Zz (show((n.av.length:Nat):Int)>0 by omega),Zz (show((n.av.length:Nat):Int)<=8 by omega)];rfl
def Ba{l:List bf}{i:Nat}{p:bf}(h:bS p.name=false):br l i p=4:=by unfold br;rw[h];rfl
def Bb{l:List bf}{i:Nat}{p:bf}(h:bS p.name=true)(h2:p.name∈(l.take i).map bf.name):br l i p=5:=by unfold br;rw[h,Zy (Zp h2)];rfl
def yf{l:List bf}{i:Nat}{p:bf}(h:bS p.name=true)(h2:¬p.name∈(l.take i).map bf.name)(h3:¬(0<=p.role/\p.role<=4)):br l i p=15:=by unfold br;rw[h,Zz h2,Zy h3];rfl
def Bc{l:List bf}{i:Nat}{p:bf}(h:bS p.name=true)(h2:¬p.name∈(l.take i).map bf.name)(h3:0<=p.role/\p.role<=4):br l i p=0:=by unfold br;rw[h,Zz h2,Zz h3];rfl
def va{n:Net}{i:Nat}(hz:eX n=0)(hi:i<n.av.length)(hg:aK (br n.av) 0 n.av=aK (br n.av) i (n.av.drop i))(he:br n.av i n.av[i]≠0):iG n=((i:Int),br n.av i n.av[i]):=by
 simp_all[bE,tY]
theorem E7{l:List bf}{i j:Nat}(hi:i<=l.length)(hj:j<i):(l[j]' I).name∈(l.take i).map bf.name:=
 eI.2 ⟨l[j]' I,Hk.2 ⟨j,by rw[gn];omega,by rw[List.getElem_take]⟩,rfl⟩
def Dq{l:List bf}{i:Nat}{s:ba}(hi:i<=l.length)(h:∀j (hj:j<i),(l[j]' I).name≠s):¬s∈(l.take i).map bf.name:=by
 intro hm;obtain⟨p,hp,rfl⟩:=eI.1 hm;obtain⟨j,hj,rfl⟩:=Hk.1 hp;grind
def ri{n:Net}(hp:n.aS.length<=1000):Ct prog 11 [.agg n.cs] (.cf [bv (iG n).1,bv (iG n).2]):=by
 refine cI func11 O (ro 12 O (kc (zk Ys O) (rr 3 O (kB O (fun c11=>?_) (fun c11=>?_)))))
 ·have hT:iG n=(0,10):=by simp_all[qw,sizeE_0]
  refine ro 6 O (kS O O O O ?_);simp_all
 refine ro 7 O (kc (zk Ys O) (rr 3 O (kB O (fun c15=>?_) (fun c15=>?_))))
 ·have hT:iG n=(0,8):=by grind [qw,sizeE_8]
  refine ro 6 O (kS O O O O ?_);simp_all
 have hz:eX n=0:=E6 I I;refine ro 9 O ?_;refine OK.loop (G:=Nat) [1] (fun i=>[(1,.ptr 1 0),(1001,.box n.cs),(4,bv i)]) (fun i=>i<=n.av.length/\aK (br n.av) 0 n.av=aK (br n.av) i (n.av.drop i)) (fun i=>n.av.length - i) 0 ⟨Zr _,O⟩ ⟨O,O,O,Zo⟩ (fun _=>O) ?_;rintro i ⟨hi,hg⟩;refine ro 6 O (kc (zk Ys O) (rr 3 O (kB O (fun c20=>?_) (fun c20=>?_))))
 ·have hil:i<n.av.length:=by omega
  refine ro 10 O (kc (zI Ys O I O) ?_);refine rr 2 O (kc (zK oW call43 O) (kc (S.not .none O (zt O)) (kD (OK.cond O O (fun c30=>?_) (fun c30=>?_)))))
  ·have hno:bS n.av[i].name=false:=by grind
   have hpe:br n.av i n.av[i]=4:=Ba hno;have hT:=va hz hil hg I;rw[hpe]at hT;refine ro 7 O (kS O O O O ?_);simp_all
  have hno:bS n.av[i].name=true:=by grind
  refine ro 9 O ?_;refine OK.loop (G:=Nat) [1] (fun j=>[(1,.ptr 1 0),(1001,.box n.cs),(4,bv i),(5,bv j)]) (fun j=>j<=i/\∀k (hk:k<j),k<i->(n.av[k]?.map bf.name)≠some n.av[i].name) (fun j=>i - j) 0 ⟨Zr _,fun k hk=>by omega⟩ ⟨O,O,O,O,Zo⟩ (fun _=>O) ?_;rintro j ⟨hj,hne⟩;refine ro 8 O (kB O (fun c34=>?_) (fun c34=>?_))
  ·have hji:j<i:=by omega
   have hjl:j<n.av.length:=by omega
   refine ro 5 O (kV (.c (zf Xr O) (.c (zl SN O O O O) (.c (zm O) (.c (zI Ys O I O) (.c (S.field WW .none O (zt O) O) (.c (zV Y9 O O) (.c (zf Xr O) (.c (zl SN O O O O) (.c (zm O) (.c (zI Ys O I O) (.c (S.field WW .none O (zt O) O) (.c (zV Y9 O O) (.c (S.eN .none O (zt O) (zt O)) .nil))))))))))))) (Ab.D.code (kB O (fun c49=>?_) (fun c49=>?_))))
   ·have hpe:br n.av i n.av[i]=5:=Bb hno (by grind [E7]);have hT:=va hz hil hg I;rw[hpe]at hT;refine ro 7 O (kS O O O O ?_);simp_all
   refine Ro 8 O I (Ab.D.lp ⟨j+1,⟨by omega,fun k hk hki=>by grind⟩,I,O,O,O,O,Zo⟩)
  have hout:¬n.av[i].name∈(n.av.take i).map bf.name:=Dq hi fun k hk e=>hne k I hk (by grind)
  refine ro 7 O (kc (zI Ys O I O) ?_);refine rr 2 O (kc (zK gx call35 O) (kc (S.jP .none O (zt O)) (kD (kB O (fun c58=>?_) (fun c58=>?_)))))
  ·have hpe:br n.av i n.av[i]=15:=yf hno hout I;have hT:=va hz hil hg I;rw[hpe]at hT;refine ro 7 O (kS O O O O ?_);simp_all
  have hpe:br n.av i n.av[i]=0:=Bc hno hout I;refine Ro 8 O I (Ab.D.lp ⟨i+1,⟨by omega,by simp_all[bE]⟩,I,O,O,O,Zo⟩)
 have hee:(aK (br n.av) 0 n.av).2=0:=by rw[hg,show i=n.av.length by omega,co];rfl
 have hN:=(tZ hz hee).1;refine ro 7 O (kc (zK (sn (l:=n.aS) I) call44 O) ?_);refine rr 14 O (kB O (fun c67=>?_) (fun c67=>?_))
 ·refine ro 7 O (kS O O O O ?_);simp_all[lX,aF]
 refine ro 7 O (kc (zK gx call35 O) (kc (S.jP .none O (zt O)) (jm O (RK.bh (t:=73) O (fun g73=>?_) (fun g73=>?_)))))
 ·refine rr 22 O (kS O O O O ?_);rw[hN];unfold lX gA
  first|(rw[Zu.1 c67,Zy g73,lL];rfl)|(have e1:decide (0<=n.lo/\n.lo<=10000)=false:=(by simpa using g80);have e2:decide (0<=n.limit/\n.limit<=2000)=true:=(by simpa using g73);rw[Zu.1 c67,e2,e1,lx,lL];rfl)|simp_all[aF,ae]
 refine rr 3 O (kc (S.call (gx) call35 (zg O O) O (zc O (zC O (zD O))) O) (kc (S.jP (zg O O) O (zt O)) (rr 2 O (RK.bh (t:=80) O (fun g80=>?_) (fun g80=>?_)))))
 ·refine rr 15 O (kS O O O O ?_);rw[hN];unfold lX gA
  first|(rw[Zu.1 c67,Zy g73,lL];rfl)|(have e1:decide (0<=n.lo/\n.lo<=10000)=false:=(by grind);have e2:decide (0<=n.limit/\n.limit<=2000)=true:=(by grind);rw[Zu.1 c67,e2,e1,lx,lL];rfl)|simp_all[aF,ae]
 refine rr 3 O (kc (S.call (gx) call35 (zg O O) O (zc O (zC O (zD O))) O) (kc (S.jP (zg O O) O (zt O)) (rr 3 O (kB O (fun c86=>?_) (fun c86=>?_)))))
 ·refine ro 6 O (kS O O O O ?_);rw[hN];unfold lX gA
  first|(rw[Zu.1 c67,Zy g73,lL];rfl)|(have e1:decide (0<=n.lo/\n.lo<=10000)=false:=(by simpa using g80);have e2:decide (0<=n.limit/\n.limit<=2000)=true:=(by simpa using g73);rw[Zu.1 c67,e2,e1,lx,lL];rfl)|simp_all[aF,ae]
 refine ro 14 O (kB O (fun c93=>?_) (fun c93=>?_))
 ·refine ro 6 O (kS O O O O ?_);rw[hN];unfold lX gA
  first|(rw[Zu.1 c67,Zy g73,lL];rfl)|(have e1:decide (0<=n.lo/\n.lo<=10000)=false:=(by simpa using g80);have e2:decide (0<=n.limit/\n.limit<=2000)=true:=(by simpa using g73);rw[Zu.1 c67,e2,e1,lx,lL];rfl)|simp_all[aF,ae]
 refine ro 8 O (kS O O O O ?_);rw[hN];unfold lX gA
 first|(rw[Zu.1 c67,Zy g73,lL];rfl)|(have e1:decide (0<=n.lo/\n.lo<=10000)=false:=(by simpa using g80);have e2:decide (0<=n.limit/\n.limit<=2000)=true:=(by simpa using g73);rw[Zu.1 c67,e2,e1,lx,lL];rfl)|simp_all[aF,ae]
def Xg{n:Net}(hp:n.aS.length<=1000):Ct prog 16 [.agg n.cs] (bv (iG n).2):=by
 refine cI func16 O (ro 9 O (kc (zK (ri hp) call11 O) (rr 13 O (kR O O ?_))));rfl
