import Derived.Test.YtpbalelbenmmbaaGreatDoorRo
set_option linter.all false
set_option maxHeartbeats 4000000
namespace Go.Proofs.YtpbalelbenmmbaaGreatDoor
open Go.Ab Tryz
set_option maxRecDepth 9999
def FQ{n:Net}(h:10<n.av.length\/80<n.aS.length):mo n=false:=by
 unfold mo;grind
def Ik{n:Net}(h:n.av.length<=10)(h2:n.aS.length<=80):mo n=n.av.all fun p=>decide (p.name.length<=20):=by
 simp_all[mo]
def w8{n:Net}{i:Nat}(h:i<n.av.length):((n.av.drop i).all fun p:bf=>decide (p.name.length<=20))=(decide (n.av[i].name.length<=20)&&(n.av.drop (i+1)).all fun p:bf=>decide (p.name.length<=20)):=by
 rw[ci h,ee]
def AX{n:Net}:Ct prog 8 [.agg n.cs] (.bool (mo n)):=by
 refine cI func8 O (ro 11 O (kc (zk Ys O) (rr 2 O (RK.bh (t:=8) O (fun g8=>?_) (fun g8=>?_)))))
 ·have hT:mo n=false:=FQ (.inl I);refine rr 13 O (kR O O ?_);simp_all
 refine rr 7 O (kB O (fun c13=>?_) (fun c13=>?_))
 ·have hT:mo n=false:=FQ (.inr I);refine ro 5 O (kR O O ?_);simp_all
 have hf0:=Ik (n:=n) I I;refine ro 9 O ?_;refine OK.loop (G:=Nat) [1] (fun i=>[(1,.ptr 1 0),(1001,.box n.cs),(3,bv i)]) (fun i=>i<=n.av.length/\mo n=((n.av.drop i).all fun p:bf=>decide (p.name.length<=20))) (fun i=>n.av.length - i) 0 ⟨Zr _,hf0⟩ ⟨O,O,O,Zo⟩ (fun _=>O) ?_;rintro i ⟨hi,hg⟩;refine ro 6 O (kc (zk Ys O) (rr 3 O (kB O (fun c18=>?_) (fun c18=>?_))))
 ·have hil:i<n.av.length:=by omega
  refine ro 9 O (kc (zI Ys O I O) ?_);refine rr 6 O (kB O (fun c28=>?_) (fun c28=>?_))
  ·have hT:mo n=false:=by grind
   refine ro 5 O (kR O O ?_);simp_all
  refine Ro 8 O I (Ab.D.lp ⟨i+1,⟨by omega,by rw[hg,w8 hil,Zz (show n.av[i].name.length<=20 by omega),lx]⟩,I,O,O,O,Zo⟩)
 have hT:mo n=true:=by grind
 refine ro 7 O (kR O O ?_);simp_all
def se{n:Net}(hl:n.av.length<=100000):Ct prog 10 [.agg n.cs] (.agg n.cs):=by
 refine cI func10 O (ro 7 O ?_);refine kV (.c (zM [] Jv O O O O) (.c (zf Xr O) (.c (zl SN O O O O) (.c (S.mQ Jv .none O (zt O) O (by rfl) (zt O) (by intro q hq;obtain⟨p,_,rfl⟩:=eI.1 hq;rfl) N (by grind) (by grind [maxLen])) (.c (zf Nk O) (.c (zl Y9 O O O O) (.c (zf Q1 O) (.c (zl Z8 O O O O) (.c (zf YH O) (.c (zL MN O O O O) (.c (zU bu26 O O) (.c (zS XB O O O O O O) .nil)))))))))))) ?_;refine Ab.D.code (OK.ret (aA.r1 (.bG O O O O XB O (.k (.own O O F) (zw O))) ?_));rfl
end Go.Proofs.YtpbalelbenmmbaaGreatDoor
namespace Go.Proofs.YtpbalelbenmmbaaGreatDoor
open Go.Ab Tryz
def State.zero:State:=⟨[],[],[],[],⟨0,0,[]⟩⟩
def RJ(n:Net)(l:List Entry):State:=if(bl n l).2.2≠0 then State.zero else(bl n l).1.st
def Ko{n:Net}(h:(iG n).2=0):gA n=true:=by
 have h1:=B7 h;have hp:=(B6 h).2;unfold lX at h1;rw[hp,aF,Zm C]at h1;grind [aF,ae]
def Kq{n:Net}(h:(iG n).2=0):(0<=n.lo/\n.lo<=1000000000)/\(0<=n.hi/\n.hi<=1000000000)/\ve n.limit=true:=by
 have hr:=Ko h;unfold gA at hr;rw[Zw,Zw]at hr;have a:=dC hr.1;have b:=dC hr.2.1;have c:=dC hr.2.2;exact⟨by omega,by omega,Zz a⟩
def LK(H:ax)(k:Nat)(L:vN):(mO k H L).1.entries=H.entries/\(mO k H L).1.time=H.time:=by
 have ha:∀(n:Int)(f:ax->Nat->HE),(∀i,(f H i).1.entries=H.entries/\(f H i).1.time=H.time)->(cK H n f).1.entries=H.entries/\(cK H n f).1.time=H.time:=fun n f hf=>by
  unfold cK;split
  ·simp
  rename_i i _;split
  ·exact hf i
  grind
 unfold mO;split
 ·simp
 ·unfold fT;grind
 ·unfold frameT;repeat' split
  all_goals exact⟨rfl,rfl⟩
 ·unfold n8;split<;>exact⟨rfl,rfl⟩
 ·exact ha _ _ fun i=>by unfold gj;split<;>exact⟨rfl,rfl⟩
 ·exact ha _ _ fun i=>by unfold Ei;split<;>exact⟨rfl,rfl⟩
 ·unfold qj;grind
 ·unfold tS;grind
 ·exact ha _ _ fun i=>by unfold yE;split<;>exact⟨rfl,rfl⟩
 ·refine ha _ _ fun i=>?_
  unfold yQ;dsimp only
  repeat' split
  all_goals exact⟨rfl,rfl⟩
 ·unfold eG;grind
 ·exact ha _ _ fun i=>by unfold fe;grind
 unfold gS;grind
def S8{H:ax}{x:Entry}(h:(bX H x).2=0):(bX H x).1.entries=H.entries+1/\(bX H x).1.time=x.at_:=by
 unfold bX at h⊢;by_cases h1:H.head x=0
 ·rw[Zm (Zp h1)]at h⊢;obtain⟨i,hi⟩:=fj.1 (GZ h1).2.1;obtain⟨k,hk⟩:=fj.1 (GZ h1).2.2.2.2.2.2;rw[hi,hk]at h⊢;dsimp only at h⊢;by_cases h2:H.tail x i k=0
  ·rw[Zm (Zp h2)]at h⊢;by_cases h3:(mO k H (fH x.text).1).2=0
   ·rw[Zm (Zp h3)];exact⟨eQ (· +1) (LK ..).1,rfl⟩
   simp_all
  simp_all
 simp_all
theorem Vo{n:Net}{l:List Entry}(hn:(iG n).2=0)(h:60<l.length):bl n l=(ax.init n (bP n.aS).1,0,8):=by
 grind [ua,W0,Yz,bl]
theorem Vq{n:Net}{l:List Entry}(hn:(iG n).2=0)(h:¬60<l.length):bl n l=runT (ax.init n (bP n.aS).1) 0 l:=by
 have e:ua n l=0:=by unfold ua;rw[hn,W0,Zz I];rfl
 simp_all[bl]
def MZ{n:Net}{l:List Entry}{H:ax}{i e:Int}(h:bl n l=(H,i,e))(he:e≠0):RJ n l=State.zero:=by simp_all[RJ]
def Jz{n:Net}{l:List Entry}{H:ax}{i:Int}(h:bl n l=(H,i,0)):RJ n l=H.st:=by simp_all[RJ]
def Sc{n:Net}{H:ax}{x:Entry}(hp:n.aS.length<=1000)(hn:(iG n).2=0)(hs:HS H)(hh:H.jq=n)(hq:H.aS=(bP n.aS).1)(he:H.entries<60)(hx:x.text.length<=100000):Ct prog 48 [.agg n.cs,.agg H.st.cs,.agg x.cs,bv H.time] (.cf [.agg (bX H x).1.st.cs,bv (bX H x).2]):=by
 have k:=Ry (n:=n) hp (Kq hn) (hq▸hs.good) (hq▸hs.mods) (x:=x) (last:=H.time) hx;grind [MM]
def Xh{n:Net}{l:List Entry}(hp:n.aS.length<=1000)(hn:(iG n).2=0)(hl:∀x∈l,x.text.length<=100000):Ct prog 17 [.agg n.cs,.sl (l.map Entry.cs)] (.cf [.agg (RJ n l).cs,bv (bl n l).2.1,bv (bl n l).2.2]):=by
 refine cI func17 O (OK.eW (rows:=l.map Entry.cs) (t:=1) O O fun hlen=>?_);rw[Zx]at hlen;unfold maxLen at hlen;refine ro 17 O (kc (zk Y8 O) (rr 3 O (kB O (fun c14=>?_) (fun c14=>?_))))
 ·have hT:=Vo hn (show 60<l.length by omega);have hB:=MZ hT C;refine ro 8 O (OK.ret (aA.r3 (.bG O O O O Z_ O (.k .bO (.k .bO (.k .bO (.k .bO (.k (.same O) (.k (.same O) (.k .bO .z)))))))) (zo O O) (zo O O) ?_));rw[hT,hB];try rfl
 refine ro 14 O (OK.Yf 7 0 O O O O (OK.Yf 7 1 O O O O (OK.Yf 7 2 O O O O (OK.Yf 7 3 O O O O (OK.Yf 7 6 O O O O ?_)))));refine OK.mP [2,4,7] (fun(i:Nat)(H:ax)=>[(1,.sl (l.map Entry.cs)),(2,.ptr 2 0),(1002,.box n.cs),(4,.ptr 4 0),(1004,.box [.bO,.bO,.bO,.bO,bv 0,bv 0,.bO]),(7,.ptr 7 0),(1007,.box H.st.cs),(8,bv H.time),(9,bv i)]) (fun i H=>i<=l.length/\bl n l=runT H i (l.drop i)/\HS H/\H.jq=n/\H.aS=(bP n.aS).1/\H.entries=i) (fun i H=>l.length - i) (0) ((ax.init n (bP n.aS).1)) ⟨Zr _,Vq hn I,HS.init (vP (B6 hn).2),O,O,O⟩ ⟨O,O,O,O,O,O,O,O,O,Zo⟩ (fun _ _=>O) ?_;rintro i H ⟨hi,hg,hs,hh,hq,hen⟩;refine ro 5 O (kc (zk Y8 O) (rr 3 O (kB O (fun c19=>?_) (fun c19=>?_))))
 ·have hil:i<l.length:=by omega
  refine ro 5 O ?_;refine kV (.c (zL XB O O O O) (.c (zL Z_ O O O O) (.c (zm O) (.c (zm O) (.c (zI Y8 O hil O) (.c (S.fG TT .none O (zt O) O O) (.c (zm O) (.c (zK (Sc hp hn hs hh hq I (hl _ (Zt hil))) call48 O) (.c (zm O) (.c (zX O O O) (.c (zX O O O) (.c (zA (c:=10) KZ O) (.c (zS Z_ O O O O O O) (.c (za O) .nil)))))))))))))) ?_;refine rd 8 O (kB O (fun c34=>?_) (fun c34=>?_))
  ·have hT:=hg.trans (Ca hil c34);have hB:=MZ hT c34;refine kr (kc (zU bu52 O O) (rr 7 O (OK.ret (aA.r3 (.bG O O O O Z_ O (.k .bO (.k .bO (.k .bO (.k .bO (.k (.same O) (.k (.same O) (.k .bO .z)))))))) (zo O O) (zo O O) ?_))));rw[hT,hB];try rfl
  have he0:=Zu.1 c34;refine OK.skip (Ab.D.code (kV (.c (zL Z_ O O O O) (.c (zm O) (.c (zm O) (.c (zI Y8 O hil O) (.c (S.field Wv .none O (zt O) O) (.c (zV Z8 O O) (.c (zS Z_ O O O O O O) (.c (za O) .nil)))))))) (Rd 7 O I ?_)));refine Ab.D.lp ⟨i+1,(bX H l[i]).1,⟨by omega,by grind [Eu],hs.enter _,by simp_all[oK],by simp_all[oK],by simp_all[S8]⟩,I,O,O,O,O,O,O,O,(yL (S8 he0).2.symm),O,Zo⟩
 have hT:bl n l=(H,0,0):=by rw[hg,show i=l.length by omega,co];rfl
 have hB:=Jz hT;refine ro 10 O (OK.ret (aA.r3 (zy O O Z_ O) (zo O O) (zo O O) ?_));rw[hT,hB];try rfl
end Go.Proofs.YtpbalelbenmmbaaGreatDoor
namespace Go.Proofs.YtpbalelbenmmbaaGreatDoor
open Go.Ab Tryz
def AP(H:ax)(name:ba):Int:=match(H.Ec name).bind (H.aU[·]?)with|some q=>q.1.iN+1|none=>1
def wS(H:ax)(rest:ba):Int:=aF [(iM rest).2,ae (decide ((H.aU.length:Int)<6)) 16]
def AQ{H:ax}{name rest:ba}(h:bS name=false):eG H name rest=(H,4):=Zn h
def AR{H:ax}{name rest:ba}(h:bS name=true)(he:wS H rest≠0):eG H name rest=(H,wS H rest):=by
 unfold eG;rw[Zm (by grind)];exact Zn he
def AU{H:ax}{name rest:ba}(h:bS name=true)(he:wS H rest=0):eG H name rest=({H with aU:=H.aU++[(⟨name,AP H name,(iM rest).1⟩,H.entries)]},0):=by
 unfold eG;rw[Zm (by grind)];exact Zm (Zp he)
def AV{l:ba}(h:l.all isPrint=true):jr l:=fun b hb=>by
 have h1:=dj.1 h b hb;have h2:=dC (show decide (32<=(b.toNat:Int)/\(b.toNat:Int)<=126)=true from h1);omega
def sd{A:HA}{m:Int}(hok:A.Ok m)(hm:m+2<=1000){name rest:ba}(hrl:rest.length<=600)(hra:jr rest):dU prog 121 [] [.raw (pV A.b),.agg (Words.mk [] [name,rest]).cs] [(3000,.res (aa A.mem))] [(3000,.res (JX A.b (eG A.plain name rest).1 (m+2)))] (bv (eG A.plain name rest).2):=by
 refine cH func121 O fun hT=>?_
 have hen:=hok.en;have hlv:=hok.lv;have hm0:=hok.m0;have hp2:=HA.nV A name;have hpl:(A.plain.aU.length:Int)=A.aU.length:=by show((A.aU.map _).length:Int)=_;rw[Zx]
 refine ro 10 O ?_;refine kc (S.aP (n:=0) Z9 .none O (zt O) (.af O) O (by exact pp _) O) ?_;refine rr 8 O (kc (zK jA call65 O) (kc (S.not .none O (zt O)) (kD (OK.cond O O (fun c17=>?_) (fun c17=>?_)))))
 ·have hno:bS name=false:=by simpa using c17
  have hT:=AQ (H:=A.plain) (rest:=rest) hno;refine ro 5 O ?_;refine OK.bU (J':=JX A.b (eG A.plain name rest).1 (m+2)) O (JX.az _ _ _) (fun h Y w hj=>HA.jx hok I hm (by rw[hT]) hj) ?_;refine OK.ret ⟨aA.r1 (zo O O) ?_,O,Zo⟩;rw[hT]
 have hno:bS name=true:=by simpa using c17
 refine ro 6 O ?_;refine kc (S.aP (n:=1) Z9 .none O (zt O) (.af O) O (by exact Nat.one_lt_two) O) (kc (zV Y9 O O) (kc (S.dB (rcp_ParseRecipe (s:=rest) I hra) hT call188 .none O (zc O .nil) O) ?_));refine rr 14 O (kc (zH (u:=.sl (A.aU.map jU)) SJ O (aa.dQ (k:=.bn) O O (.sl hok.vs))) (kc (zk OM O) (kc (S.lss .none O (zt O) (.af O)) (kc (zK ak call58 O) ?_))));refine RK.c (zM [[_],[_]] ZX O O O O) (kc (S.callL (bF (l:=[_,_])) call57 .none O (zc O .nil) (.cons (.p (.own O O) O) .nil) O) ?_);refine rr 9 O (kB O (fun c37=>?_) (fun c37=>?_))
 ·have hEe:wS A.plain rest≠0:=by unfold wS;rw[hpl];exact c37
  have hT:=AR hno hEe;refine ro 6 O ?_;refine OK.bU (J':=JX A.b (eG A.plain name rest).1 (m+2)) O (JX.az _ _ _) (fun h Y w hj=>HA.jx hok I hm (by rw[hT]) hj) ?_;refine OK.ret ⟨aA.r1 (zo O O) ?_,O,Zo⟩;rw[hT];refine cy ?_;unfold wS;rw[hpl]
 have hEe:wS A.plain rest=0:=by unfold wS;rw[hpl];exact Zu.1 c37
 have hT:=AU hno hEe;refine ro 7 O ?_;refine OK.join (G:=Int) [] (fun nv=>[(0,.raw (pV A.b)),(5,.str name),(6,.sl ((iM rest).1.map Ph.cs)),(8,bv nv),(3000,.res (aa A.mem))]) (fun nv=>nv=AP A.plain name/\0<=nv/\nv<=m+1) (fun _=>O) ?_ ?_
 ·refine ro 4 O (kc (S.fI ((fun J hS hJ=>(l9 hok (n:=name) hS hJ).jR hS)) call101 .none O (zc O (zc O .nil)) O O) ?_);refine rr 6 O (kc (S.ET underlying126 .none O (zt O)) (kD (OK.cond O O (fun c43=>?_) (fun c43=>?_))))
  ·obtain⟨k,hk⟩:∃k,dG (fun v=>decide (v.r.name=name)) A.aU=some k:=fj.1 ((uR _ _).symm.trans c43);obtain⟨hk1,_⟩:=j5 hk;obtain⟨vv,hvv⟩:=at_of_lt hk1;have hvb:=hok.vb vv (ce hvv);rw[gd hk (HA.IB hvv)];have hvn:AP A.plain name=vv.r.iN+1:=by unfold AP;rw[hp2,hk];simp only[xi,HA.oe hvv]
   refine ro 6 O ?_;refine kc (zH Z8 O (aa.dQ (k:=.v k) (HA.Cz hvv) O (.same _))) ?_;refine Rr 3 O I (Ab.D.lp ⟨(vv.r.iN+1),⟨hvn.symm,by omega,by omega⟩,O,O,O,O,O,Zo⟩)
  have hN:dG (fun v=>decide (v.r.name=name)) A.aU=none:=by
   cases h:dG (fun v=>decide (v.r.name=name)) A.aU with
   |none=>rfl
   |some k=>rw[h]at c43;exact absurd c43 F
  have hvn:AP A.plain name=1:=by unfold AP;rw[hp2,hN];rfl
  refine OK.skip (Ab.D.lp ⟨1,⟨hvn.symm,by omega,by omega⟩,O,O,O,O,O,Zo⟩)
 rintro nv ⟨hnv,hn0,hn1⟩;refine ro 4 O (kc (zU JB O O) (rr 5 O ?_));refine OK.drawY follows (ι:=(Nat×Nat×Nat)) (0,0,0) 15 O (S.FM (s:=[(58,.raw (A.vh.v A.aU.length)),(68,.own 68 1),(2068,.cM 1 [] [.di 67 1 0] []),(2067,.cM 4 [] [.str name,bv nv,.sl ((iM rest).1.map Ph.cs),bv A.entries] []),(3000,.res (aa A.mem))]) (cells':=[.str name,bv nv,.sl ((iM rest).1.map Ph.cs),bv A.entries]) .vs (.v A.aU.length) K1 O (zt O) hok.vs Z (zt O) O O O O O O (by simp only[Zx];omega) (by simp only[Zx,maxLen];omega)).st (fun q=>(.cs (zm O) (.cs (zm O) (.cs (zn O O) (.cs (zr Tb O) (.cs (zH SJ O (aa.dQ (k:=.bn) O O (.same _))) (.cs (zL V7 O O O O) (.cs (zm O) (.cs (zU M3 O O) (.cs (zm O) (.cs (zn O O) (.cs (zr Zd O) (.cs (zH Z8 O (aa.dQ (k:=.bn) O O (.same _))) (.cs (zU bu135 O O) (.cs (S.Ex (k:=67) O .none O (zt O) O) (.cs (S.q9 (k:=68) K1 .none O (zt O) O)
  (.x ⟨O,O,O,O,O,Zo⟩ (.cn (zn O O) (.cn (zr Tb O) (.cn (S.dc (xs:=A.cs) (xs':=(A.tN ⟨q.1,⟨name,nv,(iM rest).1⟩,A.entries⟩ q.2).cs) (.bn) SJ .none (zt O) (zt O) O ((HM.ai _ _ Z).trans ((HM.ai _ _ Z).trans A.ID)) O O O O (EU A ⟨q.1,⟨name,nv,(iM rest).1⟩,A.entries⟩ q.2)) .nil)))))))))))))))))))) (fun q=>?_)
 refine Ab.D.code (kO (OK.tN ⟨name,nv,(iM rest).1⟩ hok I O ⟨hn0,hn1⟩ (rf hno) fun A1 hok1 hb1 hpl1=>?_));refine ro 4 O ?_;refine OK.bU (J':=JX A.b (eG A.plain name rest).1 (m+2)) O (JX.az _ _ _) (fun h Y w hj=>jM hok1 I hm hb1 (by rw[hT,hpl1,hnv];rfl) hj) ?_;refine OK.ret ⟨aA.r1 (zo O O) ?_,O,Zo⟩;rw[hT]
def GC:lG 10:=fun hok hm _ _ _ hl=>sd hok hm hl.1 (AV hl.2.2.2)
end Go.Proofs.YtpbalelbenmmbaaGreatDoor
namespace Go.Proofs.YtpbalelbenmmbaaGreatDoor
open Go.Ab Tryz
def C9{n:Net}(h:mo n=true):n.av.length<=10/\n.aS.length<=80:=by
 simp_all[mo]
end Go.Proofs.YtpbalelbenmmbaaGreatDoor
namespace Go.Proofs.YtpbalelbenmmbaaGreatDoor
open Go.Ab Tryz
def rY:ba->Int->Int
 |[],a=>a
 |b::l,a=>rY l ((a * 229+(b.toNat:Int)+1) % 999961)
def Av{l:ba}{i:Nat}(h:i<l.length)(a:Int):rY (l.drop i) a=rY (l.drop (i+1)) ((a * 229+(l[i].toNat:Int)+1) % 999961):=by rw[ci h,rY]
def joinT(l:bd):ba:=if l.length=0 then [45]else Lib.join (l.map Lib.itoa) [32]
def qH(name:ba)(ok:Bool):Int:=aF [ae (bS name) 4,ae ok 6]
def kj(name:ba)(n:Int)(ok:Bool):ba×Int:=if qH name ok≠0 then([],qH name ok)else(joinT [n],0)
def ax.numbers(H:ax)(g:Part->Bool):bd:=(H.parts.filter fun q=>g q.1).map fun q=>q.1.num
def HA.cB(A:HA)(g:Part->Bool):A.plain.numbers g=oc g A.parts:=by
 show((A.parts.map fun v=>(v.p,v.es)).filter fun q=>g q.1).map (fun q=>q.1.num)=_;rw[List.filter_map,rn];rfl
def EH(p:Part):ba:=Lib.join [p.oF,joinT [p.iN],p.coil,joinT [p.place,p.verdict]] [32]
def ax.shots(H:ax)(name:ba):Int×Bool:=match(H.Bs name).bind (H.aC[·]?)with|some q=>(q.1.shots,true)|none=>(0,false)
def ax.ko(H:ax)(name:ba):Int×Bool:=match(H.Ec name).bind (H.aU[·]?)with|some q=>(q.1.iN,true)|none=>(0,false)
def answerT(H:ax)(q:ba):ba×Int:=
 if q=[99,111,117,110,116]then(joinT [H.entries],0)
 else if q=[105,110,115,105,100,101]then(joinT (H.numbers gE),0)
 else if(aL 32 q).2.2=false then([],7)
 else if(aL 32 q).1=[112,97,114,116]then
  if numOk (aL 32 q).2.1 7=false then([],7)
  else if sU (bp (aL 32 q).2.1) (H.vr (bp (aL 32 q).2.1)).isSome≠0 then([],sU (bp (aL 32 q).2.1) (H.vr (bp (aL 32 q).2.1)).isSome)
  else(EH (H.p ((H.vr (bp (aL 32 q).2.1)).getD 0)),0)
 else if(aL 32 q).1=[115,104,111,116,115]then kj (aL 32 q).2.1 (H.shots (aL 32 q).2.1).1 (H.shots (aL 32 q).2.1).2
 else if(aL 32 q).1=[118,101,114,115,105,111,110]then kj (aL 32 q).2.1 (H.ko (aL 32 q).2.1).1 (H.ko (aL 32 q).2.1).2
 else([],7)
def Cw(n:Net)(l:List Entry)(q:ba):ba×Int:=if(bl n l).2.2≠0 then([],(bl n l).2.2)else answerT (bl n l).1 q
structure iv where
 started:Int
 under:Int
 inside:Int
 good:Int
 bad:Int
 cut:Int
 deriving DecidableEq
def iv.cs(c:iv):bi:=[bv c.started,bv c.under,bv c.inside,bv c.good,bv c.bad,bv c.cut]
def iv.zero:iv:=⟨0,0,0,0,0,0⟩
def placesOf(l:List Part)(k:Int):Int:=((l.filter fun p=>decide (p.place=k)).length:Int)
def ax.counts(H:ax):iv:=⟨(H.parts.length:Int),placesOf (H.parts.map (·.1)) 0,placesOf (H.parts.map (·.1)) 1,placesOf (H.parts.map (·.1)) 2,placesOf (H.parts.map (·.1)) 3,placesOf (H.parts.map (·.1)) 4⟩
def mZ(n:Net)(l:List Entry):iv×Int:=if(bl n l).2.2≠0 then(iv.zero,(bl n l).2.2)else((bl n l).1.counts,0)
def oO(n:Net)(l:List Entry)(num:Int):bd×Int:=if fV n l num≠0 then([],fV n l num)else
 ((((bl n l).1.parts[((bl n l).1.vr num).getD 0]?.map (·.2)).getD []).mergeSort fun x y=>decide (x<=y),0)
def yX{n:Int}{o:Bool}(h:sU n o=0):o=true:=by
 unfold sU at h;cases o
 ·exfalso;by_cases hn:0<=n/\n<=1000000
  ·rw[Zz hn]at h;exact absurd h C
  rw[Zy hn]at h;exact absurd h C
 rfl
theorem eZ{l:List aB}{i:Nat}(h:i<l.length)(k:Int):placesOf ((l.take (i+1)).map aB.p) k=if l[i].p.place=k then placesOf ((l.take i).map aB.p) k+1 else placesOf ((l.take i).map aB.p) k:=by
 grind [placesOf,List.take_succ_eq_append_getElem]
def wj(l:List Part)(k:Int):0<=placesOf l k/\placesOf l k<=l.length:=by
 simp[placesOf,vd]
def b8(A:HA)(i:Nat):iv:=⟨(A.parts.length:Int),placesOf ((A.parts.take i).map aB.p) 0,placesOf ((A.parts.take i).map aB.p) 1,placesOf ((A.parts.take i).map aB.p) 2,placesOf ((A.parts.take i).map aB.p) 3,placesOf ((A.parts.take i).map aB.p) 4⟩
def uw(A:HA):b8 A A.parts.length=A.plain.counts:=by
 unfold b8 ax.counts;have h1:A.plain.parts.map (·.1)=A.parts.map aB.p:=by show(A.parts.map fun v=>(v.p,v.es)).map (·.1)=_;simp
 grind [Zx]
def s8{xs ys:bi}(h:xs=ys):some (X.box xs)=some (X.box ys):=by rw[h]
def od{sep:ba}{B:Nat}:∀{l:List ba},(∀w∈l,w.length<=B)->(Lib.join l sep).length<=l.length * (B+sep.length):=by
 intro l
 induction l with
 |nil=>simp[Lib.join]
 |cons x r ih=>
  intro h;have hx:=h x dp;have hr:=ih fun w hw=>h w (dg _ hw)
  cases r with
  |nil=>grind [Lib.join,List.intercalate,List.intersperse]
  |cons y r=>
   grind [HH,Nat.succ_mul]
def s9{l:bd}(h:∀n∈l,IntKind.i64.wrap n=n):(joinT l).length<=1+l.length * 22:=by
 unfold joinT;split
 ·simp
 have:=od (sep:=[32]) (B:=21) (l:=l.map Lib.itoa) fun w hw=>by obtain⟨n,hn,rfl⟩:=eI.1 hw;exact qI (h n hn)
 grind
def Gi{E:Env}{f:Nat}(hf:tP E.P f){J:bm}:FC E f [.raw (.slice none 0 0)] (.cf []) J J:=by
 intro h Y w vs _ hw hY hj hargs;obtain⟨v,vs',rfl,hv,hvs⟩:=hargs.bD;have hnil:=ah.bJ hvs;subst hnil;have hv':v=.slice none 0 0:=hv;subst hv';refine(hf.none none 0 w).mono ?_;rintro en w' ⟨rfl,rfl⟩;exact⟨_,h,Y,rfl,⟨da.refl _ _ _,Mem.le_refl _,fun p v e=>.inl e,hw,hY,fun _ hy _=>hy⟩,hj,⟨[],rfl,Zo⟩⟩
def Cx{A:HA}{h:Mem}{Y:Nat->Prop}{w:World}(hj:aa A.mem h Y w){i:Nat}{v:aB}(hv:A.parts[i]?=some v):IntKind.i64.wrap v.p.iN=v.p.iN/\IntKind.i64.wrap v.p.place=v.p.place/\IntKind.i64.wrap v.p.verdict=v.p.verdict:=by
 obtain⟨_,_,T,vs,_,h2⟩:=hj.1 (.p i) v.b _ (HA.dm hv);have g:∀(k:Nat)(n:Int),v.cs[k]?=some (bv n)->IntKind.i64.wrap n=n:=fun k n hk=>by
  obtain⟨u,_,hu⟩:=h2.eD hk;exact(cJ (ay.ef (c:=aD h) hu)).2
 exact⟨g 2 _ rfl,g 5 _ rfl,g 7 _ rfl⟩
def wk{p:Part}(h:p.oF.length<=12/\p.coil.length<=12)(hr:IntKind.i64.wrap p.iN=p.iN/\IntKind.i64.wrap p.place=p.place/\IntKind.i64.wrap p.verdict=p.verdict):(Lib.join [p.oF,joinT [p.iN],p.coil,joinT [p.place,p.verdict]] [32]).length<=140737488355328:=by
 have h1:=s9 (l:=[p.iN]) (by simp_all);have h2:=s9 (l:=[p.place,p.verdict]) (by simp_all);have h3:=od (sep:=[32]) (B:=100) (l:=[p.oF,joinT [p.iN],p.coil,joinT [p.place,p.verdict]]) (by
  grind)
 grind
def wm{n:Net}{l:List Entry}{num:Int}(h:fV n l num=0):(bl n l).2.2=0:=by
 unfold fV at h;omega
def Cy{n:Net}{l:List Entry}{num:Int}(h:fV n l num=0):∃i,(bl n l).1.vr num=some i:=by
 have h0:=wm h;unfold fV at h;rw[Zm I]at h;exact fj.1 (yX h)
def EI{M:HM Key}{k:Key}{b cap n:Nat}{l:bd}(hM:M k=some (b,.row 1 cap (l.map fun n=>[X.int .i64 n])))(hn:l.length=n):Gj M (.raw (.slice (some ⟨b,0,none⟩) n cap)) (ints l):=by
 subst hn;have ha:∀l:bd,ah (ah (Fz M)) (l.map fun n=>[X.int .i64 n]) (l.map fun n=>[X.int .i64 n]):=by
  intro l
  induction l with
  |nil=>trivial
  |cons x l ih=>exact⟨⟨.same _ rfl,Zo⟩,ih⟩
 have h:=Fz.ofRow (M:=M) (k:=k) (hd:=.slice (some ⟨b,0,none⟩) (l.map fun n=>[X.int .i64 n]).length cap) (sz:=1) (.inr ⟨b,cap,rfl,hM⟩) (ha l) (fun r hr=>by grind);rw[Zx]at h;exact h
def EJ{l:ba}{a0:Int}(ha:0<=a0/\a0<=999960):Ct prog 56 [.str l,bv a0] (bv (rY l a0)):=by
 refine cI func56 O (OK.ux (t:=0) (z:=l) O O fun hlen=>?_);unfold maxLen at hlen;refine ro 14 O ?_;refine OK.mP [] (fun(i:Nat)(a:Int)=>[(0,.str l),(1,bv a),(7,bv l.length),(8,bv i)]) (fun i a=>i<=l.length/\(0<=a/\a<=999960)/\rY l a0=rY (l.drop i) a) (fun i a=>l.length - i) (0) (a0) ⟨Zr _,ha,O⟩ ⟨O,O,O,O,Zo⟩ (fun _ _=>O) ?_;rintro i a ⟨hi,hab,hg⟩;refine ro 6 O (kB O (fun c9=>?_) (fun c9=>?_))
 ·have hil:i<l.length:=by omega
  have hub:=GE l[i];refine ro 12 O ?_;refine kc (S.mul .none O (zt O) (.af O) (ca _ I) (ca _ I)) (jm O (jm O (kc (S.fJ (n:=i) fR .none O (zt O) (zt O) O I) (kc (S.conv .none O (zt O) underlying5 underlying3 (ca _ I) (ca _ I)) ?_))));refine Rr 2 O I ?_;refine kc (S.rem (q:=((a * 229+(l[i].toNat:Int)+1) % 999961)) .none O (zt O) (.af O) C (Int.tmod_eq_emod_of_nonneg I) (ca _ I)) ?_;refine Rr 8 O I (Ab.D.lp ⟨i+1,((a * 229+(l[i].toNat:Int)+1) % 999961),⟨by omega,by omega,by rw[hg,Av hil]⟩,I,O,O,O,O,Zo⟩)
 refine ro 8 O (kR O O ?_);grind [rY]
theorem Aw{l:ba}{a:Int}:Ct prog 31 [.str l,bv a] (.cf [bv (if 0<=a/\a<=999960 then rY l a else 0),bv (if 0<=a/\a<=999960 then 0 else 2)]):=by
 refine cI func31 O (ro 10 O (kc (zK cv call55 O) (kc (S.jP .none O (zt O)) (kD (kB O (fun c8=>?_) (fun c8=>?_))))))
 ·have ha:¬(0<=a/\a<=999960):=by omega
  refine ro 6 O (kS O O O O ?_);grind
 have ha:0<=a/\a<=999960:=by omega
 refine ro 6 O (kc (zK (EJ I) call56 O) ?_);refine rr 4 O (kS O O O O ?_);simp_all
def gT{l:bd}(hl:l.length<=1000):gz prog 93 [ints l] (.str (joinT l)):=by
 refine cT func93 O fun hT=>?_
 refine ro 9 O (kc (zk Z4 O) (rr 3 O (kB O (fun c8=>?_) (fun c8=>?_))))
 ·have h0:l.length=0:=by omega
  refine ro 5 O (kR O O ?_);unfold joinT;grind
 have h0:¬l.length=0:=by omega
 refine ro 4 O (RK.c (S.iI (k:=3) (sz:=1) .none O) (rr 6 O (kc (zk Z4 O) (rr 4 O ?_))));refine OK.loop (G:=Nat) [3] (fun i=>[(3,.own 3 i),(2003,.arr 1 (((l.take i).map Lib.itoa).map fun s=>[.str s])),(9,ints l),(10,bv l.length),(11,bv i)]) (fun i=>i<=l.length/\∀n∈l.take i,IntKind.i64.wrap n=n) (fun i=>l.length - i) 0 ⟨Zr _,fun n h=>by simp at h⟩ ⟨(cw I),(bH (by rfl)),O,O,O,Zo⟩ (fun _=>O) ?_;rintro i ⟨hi,hw⟩;refine ro 6 O (kB O (fun c12=>?_) (fun c12=>?_))
 ·have hil:i<l.length:=by omega
  refine ro 6 O (kc (zI Z4 O I O) ?_);refine rr 4 O (OK.IV (t:=5) O O fun hnw=>?_);have hw2:∀n∈l.take (i+1),IntKind.i64.wrap n=n:=fun n hn=>by
   rw[dT hil,List.mem_append,df]at hn;grind
  refine ro 3 O (kc (S.dB (pS hnw) hT call142 .none O (zc O .nil) O) ?_);refine RK.c (zM [[_]] ZF O O O O) ?_;refine kc (zP ZF O O (by simp;omega) (by rfl) I (by grind [maxLen])) ?_;refine Rr 8 O I ?_;refine Ab.D.lp ⟨i+1,⟨by omega,hw2⟩,I,(cw I),(bH (by grind [List.take_succ_eq_append_getElem])),O,O,O,Zo⟩
 refine ro 3 O ?_;have hie:i=l.length:=by omega
 rw[hie,fp];rw[hie,fp]at hw;have hjl:=od (sep:=[32]) (B:=21) (l:=l.map Lib.itoa) fun w hw2=>by obtain⟨n,hn,rfl⟩:=eI.1 hw2;grind [qI]
 rw[Zx]at hjl;simp only[ge,BE]at hjl;refine OK.bN (jm O (kc (S.callL (FD.ct (l:=l.map Lib.itoa) (sep:=[32]) (by grind) I) call96 .none O (zc O (.cons (.bj (l:=[32]) O C) .nil)) (.cons (.p (.own O F) O) (.cons (.same O) .nil)) O) ?_));refine rr 3 O (kR O O ?_);simp_all[joinT]
def tc{name:ba}{J:bm}(hS:aZ J){f:Nat}{caps:bi}(hcall:∀args w,(callFunc f args).run prog w=.ok (.enter f args) w)(hc1:caps.all (mE [])=true)(hc2:caps.all (fun u=>!bR u)=true){v:Int}{ok:Bool}(hf:dF prog f [] (.str name::caps) [(3000,.res J)] [(3000,.res J)] (.cf [.int .i64 v,.bool ok])):dU prog 97 [] [.str name,.fn f caps] [(3000,.res J)] [(3000,.res J)] (.cf [.str (kj name v ok).1,.int .i64 (kj name v ok).2]):=by
 refine cH func97 O fun hT=>?_
 refine ro 10 O (RK.c (S.uy ((hf.jR hS)) hS hcall .none O (zt O) (zc O .nil) O O hc1 hc2) ?_);refine rr 11 O (kc (zK jA call65 O) (kc (zK ak call58 O) (jm O (kc (zK ak call58 O) ?_))));refine RK.c (zM [[_],[_]] ZX O O O O) (kc (S.callL (bF (l:=[_,_])) call57 .none O (zc O .nil) (.cons (.p (.own O O) O) .nil) O) ?_);refine rr 9 O (kB O (fun c23=>?_) (fun c23=>?_))
 ·have hN:kj name v ok=([],qH name ok):=by simp_all[kj,qH]
  refine ro 7 O (OK.ret ⟨aA.r2 (zo O O) (zo O O) ?_,O,Zo⟩);rw[hN];rfl
 have hN:kj name v ok=(joinT [v],0):=by simp_all[kj,qH]
 refine ro 5 O ?_;refine RK.c (zM [[_]] ZY O O O O) (kc (S.uz (gT (l:=[v]) F) hT call93 .none O (zc O .nil) (.cons (.p (.own O O) O) .nil) O) ?_);refine rr 4 O (OK.ret ⟨aA.r2 (zo O O) (zo O O) ?_,O,Zo⟩);rw[hN]
def wo{A:HA}{m:Int}(hok:A.Ok m){name:ba}{J:bm}(hS:aZ J)(hJ:∀h Y w,J h Y w->aa A.mem h Y w):dF prog 98 [] [.str name,.b5 [.raw (pV A.b)]] [(3000,.res J)] [(3000,.res J)] (.cf [.int .i64 (A.plain.shots name).1,.bool (A.plain.shots name).2]):=by
 refine cG func98 O fun{_ _}=>?_
 have hp3:=HA.nU A name;refine kr (ji O O (jb O (kq (kc (zV Yd O O) (jm O (RK.c (S.ik (((qJ hok hS hJ).jR hS)) hS call99 .none O (zc O (zc O .nil)) O O) (ja O (kD (kO (kr ?_))))))))));refine jm O (kc (S.uA underlying196 .none O (zt O)) (kD (OK.cond O O (fun c10=>?_) (fun c10=>?_))))
 ·have hN:=ku c10;have hr:A.plain.shots name=(0,false):=by simp_all[ax.shots]
  refine kr (ji O O (jb O (kD (OK.ret ⟨aA.r2 (zo O O) (zo O O) ?_,O,Zo⟩))));rw[hr]
 obtain⟨j,hj⟩:=je c10;obtain⟨cc,hcc⟩:=at_of_lt (eE hj).1;rw[gd hj (HA.cb? hcc)];have hr:A.plain.shots name=(cc.c.shots,true):=by simp_all[ax.shots,HA.jD]
 refine OK.skip (kp (jm O (kc (zn O O) (kc (zr XR O) (kc (zr Yy O) (kc (zH Z8 O (td hJ (aa.dQ (k:=.c j) (HA.xQ hcc) O (.same _)))) (ja O (jb O (kD (OK.ret ⟨aA.r2 (zo O O) (zo O O) ?_,O,Zo⟩))))))))));rw[hr]
def wq{A:HA}{m:Int}(hok:A.Ok m){name:ba}{J:bm}(hS:aZ J)(hJ:∀h Y w,J h Y w->aa A.mem h Y w):dF prog 100 [] [.str name,.b5 [.raw (pV A.b)]] [(3000,.res J)] [(3000,.res J)] (.cf [.int .i64 (A.plain.ko name).1,.bool (A.plain.ko name).2]):=by
 refine cG func100 O fun{_ _}=>?_
 have hp2:=HA.nV A name;refine kr (ji O O (jb O (kq (kc (zV Yd O O) (jm O (RK.c (S.ik (((l9 hok hS hJ).jR hS)) hS call101 .none O (zc O (zc O .nil)) O O) (ja O (kD (kO (kr ?_))))))))));refine jm O (kc (S.uA underlying126 .none O (zt O)) (kD (OK.cond O O (fun c10=>?_) (fun c10=>?_))))
 ·have hN:=ku c10;have hr:A.plain.ko name=(0,false):=by simp_all[ax.ko]
  refine kr (ji O O (jb O (kD (OK.ret ⟨aA.r2 (zo O O) (zo O O) ?_,O,Zo⟩))));rw[hr]
 obtain⟨k,hk⟩:=je c10;obtain⟨hk1,_⟩:=j5 hk;obtain⟨vv,hvv⟩:=at_of_lt hk1;rw[gd hk (HA.IB hvv)];have hr:A.plain.ko name=(vv.r.iN,true):=by simp_all[ax.ko,HA.oe]
 refine OK.skip (kp (jm O (kc (zn O O) (kc (zr VN O) (kc (zr WY O) (kc (zr Q6 O) (kc (zH Z8 O (td hJ (aa.dQ (k:=.v k) (HA.Cz hvv) O (.same _)))) (ja O (jb O (kD (OK.ret ⟨aA.r2 (zo O O) (zo O O) ?_,O,Zo⟩)))))))))));rw[hr]
def xR{A:HA}{m:Int}(hok:A.Ok m){q:ba}(hq:q.length<=100000):dU prog 64 [] [.raw (pV A.b),.str q] [(3000,.res (aa A.mem))] [(3000,.res (aa A.mem))] (.cf [.str (answerT A.plain q).1,bv (answerT A.plain q).2]):=by
 refine cH func64 O fun hT=>?_
 have hlp:=hok.lp;have hm0:=hok.m0;have hcl:=xS (c:=32) (l:=q);have hnl:=wu gE A.parts;have hpx:=HA.gG A (bp (aL 32 q).2.1);refine ro 9 O (OK.freezeP [] [(1,.str q),(3000,.res (aa A.mem))] 2 O O O O O O ⟨O,O,Zo⟩ O (ro 11 O (kB O (fun c14=>?_) (fun c14=>?_))))
 ·refine ro 5 O ?_;refine kc (zH Z8 O (aa.dQ (k:=.bn) O O (.same _))) (RK.c (zM [[_]] ZY O O O O) (kc (S.uz (gT (l:=[A.entries]) F) hT call93 .none O (zc O .nil) (.cons (.p (.own O O) O) .nil) O) ?_));refine rr 4 O (OK.ret ⟨aA.r2 (zo O O) (zo O O) ?_,O,Zo⟩);unfold answerT;simp_all;rfl
 refine ro 6 O (kB O (fun c22=>?_) (fun c22=>?_))
 ·refine ro 3 O (kc (S.fI ((fun J hS hJ=>(wv hok hS hJ (f:=94) (caps:=[]) call94 O O (g:=gE) (fun i v hv=>xT hv hS hJ)).jR hS)) call53 .none O (zc O (.cons .oL .nil)) O O) ?_);refine kc (S.dB (gT (l:=oc gE A.parts) I) hT call93 .none O (zc O .nil) O) ?_;refine rr 4 O (OK.ret ⟨aA.r2 (zo O O) (zo O O) ?_,O,Zo⟩);simp_all[answerT,HA.cB]
 refine ro 6 O (kc (zK (str_Cut (l:=q) (c:=32) hq) call75 O) (rr 13 O (kc (S.not .none O (zt O)) (kD (OK.cond O O (fun c34=>?_) (fun c34=>?_))))))
 ·refine ro 6 O (OK.ret ⟨aA.r2 (zo O O) (zo O O) ?_,O,Zo⟩);simp_all[answerT]
 refine ro 15 O (kB O (fun c36=>?_) (fun c36=>?_))
 ·refine ro 3 O (kc (S.dB (oP (l:=(aL 32 q).2.1) I) hT call95 .none O (zc O .nil) O) ?_);refine rr 11 O (kc (S.not .none O (zt O)) (kD (OK.cond O O (fun c44=>?_) (fun c44=>?_))))
  ·refine ro 6 O (OK.ret ⟨aA.r2 (zo O O) (zo O O) ?_,O,Zo⟩);simp_all[answerT]
  refine ro 6 O (kc (S.fI ((fun J hS hJ=>(vT hok hS hJ).jR hS)) call86 .none O (zc O (zc O .nil)) O O) ?_);refine rr 14 O (kB O (fun c52=>?_) (fun c52=>?_))
  ·refine ro 7 O (OK.ret ⟨aA.r2 (zo O O) (zo O O) ?_,O,Zo⟩);simp_all[answerT]
  have ho:=yX (Zu.1 c52);obtain⟨i,hpi⟩:=fj.1 ho;obtain⟨v,hv⟩:=at_of_lt (eE hpi).1;rw[gd hpi (HA.Bt hv)];refine OK.ue (p:=IntKind.i64.wrap v.p.iN=v.p.iN/\IntKind.i64.wrap v.p.place=v.p.place/\IntKind.i64.wrap v.p.verdict=v.p.verdict) O (fun h Y w hj=>Cx hj hv) fun hrg=>?_
  have hjl:(Lib.join [v.p.oF,joinT [v.p.iN],v.p.coil,joinT [v.p.place,v.p.verdict]] [32]).length<=140737488355328:=wk (hok.nl v (ce hv)) hrg;refine ro 3 O ?_;refine kV (.c (zm O) (.c (zn O O) (.c (zr ZZ O) (.c (zr YI O) (.c (zr Q5 O) (.c (zH Y9 O (aa.dQ (k:=.p i) (HA.dm hv) O (.same _))) (.c (zm O) (.c (zn O O) (.c (zr ZZ O) (.c (zr YI O) (.c (zr Q6 O) (.c (zH Z8 O (aa.dQ (k:=.p i) (HA.dm hv) O (.same _))) (.c (zM [[_]] ZY O O O O) (.c (S.uz (gT (l:=[v.p.iN]) F) hT call93 .none O (zc O .nil) (.cons (.p (.own O O) O) .nil) O) (.c (zm O) (.c (zn O O) (.c (zr ZZ O) (.c (zr To O) (.c (zH Y9 O (aa.dQ (k:=.p i) (HA.dm hv) O (.same _))) (.c (zm O) (.c (zn O O) (.c (zr ZZ O) (.c (zr Yt O) (.c (zH Z8 O (aa.dQ (k:=.p i) (HA.dm hv) O (.same _))) (.c (zm O) (.c (zn O O) (.c (zr ZZ O) (.c (zr Q8 O) (.c (zH Z8 O (aa.dQ (k:=.p i) (HA.dm hv) O (.same _))) (.c (zM [[_],[_]] ZY O O O O) (.c (S.uz (gT (l:=[v.p.place,v.p.verdict]) F) hT call93 .none O (zc O .nil) (.cons (.p (.own O O) O) .nil) O) (.c (zM [[_],[_],[_],[_]] ZF O O O O) (.c (S.callL (FD.ct (l:=[v.p.oF,joinT [v.p.iN],v.p.coil,joinT [v.p.place,v.p.verdict]]) (sep:=[32]) F (hjl)) call96 .none O (zc O (.cons (.bj (l:=[32]) O C) .nil)) (.cons (.p (.own O O) O) (.cons (.same O) .nil)) O) (.c (za O) (.c (zi O O) .nil))))))))))))))))))))))))))))))))))) ?_;refine Ab.D.code (OK.ret ⟨aA.r2 (zo O O) (zo O O) ?_,O,Zo⟩);unfold answerT;simp_all
  all_goals first|done|rfl|(rw[HA.cB];done)|(rw[HA.mb hv];rfl)
 refine ro 6 O (kB O (fun c87=>?_) (fun c87=>?_))
 ·refine ro 3 O (kc (S.dx .none O (zt O) O) ?_);refine RK.c (S.ik (((tc (name:=(aL 32 q).2.1) (J:=aa A.mem) (aa.az _) (f:=98) (caps:=[.b5 [.raw (pV A.b)]]) call98 O O (wo hok (aa.az _) (fun _ _ _ h=>h))).jR hT (aa.az _))) (aa.az _) call97 .none O (zc O (zc O .nil)) O O) ?_;refine rr 6 O (OK.ret ⟨aA.r2 (zo O O) (zo O O) ?_,O,Zo⟩);simp_all[answerT]
 refine ro 6 O (kB O (fun c94=>?_) (fun c94=>?_))
 ·refine ro 3 O (kc (S.dx .none O (zt O) O) ?_);refine RK.c (S.ik (((tc (name:=(aL 32 q).2.1) (J:=aa A.mem) (aa.az _) (f:=100) (caps:=[.b5 [.raw (pV A.b)]]) call100 O O (wq hok (aa.az _) (fun _ _ _ h=>h))).jR hT (aa.az _))) (aa.az _) call97 .none O (zc O (zc O .nil)) O O) ?_;refine rr 6 O (OK.ret ⟨aA.r2 (zo O O) (zo O O) ?_,O,Zo⟩);simp_all[answerT]
 refine ro 9 O (OK.ret ⟨aA.r2 (zo O O) (zo O O) ?_,O,Zo⟩);simp_all[answerT]
theorem xU{n:Net}{l:List Entry}(hp:n.aS.length<=1000)(hE:sS l){q:ba}(hq:q.length<=100000):gz prog 40 [.agg n.cs,.sl (l.map Entry.cs),.str q] (.cf [.str (Cw n l q).1,bv (Cw n l q).2]):=by
 refine cT func40 O fun hT=>?_
 refine ro 11 O ?_;refine RK.qz (((lY hp hE).at hT)) (fun _=>pP.az _ _ _) (fun _=>pP.mono) call45 O (zc O (zc O .nil)) O fun A=>?_
 refine rr 16 O (kB O (fun c19=>?_) (fun c19=>?_))
 ·refine ro 7 O (kS O O O O ?_);unfold Cw;grind
 have he0:(bl n l).2.2=0:=Zu.1 c19;refine ro 3 O (OK.ud he0 O fun hok hpl=>?_);rw[uc he0];refine ro 3 O ?_;refine RK.c (S.ik (((xR hok hq).jR hT (aa.az _))) (aa.az _) call64 .none O (zc O (zc O .nil)) O O) ?_;refine rr 6 O (kS O O O O ?_);simp_all[Cw]
def rec_CountsOf{n:Net}{l:List Entry}(hp:n.aS.length<=1000)(hE:sS l):gz prog 41 [.agg n.cs,.sl (l.map Entry.cs)] (.cf [.agg (mZ n l).1.cs,bv (mZ n l).2]):=by
 refine cT func41 O fun hT=>?_
 refine ro 11 O ?_;refine RK.qz (((lY hp hE).at hT)) (fun _=>pP.az _ _ _) (fun _=>pP.mono) call45 O (zc O (zc O .nil)) O fun A=>?_
 refine rr 16 O (kB O (fun c21=>?_) (fun c21=>?_))
 ·refine kr (kc (zU JC O O) (rr 5 O (kT O O KY O O O ?_)));unfold mZ;rw[Zn c21];rfl
 have he0:(bl n l).2.2=0:=Zu.1 c21;refine ro 3 O (OK.ud he0 O fun hok hpl=>?_);rw[uc he0];have hlp:=hok.lp;have hm0:=hok.m0;refine ro 4 O (kc (zH (u:=.sl (A.parts.map iA)) YD O (aa.dQ (k:=.bn) O O (.sl hok.ps))) (kc (zk YS O) (kc (zU JC O O) (rr 11 O (kc (zU bu149 O O) (rr 10 O (kc (zH (u:=.sl (A.parts.map iA)) YD O (aa.dQ (k:=.bn) O O (.sl hok.ps))) (kc (zk YS O) (rr 4 O ?_)))))))));refine OK.loop (G:=Nat) [4,9,10] (fun i=>[(4,.ptr 4 0),(1004,.box [bv 0,bv 0,bv 0,bv 0,bv 0,bv 0]),(9,.ptr 9 0),(1009,.box (b8 A i).cs),(10,.ptr 10 0),(1010,.box [.ptr 9 1,.ptr 9 2,.ptr 9 3,.ptr 9 4,.ptr 9 5]),(39,.sl (A.parts.map iA)),(40,bv A.parts.length),(41,bv i),(3000,.res (aa A.mem))]) (fun i=>i<=A.parts.length) (fun i=>A.parts.length - i) 0 (Zr _) ⟨O,O,O,(s8 (by rfl)),O,O,O,O,O,O,Zo⟩ (fun _=>O) ?_;rintro i hi;refine ro 6 O (kB O (fun c42=>?_) (fun c42=>?_))
 ·have hil:i<A.parts.length:=by omega
  obtain⟨v,hv⟩:=at_of_lt hil;have hvg:A.parts[i]=v:=by simp_all
  have hpv:=hok.pl v (ce hv);have hb:=fun k=>wj ((A.parts.take i).map aB.p) k
  have hb0:=hb 0;have hb1:=hb 1;have hb2:=hb 2;have hb3:=hb 3;have hb4:=hb 4;rw[Zx,gn]at hb0 hb1 hb2 hb3 hb4;have q0:(b8 A i).under=placesOf ((A.parts.take i).map aB.p) 0:=rfl;have q1:(b8 A i).inside=placesOf ((A.parts.take i).map aB.p) 1:=rfl;have q2:(b8 A i).good=placesOf ((A.parts.take i).map aB.p) 2:=rfl;have q3:(b8 A i).bad=placesOf ((A.parts.take i).map aB.p) 3:=rfl;have q4:(b8 A i).cut=placesOf ((A.parts.take i).map aB.p) 4:=rfl;refine ro 6 O (kc (zI YS O I O) ?_);refine rr 4 O ?_;rcases(show v.p.place=0\/v.p.place=1\/v.p.place=2\/v.p.place=3\/v.p.place=4 by omega)with h5|h5|h5|h5|h5
  ·have hcs:[X.int .i64 (A.parts.length:Int),bv (placesOf ((A.parts.take i).map aB.p) 0+1),bv (placesOf ((A.parts.take i).map aB.p) 1),bv (placesOf ((A.parts.take i).map aB.p) 2),bv (placesOf ((A.parts.take i).map aB.p) 3),bv (placesOf ((A.parts.take i).map aB.p) 4)]=(b8 A (i+1)).cs:=by grind [b8,iv.cs,eZ]
   rw[hvg];refine ro 5 O ?_;refine kc (zH Z8 O (aa.dQ (k:=.p i) (HA.dm hv) O (.same _))) (kc (S.qf (i:=0) underlying149 sizeOf148 .none O (zt O) (zt O) h5 C) ?_);refine Rr 13 O I (Ab.D.lp ⟨i+1,I,I,O,O,O,(s8 hcs),O,O,O,O,O,O,Zo⟩)
  ·have hcs:[X.int .i64 (A.parts.length:Int),bv (placesOf ((A.parts.take i).map aB.p) 0),bv (placesOf ((A.parts.take i).map aB.p) 1+1),bv (placesOf ((A.parts.take i).map aB.p) 2),bv (placesOf ((A.parts.take i).map aB.p) 3),bv (placesOf ((A.parts.take i).map aB.p) 4)]=(b8 A (i+1)).cs:=by grind [b8,iv.cs,eZ]
   rw[hvg];refine ro 5 O ?_;refine kc (zH Z8 O (aa.dQ (k:=.p i) (HA.dm hv) O (.same _))) (kc (S.qf (i:=1) underlying149 sizeOf148 .none O (zt O) (zt O) h5 C) ?_);refine Rr 13 O I (Ab.D.lp ⟨i+1,I,I,O,O,O,(s8 hcs),O,O,O,O,O,O,Zo⟩)
  ·have hcs:[X.int .i64 (A.parts.length:Int),bv (placesOf ((A.parts.take i).map aB.p) 0),bv (placesOf ((A.parts.take i).map aB.p) 1),bv (placesOf ((A.parts.take i).map aB.p) 2+1),bv (placesOf ((A.parts.take i).map aB.p) 3),bv (placesOf ((A.parts.take i).map aB.p) 4)]=(b8 A (i+1)).cs:=by grind [b8,iv.cs,eZ]
   rw[hvg];refine ro 5 O ?_;refine kc (zH Z8 O (aa.dQ (k:=.p i) (HA.dm hv) O (.same _))) (kc (S.qf (i:=2) underlying149 sizeOf148 .none O (zt O) (zt O) h5 C) ?_);refine Rr 13 O I (Ab.D.lp ⟨i+1,I,I,O,O,O,(s8 hcs),O,O,O,O,O,O,Zo⟩)
  ·have hcs:[X.int .i64 (A.parts.length:Int),bv (placesOf ((A.parts.take i).map aB.p) 0),bv (placesOf ((A.parts.take i).map aB.p) 1),bv (placesOf ((A.parts.take i).map aB.p) 2),bv (placesOf ((A.parts.take i).map aB.p) 3+1),bv (placesOf ((A.parts.take i).map aB.p) 4)]=(b8 A (i+1)).cs:=by grind [b8,iv.cs,eZ]
   rw[hvg];refine ro 5 O ?_;refine kc (zH Z8 O (aa.dQ (k:=.p i) (HA.dm hv) O (.same _))) (kc (S.qf (i:=3) underlying149 sizeOf148 .none O (zt O) (zt O) h5 C) ?_);refine Rr 13 O I (Ab.D.lp ⟨i+1,I,I,O,O,O,(s8 hcs),O,O,O,O,O,O,Zo⟩)
  have hcs:[X.int .i64 (A.parts.length:Int),bv (placesOf ((A.parts.take i).map aB.p) 0),bv (placesOf ((A.parts.take i).map aB.p) 1),bv (placesOf ((A.parts.take i).map aB.p) 2),bv (placesOf ((A.parts.take i).map aB.p) 3),bv (placesOf ((A.parts.take i).map aB.p) 4+1)]=(b8 A (i+1)).cs:=by grind [b8,iv.cs,eZ]
  rw[hvg];refine ro 5 O ?_;refine kc (zH Z8 O (aa.dQ (k:=.p i) (HA.dm hv) O (.same _))) (kc (S.qf (i:=4) underlying149 sizeOf148 .none O (zt O) (zt O) h5 C) ?_);refine Rr 13 O I (Ab.D.lp ⟨i+1,I,I,O,O,O,(s8 hcs),O,O,O,O,O,O,Zo⟩)
 refine ro 9 O (kT O O KY O O O ?_);unfold mZ;rw[Zm c21,show i=A.parts.length by omega,uw,hpl];rfl
def rZ{n:Net}{l:List Entry}{num:Int}(hp:n.aS.length<=1000)(hE:sS l):gz prog 37 [.agg n.cs,.sl (l.map Entry.cs),bv num] (.cf [ints (oO n l num).1,bv (oO n l num).2]):=by
 refine cT func37 O fun hT=>?_
 refine ro 3 O (kc (S.assign .none O .fW) (rr 8 O ?_));refine RK.qz (((Am hp hE).at hT)) (fun _=>pP.az _ _ _) (fun _=>pP.mono) call49 O (zc O (zc O (zc O .nil))) O fun A=>?_
 refine rr 14 O (kB O (fun c18=>?_) (fun c18=>?_))
 ·have hf0:fV n l num≠0:=c18;have hH:oO n l num=([],fV n l num):=by unfold oO;grind
  refine ro 3 O (kc (S.assign .none O .fW) (rr 3 O (kS O O O O ?_)));rw[hH];rfl
 have hf0:fV n l num=0:=Zu.1 c18;have he0:(bl n l).2.2=0:=wm hf0;refine OK.ud he0 O fun hok hpl=>?_
 have hpx:A.plain.vr num=ix (fun v=>decide (v.p.num=num)) A.parts:=HA.gG A num;obtain⟨i,hpi⟩:=Cy hf0;have hpi2:ix (fun v=>decide (v.p.num=num)) A.parts=some i:=by simp_all
 obtain⟨v,hv⟩:=at_of_lt (eE hpi2).1;have hfp:qy n l num A=pV v.b:=by simp_all[qy,gd,HA.Bt]
 rw[hfp];have hH:oO n l num=(v.es.mergeSort (fun x y=>decide (x<=y)),0):=by unfold oO;rw[Zm I,hpi];dsimp only[Option.getD_some];rw[←hpl,HA.dh hv];rfl
 have hle:=hok.le v (ce hv);have hm0:=hok.m0;have hme:=HA.CA hv;refine ro 3 O ?_;rcases hq:v.eh with _|q
 ·have hes:=hok.eh v (ce hv) hq;have hvv:v.eh.v v.es.length=.slice none 0 0:=by rw[hq,hes];rfl
  have hso:(v.es.mergeSort fun x y=>decide (x<=y))=[]:=by rw[hes];simp
  have hfz:Gj A.mem (.raw (v.eh.v v.es.length)) (ints (v.es.mergeSort fun x y=>decide (x<=y))):=by rw[hvv,hso];exact Fz.nil
  refine ro 4 O ?_;refine kc (zH ZA O (aa.dQ (k:=.p i) (HA.dm hv) O (.same _))) ?_;refine RK.c (S.ik ((by rw[hvv];exact Gi xV)) (aa.az _) call63 .none O (zc O .nil) O O) ?_;refine rr 7 O ?_;refine kc (zH ZA O (aa.dQ (k:=.p i) (HA.dm hv) O (.same _))) ?_;refine rr 4 O ?_;refine OK.pT [(6,ints (v.es.mergeSort fun x y=>decide (x<=y)))] O (by intro p hp;simp at hp;subst hp;exact⟨by omega,_,rfl,hfz⟩) ?_;refine kS O O O O ?_;rw[hH]
 rw[hq]at hme;have hMe:A.mem (.e i)=some (q.1,.row 1 q.2 (v.es.map fun n=>[X.int .i64 n])):=hme;have hvv:v.eh.v v.es.length=.slice (some ⟨q.1,0,none⟩) v.es.length q.2:=by rw[hq];rfl
 have hfz:Gj (A.mem.set (.e i) (some (q.1,.row 1 q.2 ((v.es.mergeSort fun x y=>decide (x<=y)).map fun n=>[X.int .i64 n])))) (.raw (v.eh.v v.es.length)) (ints (v.es.mergeSort fun x y=>decide (x<=y))):=by rw[hvv];exact EI (HM.bw _ _ _) (qK _)
 refine ro 4 O ?_;refine kc (zH ZA O (aa.dQ (k:=.p i) (HA.dm hv) O (.same _))) ?_;refine RK.c (S.ik ((by rw[hvv];exact Gk xV (M:=A.mem) (kb:=.e i) (b:=q.1) (cap:=q.2) hMe rfl I)) (aa.az _) call63 .none O (zc O .nil) O O) ?_;refine rr 7 O ?_;refine kc (zH ZA O (aa.dQ (k:=.p i) ((HM.ai _ _ Z).trans (HA.dm hv)) O (.same _))) ?_;refine rr 4 O ?_;refine OK.pT [(6,ints (v.es.mergeSort fun x y=>decide (x<=y)))] O (by intro p hp;simp at hp;subst hp;exact⟨by omega,_,rfl,hfz⟩) ?_;refine kS O O O O ?_;rw[hH]
end Go.Proofs.YtpbalelbenmmbaaGreatDoor
namespace Go.Proofs.YtpbalelbenmmbaaGreatDoor
open Go.Ab Tryz
def ou:Net:=⟨[⟨[111,108,97],1⟩,⟨[115,101,109],2⟩,⟨[105,110,97],3⟩,⟨[101,118,97],4⟩],[50,32,112,111,119,101,114],550,100,120⟩
def lu:List Entry:=[⟨1,[101,118,97],[114,101,99,105,112,101,32,114,32,104,101,97,116,32,52,48,48,32,50,59,113,117,101,110,99,104,32,49,32,51]⟩,⟨1,[115,101,109],[99,111,105,108,32,99,32,51]⟩,⟨2,[111,108,97],[115,116,97,114,116,32,49,32,114,32,99]⟩,⟨2,[111,108,97],[102,114,97,109,101,32,48,32,49,48]⟩,⟨3,[111,108,97],[102,114,97,109,101,32,49,32,49,50]⟩,⟨3,[111,108,97],[101,110,100]⟩,⟨4,[101,118,97],[109,111,100,101,108,32,49]⟩,⟨4,[101,118,97],[108,101,97,114,110,32,48]⟩,⟨5,[111,108,97],[115,116,97,114,116,32,50,32,114,32,99]⟩,⟨5,[111,108,97],[102,114,97,109,101,32,49,32,49,50]⟩,⟨5,[111,108,97],[102,114,97,109,101,32,48,32,49,48]⟩,⟨5,[111,108,97],[101,110,100]⟩,⟨5,[111,108,97],[103,111,111,100,32,50]⟩]
theorem C5:sS lu:=by
 intro x hx;have h1:(lu.all fun x=>decide (x.text.length<=100000))=true:=by rfl
 have h2:(lu.all fun x=>decide (dS (aL 32 x.text).1∈[some 10,some 6,some 1,some 2,some 3,some 11,some 12,some 4]))=true:=by rfl
 refine⟨dC (dj.1 h1 x hx),fun k hk=>?_⟩;have h3:=dC (dj.1 h2 x hx);rw[hk]at h3;simp only[ed,ra,ml,or_false]at h3;rcases h3 with rfl|rfl|rfl|rfl|rfl|rfl|rfl|rfl
 ·exact @GC
 ·exact @HY
 ·exact @HZ
 ·exact @H6
 all_goals simp[H7,GD,GF,H8]
def GG:([0,1,8,9,10,11,12]:bd).mergeSort (fun x y=>decide (x<=y))=[0,1,8,9,10,11,12]:=by
 have h1:(([0,1,8,9,10,11,12]:bd).mergeSort fun x y=>decide (x<=y)).Pairwise (fun x y=>x<=y):=by
  have:=At (le:=fun x y:Int=>decide (x<=y)) (by grind) (by grind) [0,1,8,9,10,11,12];simp_all
 exact(rp _ _).eq_of_pairwise (fun a b _ _ h1 h2=>by omega) h1 C
def GH:oO ou lu 2=([0,1,8,9,10,11,12],0):=by
 have h0:fV ou lu 2=0:=by decide+kernel
 have h1:(((bl ou lu).1.parts[((bl ou lu).1.vr 2).getD 0]?.map (·.2)).getD [])=[0,1,8,9,10,11,12]:=by decide+kernel
 simp_all[oO,GG]
theorem H9:Cw ou lu [112,97,114,116,32,50]=([114,32,49,32,99,32,50,32,48],0):=by decide+kernel
def Ia:mZ ou lu=(⟨2,0,1,1,0,0⟩,0):=by decide+kernel
def uZ{P:Program}{f:Nat}{args:bi}{r r':X}(h:gz P f args r)(e:r=r'):gz P f args r':=e▸h
def ov:Ct prog 38 [] (.agg ou.cs):=by
 refine cI func38 O (ro 7 O (kc (zU P0 O O) (kc (zU P0 O O) (kc (zU P0 O O) (kc (zU P0 O O) ?_)))));refine kc (S.mkData (rows:=[[_,_],[_,_],[_,_],[_,_]]) Jv .none O (zc O (zc O (zc O (zc O .nil)))) O O O O O O O) (kc (zU M6 O O) (kc (zU bu26 O O) ?_));refine rr 3 O (OK.ret (aA.r1 (zy O O XB O) ?_));rfl
def ow:Ct prog 39 [] (.sl (lu.map Entry.cs)):=by
 refine cI func39 O (kr (kc (S.assign .none O .fW) (rr 4 O (kc (zU Ws O O) (kc (zU Ws O O) (kc (zU Ws O O) (kc (zU Ws O O) (kc (zU Ws O O) (kc (zU Ws O O) (kc (zU Ws O O) (kc (zU Ws O O) ?_)))))))))));refine kc (zU Ws O O) (kc (zU Ws O O) (kc (zU Ws O O) (kc (zU Ws O O) (kc (zU Ws O O) (kc (S.mkData (rows:=[[_,_,_],[_,_,_],[_,_,_],[_,_,_],[_,_,_],[_,_,_],[_,_,_],[_,_,_],[_,_,_],[_,_,_],[_,_,_],[_,_,_],[_,_,_]]) WO .none O (zc O (zc O (zc O (zc O (zc O (zc O (zc O (zc O (zc O (zc O (zc O (zc O (zc O .nil))))))))))))) O O O O O O O) ?_)))));refine rr 3 O (kR O O ?_);rfl
def AK:gz prog 37 [.agg ou.cs,.sl (lu.map Entry.cs),bv 2] (.cf [ints [0,1,8,9,10,11,12],bv 0]):=uZ (rZ (n:=ou) (l:=lu) (num:=2) C C5) (by rw[GH])
def C6:gz prog 40 [.agg ou.cs,.sl (lu.map Entry.cs),.str [112,97,114,116,32,50]] (.cf [.str [114,32,49,32,99,32,50,32,48],bv 0]):=by grind [xU,ou,C5,H9]
def C7:gz prog 41 [.agg ou.cs,.sl (lu.map Entry.cs)] (.cf [.agg (iv.mk 2 0 1 1 0 0).cs,bv 0]):=uZ (rec_CountsOf (n:=ou) (l:=lu) C C5) (by rw[Ia])
def C8:Ct prog 31 [.str [97,98],bv 0] (.cf [bv 22541,bv 0]):=by
 grind [Aw,rY]
def AL:Ct prog 26 [ints [0,1,8,9,10,11,12],ints [0,1,8,9,10,11,12]] (.bool true):=by
 have h:=AM (a:=[0,1,8,9,10,11,12]) (b:=[0,1,8,9,10,11,12]);simp_all
def wR:gz prog 7 [] (.bool true):=by
 refine cT func7 O fun hT=>?_
 refine ro 7 O (kc (zK ov call38 O) (kc (zK ow call39 O) (kc (S.dB (AK) hT call37 .none O (zc O (zc O (zD O))) O) (rr 9 O (kc (zK ov call38 O) (kc (zK ow call39 O) ?_))))));refine kc (S.dB (C6) hT call40 .none O (zc O (zc O (.cons (.bj (l:=[112,97,114,116,32,50]) O C) .nil))) O) ?_;refine rr 9 O (kc (zK C8 call31 O) (rr 9 O (kc (zK ov call38 O) (kc (zK ow call39 O) (kc (S.dB (C7) hT call41 .none O (zc O (zc O .nil)) O) (rr 14 O ?_))))));refine kc (S.mkData (rows:=[[_],[_],[_],[_],[_],[_],[_]]) ZY (zg O O) O (zC O (zC O (zC O (zC O (zC O (zC O (zD O))))))) O O O O O O O) (kc (S.call (AL) call26 (zg O O) O (zc O (zc O .nil)) O) ?_);refine rr 23 O (kc (S.build JC O (zg O O) O (zC O (zC O (zD O))) O O) (kc (S.II [2,0,1,1,0,0] [2,0,1,1,0,0] IM (zg O O) O (zt O) (zt O) O O O O) (rr 4 O (kR O O ?_))));rfl
end Go.Proofs.YtpbalelbenmmbaaGreatDoor
namespace Go.Proofs.YtpbalelbenmmbaaGreatDoor
open Go.Ab Tryz
section
variable{E:Env}{U:bc}{s:St}{code:Code}{Q:bo}{A:HA}{m:Int}{i:Nat}{v:aB}
theorem OK.KB(q:Nat×Nat)(n:Int)(hok:A.Ok m)(hes:(v.es.length:Int)+1<=m+3)(hv:A.parts[i]?=some v)(hl:Ab.look s 3000=some (.res (aa ((A.mem.set (.e i) (some (q.1,.row 1 q.2 (bM v.es++[[bv n]])))).set (.p i) (some (v.b,.box ({v with eh:=some q,es:=v.es++[n]}:aB).cs))))))
  (hn:n=A.entries) (h:∀A1:HA,A.uQ A1 i {v with eh:=some q,es:=v.es++[n]} (A.plain.jO i) m->OK E code Q U ((3000,.res (aa A1.mem))::s)):OK E code Q U s:=by
 have hmem:=ce hv;refine OK.x7 (w:={v with eh:=some q,es:=v.es++[n]}) hok hv hl O (HM.bw ..) ?_ ?_ (fun k h1 _ h3=>by simp_all[HM.ai]) fun hpb=>h _ ⟨?_,O,hpb,hK ..,kA hv,?_⟩
 ·simp_all[HM.ai,HA.FI]
 ·simp[HM.ai,HM.bw]
 ·refine HA.setP_ok hok hv (Int.le_refl _) hok.m0.2 (hok.fh v hmem) Z (hok.lf v hmem) ?_ (hok.pl v hmem) (hok.nl v hmem);simp_all
 subst hn;rw[HA.mj hv,ax.jO,cR (HA.dh hv)];rfl
end
def Jt(H:ax)(i:Nat)(q:Part×bd):Bool:=decide (q.1.oF=(H.p i).oF)&&decide (q.1.iN=(H.p i).iN)&&gE q.1
def NS(H:ax)(i:Nat)(q:Part×bd):Part×bd:=if Jt H i q=true then({q.1 with marked:=true},q.2++[H.entries])else q
def ax.Z0(H:ax)(i k:Nat):ax:={H with parts:=(H.parts.take k).map (NS H i)++H.parts.drop k}
def NO(H:ax)(i:Nat):H.Z0 i 0=H:=by rfl
def Rl(H:ax)(i:Nat){k:Nat}(h:k=H.parts.length):H.Z0 i k=H.Ff i:=by
 subst h;unfold ax.Z0 ax.Ff;rw[fp,co,lw];rfl
def XT{H:ax}{i k j:Nat}(hk:k<=H.parts.length)(h:k<=j):(H.Z0 i k).parts[j]?=H.parts[j]?:=by
 simp_all[ax.Z0,qk]
def Kk(H:ax)(i:Nat)(q:Part×bd):(NS H i q).1.oF=q.1.oF/\(NS H i q).1.iN=q.1.iN:=by unfold NS;grind
def NQ{H:ax}{i k:Nat}(hk:k<=H.parts.length)(j:Nat):((H.Z0 i k).p j).oF=(H.p j).oF/\((H.Z0 i k).p j).iN=(H.p j).iN:=by
 unfold ax.p;rcases mx j k with h|h
 ·have e:(H.Z0 i k).parts[j]?=(H.parts[j]?).map (NS H i):=by
   unfold ax.Z0;dsimp only;rw[ly (by simp_all),lh,ma,Zn h]
  rw[e];cases H.parts[j]? with
  |none=>simp
  |some q=>exact Kk H i q
 rw[XT hk h];simp
def We{H:ax}{i k:Nat}{q:Part×bd}(h:H.parts[k]?=some q):H.Z0 i (k+1)={H.Z0 i k with parts:=(H.Z0 i k).parts.set k (NS H i q)}:=by
 have hk:k<H.parts.length:=(dq.1 h).1;have hq:H.parts[k]=q:=(dq.1 h).2;have hl:((H.parts.take k).map (NS H i)).length=k:=by grind
 simp_all[ax.Z0,dT,ci]
def NP{H:ax}{i k:Nat}{p:Part}{es:bd}(h:H.parts[k]?=some (p,es))(hg:Jt H i (p,es)=true)(hk:k<=H.parts.length):((H.Z0 i k).eC k fun _=>{p with marked:=true}).jO k=H.Z0 i (k+1):=by
 have h1:(H.Z0 i k).parts[k]?=some (p,es):=by simp_all[XT]
 rw[We h];unfold ax.eC ax.jO;dsimp only;rw[cR h1,cR (kA h1),Ix];congr 1;congr 1;unfold NS;rw[Zn hg];rfl
def R4{H:ax}{i k:Nat}{q:Part×bd}(h:H.parts[k]?=some q)(hg:Jt H i q=false)(hk:k<=H.parts.length):H.Z0 i k=H.Z0 i (k+1):=by
 simp_all[XT,NS,We,bw]
def MD{rest:ba}{H:ax}{i:Nat}(h:(H.p i).place≠1):yQ rest H i=(H,20):=Zn h
def KT{rest:ba}{H:ax}{i:Nat}(h:¬(H.p i).place≠1)(h1:(DH rest).2≠0):yQ rest H i=(H,(DH rest).2):=by unfold yQ;simp_all
def KR{rest:ba}{H:ax}{i:Nat}(h:¬(H.p i).place≠1)(h1:¬(DH rest).2≠0)(h2:(It (DH rest).1 H.jq.limit).2≠0):yQ rest H i=(H,(It (DH rest).1 H.jq.limit).2):=by simp_all[yQ]
def ME{rest:ba}{H:ax}{i:Nat}(h:¬(H.p i).place≠1)(h1:¬(DH rest).2≠0)(h2:¬(It (DH rest).1 H.jq.limit).2≠0)(h3:H.outside (It (DH rest).1 H.jq.limit).1=false):yQ rest H i=(H.eC i fun p=>{p with place:=4,depth:=(It (DH rest).1 H.jq.limit).1},0):=by
 simp_all[yQ]
def OJ{rest:ba}{H:ax}{i:Nat}(h:¬(H.p i).place≠1)(h1:¬(DH rest).2≠0)(h2:¬(It (DH rest).1 H.jq.limit).2≠0)(h3:H.outside (It (DH rest).1 H.jq.limit).1=true):yQ rest H i=((H.eC i fun p=>{p with place:=4,depth:=(It (DH rest).1 H.jq.limit).1}).Ff i,0):=by
 simp_all[yQ]
def PM(A:HA)(rest:ba)(i:Nat):(yQ rest A.plain i).1.entries=A.entries:=by
 unfold yQ;dsimp only
 repeat' split
 all_goals rfl
def QM{a b:Part}:Ap [.s a.oF,.i a.iN] [.s b.oF,.i b.iN]=(decide (a.oF=b.oF)&&decide (a.iN=b.iN)):=by simp[Ap,Pl.eq]
def Vd{f:zZ}{n:Int}(hf:V8 f)(hn:0<=n/\n<=10000):Ct prog 186 [.agg f.cs,bv n] (.bool (decide (f.num<n * f.den))):=by
 refine cI func186 O fun{_ _}=>?_
 have hd:=hf.den;have hm:=XU (a:=n) (b:=f.den) (A:=10000) (B:=2000) I I C;refine ro 13 O ?_;refine kc (S.mul .none O (zt O) (zt O) (ca _ I) (ca _ I)) ?_;refine rr 4 O (kR O O ?_);rfl
def Rt{f:zZ}{n:Int}(hf:V8 f)(hn:0<=n/\n<=10000):Ct prog 187 [.agg f.cs,bv n] (.bool (decide (f.num>n * f.den))):=by
 refine cI func187 O fun{_ _}=>?_
 have hd:=hf.den;have hm:=XU (a:=n) (b:=f.den) (A:=10000) (B:=2000) I I C;refine ro 13 O ?_;refine kc (S.mul .none O (zt O) (zt O) (ca _ I) (ca _ I)) ?_;refine rr 4 O (kR O O ?_);rfl
def TE{A:HA}{m:Int}(hok:A.Ok m)(hm:m+2<=1000)(hce:yP A.jq){n:Int}{rest:ba}(hrl:rest.length<=600){i:Nat}{v:aB}(hv:A.parts[i]?=some v):dU prog 183 [] [.raw (pV v.b),.b5 (Words.mk [n] [rest]).cs,.b5 [.raw (pV A.b)]] [(3000,.res (aa A.mem))] [(3000,.res (JP A (yQ rest A.plain i).1 (m+1)))] (bv (yQ rest A.plain i).2):=by
 refine cH func183 O fun hT=>?_
 have hp:=HA.mb hv;have hm0:=hok.m0;have hcb:=P9 (DH rest).1 A.jq.limit;refine ro 12 O ?_;refine kc (zH Z8 O (aa.dQ (k:=.p i) (HA.dm hv) O (.same _))) ?_;refine rr 3 O (kB O (fun c15=>?_) (fun c15=>?_))
 ·have hT:=MD (rest:=rest) (H:=A.plain) (i:=i) (by rw[hp];exact c15);refine ro 5 O ?_;refine OK.bU (J':=JP A (yQ rest A.plain i).1 (m+1)) O (JP.az _ _ _) (fun h Y w hj=>HA.jp hok I I (by rw[hT]) hj) ?_;refine OK.ret ⟨aA.r1 (zo O O) ?_,O,Zo⟩;rw[hT];try rfl
 have hpl:¬(A.plain.p i).place≠1:=by rw[hp];exact c15
 refine ro 6 O ?_;refine kc (S.aP (n:=0) Z9 .none O (zt O) (.af O) O (by exact pp _) O) (kc (zV Y9 O O) (kc (S.dB (W_ (s:=rest) I) hT call184 .none O (zc O .nil) O) ?_));refine rr 15 O (kB O (fun c25=>?_) (fun c25=>?_))
 ·have hT:=KT hpl c25;refine ro 6 O ?_;refine OK.bU (J':=JP A (yQ rest A.plain i).1 (m+1)) O (JP.az _ _ _) (fun h Y w hj=>HA.jp hok I I (by rw[hT]) hj) ?_;refine OK.ret ⟨aA.r1 (zo O O) ?_,O,Zo⟩;rw[hT];try rfl
 refine ro 3 O ?_;refine kV (.c (zL Wo O O O O) (.c (zV Yd O O) (.c (zn O O) (.c (zr Y5 O) (.c (zr XP O) (.c (zr Q1 O) (.c (zH Z8 O (aa.dQ (k:=.bn) O O (.same _))) (.c (zK (Rc (l:=(DH rest).1) (limit:=A.jq.limit)) call185 O) (.c (zm O) (.c (zX O O O) (.c (zX O O O) (.c (zA (c:=7) Jr O) (.c (zS WN O O O O O O) (.c (za O) .nil)))))))))))))) ?_;refine rd 8 O (kB O (fun c39=>?_) (fun c39=>?_))
 ·have hT:=KR hpl c25 (show(It (DH rest).1 A.plain.jq.limit).2≠0 from c39);refine ro 6 O ?_;refine OK.bU (J':=JP A (yQ rest A.plain i).1 (m+1)) O (JP.az _ _ _) (fun h Y w hj=>HA.jp hok I I (by rw[hT]) hj) ?_;refine OK.ret ⟨aA.r1 (zo O O) ?_,O,Zo⟩;rw[hT];try rfl
 have h39:¬(It (DH rest).1 A.plain.jq.limit).2≠0:=c39;refine ro 3 O ?_;refine kV (.c (zm O) (.c (zm O) (.c (zL WN O O O O) (.c (zn O O) (.c (zr ZZ O) (.c (zr Yt O) (.c (S.dc (xs':=({v with p:={v.p with place:=4}}:aB).cs) (.p i) Z8 .none (zt O) (.af O) O (HA.dm hv) O O O O O) (.c (zn O O) (.c (zr ZZ O) (.c (zr Q9 O) (.c (S.dc (xs':=({v with p:={v.p with place:=4,depth:=(It (DH rest).1 A.jq.limit).1}}:aB).cs) (.p i) WN .none (zt O) (zt O) O (HM.bw _ _ _) O O O O O) .nil))))))))))) (Ab.D.code (kO ?_));rw[HM.set_set];refine OK.y9 {v.p with place:=4,depth:=(It (DH rest).1 A.jq.limit).1} hok hv O O (by dsimp only;decide) fun A1 hL=>?_
 have hok1:=hL.ok;have hlp1:=hok1.lp;have hm01:=hok1.m0;have hnet:A1.jq=A.jq:=eQ ax.jq hL.plain;have hc1:yP A1.jq:=by rw[hnet];exact hce
 have hpl1:A1.plain=A.plain.eC i fun p=>{p with place:=4,depth:=(It (DH rest).1 A.jq.limit).1}:=hL.plain.trans (ax.pZ (HA.dh hv) fun p=>{p with place:=4,depth:=(It (DH rest).1 A.jq.limit).1})
 rw[←hL.b];refine OK.join (G:=Bool) [] (fun bb=>[(0,.raw (pV v.b)),(2,.b5 [.raw (pV A1.b)]),(73,.bool bb),(3000,.res (aa A1.mem))]) (fun bb=>bb=(!(decide ((It (DH rest).1 A.jq.limit).1.lo.num<A1.jq.lo * (It (DH rest).1 A.jq.limit).1.lo.den))&&!(decide ((It (DH rest).1 A.jq.limit).1.hi.num>A1.jq.hi * (It (DH rest).1 A.jq.limit).1.hi.den)))) (fun _=>O) ?_ ?_
 ·by_cases g61:(!(decide ((It (DH rest).1 A.jq.limit).1.lo.num<A1.jq.lo * (It (DH rest).1 A.jq.limit).1.lo.den)))=true
  ·refine kV (.c (zf Q7 O) (.c (zL XN O O O O) (.c (zV Yd O O) (.c (zn O O) (.c (zr Y5 O) (.c (zr XP O) (.c (zr YH O) (.c (zr Ze O) (.c (zH Z8 O (aa.dQ (k:=.bn) O O (.same _))) (.c (zK (Vd (f:=(It (DH rest).1 A.jq.limit).1.lo) (n:=A1.jq.lo) hcb.1 hc1.1) call186 O) (.c (S.jP .none O (zt O)) (.c (zm O) (.c (S.dH Np (.yes O O O (by simpa using g61)) O (zt O)) (.c (S.xK XN (.yes O O O (by simpa using g61)) O (zt O) O O O O) (.c (S.Hz Yd (.yes O O O (by simpa using g61)) O (zt O) O) (.c (S.Cn (.yes O O O (by simpa using g61)) O (zt O) O) (.c (S.jC Y5 (.yes O O O (by simpa using g61)) O (zt O)) (.c (S.jC XP (.yes O O O (by simpa using g61)) O (zt O)) (.c (S.jC YH (.yes O O O (by simpa using g61)) O (zt O)) (.c (S.jC YU (.yes O O O (by simpa using g61)) O (zt O)) (.c (S.aG Z8 (.yes O O O (by simpa using g61)) O (zt O) O (aa.dQ (k:=.bn) O O (.same _))) (.c (S.call (Rt (f:=(It (DH rest).1 A.jq.limit).1.hi) (n:=A1.jq.hi) hcb.2 hc1.2) call187 (.yes O O O (by simpa using g61)) O (zc O (zc O .nil)) O) (.c (S.jP (.yes O O O (by simpa using g61)) O (zt O)) (.c (S.aQ .none O (zt O) (zt O) (by simpa using g61)) .nil)))))))))))))))))))))))) ?_;refine Ab.D.lp ⟨(decide (¬(It (DH rest).1 A.jq.limit).1.hi.num>A1.jq.hi * (It (DH rest).1 A.jq.limit).1.hi.den)),(by first|(rw[g61,lx];exact decide_not)|(rw[rb.2 g61];rfl)),O,O,O,O,Zo⟩
  refine kV (.c (zf Q7 O) (.c (zL XN O O O O) (.c (zV Yd O O) (.c (zn O O) (.c (zr Y5 O) (.c (zr XP O) (.c (zr YH O) (.c (zr Ze O) (.c (zH Z8 O (aa.dQ (k:=.bn) O O (.same _))) (.c (zK (Vd (f:=(It (DH rest).1 A.jq.limit).1.lo) (n:=A1.jq.lo) hcb.1 hc1.1) call186 O) (.c (S.jP .none O (zt O)) (.c (zm O) (.c (zG O (by simpa using g61)) (.c (zG O (by simpa using g61)) (.c (zG O (by simpa using g61)) (.c (zG O (by simpa using g61)) (.c (zG O (by simpa using g61)) (.c (zG O (by simpa using g61)) (.c (zG O (by simpa using g61)) (.c (zG O (by simpa using g61)) (.c (zG O (by simpa using g61)) (.c (zG O (by simpa using g61)) (.c (zG O (by simpa using g61)) (.c (S.aO .none O (zt O) .aJ (by simpa using g61)) .nil)))))))))))))))))))))))) ?_;refine Ab.D.lp ⟨false,(by first|(rw[g61,lx];exact decide_not)|(rw[rb.2 g61];rfl)),O,O,O,O,Zo⟩
 rintro bb hbb;refine OK.cond O O (fun c73=>?_) (fun c73=>?_)
 ·have hb3:=hbb;rw[hnet]at hb3;have hO:A.plain.outside (It (DH rest).1 A.jq.limit).1=false:=by show(!((!(decide ((It (DH rest).1 A.jq.limit).1.lo.num<A.jq.lo * (It (DH rest).1 A.jq.limit).1.lo.den))&&!(decide ((It (DH rest).1 A.jq.limit).1.hi.num>A.jq.hi * (It (DH rest).1 A.jq.limit).1.hi.den)))))=false;rw[←hb3,c73];rfl
  have hT:=ME hpl c25 h39 hO;refine ro 5 O ?_;refine OK.bU (J':=JP A (yQ rest A.plain i).1 (m+1)) O (JP.az _ _ _) (fun h Y w hj=>hL.jp I I (hL.plain.symm.trans (hpl1.trans (by rw[hT];rfl))) hj) ?_;refine OK.ret ⟨aA.r1 (zo O O) ?_,O,Zo⟩;rw[hT];try rfl
 have hb3:=hbb;rw[hnet]at hb3;have hO:A.plain.outside (It (DH rest).1 A.jq.limit).1=true:=by show(!((!(decide ((It (DH rest).1 A.jq.limit).1.lo.num<A.jq.lo * (It (DH rest).1 A.jq.limit).1.lo.den))&&!(decide ((It (DH rest).1 A.jq.limit).1.hi.num>A.jq.hi * (It (DH rest).1 A.jq.limit).1.hi.den)))))=true;rw[←hb3,c73];rfl
 have hT:=OJ hpl c25 h39 hO;refine ro 8 O (kc (zH (u:=.sl (A1.parts.map iA)) YD O (aa.dQ (k:=.bn) O O (.sl hok1.ps))) (kc (zk YS O) (rr 4 O ?_)));refine OK.bU (J':=JP A1 (A1.plain.Z0 i 0) (m+1)) O (JP.az _ _ _) (fun h Y w hj=>HA.jp hok1 I I (NO _ _) hj) ?_;refine OK.loop (G:=Nat) [] (fun k=>[(0,.raw (pV v.b)),(2,.b5 [.raw (pV A1.b)]),(77,.sl (A1.parts.map iA)),(78,bv A1.parts.length),(79,bv k),(3000,.res (JP A1 (A1.plain.Z0 i k) (m+1)))]) (fun k=>k<=A1.parts.length) (fun k=>A1.parts.length - k) 0 (Zr _) ⟨O,O,O,O,O,O,Zo⟩ (fun _=>O) ?_;rintro k hk;refine ro 6 O (kB O (fun c80=>?_) (fun c80=>?_))
 ·have hil:k<A1.parts.length:=by omega
  refine OK.G9 O fun A2 hok2 hb2 hpb2 hlen2 hpl2=>?_
  obtain⟨w,hw⟩:=at_of_lt (l:=A2.parts) (i:=k) (by rw[hlen2];exact hil);obtain⟨w0,hw0⟩:=at_of_lt (l:=A2.parts) (i:=i) (by rw[hlen2,hL.len];exact gU hv);have hwb:A1.parts[k].b=w.b:=by rw[←HA.pb_at hil,←hpb2,HA.Bt hw]
  have hw0b:w0.b=v.b:=by rw[←HA.Bt hw0,hpb2,hL.pb,HA.Bt hv]
  have hPk:k<=A1.plain.parts.length:=by show k<=(A1.parts.map _).length;rw[Zx];exact hk
  have hpk:A1.plain.parts[k]?=some (w.p,w.es):=by rw[←XT (i:=i) hPk (Zq _),←hpl2];exact HA.dh hw
  have hp0:w0.p.oF=(A1.plain.p i).oF/\w0.p.iN=(A1.plain.p i).iN:=by have h:=NQ (i:=i) hPk i;rw[←hpl2,HA.mb hw0]at h;exact h
  have hwe:(w.es.length:Int)<=m+3:=by
   obtain⟨w1,hw1⟩:=at_of_lt hil;have h1:=HA.dh hw1;rw[hpk]at h1;have h2:w.es=w1.es:=eQ Prod.snd (tn h1);rw[h2];exact hok1.le w1 (ce hw1)
  have hm02:=hok2.m0;rw[←hw0b,←hb2];refine ro 6 O (kc (zI YS O I O) ?_);refine rr 5 O ?_;rw[hwb];by_cases g94:(decide (w.p.oF=w0.p.oF)&&decide (w.p.iN=w0.p.iN))=true
  ·refine kV (.c (zm O) (.c (zn O O) (.c (zr ZZ O) (.c (zr YI O) (.c (zJ (us:=[.str w.p.oF,bv w.p.iN]) V7 O (aa.Ej (k:=.p k) (xs:=w.cs) (HA.dm hw) ⟨.same _,.same _,Zo⟩ O)) (.c (zm O) (.c (zn O O) (.c (zr ZZ O) (.c (zr YI O) (.c (zJ (us:=[.str w0.p.oF,bv w0.p.iN]) V7 O (aa.Ej (k:=.p i) (xs:=w0.cs) (HA.dm hw0) ⟨.same _,.same _,Zo⟩ O)) (.c (S.Mp (b:=(decide (w.p.oF=w0.p.oF)&&decide (w.p.iN=w0.p.iN))) [.s [],.i 0] [.s w.p.oF,.i w.p.iN] [.s w0.p.oF,.i w0.p.iN] Qe .none O (zt O) (zt O) O O O O QM) (.c (zm O) (.c (S.move (.yes O O O (by simpa using g94)) O (zt O)) (.c (S.fI ((fun J hS hJ=>(xT hw hS hJ).jR hS)) call94 (.yes O O O (by simpa using g94)) O (zc O .nil) O O) (.c (S.aQ .none O (zt O) (zt O) (by simpa using g94)) .nil))))))))))))))) ?_;refine Ab.D.code (OK.cond O O (fun c97=>?_) (fun c97=>?_))
   ·have hG:Jt A1.plain i (w.p,w.es)=true:=by show(decide (w.p.oF=(A1.plain.p i).oF)&&decide (w.p.iN=(A1.plain.p i).iN)&&gE w.p)=true;rw[←hp0.1,←hp0.2,g94,c97];rfl
    refine ro 6 O (kc (S.dc (xs':=({w with p:={w.p with marked:=true}}:aB).cs) (.p k) SP .none (zt O) .aJ O (HA.dm hw) O O O O O) (kD (OK.y9 {w.p with marked:=true} hok2 hw O O (hok2.pl w (ce hw)) fun A3 hL3=>?_)));have hok3:=hL3.ok;obtain⟨w3,hw3,hwb3,hwp3,hwe3⟩:∃w3:aB,A3.parts[k]?=some w3/\w3.b=w.b/\w3.p={w.p with marked:=true}/\w3.es=w.es:=⟨_,hL3.at_,rfl,rfl,rfl⟩;rw[←hwb3,←hL3.b];refine OK.drawY follows (ι:=(Nat×Nat)) (0,0) 10 O (S.happR (s:=[(106,.raw (w3.eh.v w3.es.length)),(111,.own 111 1),(2111,.arr 1 [[bv A3.entries]]),(3000,.res (aa A3.mem))]) (m:=1) (rows2:=[[bv A3.entries]]) (.e k) ZY O (zt O) (hok3.IG hw3) (zt O) O O O C (by simp only[bM,Zx];have:=hok3.le _ (ce hw3);have:=hok3.m0;omega) (by simp only[bM,Zx,maxLen];have:=hok3.le _ (ce hw3);have:=hok3.m0;omega)).st (fun q=>(.cs (zm O) (.cs (zm O) (.cs (zn O O) (.cs (zr Zc O) (.cs (zH ZA O (aa.dQ (k:=.p k) (HA.dm hw3) O (.same _))) (.cs (zV Yd O O) (.cs (zn O O) (.cs (zr Zd O) (.cs (zH Z8 O (aa.dQ (k:=.bn) O O (.same _))) (.cs (zM [[_]] ZY O O O O)
     (.x ⟨O,O,O,O,Zo⟩ (.cn (zn O O) (.cn (zr Zc O) (.cn (S.dc (xs:=w3.cs) (xs':=({w3 with eh:=some q,es:=w3.es++[A3.entries]}:aB).cs) (.p k) ZA .none (zt O) (zt O) O ((HM.ai _ _ Z).trans (HA.dm hw3)) O O O O (ni w3 q _)) .nil))))))))))))))) (fun q=>?_)
    refine Ab.D.blk (Ab.D.code ?_);refine OK.KB q _ hok3 (by rw[hwe3];omega) hw3 O O fun A4 hL4=>?_
    refine OK.bU (J':=JP A1 (A1.plain.Z0 i (k+1)) (m+1)) O (JP.az _ _ _) (fun h Y w hj=>⟨A4,⟨hL4.ok,hL4.b.trans (hL3.b.trans hb2),hL4.pb.trans (hL3.pb.trans hpb2),hL4.len.trans (hL3.len.trans hlen2),by rw[hL4.plain,hL3.plain,hpl2];exact NP hpk hG hPk⟩,hj⟩) ?_;refine Ro 4 O I (Ab.D.lp ⟨k+1,I,I,O,O,O,O,O,O,Zo⟩)
   refine ro 3 O ?_;have hG:Jt A1.plain i (w.p,w.es)=false:=by show(decide (w.p.oF=(A1.plain.p i).oF)&&decide (w.p.iN=(A1.plain.p i).iN)&&gE w.p)=false;rw[←hp0.1,←hp0.2];first|(rw[rb.2 g94];rfl)|(rw[g94,c97];rfl)
   refine OK.bU (J':=JP A1 (A1.plain.Z0 i (k+1)) (m+1)) O (JP.az _ _ _) (fun h Y w hj=>⟨A2,⟨hok2,hb2,hpb2,hlen2,by rw[hpl2];exact R4 hpk hG hPk⟩,hj⟩) ?_;refine Ro 4 O I (Ab.D.lp ⟨k+1,I,I,O,O,O,O,O,O,Zo⟩)
  refine kV (.c (zm O) (.c (zn O O) (.c (zr ZZ O) (.c (zr YI O) (.c (zJ (us:=[.str w.p.oF,bv w.p.iN]) V7 O (aa.Ej (k:=.p k) (xs:=w.cs) (HA.dm hw) ⟨.same _,.same _,Zo⟩ O)) (.c (zm O) (.c (zn O O) (.c (zr ZZ O) (.c (zr YI O) (.c (zJ (us:=[.str w0.p.oF,bv w0.p.iN]) V7 O (aa.Ej (k:=.p i) (xs:=w0.cs) (HA.dm hw0) ⟨.same _,.same _,Zo⟩ O)) (.c (S.Mp (b:=(decide (w.p.oF=w0.p.oF)&&decide (w.p.iN=w0.p.iN))) [.s [],.i 0] [.s w.p.oF,.i w.p.iN] [.s w0.p.oF,.i w0.p.iN] Qe .none O (zt O) (zt O) O O O O QM) (.c (zm O) (.c (zG O (by simpa using g94)) (.c (zG O (by simpa using g94)) (.c (S.aO .none O (zt O) .aJ (by simpa using g94)) .nil))))))))))))))) ?_;refine rd 5 O ?_;have hG:Jt A1.plain i (w.p,w.es)=false:=by show(decide (w.p.oF=(A1.plain.p i).oF)&&decide (w.p.iN=(A1.plain.p i).iN)&&gE w.p)=false;rw[←hp0.1,←hp0.2];first|(rw[rb.2 g94];rfl)|(rw[g94,c97];rfl)
  refine OK.bU (J':=JP A1 (A1.plain.Z0 i (k+1)) (m+1)) O (JP.az _ _ _) (fun h Y w hj=>⟨A2,⟨hok2,hb2,hpb2,hlen2,by rw[hpl2];exact R4 hpk hG hPk⟩,hj⟩) ?_;refine Ro 4 O I (Ab.D.lp ⟨k+1,I,I,O,O,O,O,O,O,Zo⟩)
 refine ro 7 O ?_;refine OK.bU (J':=JP A (yQ rest A.plain i).1 (m+1)) O (JP.az _ _ _) (fun h Y w hj=>hj.elim fun A' h1=>⟨A',⟨h1.1.1,h1.1.2.1.trans hL.b,h1.1.2.2.1.trans hL.pb,h1.1.2.2.2.1.trans hL.len,h1.1.2.2.2.2.trans ((Rl _ _ (by show k=(A1.parts.map _).length;rw[Zx];omega)).trans (by rw[hT,hpl1];rfl))⟩,h1.2⟩) ?_;refine OK.ret ⟨aA.r1 (zo O O) ?_,O,Zo⟩;rw[hT];try rfl
def Sa{A:HA}{m:Int}(hok:A.Ok m)(hm:m+2<=1000)(hce:yP A.jq){n:Int}{rest:ba}(hrl:rest.length<=600):dU prog 120 [] [.raw (pV A.b),.agg (Words.mk [n] [rest]).cs] [(3000,.res (aa A.mem))] [(3000,.res (JX A.b (cK A.plain n (yQ rest)).1 (m+2)))] (bv (cK A.plain n (yQ rest)).2):=by
 refine cH func120 O fun hT=>?_
 refine ro 8 O (OK.freezeP [3] [(3,.ptr 3 0),(1003,.box (Words.mk [n] [rest]).cs),(3000,.res (aa A.mem))] 2 O O O O O O ⟨O,O,O,Zo⟩ O (OK.freezeP [] [(2,.b5 [.raw (pV A.b)]),(3000,.res (aa A.mem))] 3 O O O O O O ⟨O,O,Zo⟩ O (ro 3 O (kc (S.s5 .none O (zt O) (zt O) O O) ?_))));refine RK.c (S.ik (((tG hok hm (n:=n) (tx:=[rest]) (f:=183) (caps:=[.b5 (Words.mk [n] [rest]).cs,.b5 [.raw (pV A.b)]]) call183 O O (ac:=yQ rest) (fun i v hv _=>TE hok hm hce hrl hv) (fun i=>PM A rest i)).jR hT (aa.az _))) (JX.az _ _ _) call179 .none O (zc O (zc O (zc O .nil))) O O) ?_;refine rr 3 O (OK.ret ⟨aA.r1 (zo O O) ?_,O,Zo⟩);rfl
def eff_9:lG 9:=fun hok hm _ hc _ hl=>Sa hok hm hc hl.1
def Qd{k:Nat}(h:k<13):lG k:=by
 match k,h with
 |0,_=>exact @eff_0
 |1,_=>exact @HZ
 |2,_=>exact @H6
 |3,_=>exact @H7
 |4,_=>exact @H8
 |5,_=>exact @eff_5
 |6,_=>exact @HY
 |7,_=>exact @eff_7
 |8,_=>exact @eff_8
 |9,_=>exact @eff_9
 |10,_=>exact @GC
 |11,_=>exact @GD
 |12,_=>exact @GF
def Ni{l:List Entry}(h:∀x∈l,x.text.length<=100000):sS l:=fun x hx=>⟨h x hx,fun _ hk=>Qd (eE hk).1⟩
