import Derived.Test.YtkkbjdenehfpaaaGreatDoorRoN
set_option linter.all false
set_option maxHeartbeats 4000000
open List renaming length->R
namespace Go.Proofs.Z_
open Go.Ab Tryz
set_option maxRecDepth 9999
variable{n:Net}
theorem ef(h:10<R n.ZU\/80<R n.plan):NK n=false:=by
 unfold NK;grind
def few_T(h:R n.ZU<=10)(a:R n.plan<=80):NK n=n.ZU.all λp=>decide (R p.name<=20):=by
 simp_all[NK]
variable{i:Nat}
def A8(h:i<R n.ZU):((n.ZU.drop i).all λp:Ze=>decide<|R p.name<=20)=(decide (R n.ZU[i].name<=20)&&(n.ZU.drop<|i+1).all λp:Ze=>decide<|R p.name<=20):=by
 rw[np h,so]
def tK:Ct prog 6 [.agg n.cs]<|.bool<|NK n:=by
 refine cI func6 O<|ro 11 O<|kc (zk RL O)<|rr 2 O<|RK.ZS (t:=8) O (λh=>?_) λh=>?_
 ·have a:NK n=false:=ef<|.inl I;refine rr 13 O<|kR O O ?_;rw[a];try rfl
 refine rr 7 O<|kB O (λg=>?_) λg=>?_
 ·have a:NK n=false:=ef<|.inr I;refine ro 5 O<|kR O O ?_;rw[a];try rfl
 have d:=few_T (n:=n) I I;refine ro 9 O ?_;refine OK.loop (G:=Nat) [1] (λi=>[(1,.ptr 1 0),(1001,.box n.cs),(3,bv i)]) (λi=>i<=R n.ZU/\NK n=((n.ZU.drop i).all λp:Ze=>decide<|R p.name<=20)) (λi=>R n.ZU - i) 0 ⟨Zr _,d⟩ ⟨O,O,O,Zo⟩ (λ_=>O) ?_;rintro i ⟨hi,c⟩;refine ro 6 O<|kc (zk RL O)<|rr 3 O<|kB O (λf=>?_) λf=>?_
 ·have b:i<R n.ZU:=by omega
  refine ro 9 O<|kc (zI RL O I O) ?_;refine rr 6 O<|kB O (λe=>?_) λe=>?_
  ·have a:NK n=false:=by rw[c,A8 b,Zy (show¬R n.ZU[i].name<=20 by omega),tp]
   refine ro 5 O<|kR O O ?_;rw[a];try rfl
  refine Ro 8 O I (Ab.D.lp ⟨i+1,⟨by omega,by rw[c,A8 b,Zz (show R n.ZU[i].name<=20 by omega),tn]⟩,I,O,O,O,Zo⟩)
 have a:NK n=true:=by rw[c,show i=R n.ZU by omega,da];rfl
 refine ro 7 O<|kR O O ?_;rw[a];try rfl
def Tj(b:R n.ZU<=100000):Ct prog 11 [.agg n.cs]<|.agg n.cs:=by
 refine cI func11 O<|ro 7 O ?_;refine kV (.c (zM [] fJ O O O O)<|.c (zf NL O)<|.c (zl CG O O O O)<|.c (S.V2 fJ .none O (zt O) O N (zt O) (by intro q a;obtain⟨p,_,rfl⟩:=rx.1 a;rfl) N (by simp only[Zx];omega)<|by simp only[Zx,maxLen];omega)<|.c (zf mO O)<|.c (zl T6 O O O O)<|.c (zf yx O)<|.c (zl YK O O O O)<|.c (zf SJ O)<|.c (zL kK O O O O)<|.c (zU bu26 O O)<|.c (zS Pn O O O O O O) .nil) ?_;refine Ab.D.code ?_;refine OK.ret<|Y3.r1 (.XU O O O O Pn O<|.k (.own O O N)<|zw O) ?_;rfl
def State.zero:State:=⟨[],[],[],[],⟨0,0,[]⟩⟩
def Xi(n:Net)(l:List Entry):State:=if(Z2 n l).2.2≠0 then State.zero else(Z2 n l).1.st
theorem bJ(h:(U4 n).2=0):UI n=true:=by
 have a:=Bz h;have b:=(J6 h).2;unfold OL at a;rw[b,ZW,Zm C]at a;grind [ZW,Z8]
def fZ(h:(U4 n).2=0):(0<=n.lo/\n.lo<=1000000000)/\(0<=n.hi/\n.hi<=1000000000)/\Y5 n.limit=true:=by
 have d:=bJ h;unfold UI at d;rw[Zw,Zw]at d;have a:=pf d.1;have b:=pf d.2.1;have c:=pf d.2.2;exact⟨I,I,Zz a⟩
theorem gC(H:Z6)(k:Nat)(L:Sv):(WQ k H L).1.entries=H.entries/\(WQ k H L).1.time=H.time:=by
 have a:∀(n:Int)(f:Z6->Nat->HE),(∀i,(f H i).1.entries=H.entries/\(f H i).1.time=H.time)->(YJ H n f).1.entries=H.entries/\(YJ H n f).1.time=H.time:=λn f b=>by
  unfold YJ;split
  ·simp
  rename_i i _;split
  ·exact b i
  grind
 unfold WQ;split
 ·simp
 ·unfold W_;grind
 ·unfold Yl;repeat' split
  all_goals exact⟨rfl,rfl⟩
 ·unfold Sz;split<;>exact⟨rfl,rfl⟩
 ·exact a _ _ λi=>by unfold Wi;split<;>exact⟨rfl,rfl⟩
 ·exact a _ _ λi=>by unfold Tu;split<;>exact⟨rfl,rfl⟩
 ·unfold Tw;grind
 ·unfold XZ;grind
 ·exact a _ _ λi=>by unfold WU;split<;>exact⟨rfl,rfl⟩
 ·refine a _ _ λi=>?_
  unfold Xz;dsimp only
  repeat' split
  all_goals exact⟨rfl,rfl⟩
 ·unfold XX;grind
 ·exact a _ _ λi=>by unfold Xe;grind
 unfold Wo;grind
variable{x:Entry}{H:Z6}
def Dw(h:(Za H x).2=0):(Za H x).1.entries=H.entries+1/\(Za H x).1.time=x.at_:=by
 unfold Za at h⊢;by_cases a:H.head x=0
 ·rw[Zm<|Zp a]at h⊢;obtain⟨i,hi⟩:=sk.1 (HV a).2.1;obtain⟨k,b⟩:=sk.1 (HV a).2.2.2.2.2.2;rw[hi,b]at h⊢;dsimp only at h⊢;by_cases d:H.tail x i k=0
  ·rw[Zm<|Zp d]at h⊢;by_cases c:(WQ k H (Yn x.text).1).2=0
   ·rw[Zm<|Zp c];exact⟨rn (· +1) (gC ..).1,rfl⟩
   simp_all
  simp_all
 simp_all
variable{l:List Entry}
theorem C7(a:(U4 n).2=0)(h:60<R l):Z2 n l=(Z6.init n (ZO n.plan).1,0,8):=by
 grind [L_,N8,Rf,Z2]
theorem Jn(a:(U4 n).2=0)(h:¬60<R l):Z2 n l=runT (Z6.init n (ZO n.plan).1) 0 l:=by
 have e:L_ n l=0:=by unfold L_;rw[a,N8,Zz I];rfl
 simp_all[Z2]
def lI{i e:Int}(h:Z2 n l=(H,i,e))(a:e≠0):Xi n l=State.zero:=by simp_all[Xi]
def back_0{i:Int}(h:Z2 n l=(H,i,0)):Xi n l=H.st:=by simp_all[Xi]
def Cg(c:R n.plan<=1000)(d:(U4 n).2=0)(hs:HS H)(hh:H.XR=n)(a:H.plan=(ZO n.plan).1)(e:H.entries<60)(b:R x.text<=100000):Ct prog 65 [.agg n.cs,.agg H.st.cs,.agg x.cs,bv H.time]<|.Yy [.agg (Za H x).1.st.cs,bv (Za H x).2]:=by
 have k:=AA (n:=n) c (fZ d) (a▸hs.good) (a▸hs.mods) (x:=x) (last:=H.time) b;rw[←kj hs hh a x e]at k;exact k
def Jk(q:R n.plan<=1000)(f:(U4 n).2=0)(r:∀x∈l,R x.text<=100000):Ct prog 34 [.agg n.cs,.sl<|l.map Entry.cs]<|.Yy [.agg (Xi n l).cs,bv (Z2 n l).2.1,bv (Z2 n l).2.2]:=by
 refine cI func34 O<|OK.XF (vi:=l.map Entry.cs) (t:=1) O O λqk=>?_;rw[Zx]at qk;unfold maxLen at qk;refine ro 17 O<|kc (zk Vy O)<|rr 3 O<|kB O (λo=>?_) λo=>?_
 ·have d:=C7 f (show 60<R l by omega);have hB:=lI d C;refine ro 8 O<|OK.ret<|Y3.r3 (.XU O O O O Zk O<|.k .ZM<|.k .ZM<|.k .ZM<|.k .ZM<|.k (.same O)<|.k (.same O)<|.k .ZM .z) (zo O O) (zo O O) ?_;rw[d,hB];try rfl
 refine ro 14 O<|OK.QC 7 0 O O O O<|OK.QC 7 1 O O O O<|OK.QC 7 2 O O O O<|OK.QC 7 3 O O O O<|OK.QC 7 6 O O O O ?_;refine OK.We [2,4,7] (λ(i:Nat)(H:Z6)=>[(1,.sl<|l.map Entry.cs),(2,.ptr 2 0),(1002,.box n.cs),(4,.ptr 4 0),(1004,.box [.ZM,.ZM,.ZM,.ZM,bv 0,bv 0,.ZM]),(7,.ptr 7 0),(1007,.box H.st.cs),(8,bv H.time),(9,bv i)]) (λi H=>i<=R l/\Z2 n l=runT H i (l.drop i)/\HS H/\H.XR=n/\H.plan=(ZO n.plan).1/\H.entries=i) (λi H=>R l - i) 0 ((Z6.init n (ZO n.plan).1)) ⟨Zr _,Jn f I,HS.init<|Sx (J6 f).2,O,O,O⟩ ⟨O,O,O,O,O,O,O,O,O,Zo⟩ (λ_ _=>O) ?_;rintro i H ⟨hi,g,hs,hh,p,h⟩;refine ro 5 O<|kc (zk Vy O)<|rr 3 O<|kB O (λj=>?_) λj=>?_
 ·have a:i<R l:=by omega
  refine ro 5 O ?_;refine kV (.c (zL Pn O O O O)<|.c (zL Zk O O O O)<|.c (zm O)<|.c (zm O)<|.c (zI Vy O a O)<|.c (S.Vj WC .none O (zt O) O O)<|.c (zm O)<|.c (zK (Cg q f hs hh p I<|r _<|Zt a) call65 O)<|.c (zm O)<|.c (zX O O O)<|.c (zX O O O)<|.c (zA (c:=10) fH O)<|.c (zS Zk O O O O O O)<|.c (za O) .nil) ?_;refine rd 8 O<|kB O (λb=>?_) λb=>?_
  ·have d:=g.trans<|Cy a b;have hB:=lI d b;refine kr<|kc (zU bu43 O O)<|rr 7 O<|OK.ret<|Y3.r3 (.XU O O O O Zk O<|.k .ZM<|.k .ZM<|.k .ZM<|.k .ZM<|.k (.same O)<|.k (.same O)<|.k .ZM .z) (zo O O) (zo O O) ?_;rw[d,hB];try rfl
  have e:=Zu.1 b;refine OK.skip<|Ab.D.code<|kV (.c (zL Zk O O O O)<|.c (zm O)<|.c (zm O)<|.c (zI Vy O a O)<|.c (S.field Gt .none O (zt O) O)<|.c (zV YK O O)<|.c (zS Zk O O O O O O)<|.c (za O) .nil)<|Rd 7 O I ?_;refine Ab.D.lp ⟨i+1,(Za H l[i]).1,⟨by omega,by rw[g,xm a e],hs.enter _,by rw[(UY _ _).2];exact hh,by rw[(UY _ _).1];exact p,by rw[(Dw e).1,h];rfl⟩,I,O,O,O,O,O,O,O,(OT (Dw e).2.symm),O,Zo⟩
 have d:Z2 n l=(H,0,0):=by rw[g,show i=R l by omega,da];rfl
 have hB:=back_0 d;refine ro 10 O<|OK.ret<|Y3.r3 (zy O O Zk O) (zo O O) (zo O O) ?_;rw[d,hB];try rfl
def u_(H:Z6)(qe:ba):Int:=match(H.AI qe).bind (H.ZF[·]?)with|some q=>q.1.YD+1|none=>1
def B0(H:Z6)(vk:ba):Int:=ZW [(VJ vk).2,Z8 (decide ((R H.ZF:Int)<6)) 16]
variable{qe vk:ba}
def uI(h:YA qe=false):XX H qe vk=(H,4):=Zn h
theorem uJ(h:YA qe=true)(a:B0 H vk≠0):XX H qe vk=(H,B0 H vk):=by
 unfold XX;rw[Zm<|by grind];exact Zn a
theorem uH(h:YA qe=true)(a:B0 H vk=0):XX H qe vk=({H with ZF:=H.ZF++[(⟨qe,u_ H qe,(VJ vk).1⟩,H.entries)]},0):=by
 unfold XX;rw[Zm<|by grind];exact Zm<|Zp a
def sP{l:ba}(h:l.all X6=true):Ra l:=λb a=>by
 have c:=bj.1 h b a;have d:=pf (show decide (32<=(b.toNat:Int)/\(b.toNat:Int)<=126)=true from c);omega
variable{A:HA}{m:Int}
def GV(a:A.Ok m)(X:m+2<=1000)(hrl:R vk<=600)(P:Ra vk):U_ prog 178 [] [.raw<|pV A.b,.agg (Words.mk [] [qe,vk]).cs] [(3000,.res<|Z9 A.mem)] [(3000,.res<|JX A.b (XX A.plain qe vk).1<|m+2)]<|bv (XX A.plain qe vk).2:=by
 refine cH func178 O λf=>?_
 have hen:=a.en;have hlv:=a.lv;have hm0:=a.m0;have K:=HA.L6 A qe;have t:(R A.plain.ZF:Int)=R A.ZF:=by show(R (A.ZF.map _):Int)=_;rw[Zx]
 refine ro 10 O ?_;refine kc (S.Zi (n:=0) X1 .none O (zt O) (.Zg O) O (by exact aθ _) O) ?_;refine rr 8 O<|kc (zK QX call106 O)<|kc (S.not .none O<|zt O)<|kD<|OK.cond O O (λB=>?_) λB=>?_
 ·have e:YA qe=false:=by simpa using B
  have f:=uI (H:=A.plain) (vk:=vk) e;refine ro 5 O ?_;refine OK.YS (J':=JX A.b (XX A.plain qe vk).1<|m+2) O (JX.ZV _ _ _) (λh Y w M=>HA.jx a I X (by rw[f]) M) ?_;refine OK.ret ⟨Y3.r1 (zo O O) ?_,O,Zo⟩;rw[f]
 have e:YA qe=true:=by simpa using B
 refine ro 6 O ?_;refine kc (S.Zi (n:=1) X1 .none O (zt O) (.Zg O) O (by exact Nat.one_lt_two) O)<|kc (zV T6 O O)<|kc (S.Xo (Kr (s:=vk) I P) f call228 .none O (zc O .nil) O) ?_;refine rr 14 O<|kc (zH (u:=.sl<|A.ZF.map P6) Ak O<|Z9.Xh (k:=.Y1) O O<|.sl a.vs)<|kc (zk va O)<|kc (S.lss .none O (zt O)<|.Zg O)<|kc (zK ZT call68 O) ?_;refine RK.c (zM [[_],[_]] V6 O O O O)<|kc (S.XY (YI (l:=[_,_])) call67 .none O (zc O .nil) (.cons (.p (.own O O) O) .nil) O) ?_;refine rr 9 O<|kB O (λz=>?_) λz=>?_
 ·have y:B0 A.plain vk≠0:=by unfold B0;rw[t];exact z
  have f:=uJ e y;refine ro 6 O ?_;refine OK.YS (J':=JX A.b (XX A.plain qe vk).1<|m+2) O (JX.ZV _ _ _) (λh Y w M=>HA.jx a I X (by rw[f]) M) ?_;refine OK.ret ⟨Y3.r1 (zo O O) ?_,O,Zo⟩;rw[f];refine YL ?_;unfold B0;rw[t]
 have y:B0 A.plain vk=0:=by unfold B0;rw[t];exact Zu.1 z
 have f:=uH e y;refine ro 7 O ?_;refine OK.join (G:=Int) [] (λd=>[(0,.raw<|pV A.b),(5,.str qe),(6,.sl<|(VJ vk).1.map Ph.cs),(8,bv d),(3000,.res<|Z9 A.mem)]) (λd=>d=u_ A.plain qe/\0<=d/\d<=m+1) (λ_=>O) ?_ ?_
 ·refine ro 4 O<|kc (S.Wc ((λJ hS hJ=>(NT a (n:=qe) hS hJ).Tq hS)) call96 .none O (zc O<|zc O .nil) O O) ?_;refine rr 6 O<|kc (S.uf underlying157 .none O<|zt O)<|kD<|OK.cond O O (λj=>?_) λj=>?_
  ·obtain⟨k,hk⟩:∃k,W9 (λv=>decide<|v.r.name=qe) A.ZF=some k:=sk.1<|(En _ _).symm.trans j;obtain⟨hk1,_⟩:=VK hk;obtain⟨N,g⟩:=Yh hk1;have hvb:=a.vb N<|mr g;rw[Vx hk<|HA.vb? g];have o:u_ A.plain qe=N.r.YD+1:=by unfold u_;rw[K,hk];simp only[bφ,HA.LU g]
   refine ro 6 O ?_;refine kc (zH YK O<|Z9.Xh (k:=.v k) (HA.sv g) O<|.same _) ?_;refine Rr 3 O I<|Ab.D.lp ⟨(N.r.YD+1),⟨o.symm,I,I⟩,O,O,O,O,O,Zo⟩
  have hN:W9 (λv=>decide<|v.r.name=qe) A.ZF=none:=by
   cases h:W9 (λv=>decide<|v.r.name=qe) A.ZF with
   |none=>rfl
   |some k=>rw[h]at j;exact absurd j F
  have o:u_ A.plain qe=1:=by unfold u_;rw[K,hN];rfl
  refine OK.skip (Ab.D.lp ⟨1,⟨o.symm,I,I⟩,O,O,O,O,O,Zo⟩)
 rintro d ⟨T,W,V⟩;refine ro 4 O<|kc (zU bu50 O O)<|rr 5 O ?_;refine OK.Sd follows (ι:=(Nat×Nat×Nat)) (0,0,0) 15 O (S.ey (s:=[(58,.raw<|A.vh.v<|R A.ZF),(68,.own 68 1),(2068,.W8 1 [] [.Wt 67 1 0] []),(2067,.W8 4 [] [.str qe,bv d,.sl<|(VJ vk).1.map Ph.cs,bv A.entries] []),(3000,.res<|Z9 A.mem)]) (qs:=[.str qe,bv d,.sl<|(VJ vk).1.map Ph.cs,bv A.entries]) .vs (.v<|R A.ZF) ai151 O (zt O) a.vs Z (zt O) O O O O O O (by simp only[Zx];omega)<|by simp only[Zx,maxLen];omega).st (λq=>(.cs (zm O) (.cs (zm O) (.cs (zn O O) (.cs (zr vS O) (.cs (zH Ak O<|Z9.Xh (k:=.Y1) O O<|.same _) (.cs (zL Q3 O O O O) (.cs (zm O) (.cs (zU aK O O) (.cs (zm O) (.cs (zn O O) (.cs (zr TY O) (.cs (zH YK O<|Z9.Xh (k:=.Y1) O O<|.same _) (.cs (zU bu162 O O) (.cs (S.j8 (k:=67) O .none O (zt O) O) (.cs (S.Ig (k:=68) ai151 .none O (zt O) O)
  (.x ⟨O,O,O,O,O,Zo⟩<|.cn (zn O O)<|.cn (zr vS O)<|.cn (S.Yf (xs:=A.cs) (xs':=(A.Ef ⟨q.1,⟨qe,d,(VJ vk).1⟩,A.entries⟩ q.2).cs) (.Y1) Ak .none (zt O) (zt O) O ((HM.Z0 _ _ Z).trans<|(HM.Z0 _ _ Z).trans A.atH) O O O O<|iS A ⟨q.1,⟨qe,d,(VJ vk).1⟩,A.entries⟩ q.2) .nil))))))))))))))))) λq=>?_
 refine Ab.D.code<|kO<|OK.Ef ⟨qe,d,(VJ vk).1⟩ a I O ⟨W,V⟩ (Ma e) λA1 L hb1 C=>?_;refine ro 4 O ?_;refine OK.YS (J':=JX A.b (XX A.plain qe vk).1<|m+2) O (JX.ZV _ _ _) (λh Y w M=>Sg L I X hb1 (by rw[f,C,T];rfl) M) ?_;refine OK.ret ⟨Y3.r1 (zo O O) ?_,O,Zo⟩;rw[f]
def mB:Tl 10:=λa c _ _ _ b=>GV a c b.1<|sP b.2.2.2
def mN(h:NK n=true):R n.ZU<=10/\R n.plan<=80:=by
 simp_all[NK]
def UD(l:bd):ba:=if R l=0 then [45]else Lib.join (l.map Lib.itoa) [32]
def Il(qe:ba)(ok:Bool):Int:=ZW [Z8 (YA qe) 4,Z8 ok 6]
def PK(qe:ba)(n:Int)(ok:Bool):ba×Int:=if Il qe ok≠0 then([],Il qe ok)else(UD [n],0)
def Z6.numbers(H:Z6)(g:Part->Bool):bd:=(H.parts.filter λq=>g q.1).map λq=>q.1.num
def HA.XK(A:HA)(g:Part->Bool):A.plain.numbers g=R1 g A.parts:=by
 show((A.parts.map λv=>(v.p,v.es)).filter λq=>g q.1).map (λq=>q.1.num)=_;rw[List.filter_map,fw];rfl
def i6(p:Part):ba:=Lib.join [p.Yr,UD [p.YD],p.Yb,UD [p.place,p.verdict]] [32]
def Z6.ZA(H:Z6)(qe:ba):Int×Bool:=match(H.Ob qe).bind (H.Z5[·]?)with|some q=>(q.1.ZA,true)|none=>(0,false)
def Z6.PL(H:Z6)(qe:ba):Int×Bool:=match(H.AI qe).bind (H.ZF[·]?)with|some q=>(q.1.YD,true)|none=>(0,false)
def Va(H:Z6)(q:ba):ba×Int:=
 if q=[99,111,117,110,116]then(UD [H.entries],0)
 else if q=[105,110,115,105,100,101]then(UD<|H.numbers Yu,0)
 else if(ZQ 32 q).2.2=false then([],7)
 else if(ZQ 32 q).1=[112,97,114,116]then
  if YB (ZQ 32 q).2.1 7=false then([],7)
  else if J9 (YZ (ZQ 32 q).2.1) (H.U1<|YZ (ZQ 32 q).2.1).isSome≠0 then([],J9 (YZ (ZQ 32 q).2.1) (H.U1<|YZ (ZQ 32 q).2.1).isSome)
  else(i6<|H.p<|(H.U1<|YZ (ZQ 32 q).2.1).getD 0,0)
 else if(ZQ 32 q).1=[115,104,111,116,115]then PK (ZQ 32 q).2.1 (H.ZA (ZQ 32 q).2.1).1 (H.ZA (ZQ 32 q).2.1).2
 else if(ZQ 32 q).1=[118,101,114,115,105,111,110]then PK (ZQ 32 q).2.1 (H.PL (ZQ 32 q).2.1).1 (H.PL (ZQ 32 q).2.1).2
 else([],7)
def lz(n:Net)(l:List Entry)(q:ba):ba×Int:=if(Z2 n l).2.2≠0 then([],(Z2 n l).2.2)else Va (Z2 n l).1 q
structure R6 where
 started:Int
 under:Int
 inside:Int
 good:Int
 bad:Int
 cut:Int
 deriving DecidableEq
def Nn(n:Net)(l:List Entry)(num:Int):bd×Int:=if Wm n l num≠0 then([],Wm n l num)else
 ((((Z2 n l).1.parts[((Z2 n l).1.U1 num).getD 0]?.map (·.2)).getD []).mergeSort λx y=>decide<|x<=y,0)
def wC{n:Int}{o:Bool}(h:J9 n o=0):o=true:=by
 unfold J9 at h;cases o
 ·exfalso;by_cases a:0<=n/\n<=1000000
  ·rw[Zz a]at h;exact absurd h C
  rw[Zy a]at h;exact absurd h C
 rfl
theorem LD{sep:ba}{B:Nat}:∀{l:List ba},(∀w∈l,R w<=B)->R (Lib.join l sep)<=R l * (B+R sep):=by
 intro l
 induction l with
 |nil=>simp[Lib.join]
 |cons x r a=>
  intro h;have b:=h x rv;have c:=a λw hw=>h w<|rl _ hw
  cases r with
  |nil=>grind [Lib.join,List.intercalate,List.intersperse]
  |cons y r=>
   grind [join2,Nat.succ_mul]
theorem FE{l:bd}(h:∀n∈l,IntKind.i64.wrap n=n):R (UD l)<=1+R l * 22:=by
 unfold UD;split
 ·simp
 have:=LD (sep:=[32]) (B:=21) (l:=l.map Lib.itoa) λw hw=>by obtain⟨n,a,rfl⟩:=rx.1 hw;exact OE (h n a)
 grind
variable{f:Nat}{J:bm}
def dh{E:Env}(n:De E.P f):dF E f [.raw<|.slice none 0 0] (.Yy []) J J:=by
 intro h Y w vs _ hw o l a;obtain⟨v,g,rfl,k,c⟩:=a.YU;have b:=Z1.YN c;subst b;have d:v=.slice none 0 0:=k;subst d;refine(n.none none 0 w).mono ?_;rintro en q ⟨rfl,rfl⟩;exact⟨_,h,Y,rfl,⟨WV.refl _ _ _,Mem.le_refl _,λp v e=>.inl e,hw,o,λ_ j _=>j⟩,l,⟨[],rfl,Zo⟩⟩
def pE{h:Mem}{Y:Nat->Prop}{w:World}(f:Z9 A.mem h Y w){v:ZN}(a:A.parts[i]?=some v):IntKind.i64.wrap v.p.YD=v.p.YD/\IntKind.i64.wrap v.p.place=v.p.place/\IntKind.i64.wrap v.p.verdict=v.p.verdict:=by
 obtain⟨_,_,T,vs,_,j⟩:=f.1 (.p i) v.b _<|HA.XW a;have g:∀(k:Nat)(n:Int),v.cs[k]?=some (bv n)->IntKind.i64.wrap n=n:=λk n e=>by
  obtain⟨u,_,d⟩:=j.WN e;exact(Xq<|ZR.WB (c:=ZL h) d).2
 exact⟨g 2 _ rfl,g 5 _ rfl,g 7 _ rfl⟩
theorem BN{p:Part}(h:R p.Yr<=12/\R p.Yb<=12)(a:IntKind.i64.wrap p.YD=p.YD/\IntKind.i64.wrap p.place=p.place/\IntKind.i64.wrap p.verdict=p.verdict):R (Lib.join [p.Yr,UD [p.YD],p.Yb,UD [p.place,p.verdict]] [32])<=140737488355328:=by
 have d:=FE (l:=[p.YD]) (by simp_all);have c:=FE (l:=[p.place,p.verdict]) (by simp_all);have b:=LD (sep:=[32]) (B:=100) (l:=[p.Yr,UD [p.YD],p.Yb,UD [p.place,p.verdict]]) (by
  grind)
 grind
variable{num:Int}
def HO(h:Wm n l num=0):(Z2 n l).2.2=0:=by
 unfold Wm at h;omega
def Ba(h:Wm n l num=0):∃i,(Z2 n l).1.U1 num=some i:=by
 have h0:=HO h;unfold Wm at h;rw[Zm I]at h;exact sk.1<|wC h
theorem g_{M:HM Key}{k:Key}{b vz n:Nat}{l:bd}(e:M k=some (b,.row 1 vz<|l.map λn=>[X.int .i64 n]))(c:R l=n):CX M (.raw<|.slice (some ⟨b,0,none⟩) n vz)<|ints l:=by
 subst c;have d:∀l:bd,Z1 (Z1<|Fz M) (l.map λn=>[X.int .i64 n]) (l.map λn=>[X.int .i64 n]):=by
  intro l
  induction l with
  |nil=>trivial
  |cons x l a=>exact⟨⟨.same _ rfl,Zo⟩,a⟩
 have h:=Fz.ofRow (M:=M) (k:=k) (hd:=.slice (some ⟨b,0,none⟩) (R<|l.map λn=>[X.int .i64 n]) vz) (sz:=1) (.inr ⟨b,vz,rfl,e⟩) (d l) (λr f=>by grind);rw[Zx]at h;exact h
def S1{l:bd}(r:R l<=1000):Q7 prog 87 [ints l]<|.str<|UD l:=by
 refine cT func87 O λo=>?_
 refine ro 9 O<|kc (zk X9 O)<|rr 3 O<|kB O (λq=>?_) λq=>?_
 ·have h0:R l=0:=by omega
  refine ro 5 O<|kR O O ?_;unfold UD;rw[Zn h0]
 have h0:¬R l=0:=by omega
 refine ro 4 O<|RK.c (S.XG (k:=3) (sz:=1) .none O)<|rr 6 O<|kc (zk X9 O)<|rr 4 O ?_;refine OK.loop (G:=Nat) [3] (λi=>[(3,.own 3 i),(2003,.arr 1<|((l.take i).map Lib.itoa).map λs=>[.str s]),(9,ints l),(10,bv<|R l),(11,bv i)]) (λi=>i<=R l/\∀n∈l.take i,IntKind.i64.wrap n=n) (λi=>R l - i) 0 ⟨Zr _,λn h=>by simp at h⟩ ⟨(ZH N),(ZX N),O,O,O,Zo⟩ (λ_=>O) ?_;rintro i ⟨hi,hw⟩;refine ro 6 O<|kB O (λj=>?_) λj=>?_
 ·have f:i<R l:=by omega
  refine ro 6 O<|kc (zI X9 O I O) ?_;refine rr 4 O<|OK.intB (t:=5) O O λd=>?_;have a:∀n∈l.take (i+1),IntKind.i64.wrap n=n:=λn b=>by
   rw[mv f,List.mem_append,pi]at b;rcases b with b|rfl
   ·exact hw n b
   exact d
  refine ro 3 O<|kc (S.Xo (N9 d) o call81 .none O (zc O .nil) O) ?_;refine RK.c (zM [[_]] Qf O O O O) ?_;refine kc (zP Qf O O (by simp;omega) N I<|by simp only[maxLen];omega) ?_;refine Rr 8 O I ?_;refine Ab.D.lp ⟨i+1,⟨by omega,a⟩,I,(ZH I),(ZX<|by rw[mv f,ne,ne];rfl),O,O,O,Zo⟩
 refine ro 3 O ?_;have g:i=R l:=by omega
 rw[g,List.take_length];rw[g,List.take_length]at hw;have e:=LD (sep:=[32]) (B:=21) (l:=l.map Lib.itoa) λw a=>by obtain⟨n,b,rfl⟩:=rx.1 a;exact OE<|hw n b
 rw[Zx]at e;simp only[tt,aυ]at e;refine OK.R3<|jm O ?_;refine kc (S.XY (fU.ct (l:=l.map Lib.itoa) (sep:=[32]) (by rw[Zx];omega) I) call57 .none O (zc O<|.cons (.Vh (l:=[32]) O C) .nil) (.cons (.p (.own O F) O)<|.cons (.same O) .nil) O) ?_;refine rr 3 O<|kR O O ?_;unfold UD;rw[Zm h0]
def F0(h:Y2 J){vt:bi}(a:∀vj w,(callFunc f vj).run prog w=.ok (.enter f vj) w)(e:vt.all (Np [])=true)(d:vt.all (λu=>!Yx u)=true){v:Int}{ok:Bool}(j:Vi prog f [] (.str qe::vt) [(3000,.res J)] [(3000,.res J)]<|.Yy [.int .i64 v,.bool ok]):U_ prog 92 [] [.str qe,.fn f vt] [(3000,.res J)] [(3000,.res J)]<|.Yy [.str (PK qe v ok).1,.int .i64 (PK qe v ok).2]:=by
 refine cH func92 O λk=>?_
 refine ro 10 O<|RK.c (S.Gs ((j.Tq h)) h a .none O (zt O) (zc O .nil) O O e d) ?_;refine rr 11 O<|kc (zK QX call106 O)<|kc (zK ZT call68 O)<|jm O<|kc (zK ZT call68 O) ?_;refine RK.c (zM [[_],[_]] V6 O O O O)<|kc (S.XY (YI (l:=[_,_])) call67 .none O (zc O .nil) (.cons (.p (.own O O) O) .nil) O) ?_;refine rr 9 O<|kB O (λb=>?_) λb=>?_
 ·have g:PK qe v ok=([],Il qe ok):=by unfold PK;rw[Zn (show Il qe ok≠0 from b)]
  refine ro 7 O<|OK.ret ⟨Y3.r2 (zo O O) (zo O O) ?_,O,Zo⟩;rw[g];rfl
 have g:PK qe v ok=(UD [v],0):=by unfold PK;rw[Zm (show¬Il qe ok≠0 from b)]
 refine ro 5 O ?_;refine RK.c (zM [[_]] Xr O O O O)<|kc (S.Dl (S1 (l:=[v]) F) k call87 .none O (zc O .nil) (.cons (.p (.own O O) O) .nil) O) ?_;refine rr 4 O<|OK.ret ⟨Y3.r2 (zo O O) (zo O O) ?_,O,Zo⟩;rw[g]
def B6(g:A.Ok m)(n:Y2 J)(o:∀h Y w,J h Y w->Z9 A.mem h Y w):Vi prog 93 [] [.str qe,.Yt [.raw<|pV A.b]] [(3000,.res J)] [(3000,.res J)]<|.Yy [.int .i64 (A.plain.ZA qe).1,.bool (A.plain.ZA qe).2]:=by
 refine cG func93 O λ{_ _}=>?_
 have e:=HA.OY A qe;refine kr<|ji O O<|jb O<|kq<|kc (zV Nc O O)<|jm O<|RK.c (S.VO (((M8 g n o).Tq n)) n call94 .none O (zc O<|zc O .nil) O O)<|ja O<|kD<|kO<|kr ?_;refine jm O<|kc (S.Km underlying163 .none O<|zt O)<|kD<|OK.cond O O (λd=>?_) λd=>?_
 ·have p:=RB d;have f:A.plain.ZA qe=(0,false):=by unfold Z6.ZA;rw[e,p];rfl
  refine kr<|ji O O<|jb O<|kD<|OK.ret ⟨Y3.r2 (zo O O) (zo O O) ?_,O,Zo⟩;rw[f]
 obtain⟨j,l⟩:=Ta d;obtain⟨q,a⟩:=Yh (Y8 l).1;rw[Vx l<|HA.cb? a];have f:A.plain.ZA qe=(q.c.ZA,true):=by unfold Z6.ZA;rw[e,l];simp only[bφ,HA.Ua a]
 refine OK.skip<|kp<|jm O<|kc (zn O O)<|kc (zr Nl O)<|kc (zr Qo O)<|kc (zH YK O<|J_ o<|Z9.Xh (k:=.c j) (HA.G6 a) O<|.same _)<|ja O<|jb O<|kD<|OK.ret ⟨Y3.r2 (zo O O) (zo O O) ?_,O,Zo⟩;rw[f]
def B7(g:A.Ok m)(n:Y2 J)(o:∀h Y w,J h Y w->Z9 A.mem h Y w):Vi prog 95 [] [.str qe,.Yt [.raw<|pV A.b]] [(3000,.res J)] [(3000,.res J)]<|.Yy [.int .i64 (A.plain.PL qe).1,.bool (A.plain.PL qe).2]:=by
 refine cG func95 O λ{_ _}=>?_
 have e:=HA.L6 A qe;refine kr<|ji O O<|jb O<|kq<|kc (zV Nc O O)<|jm O<|RK.c (S.VO (((NT g n o).Tq n)) n call96 .none O (zc O<|zc O .nil) O O)<|ja O<|kD<|kO<|kr ?_;refine jm O<|kc (S.Km underlying157 .none O<|zt O)<|kD<|OK.cond O O (λd=>?_) λd=>?_
 ·have q:=RB d;have f:A.plain.PL qe=(0,false):=by unfold Z6.PL;rw[e,q];rfl
  refine kr<|ji O O<|jb O<|kD<|OK.ret ⟨Y3.r2 (zo O O) (zo O O) ?_,O,Zo⟩;rw[f]
 obtain⟨k,l⟩:=Ta d;obtain⟨j,_⟩:=VK l;obtain⟨p,a⟩:=Yh j;rw[Vx l<|HA.vb? a];have f:A.plain.PL qe=(p.r.YD,true):=by unfold Z6.PL;rw[e,l];simp only[bφ,HA.LU a]
 refine OK.skip<|kp<|jm O<|kc (zn O O)<|kc (zr Jd O)<|kc (zr Jc O)<|kc (zr ry O)<|kc (zH YK O<|J_ o<|Z9.Xh (k:=.v k) (HA.sv a) O<|.same _)<|ja O<|jb O<|kD<|OK.ret ⟨Y3.r2 (zo O O) (zo O O) ?_,O,Zo⟩;rw[f]
def y9(d:A.Ok m){q:ba}(L:R q<=100000):U_ prog 63 [] [.raw<|pV A.b,.str q] [(3000,.res<|Z9 A.mem)] [(3000,.res<|Z9 A.mem)]<|.Yy [.str (Va A.plain q).1,bv (Va A.plain q).2]:=by
 refine cH func63 O λe=>?_
 have V:=d.lp;have T:=d.m0;have X:=Hz (c:=32) (l:=q);have P:=BE Yu A.parts;have M:=HA.TR A<|YZ (ZQ 32 q).2.1;refine ro 9 O<|OK.Tr [] [(1,.str q),(3000,.res<|Z9 A.mem)] 2 O O O O O O ⟨O,O,Zo⟩ O<|ro 11 O<|kB O (λK=>?_) λK=>?_
 ·refine ro 5 O ?_;refine kc (zH YK O<|Z9.Xh (k:=.Y1) O O<|.same _)<|RK.c (zM [[_]] Xr O O O O)<|kc (S.Dl (S1 (l:=[A.entries]) F) e call87 .none O (zc O .nil) (.cons (.p (.own O O) O) .nil) O) ?_;refine rr 4 O<|OK.ret ⟨Y3.r2 (zo O O) (zo O O) ?_,O,Zo⟩;unfold Va;simp_all
  all_goals first|done|rfl|(rw[HA.XK];done)|(rw[HA.RQ a];rfl)
 refine ro 6 O<|kB O (λH=>?_) λH=>?_
 ·refine ro 3 O<|kc (S.Wc ((λJ j r=>(E1 d j r (f:=89) (vt:=[]) call89 O O (g:=Yu) λi v a=>NS a j r).Tq j)) call88 .none O (zc O<|.cons .Nt .nil) O O) ?_;refine kc (S.Xo (S1 (l:=R1 Yu A.parts) I) e call87 .none O (zc O .nil) O) ?_;refine rr 4 O<|OK.ret ⟨Y3.r2 (zo O O) (zo O O) ?_,O,Zo⟩;unfold Va;simp_all
  all_goals first|done|rfl|(rw[HA.XK];done)|(rw[HA.RQ a];rfl)
 refine ro 6 O<|kc (zK (J3 (l:=q) (c:=32) L) call90 O)<|rr 13 O<|kc (S.not .none O<|zt O)<|kD<|OK.cond O O (λG=>?_) λG=>?_
 ·refine ro 6 O<|OK.ret ⟨Y3.r2 (zo O O) (zo O O) ?_,O,Zo⟩;unfold Va;simp_all
  all_goals first|done|rfl|(rw[HA.XK];done)|(rw[HA.RQ a];rfl)
 refine ro 15 O<|kB O (λB=>?_) λB=>?_
 ·refine ro 3 O<|kc (S.Xo (KY (l:=(ZQ 32 q).2.1) I) e call91 .none O (zc O .nil) O) ?_;refine rr 11 O<|kc (S.not .none O<|zt O)<|kD<|OK.cond O O (λz=>?_) λz=>?_
  ·refine ro 6 O<|OK.ret ⟨Y3.r2 (zo O O) (zo O O) ?_,O,Zo⟩;unfold Va;simp_all
   all_goals first|done|rfl|(rw[HA.XK];done)|(rw[HA.RQ a];rfl)
  refine ro 6 O<|kc (S.Wc ((λJ j r=>(B8 d j r).Tq j)) call70 .none O (zc O<|zc O .nil) O O) ?_;refine rr 14 O<|kB O (λo=>?_) λo=>?_
  ·refine ro 7 O<|OK.ret ⟨Y3.r2 (zo O O) (zo O O) ?_,O,Zo⟩;unfold Va;simp_all
   all_goals first|done|rfl|(rw[HA.XK];done)|(rw[HA.RQ a];rfl)
  have N:=wC<|Zu.1 o;obtain⟨i,n⟩:=sk.1 N;obtain⟨v,a⟩:=Yh (Y8 n).1;rw[Vx n<|HA.CS a];refine OK.EC (p:=IntKind.i64.wrap v.p.YD=v.p.YD/\IntKind.i64.wrap v.p.place=v.p.place/\IntKind.i64.wrap v.p.verdict=v.p.verdict) O (λh Y w W=>pE W a) λt=>?_
  have u:R (Lib.join [v.p.Yr,UD [v.p.YD],v.p.Yb,UD [v.p.place,v.p.verdict]] [32])<=140737488355328:=BN (d.nl v<|mr a) t;refine ro 3 O ?_;refine kV (.c (zm O)<|.c (zn O O)<|.c (zr Xu O)<|.c (zr RT O)<|.c (zr ru O)<|.c (zH T6 O<|Z9.Xh (k:=.p i) (HA.XW a) O<|.same _)<|.c (zm O)<|.c (zn O O)<|.c (zr Xu O)<|.c (zr RT O)<|.c (zr ry O)<|.c (zH YK O<|Z9.Xh (k:=.p i) (HA.XW a) O<|.same _)<|.c (zM [[_]] Xr O O O O)<|.c (S.Dl (S1 (l:=[v.p.YD]) F) e call87 .none O (zc O .nil) (.cons (.p (.own O O) O) .nil) O)<|.c (zm O)<|.c (zn O O)<|.c (zr Xu O)<|.c (zr CD O)<|.c (zH T6 O<|Z9.Xh (k:=.p i) (HA.XW a) O<|.same _)<|.c (zm O)<|.c (zn O O)<|.c (zr Xu O)<|.c (zr Qn O)<|.c (zH YK O<|Z9.Xh (k:=.p i) (HA.XW a) O<|.same _)<|.c (zm O)<|.c (zn O O)<|.c (zr Xu O)<|.c (zr rA O)<|.c (zH YK O<|Z9.Xh (k:=.p i) (HA.XW a) O<|.same _)<|.c (zM [[_],[_]] Xr O O O O)<|.c (S.Dl (S1 (l:=[v.p.place,v.p.verdict]) F) e call87 .none O (zc O .nil) (.cons (.p (.own O O) O) .nil) O)<|.c (zM [[_],[_],[_],[_]] Qf O O O O)<|.c (S.XY (fU.ct (l:=[v.p.Yr,UD [v.p.YD],v.p.Yb,UD [v.p.place,v.p.verdict]]) (sep:=[32]) F u) call57 .none O (zc O<|.cons (.Vh (l:=[32]) O C) .nil) (.cons (.p (.own O O) O)<|.cons (.same O) .nil) O)<|.c (za O)<|.c (zi O O) .nil) ?_;refine Ab.D.code<|OK.ret ⟨Y3.r2 (zo O O) (zo O O) ?_,O,Zo⟩;unfold Va;simp_all
  all_goals first|done|rfl|(rw[HA.XK];done)|(rw[HA.RQ a];rfl)
 refine ro 6 O<|kB O (λy=>?_) λy=>?_
 ·refine ro 3 O<|kc (S.Xd .none O (zt O) O) ?_;refine RK.c (S.VO (((F0 (qe:=(ZQ 32 q).2.1) (J:=Z9 A.mem) (Z9.ZV _) (f:=93) (vt:=[.Yt [.raw<|pV A.b]]) call93 O O<|B6 d (Z9.ZV _) λ_ _ _ h=>h).Tq e<|Z9.ZV _)) (Z9.ZV _) call92 .none O (zc O<|zc O .nil) O O) ?_;refine rr 6 O<|OK.ret ⟨Y3.r2 (zo O O) (zo O O) ?_,O,Zo⟩;unfold Va;simp_all
  all_goals first|done|rfl|(rw[HA.XK];done)|(rw[HA.RQ a];rfl)
 refine ro 6 O<|kB O (λx=>?_) λx=>?_
 ·refine ro 3 O<|kc (S.Xd .none O (zt O) O) ?_;refine RK.c (S.VO (((F0 (qe:=(ZQ 32 q).2.1) (J:=Z9 A.mem) (Z9.ZV _) (f:=95) (vt:=[.Yt [.raw<|pV A.b]]) call95 O O<|B7 d (Z9.ZV _) λ_ _ _ h=>h).Tq e<|Z9.ZV _)) (Z9.ZV _) call92 .none O (zc O<|zc O .nil) O O) ?_;refine rr 6 O<|OK.ret ⟨Y3.r2 (zo O O) (zo O O) ?_,O,Zo⟩;unfold Va;simp_all
  all_goals first|done|rfl|(rw[HA.XK];done)|(rw[HA.RQ a];rfl)
 refine ro 9 O<|OK.ret ⟨Y3.r2 (zo O O) (zo O O) ?_,O,Zo⟩;unfold Va;simp_all
 all_goals first|done|rfl|(rw[HA.XK];done)|(rw[HA.RQ a];rfl)
def y8(h:R n.plan<=1000)(j:N6 l){q:ba}(g:R q<=100000):Q7 prog 31 [.agg n.cs,.sl<|l.map Entry.cs,.str q]<|.Yy [.str (lz n l q).1,bv (lz n l q).2]:=by
 refine cT func31 O λf=>?_
 refine ro 11 O ?_;refine RK.Ng (((R2 h j).at f)) (λ_=>Mf.ZV _ _ _) (λ_=>Mf.mono) call35 O (zc O<|zc O .nil) O λA=>?_
 refine rr 16 O<|kB O (λa=>?_) λa=>?_
 ·refine ro 7 O<|kS O O O O ?_;unfold lz;rw[Zn a]
 have b:(Z2 n l).2.2=0:=Zu.1 a;refine ro 3 O<|OK.Ld b O λe d=>?_;rw[Jm b];refine ro 3 O ?_;refine RK.c (S.VO (((y9 e g).Tq f<|Z9.ZV _)) (Z9.ZV _) call63 .none O (zc O<|zc O .nil) O O) ?_;refine rr 6 O<|kS O O O O ?_;unfold lz;rw[Zm a,d]
def J7(h:R n.plan<=1000)(L:N6 l):Q7 prog 14 [.agg n.cs,.sl<|l.map Entry.cs,bv num]<|.Yy [ints (Nn n l num).1,bv (Nn n l num).2]:=by
 refine cT func14 O λK=>?_
 refine ro 3 O<|kc (S.assign .none O .Ya)<|rr 8 O ?_;refine RK.Ng (((CZ h L).at K)) (λ_=>Mf.ZV _ _ _) (λ_=>Mf.mono) call37 O (zc O<|zc O<|zc O .nil) O λA=>?_
 refine rr 14 O<|kB O (λr=>?_) λr=>?_
 ·have d:Wm n l num≠0:=r;have C:Nn n l num=([],Wm n l num):=by unfold Nn;rw[Zn d]
  refine ro 3 O<|kc (S.assign .none O .Ya)<|rr 3 O<|kS O O O O ?_;rw[C];rfl
 have d:Wm n l num=0:=Zu.1 r;have B:(Z2 n l).2.2=0:=HO d;refine OK.Ld B O λj t=>?_
 have F:A.plain.U1 num=ix (λv=>decide<|v.p.num=num) A.parts:=HA.TR A num;obtain⟨i,u⟩:=Ba d;have g:ix (λv=>decide<|v.p.num=num) A.parts=some i:=by rw[←F,t];exact u
 obtain⟨v,f⟩:=Yh (Y8 g).1;have G:Mg n l num A=pV v.b:=by unfold Mg;rw[Zn B];exact Vx g<|HA.CS f
 rw[G];have C:Nn n l num=(v.es.mergeSort λx y=>decide<|x<=y,0):=by unfold Nn;rw[Zm (by rw[d];decide),u];dsimp only[Option.getD_some];rw[←t,HA.Yi f];rfl
 have xf:=j.le v<|mr f;have J:=j.m0;have w:=HA.n7 f;refine ro 3 O ?_;rcases hq:v.eh with _|q
 ·have z:=j.eh v (mr f) hq;have a:v.eh.v (R v.es)=.slice none 0 0:=by rw[hq,z];rfl
  have D:(v.es.mergeSort λx y=>decide<|x<=y)=[]:=by rw[z];simp
  have o:CX A.mem (.raw<|v.eh.v<|R v.es)<|ints<|v.es.mergeSort λx y=>decide<|x<=y:=by rw[a,D];exact Fz.nil
  refine ro 4 O ?_;refine kc (zH Md O<|Z9.Xh (k:=.p i) (HA.XW f) O<|.same _) ?_;refine RK.c (S.VO ((by rw[a];exact dh Ac)) (Z9.ZV _) call38 .none O (zc O .nil) O O) ?_;refine rr 7 O ?_;refine kc (zH Md O<|Z9.Xh (k:=.p i) (HA.XW f) O<|.same _) ?_;refine rr 4 O ?_;refine OK.QK [(6,ints<|v.es.mergeSort λx y=>decide<|x<=y)] O (by intro p h;simp at h;subst h;exact⟨by show(6:Nat)<1000;decide,_,rfl,o⟩) ?_;refine kS O O O O ?_;rw[C]
 rw[hq]at w;have H:A.mem (.e i)=some (q.1,.row 1 q.2<|v.es.map λn=>[X.int .i64 n]):=w;have a:v.eh.v (R v.es)=.slice (some ⟨q.1,0,none⟩) (R v.es) q.2:=by rw[hq];rfl
 have o:CX (A.mem.set (.e i)<|some (q.1,.row 1 q.2<|(v.es.mergeSort λx y=>decide<|x<=y).map λn=>[X.int .i64 n])) (.raw<|v.eh.v<|R v.es)<|ints<|v.es.mergeSort λx y=>decide<|x<=y:=by rw[a];exact g_ (HM.YW _ _ _)<|M_ _
 refine ro 4 O ?_;refine kc (zH Md O<|Z9.Xh (k:=.p i) (HA.XW f) O<|.same _) ?_;refine RK.c (S.VO ((by rw[a];exact dc Ac (M:=A.mem) (kb:=.e i) (b:=q.1) (vz:=q.2) H rfl I)) (Z9.ZV _) call38 .none O (zc O .nil) O O) ?_;refine rr 7 O ?_;refine kc (zH Md O<|Z9.Xh (k:=.p i) ((HM.Z0 _ _ Z).trans<|HA.XW f) O<|.same _) ?_;refine rr 4 O ?_;refine OK.QK [(6,ints<|v.es.mergeSort λx y=>decide<|x<=y)] O (by intro p h;simp at h;subst h;exact⟨by show(6:Nat)<1000;decide,_,rfl,o⟩) ?_;refine kS O O O O ?_;rw[C]
def LL:Net:=⟨[⟨[111,108,97],1⟩,⟨[115,101,109],2⟩,⟨[105,110,97],3⟩,⟨[101,118,97],4⟩],[50,32,112,111,119,101,114],550,100,120⟩
def OO:List Entry:=[⟨1,[101,118,97],[114,101,99,105,112,101,32,114,32,104,101,97,116,32,52,48,48,32,50,59,113,117,101,110,99,104,32,49,32,51]⟩,⟨1,[115,101,109],[99,111,105,108,32,99,32,51]⟩,⟨2,[111,108,97],[115,116,97,114,116,32,49,32,114,32,99]⟩,⟨2,[111,108,97],[102,114,97,109,101,32,48,32,49,48]⟩,⟨3,[111,108,97],[102,114,97,109,101,32,49,32,49,50]⟩,⟨3,[111,108,97],[101,110,100]⟩,⟨4,[101,118,97],[109,111,100,101,108,32,49]⟩,⟨4,[101,118,97],[108,101,97,114,110,32,48]⟩,⟨5,[111,108,97],[115,116,97,114,116,32,50,32,114,32,99]⟩,⟨5,[111,108,97],[102,114,97,109,101,32,49,32,49,50]⟩,⟨5,[111,108,97],[102,114,97,109,101,32,48,32,49,48]⟩,⟨5,[111,108,97],[101,110,100]⟩,⟨5,[111,108,97],[103,111,111,100,32,50]⟩]
def mE:N6 OO:=by
 intro x b;have e:(OO.all λx=>decide<|R x.text<=100000)=true:=by rfl
 have d:(OO.all λx=>decide<|X2 (ZQ 32 x.text).1∈[some 10,some 6,some 1,some 2,some 3,some 11,some 12,some 4])=true:=by rfl
 refine⟨pf<|bj.1 e x b,λk c=>?_⟩;have a:=pf<|bj.1 d x b;rw[c]at a;simp only[sf,bθ,H4,or_false]at a;rcases a with rfl|rfl|rfl|rfl|rfl|rfl|rfl|rfl
 ·exact @mB
 ·exact @dY
 ·exact @dU
 ·exact @dV
 all_goals simp[dW,mC,mD,dX]
theorem c_:([0,1,8,9,10,11,12]:bd).mergeSort (λx y=>decide<|x<=y)=[0,1,8,9,10,11,12]:=by
 have c:(([0,1,8,9,10,11,12]:bd).mergeSort λx y=>decide<|x<=y).Pairwise (λx y=>x<=y):=by
  have:=eα (le:=λx y:Int=>decide<|x<=y) (by grind) (by grind) [0,1,8,9,10,11,12];simp_all
 exact(bμ _ _).eq_of_pairwise (λa b _ _ c d=>I) c C
def aX:Nn LL OO 2=([0,1,8,9,10,11,12],0):=by
 have h0:Wm LL OO 2=0:=by decide+kernel
 have a:(((Z2 LL OO).1.parts[((Z2 LL OO).1.U1 2).getD 0]?.map (·.2)).getD [])=[0,1,8,9,10,11,12]:=by decide+kernel
 simp_all[Nn,c_]
def ans_X:lz LL OO [112,97,114,116,32,50]=([114,32,49,32,99,32,50,32,48],0):=by decide+kernel
def Dr{P:Program}{vj:bi}{r a:X}(h:Q7 P f vj r)(e:r=a):Q7 P f vj a:=e▸h
def LG:Ct prog 29 []<|.agg LL.cs:=by
 refine cI func29 O<|ro 7 O<|kc (zU bu96 O O)<|kc (zU bu96 O O)<|kc (zU bu96 O O)<|kc (zU bu96 O O) ?_;refine kc (S.mkData (vi:=[[_,_],[_,_],[_,_],[_,_]]) fJ .none O (zc O<|zc O<|zc O<|zc O .nil) O O O O O O O)<|kc (zU lQ O O)<|kc (zU bu26 O O) ?_;refine rr 3 O<|OK.ret<|Y3.r1 (zy O O Pn O) ?_;rfl
def LF:Ct prog 30 []<|.sl<|OO.map Entry.cs:=by
 refine cI func30 O<|kr<|kc (S.assign .none O .Ya)<|rr 4 O<|kc (zU Fa O O)<|kc (zU Fa O O)<|kc (zU Fa O O)<|kc (zU Fa O O)<|kc (zU Fa O O)<|kc (zU Fa O O)<|kc (zU Fa O O)<|kc (zU Fa O O) ?_;refine kc (zU Fa O O)<|kc (zU Fa O O)<|kc (zU Fa O O)<|kc (zU Fa O O)<|kc (zU Fa O O)<|kc (S.mkData (vi:=[[_,_,_],[_,_,_],[_,_,_],[_,_,_],[_,_,_],[_,_,_],[_,_,_],[_,_,_],[_,_,_],[_,_,_],[_,_,_],[_,_,_],[_,_,_]]) x9 .none O (zc O<|zc O<|zc O<|zc O<|zc O<|zc O<|zc O<|zc O<|zc O<|zc O<|zc O<|zc O<|zc O .nil) O O O O O O O) ?_;refine rr 3 O<|kR O O ?_;rfl
def sQ:Q7 prog 14 [.agg LL.cs,.sl<|OO.map Entry.cs,bv 2]<|.Yy [ints [0,1,8,9,10,11,12],bv 0]:=Dr (J7 (n:=LL) (l:=OO) (num:=2) C mE) (by rw[aX])
def lF:Q7 prog 31 [.agg LL.cs,.sl<|OO.map Entry.cs,.str [112,97,114,116,32,50]]<|.Yy [.str [114,32,49,32,99,32,50,32,48],bv 0]:=Dr (y8 (n:=LL) (l:=OO) (q:=[112,97,114,116,32,50]) C mE C) (by rw[ans_X])
def sR:Ct prog 32 [ints [0,1,8,9,10,11,12],ints [0,1,8,9,10,11,12]]<|.bool true:=by
 have h:=Me (a:=[0,1,8,9,10,11,12]) (b:=[0,1,8,9,10,11,12]);rw[Zz rfl]at h;exact h
section
variable{E:Env}{U:bc}{s:St}{qf:Code}{Q:bo}{A:HA}{m:Int}{i:Nat}{v:ZN}
theorem OK.b7(q:Nat×Nat)(n:Int)(a:A.Ok m)(o:(R v.es:Int)+1<=m+3)(d:A.parts[i]?=some v)(l:Ab.look s 3000=some (.res<|Z9<|(A.mem.set (.e i)<|some (q.1,.row 1 q.2<|Ye v.es++[[bv n]])).set (.p i)<|some (v.b,.box ({v with eh:=some q,es:=v.es++[n]}:ZN).cs)))
  (j:n=A.entries) (h:∀g:HA,A.GC g i {v with eh:=some q,es:=v.es++[n]} (A.plain.WT i) m->OK E qf Q U ((3000,.res<|Z9 g.mem)::s)):OK E qf Q U s:=by
 have c:=mr d;refine OK.Eo (w:={v with eh:=some q,es:=v.es++[n]}) a d l O (HM.YW ..) ?_ ?_ (λk t _ r=>by simp_all[HM.Z0]) λf=>h _ ⟨?_,O,f,wi ..,N0 d,?_⟩
 ·simp_all[HM.Z0,HA.n8]
 ·simp[HM.Z0,HM.YW]
 ·refine HA.JZ a d (Int.le_refl _) a.m0.2 (a.fh v c) Z (a.lf v c) ?_ (a.pl v c)<|a.nl v c;simp_all
 subst j;rw[HA.Q0 d,Z6.WT,WH<|HA.Yi d];rfl
end
def mkG(H:Z6)(i:Nat)(q:Part×bd):Bool:=decide (q.1.Yr=(H.p i).Yr)&&decide (q.1.YD=(H.p i).YD)&&Yu q.1
def iK(H:Z6)(i:Nat)(q:Part×bd):Part×bd:=if mkG H i q=true then({q.1 with marked:=true},q.2++[H.entries])else q
def Z6.Xg(H:Z6)(i k:Nat):Z6:={H with parts:=(H.parts.take k).map (iK H i)++H.parts.drop k}
def nX(H:Z6)(i:Nat):H.Xg i 0=H:=by rfl
variable{k:Nat}
def yQ(H:Z6)(i:Nat)(h:k=R H.parts):H.Xg i k=H.Yz i:=by
 subst h;unfold Z6.Xg Z6.Yz;rw[List.take_length,da,i8];rfl
def O6{j:Nat}(a:k<=R H.parts)(h:k<=j):(H.Xg i k).parts[j]?=H.parts[j]?:=by
 simp_all[Z6.Xg,aκ]
theorem bF(H:Z6)(i:Nat)(q:Part×bd):(iK H i q).1.Yr=q.1.Yr/\(iK H i q).1.YD=q.1.YD:=by unfold iK;grind
def nZ(a:k<=R H.parts)(j:Nat):((H.Xg i k).p j).Yr=(H.p j).Yr/\((H.Xg i k).p j).YD=(H.p j).YD:=by
 unfold Z6.p;rcases w7 j k with h|h
 ·have e:(H.Xg i k).parts[j]?=(H.parts[j]?).map (iK H i):=by
   unfold Z6.Xg;dsimp only;rw[m6<|by simp_all,dp,H0,Zn h]
  rw[e];cases H.parts[j]? with
  |none=>simp
  |some q=>exact bF H i q
 rw[O6 a h];simp
theorem KP{q:Part×bd}(h:H.parts[k]?=some q):H.Xg i (k+1)={H.Xg i k with parts:=(H.Xg i k).parts.set k (iK H i q)}:=by
 have c:k<R H.parts:=(ae.1 h).1;have a:H.parts[k]=q:=(ae.1 h).2;have b:R ((H.parts.take k).map<|iK H i)=k:=by grind
 simp_all[Z6.Xg,mv,np]
def nY{p:Part}{es:bd}(h:H.parts[k]?=some (p,es))(b:mkG H i (p,es)=true)(c:k<=R H.parts):((H.Xg i k).Zh k λ_=>{p with marked:=true}).WT k=H.Xg i (k+1):=by
 have a:(H.Xg i k).parts[k]?=some (p,es):=by simp_all[O6]
 rw[KP h];unfold Z6.Zh Z6.WT;dsimp only;rw[WH a,WH<|N0 a,eυ];congr 1;congr 1;unfold iK;rw[Zn b];rfl
def Bv{q:Part×bd}(h:H.parts[k]?=some q)(b:mkG H i q=false)(a:k<=R H.parts):H.Xg i k=H.Xg i (k+1):=by
 simp_all[O6,iK,KP,YW]
def jH(h:(H.p i).place≠1):Xz vk H i=(H,20):=Zn h
def cU(h:¬(H.p i).place≠1)(a:(Y9 vk).2≠0):Xz vk H i=(H,(Y9 vk).2):=by unfold Xz;simp_all
def cR(h:¬(H.p i).place≠1)(b:¬(Y9 vk).2≠0)(a:(Y6 (Y9 vk).1 H.XR.limit).2≠0):Xz vk H i=(H,(Y6 (Y9 vk).1 H.XR.limit).2):=by simp_all[Xz]
def jI(h:¬(H.p i).place≠1)(c:¬(Y9 vk).2≠0)(b:¬(Y6 (Y9 vk).1 H.XR.limit).2≠0)(a:H.outside (Y6 (Y9 vk).1 H.XR.limit).1=false):Xz vk H i=(H.Zh i λp=>{p with place:=4,depth:=(Y6 (Y9 vk).1 H.XR.limit).1},0):=by
 simp_all[Xz]
def qP(h:¬(H.p i).place≠1)(c:¬(Y9 vk).2≠0)(b:¬(Y6 (Y9 vk).1 H.XR.limit).2≠0)(a:H.outside (Y6 (Y9 vk).1 H.XR.limit).1=true):Xz vk H i=((H.Zh i λp=>{p with place:=4,depth:=(Y6 (Y9 vk).1 H.XR.limit).1}).Yz i,0):=by
 simp_all[Xz]
def uY(A:HA)(vk:ba)(i:Nat):(Xz vk A.plain i).1.entries=A.entries:=by
 unfold Xz;dsimp only
 repeat' split
 all_goals rfl
def xM{a b:Part}:Nq [.s a.Yr,.i a.YD] [.s b.Yr,.i b.YD]=(decide (a.Yr=b.Yr)&&decide (a.YD=b.YD)):=by simp[Nq,Pl.eq]
def IG{f:GB}{n:Int}(c:KE f)(d:0<=n/\n<=10000):Ct prog 226 [.agg f.cs,bv n]<|.bool<|decide<|f.num<n * f.den:=by
 refine cI func226 O λ{_ _}=>?_
 have g:=c.den;have e:=O7 (a:=n) (b:=f.den) (A:=10000) (B:=2000) I I C;refine ro 13 O ?_;refine kc (S.mul .none O (zt O) (zt O) (mn _ I)<|mn _ I) ?_;refine rr 4 O<|kR O O ?_;rfl
def zj{f:GB}{n:Int}(c:KE f)(d:0<=n/\n<=10000):Ct prog 227 [.agg f.cs,bv n]<|.bool<|decide<|f.num>n * f.den:=by
 refine cI func227 O λ{_ _}=>?_
 have g:=c.den;have e:=O7 (a:=n) (b:=f.den) (A:=10000) (B:=2000) I I C;refine ro 13 O ?_;refine kc (S.mul .none O (zt O) (zt O) (mn _ I)<|mn _ I) ?_;refine rr 4 O<|kR O O ?_;rfl
def Ew(P:A.Ok m)(hm:m+2<=1000)(hce:Ka A.XR){n:Int}(hrl:R vk<=600){v:ZN}(hv:A.parts[i]?=some v):U_ prog 223 [] [.raw<|pV v.b,.Yt (Words.mk [n] [vk]).cs,.Yt [.raw<|pV A.b]] [(3000,.res<|Z9 A.mem)] [(3000,.res<|JP A (Xz vk A.plain i).1<|m+1)]<|bv (Xz vk A.plain i).2:=by
 refine cH func223 O λF=>?_
 have hp:=HA.RQ hv;have hm0:=P.m0;have hcb:=vW (Y9 vk).1 A.XR.limit;refine ro 12 O ?_;refine kc (zH YK O<|Z9.Xh (k:=.p i) (HA.XW hv) O<|.same _) ?_;refine rr 3 O<|kB O (λc15=>?_) λc15=>?_
 ·have F:=jH (vk:=vk) (H:=A.plain) (i:=i) (by rw[hp];exact c15);refine ro 5 O ?_;refine OK.YS (J':=JP A (Xz vk A.plain i).1<|m+1) O (JP.ZV _ _ _) (λh Y w B=>HA.jp P I I (by rw[F]) B) ?_;refine OK.ret ⟨Y3.r1 (zo O O) ?_,O,Zo⟩;rw[F];try rfl
 have hpl:¬(A.plain.p i).place≠1:=by rw[hp];exact c15
 refine ro 6 O ?_;refine kc (S.Zi (n:=0) X1 .none O (zt O) (.Zg O) O (by exact aθ _) O)<|kc (zV T6 O O)<|kc (S.Xo (ML (s:=vk) I) F call224 .none O (zc O .nil) O) ?_;refine rr 15 O<|kB O (λc25=>?_) λc25=>?_
 ·have F:=cU hpl c25;refine ro 6 O ?_;refine OK.YS (J':=JP A (Xz vk A.plain i).1<|m+1) O (JP.ZV _ _ _) (λh Y w B=>HA.jp P I I (by rw[F]) B) ?_;refine OK.ret ⟨Y3.r1 (zo O O) ?_,O,Zo⟩;rw[F];try rfl
 refine ro 3 O ?_;refine kV (.c (zL E0 O O O O)<|.c (zV Nc O O)<|.c (zn O O)<|.c (zr TK O)<|.c (zr L7 O)<|.c (zr yx O)<|.c (zH YK O<|Z9.Xh (k:=.Y1) O O<|.same _)<|.c (zK (yI (l:=(Y9 vk).1) (limit:=A.XR.limit)) call225 O)<|.c (zm O)<|.c (zX O O O)<|.c (zX O O O)<|.c (zA (c:=7) ze55 O)<|.c (zS G5 O O O O O O)<|.c (za O) .nil) ?_;refine rd 8 O<|kB O (λc39=>?_) λc39=>?_
 ·have F:=cR hpl c25 (show(Y6 (Y9 vk).1 A.plain.XR.limit).2≠0 from c39);refine ro 6 O ?_;refine OK.YS (J':=JP A (Xz vk A.plain i).1<|m+1) O (JP.ZV _ _ _) (λh Y w B=>HA.jp P I I (by rw[F]) B) ?_;refine OK.ret ⟨Y3.r1 (zo O O) ?_,O,Zo⟩;rw[F];try rfl
 have h39:¬(Y6 (Y9 vk).1 A.plain.XR.limit).2≠0:=c39;refine ro 3 O ?_;refine kV (.c (zm O)<|.c (zm O)<|.c (zL G5 O O O O)<|.c (zn O O)<|.c (zr Xu O)<|.c (zr Qn O)<|.c (S.Yf (xs':=({v with p:={v.p with place:=4}}:ZN).cs) (.p i) YK .none (zt O) (.Zg O) O (HA.XW hv) O O O O O)<|.c (zn O O)<|.c (zr Xu O)<|.c (zr rO O)<|.c (S.Yf (xs':=({v with p:={v.p with place:=4,depth:=(Y6 (Y9 vk).1 A.XR.limit).1}}:ZN).cs) (.p i) G5 .none (zt O) (zt O) O (HM.YW _ _ _) O O O O O) .nil)<|Ab.D.code<|kO ?_;rw[HM.set_set];refine OK.KV {v.p with place:=4,depth:=(Y6 (Y9 vk).1 A.XR.limit).1} P hv O O (by dsimp only;decide) λd hL=>?_
 have z:=hL.ok;have hlp1:=z.lp;have hm01:=z.m0;have T:d.XR=A.XR:=rn Z6.XR hL.plain;have hc1:Ka d.XR:=by rw[T];exact hce
 have hpl1:d.plain=A.plain.Zh i λp=>{p with place:=4,depth:=(Y6 (Y9 vk).1 A.XR.limit).1}:=hL.plain.trans<|Z6.T4 (HA.Yi hv) λp=>{p with place:=4,depth:=(Y6 (Y9 vk).1 A.XR.limit).1}
 rw[←hL.b];refine OK.join (G:=Bool) [] (λbb=>[(0,.raw<|pV v.b),(2,.Yt [.raw<|pV d.b]),(73,.bool bb),(3000,.res<|Z9 d.mem)]) (λbb=>bb=(!(decide<|(Y6 (Y9 vk).1 A.XR.limit).1.lo.num<d.XR.lo * (Y6 (Y9 vk).1 A.XR.limit).1.lo.den)&&!(decide<|(Y6 (Y9 vk).1 A.XR.limit).1.hi.num>d.XR.hi * (Y6 (Y9 vk).1 A.XR.limit).1.hi.den))) (λ_=>O) ?_ ?_
 ·by_cases a:(!(decide<|(Y6 (Y9 vk).1 A.XR.limit).1.lo.num<d.XR.lo * (Y6 (Y9 vk).1 A.XR.limit).1.lo.den))=true
  ·refine kV (.c (zf rz O)<|.c (zL OH O O O O)<|.c (zV Nc O O)<|.c (zn O O)<|.c (zr TK O)<|.c (zr L7 O)<|.c (zr SJ O)<|.c (zr UT O)<|.c (zH YK O<|Z9.Xh (k:=.Y1) O O<|.same _)<|.c (zK (IG (f:=(Y6 (Y9 vk).1 A.XR.limit).1.lo) (n:=d.XR.lo) hcb.1 hc1.1) call226 O)<|.c (S.Xb .none O<|zt O)<|.c (zm O)<|.c (S.VN dA (.yes O O O<|by simpa using a) O<|zt O)<|.c (S.Hl OH (.yes O O O<|by simpa using a) O (zt O) O O O O)<|.c (S.Q_ Nc (.yes O O O<|by simpa using a) O (zt O) O)<|.c (S.qG (.yes O O O<|by simpa using a) O (zt O) O)<|.c (S.Ub TK (.yes O O O<|by simpa using a) O<|zt O)<|.c (S.Ub L7 (.yes O O O<|by simpa using a) O<|zt O)<|.c (S.Ub SJ (.yes O O O<|by simpa using a) O<|zt O)<|.c (S.Ub TI (.yes O O O<|by simpa using a) O<|zt O)<|.c (S.Uc YK (.yes O O O<|by simpa using a) O (zt O) O<|Z9.Xh (k:=.Y1) O O<|.same _)<|.c (S.call (zj (f:=(Y6 (Y9 vk).1 A.XR.limit).1.hi) (n:=d.XR.hi) hcb.2 hc1.2) call227 (.yes O O O<|by simpa using a) O (zc O<|zc O .nil) O)<|.c (S.Xb (.yes O O O<|by simpa using a) O<|zt O)<|.c (S.Tc .none O (zt O) (zt O)<|by simpa using a) .nil) ?_;refine Ab.D.lp ⟨(decide<|¬(Y6 (Y9 vk).1 A.XR.limit).1.hi.num>d.XR.hi * (Y6 (Y9 vk).1 A.XR.limit).1.hi.den),(by first|(rw[a,tn];exact decide_not)|(rw[bι.2 a];rfl)),O,O,O,O,Zo⟩
  refine kV (.c (zf rz O)<|.c (zL OH O O O O)<|.c (zV Nc O O)<|.c (zn O O)<|.c (zr TK O)<|.c (zr L7 O)<|.c (zr SJ O)<|.c (zr UT O)<|.c (zH YK O<|Z9.Xh (k:=.Y1) O O<|.same _)<|.c (zK (IG (f:=(Y6 (Y9 vk).1 A.XR.limit).1.lo) (n:=d.XR.lo) hcb.1 hc1.1) call226 O)<|.c (S.Xb .none O<|zt O)<|.c (zm O)<|.c (zG O<|by simpa using a)<|.c (zG O<|by simpa using a)<|.c (zG O<|by simpa using a)<|.c (zG O<|by simpa using a)<|.c (zG O<|by simpa using a)<|.c (zG O<|by simpa using a)<|.c (zG O<|by simpa using a)<|.c (zG O<|by simpa using a)<|.c (zG O<|by simpa using a)<|.c (zG O<|by simpa using a)<|.c (zG O<|by simpa using a)<|.c (S.Ug .none O (zt O) .Wx<|by simpa using a) .nil) ?_;refine Ab.D.lp ⟨false,(by first|(rw[a,tn];exact decide_not)|(rw[bι.2 a];rfl)),O,O,O,O,Zo⟩
 rintro bb hbb;refine OK.cond O O (λc73=>?_) λc73=>?_
 ·have V:=hbb;rw[T]at V;have hO:A.plain.outside (Y6 (Y9 vk).1 A.XR.limit).1=false:=by show(!((!(decide<|(Y6 (Y9 vk).1 A.XR.limit).1.lo.num<A.XR.lo * (Y6 (Y9 vk).1 A.XR.limit).1.lo.den)&&!(decide<|(Y6 (Y9 vk).1 A.XR.limit).1.hi.num>A.XR.hi * (Y6 (Y9 vk).1 A.XR.limit).1.hi.den))))=false;rw[←V,c73];rfl
  have F:=jI hpl c25 h39 hO;refine ro 5 O ?_;refine OK.YS (J':=JP A (Xz vk A.plain i).1<|m+1) O (JP.ZV _ _ _) (λh Y w B=>hL.jp I I (hL.plain.symm.trans<|hpl1.trans<|by rw[F];rfl) B) ?_;refine OK.ret ⟨Y3.r1 (zo O O) ?_,O,Zo⟩;rw[F];try rfl
 have V:=hbb;rw[T]at V;have hO:A.plain.outside (Y6 (Y9 vk).1 A.XR.limit).1=true:=by show(!((!(decide<|(Y6 (Y9 vk).1 A.XR.limit).1.lo.num<A.XR.lo * (Y6 (Y9 vk).1 A.XR.limit).1.lo.den)&&!(decide<|(Y6 (Y9 vk).1 A.XR.limit).1.hi.num>A.XR.hi * (Y6 (Y9 vk).1 A.XR.limit).1.hi.den))))=true;rw[←V,c73];rfl
 have F:=qP hpl c25 h39 hO;refine ro 8 O<|kc (zH (u:=.sl<|d.parts.map Su) QF O<|Z9.Xh (k:=.Y1) O O<|.sl z.ps)<|kc (zk SC O)<|rr 4 O ?_;refine OK.YS (J':=JP d (d.plain.Xg i 0)<|m+1) O (JP.ZV _ _ _) (λh Y w B=>HA.jp z I I (nX _ _) B) ?_;refine OK.loop (G:=Nat) [] (λk=>[(0,.raw<|pV v.b),(2,.Yt [.raw<|pV d.b]),(77,.sl<|d.parts.map Su),(78,bv<|R d.parts),(79,bv k),(3000,.res<|JP d (d.plain.Xg i k)<|m+1)]) (λk=>k<=R d.parts) (λk=>R d.parts - k) 0 (Zr _) ⟨O,O,O,O,O,O,Zo⟩ (λ_=>O) ?_;rintro k hk;refine ro 6 O<|kB O (λc80=>?_) λc80=>?_
 ·have hil:k<R d.parts:=by omega
  refine OK.fc O λA2 y hb2 t g r=>?_
  obtain⟨w,hw⟩:=Yh (l:=A2.parts) (i:=k) (by rw[g];exact hil);obtain⟨w0,hw0⟩:=Yh (l:=A2.parts) (i:=i) (by rw[g,hL.len];exact RA hv);have hwb:d.parts[k].b=w.b:=by rw[←HA.BO hil,←t,HA.CS hw]
  have hw0b:w0.b=v.b:=by rw[←HA.CS hw0,t,hL.pb,HA.CS hv]
  have W:k<=R d.plain.parts:=by show k<=R (d.parts.map _);rw[Zx];exact hk
  have hpk:d.plain.parts[k]?=some (w.p,w.es):=by rw[←O6 (i:=i) W (Zq _),←r];exact HA.Yi hw
  have M:w0.p.Yr=(d.plain.p i).Yr/\w0.p.YD=(d.plain.p i).YD:=by have h:=nZ (i:=i) W i;rw[←r,HA.RQ hw0]at h;exact h
  have hwe:(R w.es:Int)<=m+3:=by
   obtain⟨w1,hw1⟩:=Yh hil;have h1:=HA.Yi hw1;rw[hpk]at h1;have h2:w.es=w1.es:=rn Prod.snd<|aγ h1;rw[h2];exact z.le w1<|mr hw1
  have hm02:=y.m0;rw[←hw0b,←hb2];refine ro 6 O<|kc (zI SC O I O) ?_;refine rr 5 O ?_;rw[hwb];by_cases j:(decide (w.p.Yr=w0.p.Yr)&&decide (w.p.YD=w0.p.YD))=true
  ·refine kV (.c (zm O)<|.c (zn O O)<|.c (zr Xu O)<|.c (zr RT O)<|.c (zJ (us:=[.str w.p.Yr,bv w.p.YD]) Q3 O<|Z9.KL (k:=.p k) (xs:=w.cs) (HA.XW hw) ⟨.same _,.same _,Zo⟩ O)<|.c (zm O)<|.c (zn O O)<|.c (zr Xu O)<|.c (zr RT O)<|.c (zJ (us:=[.str w0.p.Yr,bv w0.p.YD]) Q3 O<|Z9.KL (k:=.p i) (xs:=w0.cs) (HA.XW hw0) ⟨.same _,.same _,Zo⟩ O)<|.c (S.rY (b:=(decide (w.p.Yr=w0.p.Yr)&&decide (w.p.YD=w0.p.YD))) [.s [],.i 0] [.s w.p.Yr,.i w.p.YD] [.s w0.p.Yr,.i w0.p.YD] sJ .none O (zt O) (zt O) O O O O xM)<|.c (zm O)<|.c (S.move (.yes O O O<|by simpa using j) O<|zt O)<|.c (S.Wc ((λJ hS hJ=>(NS hw hS hJ).Tq hS)) call89 (.yes O O O<|by simpa using j) O (zc O .nil) O O)<|.c (S.Tc .none O (zt O) (zt O)<|by simpa using j) .nil) ?_;refine Ab.D.code<|OK.cond O O (λc97=>?_) λc97=>?_
   ·have hG:mkG d.plain i (w.p,w.es)=true:=by show(decide (w.p.Yr=(d.plain.p i).Yr)&&decide (w.p.YD=(d.plain.p i).YD)&&Yu w.p)=true;rw[←M.1,←M.2,j,c97];rfl
    refine ro 6 O<|kc (S.Yf (xs':=({w with p:={w.p with marked:=true}}:ZN).cs) (.p k) CI .none (zt O) .Wx O (HA.XW hw) O O O O O)<|kD<|OK.KV {w.p with marked:=true} y hw O O (y.pl w<|mr hw) λA3 K=>?_;have o:=K.ok;obtain⟨N,L,hwb3,hwp3,hwe3⟩:∃N:ZN,A3.parts[k]?=some N/\N.b=w.b/\N.p={w.p with marked:=true}/\N.es=w.es:=⟨_,K.at_,rfl,rfl,rfl⟩;rw[←hwb3,←K.b];refine OK.Sd follows (ι:=(Nat×Nat)) (0,0) 10 O (S.MH (s:=[(106,.raw<|N.eh.v N.es.length),(111,.own 111 1),(2111,.arr 1 [[bv A3.entries]]),(3000,.res<|Z9 A3.mem)]) (m:=1) (qr:=[[bv A3.entries]]) (.e k) Xr O (zt O) (o.es? L) (zt O) O O O C (by simp only[Ye,Zx];have:=o.le _<|mr L;have:=o.m0;omega)<|by simp only[Ye,Zx,maxLen];have:=o.le _<|mr L;have:=o.m0;omega).st (λq=>(.cs (zm O) (.cs (zm O) (.cs (zn O O) (.cs (zr TW O) (.cs (zH Md O<|Z9.Xh (k:=.p k) (HA.XW L) O<|.same _) (.cs (zV Nc O O) (.cs (zn O O) (.cs (zr TY O) (.cs (zH YK O<|Z9.Xh (k:=.Y1) O O<|.same _) (.cs (zM [[_]] Xr O O O O)
     (.x ⟨O,O,O,O,Zo⟩<|.cn (zn O O)<|.cn (zr TW O)<|.cn (S.Yf (xs:=N.cs) (xs':=({N with eh:=some q,es:=N.es++[A3.entries]}:ZN).cs) (.p k) Md .none (zt O) (zt O) O ((HM.Z0 _ _ Z).trans<|HA.XW L) O O O O<|PN N q _) .nil)))))))))))) λq=>?_
    refine Ab.D.blk<|Ab.D.code ?_;refine OK.b7 q _ o (by rw[hwe3];omega) L O O λA4 X=>?_
    refine OK.YS (J':=JP d (d.plain.Xg i<|k+1)<|m+1) O (JP.ZV _ _ _) (λh Y w B=>⟨A4,⟨X.ok,X.b.trans<|K.b.trans hb2,X.pb.trans<|K.pb.trans t,X.len.trans<|K.len.trans g,by rw[X.plain,K.plain,r];exact nY hpk hG W⟩,B⟩) ?_;refine Ro 4 O I<|Ab.D.lp ⟨k+1,I,I,O,O,O,O,O,O,Zo⟩
   refine ro 3 O ?_;have hG:mkG d.plain i (w.p,w.es)=false:=by show(decide (w.p.Yr=(d.plain.p i).Yr)&&decide (w.p.YD=(d.plain.p i).YD)&&Yu w.p)=false;rw[←M.1,←M.2];first|(rw[bι.2 j];rfl)|(rw[j,c97];rfl)
   refine OK.YS (J':=JP d (d.plain.Xg i<|k+1)<|m+1) O (JP.ZV _ _ _) (λh Y w B=>⟨A2,⟨y,hb2,t,g,by rw[r];exact Bv hpk hG W⟩,B⟩) ?_;refine Ro 4 O I<|Ab.D.lp ⟨k+1,I,I,O,O,O,O,O,O,Zo⟩
  refine kV (.c (zm O)<|.c (zn O O)<|.c (zr Xu O)<|.c (zr RT O)<|.c (zJ (us:=[.str w.p.Yr,bv w.p.YD]) Q3 O<|Z9.KL (k:=.p k) (xs:=w.cs) (HA.XW hw) ⟨.same _,.same _,Zo⟩ O)<|.c (zm O)<|.c (zn O O)<|.c (zr Xu O)<|.c (zr RT O)<|.c (zJ (us:=[.str w0.p.Yr,bv w0.p.YD]) Q3 O<|Z9.KL (k:=.p i) (xs:=w0.cs) (HA.XW hw0) ⟨.same _,.same _,Zo⟩ O)<|.c (S.rY (b:=(decide (w.p.Yr=w0.p.Yr)&&decide (w.p.YD=w0.p.YD))) [.s [],.i 0] [.s w.p.Yr,.i w.p.YD] [.s w0.p.Yr,.i w0.p.YD] sJ .none O (zt O) (zt O) O O O O xM)<|.c (zm O)<|.c (zG O<|by simpa using j)<|.c (zG O<|by simpa using j)<|.c (S.Ug .none O (zt O) .Wx<|by simpa using j) .nil) ?_;refine rd 5 O ?_;have hG:mkG d.plain i (w.p,w.es)=false:=by show(decide (w.p.Yr=(d.plain.p i).Yr)&&decide (w.p.YD=(d.plain.p i).YD)&&Yu w.p)=false;rw[←M.1,←M.2];first|(rw[bι.2 j];rfl)|(rw[j,c97];rfl)
  refine OK.YS (J':=JP d (d.plain.Xg i<|k+1)<|m+1) O (JP.ZV _ _ _) (λh Y w B=>⟨A2,⟨y,hb2,t,g,by rw[r];exact Bv hpk hG W⟩,B⟩) ?_;refine Ro 4 O I<|Ab.D.lp ⟨k+1,I,I,O,O,O,O,O,O,Zo⟩
 refine ro 7 O ?_;refine OK.YS (J':=JP A (Xz vk A.plain i).1<|m+1) O (JP.ZV _ _ _) (λh Y w B=>B.elim λA' h1=>⟨A',⟨h1.1.1,h1.1.2.1.trans hL.b,h1.1.2.2.1.trans hL.pb,h1.1.2.2.2.1.trans hL.len,h1.1.2.2.2.2.trans<|(yQ _ _<|by show k=R (d.parts.map _);rw[Zx];omega).trans<|by rw[F,hpl1];rfl⟩,h1.2⟩) ?_;refine OK.ret ⟨Y3.r1 (zo O O) ?_,O,Zo⟩;rw[F];try rfl
def Cc(a:A.Ok m)(g:m+2<=1000)(e:Ka A.XR){n:Int}(d:R vk<=600):U_ prog 177 [] [.raw<|pV A.b,.agg (Words.mk [n] [vk]).cs] [(3000,.res<|Z9 A.mem)] [(3000,.res<|JX A.b (YJ A.plain n<|Xz vk).1<|m+2)]<|bv (YJ A.plain n<|Xz vk).2:=by
 refine cH func177 O λj=>?_
 refine ro 8 O<|OK.Tr [3] [(3,.ptr 3 0),(1003,.box (Words.mk [n] [vk]).cs),(3000,.res<|Z9 A.mem)] 2 O O O O O O ⟨O,O,O,Zo⟩ O<|OK.Tr [] [(2,.Yt [.raw<|pV A.b]),(3000,.res<|Z9 A.mem)] 3 O O O O O O ⟨O,O,Zo⟩ O<|ro 3 O<|kc (S.LJ .none O (zt O) (zt O) O O) ?_;refine RK.c (S.VO (((RF a g (n:=n) (tx:=[vk]) (f:=223) (vt:=[.Yt (Words.mk [n] [vk]).cs,.Yt [.raw<|pV A.b]]) call223 O O (ac:=Xz vk) (λi v h _=>Ew a g e d h) λi=>uY A vk i).Tq j<|Z9.ZV _)) (JX.ZV _ _ _) call218 .none O (zc O<|zc O<|zc O .nil) O O) ?_;refine rr 3 O<|OK.ret ⟨Y3.r1 (zo O O) ?_,O,Zo⟩;rfl
def eff_9:Tl 9:=λa b _ d _ c=>Cc a b d c.1
def rQ(h:k<13):Tl k:=by
 match k,h with
 |0,_=>exact @eff_0
 |1,_=>exact @dU
 |2,_=>exact @dV
 |3,_=>exact @dW
 |4,_=>exact @dX
 |5,_=>exact @eff_5
 |6,_=>exact @dY
 |7,_=>exact @eff_7
 |8,_=>exact @eff_8
 |9,_=>exact @eff_9
 |10,_=>exact @mB
 |11,_=>exact @mC
 |12,_=>exact @mD
def An(h:∀x∈l,R x.text<=100000):N6 l:=λx a=>⟨h x a,λ_ b=>rQ (Y8 b).1⟩
theorem Cu(a:(U4 n).2≠0):Z2 n l=(Z6.init n (ZO n.plan).1,0,(U4 n).2):=by
 simp_all[L_,OD,Z2]
def UK(x:Entry):Bool:=!((decide (200<R x.text)&&decide (R x.text<=600))||(decide (620<R x.text)||decide (20<R x.OR)))
def Xv(l:List Entry):Bool:=!((decide (40<R l)&&decide (R l<=60))||decide (64<R l))&&l.all UK
theorem P5(h:(200<R x.text/\R x.text<=600)\/620<R x.text\/20<R x.OR):UK x=false:=by
 unfold UK;grind
theorem xA(h:¬(200<R x.text/\R x.text<=600))(b:¬620<R x.text)(a:¬20<R x.OR):UK x=true:=by
 grind [UK]
theorem jL(h:UK x=true):R x.text<=620:=by
 grind [P5]
theorem qS(h:(40<R l/\R l<=60)\/64<R l):Xv l=false:=by
 unfold Xv;grind
theorem fq(h:¬(40<R l/\R l<=60))(a:¬64<R l):Xv l=l.all UK:=by
 grind [Xv]
theorem Ox(hi:i<R l)(a:UK l[i]=false):(l.drop i).all UK=false:=by
 grind [List.drop_eq_getElem_cons]
theorem xB(hi:i<R l)(a:UK l[i]=true):(l.drop i).all UK=(l.drop<|i+1).all UK:=by
 grind [List.drop_eq_getElem_cons]
def dz(h:Xv l=true):R l<=64/\∀x∈l,R x.text<=620:=by
 simp_all[Xv,jL]
def sI:∀(l:List Entry)(H:Z6)(i:Nat),(runT H i l).2.2=0->(runT H i l).1.entries=H.entries+R l
 |[],H,i,_=>(Int.add_zero _).symm
 |y::l,H,i,h=>by
  rw[runT]at h⊢;by_cases e:(Za H y).2=0
  ·rw[Zm<|Zp e]at h⊢;rw[sI l _ _ h,(Dw e).1,tt];omega
  simp_all
theorem Ur(h:(Z2 n l).2.2=0):(U4 n).2=0/\R l<=60/\Z2 n l=runT (Z6.init n (ZO n.plan).1) 0 l:=by
 grind [C7,Jn,Cu]
def S8(qk:R l<=100000):Ct prog 12 [.sl<|l.map Entry.cs]<|.sl<|l.map Entry.cs:=by
 refine cI func12 O<|kr<|kc (S.assign .none O .Ya)<|rr 4 O<|RK.c (zM [] x9 O O O O)<|jm O ?_;refine RK.c (S.V2 x9 .none O (zt O) O N (zt O) (by intro q a;obtain⟨b,_,rfl⟩:=rx.1 a;rfl) O (by simp only[Zx];omega)<|by simp only[maxLen,Zx];omega) ?_;refine rr 3 O ?_;refine OK.ret<|Y3.r1 (.tmp O O (.c (.own O O N) O) O) ?_;rfl
def G9(c:R n.plan<=1000)(d:∀x∈l,R x.text<=100000):Ct prog 8 [.agg n.cs,.sl<|l.map Entry.cs]<|bv (Z2 n l).2.2:=by
 refine cI func8 O<|ro 10 O<|kc (zK (G_ c) call33 O)<|rr 9 O<|kB O (λa=>?_) λa=>?_
 ·have e:=Cu (l:=l) a;refine ro 6 O<|kR O O ?_;rw[e];try rfl
 have b:=Zu.1 a;refine ro 6 O<|kc (zK (Jk c b d) call34 O)<|rr 16 O<|kR O O ?_;rfl
def C2:Ct prog 7 [.sl<|l.map Entry.cs]<|.bool<|Xv l:=by
 refine cI func7 O<|OK.XF (vi:=l.map Entry.cs) (t:=0) O O λqk=>?_;rw[Zx]at qk;unfold maxLen at qk;refine ro 9 O<|kc (zk Vy O)<|rr 2 O<|RK.ZS (t:=8) O (λp=>?_) λp=>?_
 ·refine kc (S.move (zg O O) O<|zt O)<|kc (S.OF Vy (zg O O) O<|zt O)<|rr 3 O<|RK.ZS (t:=13) O (λo=>?_) λo=>?_
  ·have b:Xv l=false:=qS I;refine rr 12 O<|kR O O ?_;rw[b];try rfl
  refine kc (S.move (zg O O) O<|zt O)<|kc (S.OF Vy (zg O O) O<|zt O)<|rr 4 O<|kB O (λk=>?_) λk=>?_
  ·have b:Xv l=false:=qS I;refine ro 5 O<|kR O O ?_;rw[b];try rfl
  have f:=fq (l:=l) I I;refine ro 9 O ?_;refine OK.loop (G:=Nat) [] (λi=>[(0,.sl<|l.map Entry.cs),(3,bv i)]) (λi=>i<=R l/\Xv l=(l.drop i).all UK) (λi=>R l - i) 0 ⟨Zr _,f⟩ ⟨O,O,Zo⟩ (λ_=>O) ?_;rintro i ⟨hi,c⟩;refine ro 5 O<|kc (zk Vy O)<|rr 3 O<|kB O (λj=>?_) λj=>?_
  ·have a:i<R l:=by omega
   refine ro 8 O<|kc (zI Vy O I O) ?_;refine rr 11 O<|RK.ZS (t:=32) O (λh=>?_) λh=>?_
   ·refine rr 4 O<|RK.ZS (t:=36) O (λg=>?_) λg=>?_
    ·have b:Xv l=false:=by rw[c,Ox a<|P5 I]
     refine rr 20 O<|kR O O ?_;rw[b];try rfl
    refine rr 4 O<|RK.ZS (t:=40) O (λd=>?_) λd=>?_
    ·have b:Xv l=false:=by rw[c,Ox a<|P5 I]
     refine rr 16 O<|kR O O ?_;rw[b];try rfl
    refine rr 2 O<|kc (S.Zi (n:=i) Vy (zg O O) O (zt O) (zt O) O I O) ?_;refine rr 7 O<|kB O (λe=>?_) λe=>?_
    ·have b:Xv l=false:=by rw[c,Ox a<|P5 I]
     refine ro 5 O<|kR O O ?_;rw[b];try rfl
    refine Ro 8 O I (Ab.D.lp ⟨i+1,⟨by omega,by rw[c,xB a<|xA I I I]⟩,I,O,O,Zo⟩)
   refine rr 8 O<|RK.ZS (t:=40) O (λd=>?_) λd=>?_
   ·have b:Xv l=false:=by rw[c,Ox a<|P5 I]
    refine rr 16 O<|kR O O ?_;rw[b];try rfl
   refine rr 2 O<|kc (S.Zi (n:=i) Vy (zg O O) O (zt O) (zt O) O I O) ?_;refine rr 7 O<|kB O (λe=>?_) λe=>?_
   ·have b:Xv l=false:=by rw[c,Ox a<|P5 I]
    refine ro 5 O<|kR O O ?_;rw[b];try rfl
   refine Ro 8 O I (Ab.D.lp ⟨i+1,⟨by omega,by rw[c,xB a<|xA I I I]⟩,I,O,O,Zo⟩)
  have b:Xv l=true:=by rw[c,show i=R l by omega,da];rfl
  refine ro 7 O<|kR O O ?_;rw[b];try rfl
 refine rr 6 O<|kc (S.OF Vy (zg O O) O<|zt O)<|rr 4 O<|kB O (λk=>?_) λk=>?_
 ·have b:Xv l=false:=qS I;refine ro 5 O<|kR O O ?_;rw[b];try rfl
 have f:=fq (l:=l) I I;refine ro 9 O ?_;refine OK.loop (G:=Nat) [] (λi=>[(0,.sl<|l.map Entry.cs),(3,bv i)]) (λi=>i<=R l/\Xv l=(l.drop i).all UK) (λi=>R l - i) 0 ⟨Zr _,f⟩ ⟨O,O,Zo⟩ (λ_=>O) ?_;rintro i ⟨hi,c⟩;refine ro 5 O<|kc (zk Vy O)<|rr 3 O<|kB O (λj=>?_) λj=>?_
 ·have a:i<R l:=by omega
  refine ro 8 O<|kc (zI Vy O I O) ?_;refine rr 11 O<|RK.ZS (t:=32) O (λh=>?_) λh=>?_
  ·refine rr 4 O<|RK.ZS (t:=36) O (λg=>?_) λg=>?_
   ·have b:Xv l=false:=by rw[c,Ox a<|P5 I]
    refine rr 20 O<|kR O O ?_;rw[b];try rfl
   refine rr 4 O<|RK.ZS (t:=40) O (λd=>?_) λd=>?_
   ·have b:Xv l=false:=by rw[c,Ox a<|P5 I]
    refine rr 16 O<|kR O O ?_;rw[b];try rfl
   refine rr 2 O<|kc (S.Zi (n:=i) Vy (zg O O) O (zt O) (zt O) O I O) ?_;refine rr 7 O<|kB O (λe=>?_) λe=>?_
   ·have b:Xv l=false:=by rw[c,Ox a<|P5 I]
    refine ro 5 O<|kR O O ?_;rw[b];try rfl
   refine Ro 8 O I (Ab.D.lp ⟨i+1,⟨by omega,by rw[c,xB a<|xA I I I]⟩,I,O,O,Zo⟩)
  refine rr 8 O<|RK.ZS (t:=40) O (λd=>?_) λd=>?_
  ·have b:Xv l=false:=by rw[c,Ox a<|P5 I]
   refine rr 16 O<|kR O O ?_;rw[b];try rfl
  refine rr 2 O<|kc (S.Zi (n:=i) Vy (zg O O) O (zt O) (zt O) O I O) ?_;refine rr 7 O<|kB O (λe=>?_) λe=>?_
  ·have b:Xv l=false:=by rw[c,Ox a<|P5 I]
   refine ro 5 O<|kR O O ?_;rw[b];try rfl
  refine Ro 8 O I (Ab.D.lp ⟨i+1,⟨by omega,by rw[c,xB a<|xA I I I]⟩,I,O,O,Zo⟩)
 have b:Xv l=true:=by rw[c,show i=R l by omega,da];rfl
 refine ro 7 O<|kR O O ?_;rw[b];try rfl
