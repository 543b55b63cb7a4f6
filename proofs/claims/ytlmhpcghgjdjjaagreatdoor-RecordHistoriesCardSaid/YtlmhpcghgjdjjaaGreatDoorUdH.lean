import Derived.Test.YtlmhpcghgjdjjaaGreatDoorUbH
set_option linter.all false
set_option maxHeartbeats 8000000
open List renaming length->R
namespace Go.Proofs.Z_
open Go.Ab Tryz
set_option maxRecDepth 9999
def vC:Y2 JT:=λ_ _ _ _ _ _ _ _ _ _ _=>trivial
def tv{M:HM SK}:∀h Y a w,Z9 M h Y w->(∀b,Y b->a b)->Z9 M h a w:=λ_ _ _ _ c d=>c.mono d
def Ex(s:State)(name rest:ba):SE:=if YA name=false then(s,4)else if(VJ rest).2≠0 then(s,(VJ rest).2)else if R s.ZJ=6 then(s,16)
 else({s with ZJ:=s.ZJ++[⟨name,s.YD name+1,(VJ rest).1⟩]},0)
def State.R1(s:State)(m:Int):Part:=s.p<|(s.U1 m).getD 0
def State.XE(pl:Zf)(s:State):List ZG:=s.Z3.map λm=>V1 pl (s.R1 m).frames
def yM(pl:Zf)(s:State)(t:Int):SE:=if(R<|s.XE pl)=0 then(s,10)else if 2 * t>=R (s.XE pl) then(s,2)else({s with env:=OM pl (s.XE pl) t},0)
def WY(n:Net)(s:State)(L:Sv):SE:=
 if L.verb=Z4[0]then(s,0)else if L.verb=Z4[1]then N3 s L.num L.Yr L.Yb else if L.verb=Z4[2]then Wd (ZO n.plan).1 s (ZI L.rest).1 (ZI L.rest).2
 else if L.verb=Z4[3]then Dv (ZO n.plan).1 (decide<|0<R s.env.rows) s else if L.verb=Z4[4]then VQ s L.num HR else if L.verb=Z4[5]then VQ s L.num ya
 else if L.verb=Z4[6]then l8 s L.Yb L.num else if L.verb=Z4[7]then Ti s L.Yb else if L.verb=Z4[8]then VQ s L.num Ie else if L.verb=Z4[9]then VQ s L.num (Qx n L.rest)
 else if L.verb=Z4[10]then Ex s L.Yr L.rest else if L.verb=Z4[11]then VQ s L.num (QO (ZO n.plan).1)else yM (ZO n.plan).1 s L.num
def State.j3(pl:Zf)(s:State):Prop:=∀m∈s.Z3,∃i,s.U1 m=some i/\WX pl (s.p i)=true
variable{c:ba}
section
variable{A:SA}{s:State}{n:Net}{pl:Zf}{i j:Nat}{v:Hd×Part}{m:Int}{f:State->Nat->SE}
def Jp(h:s.U1 m=none):VQ s m f=(s,6):=by unfold VQ;rw[h]
def Jq(h:s.U1 m=some i):VQ s m f=f s i:=by unfold VQ;rw[h]
theorem aS(a:A.parts[i]?=some v)(h:Pm v.2=false):HR A.st i=(A.st,24):=by simp_all[HR,SA.Uq]
theorem aT(a:A.parts[i]?=some v)(h:Pm v.2=true):HR A.st i=(A.st.Zh i λp=>{p with place:=2},0):=by simp_all[HR,SA.Uq]
theorem bad_F(a:A.parts[i]?=some v)(h:v.2.place≠1):ya A.st i=(A.st,20):=by simp_all[ya,SA.Uq]
theorem bad_T(a:A.parts[i]?=some v)(h:¬v.2.place≠1):ya A.st i=(A.st.Zh i λp=>{p with place:=3},0):=by simp_all[ya,SA.Uq]
theorem n6(a:A.parts[i]?=some v)(h:(Yu v.2&&!v.2.marked)=false):Ie A.st i=(A.st,20):=by simp_all[Ie,SA.Uq]
theorem bE(a:A.parts[i]?=some v)(h:(Yu v.2&&!v.2.marked)=true):Ie A.st i=(A.st.Zh i λp=>{p with marked:=true},0):=by simp_all[Ie,SA.Uq]
theorem oc(a:A.parts[i]?=some v)(h:v.2.place=0):QO pl A.st i=(A.st,20):=by simp_all[QO,SA.Uq]
theorem oa(a:A.parts[i]?=some v)(h:¬v.2.place=0)(b:WX pl v.2=false):QO pl A.st i=(A.st,14):=by simp_all[QO,SA.Uq]
theorem iL(a:A.parts[i]?=some v)(b:v.2.num=m)(h:¬v.2.place=0)(c:¬WX pl v.2=false):QO pl A.st i=if A.st.Z3.contains m then(A.st,23)else({A.st with Z3:=A.st.Z3++[m]},0):=by simp_all[QO,SA.Uq]
theorem ak(a:s.Tk=some i)(h:(s.p i).Yb=c):s.busy c=true:=by simp_all[State.busy]
theorem ah(a:s.Tk=some i)(h:¬(s.p i).Yb=c):s.busy c=false:=by simp_all[State.busy]
theorem aj(a:s.Tk=none)(c:ba):s.busy c=false:=by grind [State.busy]
def qx(h:s.Ob c=none):Ti s c=(s,6):=by unfold Ti;rw[h]
theorem qw(h:s.Ob c=some j)(a:s.busy c=true):Ti s c=(s,17):=by simp_all[Ti]
theorem Cs(h:s.Ob c=some j)(a:s.busy c=false):Ti s c=({s with Z5:=s.Z5.modify j λc=>{c with ZA:=0}},0):=by simp_all[Ti]
theorem nL(b:ix (λp:Part=>decide<|p.num=m) A.st.parts=some i):∃v,A.parts[i]?=some v/\i<R A.parts/\v.2.num=m:=by
 obtain⟨e,d⟩:=Y8 b;have a:i<R A.parts:=by grind [SA.PX]
 refine⟨A.parts[i],Zv a,a,?_⟩;have c:A.st.parts[i]=A.parts[i].2:=bκ ..;simp_all
def SA.oH(q:Nat×Nat)(r:Rec):A.mem.set .r (some (q.1,.row 3 q.2<|A.ZJ.map Rec.cs++[r.cs]))=({A with rh:=some q,ZJ:=A.ZJ++[r]}:SA).mem:=funext λk=>by
 cases k with
 |r=>show some _=some _;rw[ne];rfl
 |_=>exact HM.Z0 _ _ Z
def SA.oz(q:Nat×Nat)(c:XA):A.mem.set .c (some (q.1,.row 3 q.2<|A.Z5.map XA.cs++[c.cs]))=({A with ch:=some q,Z5:=A.Z5++[c]}:SA).mem:=funext λk=>by
 cases k with
 |c=>show some _=some _;rw[ne];rfl
 |_=>exact HM.Z0 _ _ Z
def SA.oB(q:Nat×Nat)(m:Int):A.mem.set .m (some (q.1,.row 1 q.2<|A.Z3.map Kh++[Kh m]))=({A with mh:=some q,Z3:=A.Z3++[m]}:SA).mem:=funext λk=>by
 cases k with
 |m=>show some _=some _;rw[ne];rfl
 |_=>exact HM.Z0 _ _ Z
abbrev yg(r c p m:X)(e:Envelope):bi:=[r,c,p,m,bv e.parts,bv e.trim,.sl<|e.rows.map λl=>[.sl<|l.map Range.cs]]
def SA.iR(q:Nat×Nat)(r:Rec):yg (.raw<|.slice (some ⟨q.1,0,none⟩) (R (A.ZJ.map Rec.cs)+1) q.2) (.raw<|A.ch.w<|R A.Z5) (.raw<|A.ph.w<|R A.parts) (.raw<|A.mh.w<|R A.Z3) A.env=({A with rh:=some q,ZJ:=A.ZJ++[r]}:SA).cs:=by
 unfold SA.cs;dsimp only;rw[Zs,Zx];rfl
def SA.Ed(q:Nat×Nat)(c:XA):yg (.raw<|A.rh.w<|R A.ZJ) (.raw<|.slice (some ⟨q.1,0,none⟩) (R (A.Z5.map XA.cs)+1) q.2) (.raw<|A.ph.w<|R A.parts) (.raw<|A.mh.w<|R A.Z3) A.env=({A with ch:=some q,Z5:=A.Z5++[c]}:SA).cs:=by
 unfold SA.cs;dsimp only;rw[Zs,Zx];rfl
def SA.Ee(q:Nat×Nat)(m:Int):yg (.raw<|A.rh.w<|R A.ZJ) (.raw<|A.ch.w<|R A.Z5) (.raw<|A.ph.w<|R A.parts) (.raw<|.slice (some ⟨q.1,0,none⟩) (R (A.Z3.map Kh)+1) q.2) A.env=({A with mh:=some q,Z3:=A.Z3++[m]}:SA).cs:=by
 unfold SA.cs;dsimp only;rw[Zs,Zx];rfl
def SA.Ok.fzM(h:A.Ok):Fz A.mem (.raw<|A.mh.w<|R A.Z3)<|.sl<|A.Z3.map Kh:=Fz.ofRow h.ms (Rk λ_ x _=>⟨.same _ rfl,Zo⟩) F
end
def Ar(l:bd)(n:Int):Bool:=l.any λx=>decide<|x=n
theorem Bg(l:bd)(n:Int):Ar l n=l.contains n:=by
 unfold Ar;grind
section
variable{A:SA}{s:State}{pl:Zf}{i k:Nat}{v:Hd×Part}
theorem jz(b:k<R A.Z3)(a:ix (λp:Part=>decide<|p.num=A.Z3[k]) A.st.parts=some i)(d:A.parts[i]?=some v)(e:k<R (A.st.XE pl)):(A.st.XE pl)[k]=V1 pl v.2.frames:=by
 have c:(A.st.XE pl)[k]=V1 pl (A.st.R1 A.Z3[k]).frames:=bκ ..;rw[c];unfold State.R1;rw[show A.st.U1 A.Z3[k]=some i from a];simp_all[SA.Uq]
theorem zT(a:s.Good pl)(w:s.j3 pl):Lk pl<|s.XE pl:=by
 have key:∀r∈s.XE pl,(R r.rows:Int)=pl.ticks/\∀(i:Nat)(h:i<R r.rows),R r.rows[i].values=R pl.ZY:=by
  intro r q;obtain⟨m,d,rfl⟩:=rx.1 q;obtain⟨j,B,o⟩:=w m d;have x:=(Y8 B).1;have u:s.R1 m=s.parts[j]:=by
   simp_all[State.R1,State.p]
  have c:s.p j=s.parts[j]:=by simp_all[State.p]
  obtain⟨l,e⟩:=a.fr _<|Zt x;have b:=NB<|Hj.rec a.pl l e;rw[u];unfold WX at o;rw[c,b]at o;have t:=X_ a.pl;obtain⟨E,D⟩:=Nr a.pl l.1;refine⟨by rw[IF];omega,λi h=>?_⟩;have C:=rm.1 o _<|Zt h;have z:∃f∈s.parts[j].frames,(V1 pl s.parts[j].frames).rows[i]=⟨true,f.values⟩:=by
   grind [V1,H8]
  obtain⟨f,g,y⟩:=z;rw[y];exact(VM<|l.1 f g).2
 exact⟨λk h=>(key _<|Zt h).1,λk h=>(key _<|Zt h).2⟩
end
variable{n:Int}
def sG{l:bd}:Ct prog 41 [ints l,bv n]<|.bool<|Ar l n:=by
 refine cI func41 O<|OK.XF (rows:=l.map λn=>[bv n]) (t:=0) O O λhlen=>?_;rw[Zx]at hlen;unfold maxLen at hlen;refine ro 12 O ?_;refine OK.loop (G:=Nat) [] (λi=>[(0,ints l),(1,bv n),(5,bv i)]) (λi=>i<=R l/\Ar l n=Ar (l.drop i) n) (λi=>R l - i) 0 ⟨Zr _,O⟩ ⟨O,O,O,Zo⟩ (λ_=>O) ?_;rintro i ⟨hi,b⟩;refine ro 5 O<|kc (zk Ym O)<|rr 3 O<|kB O (λc=>?_) λc=>?_
 ·refine ro 8 O<|kc (zI Ym O I O) ?_;refine rr 5 O<|kB O (λa=>?_) λa=>?_
  ·refine ro 5 O<|kR O O ?_;refine Xj ?_;rw[b,Ar,Mj _ I,Zz a,cυ]
  refine Ro 8 O I (Ab.D.lp ⟨i+1,⟨by omega,?_⟩,I,O,O,O,Zo⟩);rw[b,Ar,Mj _ I,Zy a,fM];rfl
 refine ro 7 O<|kR O O ?_;refine Xj ?_;rw[b,show i=R l by omega,da];rfl
def zW{n:Net}(F:R n.plan<=1000)(hn:(0<=n.lo/\n.lo<=1000000000)/\(0<=n.hi/\n.hi<=1000000000)/\Y5 n.limit=true){s:State}(z:s.Good (ZO n.plan).1)(hmd:s.j3 (ZO n.plan).1){L:Sv}(hl:R L.rest<=600)(hln:0<=L.num/\L.num<=10000000):Ct prog 119 [.agg n.cs,.agg s.cs,.agg L.cs]<|.Yy [.agg (WY n s L).1.cs,bv (WY n s L).2]:=by
 refine cI func119 O<|ro 12 O ?_;refine RK.callX (Kt z.sm) (λ_=>Z9.ZV _) (λ_=>tv) call168 O (zc O .nil) O λq=>?_
 obtain⟨a,hst⟩:=q.2;generalize q.1=A at a hst⊢;subst hst;have hlp:=z.sm.lp;rw[SA.PX]at hlp;have hlc:=z.sm.lc;have hlr:=z.sm.lr;have hlm:=z.sm.lm;refine rr 9 O ?_;refine kc (S.Tx (Ns (s:=A.st) (n:=L.num)) O call25 .none O (zc O<|zc O .nil) (⟨a.fz,Fz.same _ O,Zo⟩) O) ?_;refine rr 22 O<|kB O (λc25=>?_) λc25=>?_
 ·have e0:WY n A.st L=_:=Zn c25;have b:=e0;refine kr<|RK.cF (zL Zk O O O O) a.fz O O<|rr 4 O<|kT O O Zk O O O ?_;rw[b];try rfl
 have e0:WY n A.st L=_:=Zm c25;refine ro 6 O<|kB O (λc28=>?_) λc28=>?_
 ·have e1:WY n A.st L=_:=e0.trans<|Zn c28;have b:=e1;refine ro 5 O ?_;refine RK.c (S.VO (((GW a z.sm).Tq<|Z9.ZV _)) vC call169 .none O (zc O<|zc O<|zc O .nil) O O) ?_;refine rr 6 O<|kT O O Zk O O O ?_;rw[b];try rfl
 have e1:WY n A.st L=_:=e0.trans<|Zm c28;refine ro 6 O<|kB O (λc36=>?_) λc36=>?_
 ·have e2:WY n A.st L=_:=e1.trans<|Zn c36;have b:=e2;refine ro 5 O ?_;refine RK.c (S.VO (((Ey F a z hl).Tq<|Z9.ZV _)) vC call170 .none O (zc O<|zc O<|zc O .nil) O O) ?_;refine rr 6 O<|kT O O Zk O O O ?_;rw[b];try rfl
 have e2:WY n A.st L=_:=e1.trans<|Zm c36;refine ro 6 O<|kB O (λc44=>?_) λc44=>?_
 ·have e3:WY n A.st L=_:=e2.trans<|Zn c44;have b:=e3;refine ro 4 O ?_;refine RK.c (S.VO (((Ch F a z).Tq<|Z9.ZV _)) vC call171 .none O (zc O<|zc O .nil) O O) ?_;refine rr 6 O<|kT O O Zk O O O ?_;rw[b];try rfl
 have e3:WY n A.st L=_:=e2.trans<|Zm c44;refine ro 6 O<|kB O (λc51=>?_) λc51=>?_
 ·have e4:WY n A.st L=_:=e3.trans<|Zn c51;refine ro 7 O<|kB O (λc54=>?_) λc54=>?_
  ·have b:=e4.trans<|Jp<|P9 c54;refine kr<|RK.cF (zL Zk O O O O) a.fz O O<|rr 5 O<|kT O O Zk O O O ?_;rw[b];try rfl
  obtain⟨i,y⟩:=P_ c54;have h:=Vs y;obtain⟨v,g,o,hvn⟩:=nL y;obtain⟨pq,d⟩:=Vb a.ph g;have u:=e4.trans<|Jq y;refine ro 6 O<|kc (S.YH Vg .none O (zt O) O O (SA.TC d) O)<|jm O<|kc (S.hidx (i:=i) V6 .none O (zt O) (zt O) h o) ?_;refine kc (zJ (us:=v.2.cs) L5 O<|Z9.GF (k:=.p) (i:=i) (f:=0) (SA.Oh d) (Yo (f:=pC) g) O ⟨.same _,.same _,.same _,.same _,.sl<|a.fs g,.same _,.same _,.same _,.same _,.same _,.same _,.same _,.same _,Zo⟩ O)<|kc (zK (w_ (p:=v.2)) call26 O)<|kc (S.not .none O<|zt O)<|kD<|OK.cond O O (λc63=>?_) λc63=>?_
  ·have b:=u.trans (aS g<|by simpa using c63);refine kr<|RK.cF (zL Zk O O O O) a.fz O O<|rr 4 O<|kT O O Zk O O O ?_;rw[b];try rfl
  have b:=u.trans (aT g<|by simpa using c63);refine ro 5 O<|kc (S.YH Vg .none O (zt O) O O (SA.TC d) O)<|jm O<|kc (S.hidx (i:=i) V6 .none O (zt O) (zt O) h o)<|kc (zr RT O) ?_;refine kc (S.V9 (rows':=(A.parts.map pC).set i<|({v.2 with place:=2}:Part).cells<|.raw<|v.1.w<|R v.2.frames) (.p) YK .none (zt O) (.Zg O) O (SA.Oh d) (Yo (f:=pC) g) O O O O C O) ?_;refine rr 3 O ?_;rw[SA.S4 d g (p:={v.2 with place:=2}) rfl];refine OK.R3<|RK.cF (zL Zk O O O O) (SA.To (SA.Ok.Zh a (i:=i) (v:=(v.1,(λp:Part=>({p with place:=2}:Part)) v.2))<|a.fh v<|mr g) O (SA.T5 _ _).symm<|SA.Sn g v.1 λp=>{p with place:=2}) O O ?_;refine rr 4 O<|kT O O Zk O O O ?_;rw[b];try rfl
 have e4:WY n A.st L=_:=e3.trans<|Zm c51;refine ro 6 O<|kB O (λc71=>?_) λc71=>?_
 ·have e5:WY n A.st L=_:=e4.trans<|Zn c71;refine ro 7 O<|kB O (λc74=>?_) λc74=>?_
  ·have b:=e5.trans<|Jp<|P9 c74;refine kr<|RK.cF (zL Zk O O O O) a.fz O O<|rr 5 O<|kT O O Zk O O O ?_;rw[b];try rfl
  obtain⟨i,y⟩:=P_ c74;have h:=Vs y;obtain⟨v,g,o,hvn⟩:=nL y;obtain⟨pq,d⟩:=Vb a.ph g;have u:=e5.trans<|Jq y;refine ro 6 O<|kc (S.YH Vg .none O (zt O) O O (SA.TC d) O)<|jm O<|kc (S.hidx (i:=i) V6 .none O (zt O) (zt O) h o)<|kc (zr RT O) ?_;refine kc (zH YK O<|Z9.Ki (k:=.p) (i:=i) (f:=5) (SA.Oh d) (Yo (f:=pC) g) O O<|.same _) ?_;refine rr 3 O<|kB O (λc83=>?_) λc83=>?_
  ·have b:=u.trans<|bad_F g c83;refine kr<|RK.cF (zL Zk O O O O) a.fz O O<|rr 4 O<|kT O O Zk O O O ?_;rw[b];try rfl
  have b:=u.trans<|bad_T g c83;refine ro 5 O<|kc (S.YH Vg .none O (zt O) O O (SA.TC d) O)<|jm O<|kc (S.hidx (i:=i) V6 .none O (zt O) (zt O) h o)<|kc (zr RT O) ?_;refine kc (S.V9 (rows':=(A.parts.map pC).set i<|({v.2 with place:=3}:Part).cells<|.raw<|v.1.w<|R v.2.frames) (.p) YK .none (zt O) (.Zg O) O (SA.Oh d) (Yo (f:=pC) g) O O O O C O) ?_;refine rr 3 O ?_;rw[SA.S4 d g (p:={v.2 with place:=3}) rfl];refine OK.R3<|RK.cF (zL Zk O O O O) (SA.To (SA.Ok.Zh a (i:=i) (v:=(v.1,(λp:Part=>({p with place:=3}:Part)) v.2))<|a.fh v<|mr g) O (SA.T5 _ _).symm<|SA.Sn g v.1 λp=>{p with place:=3}) O O ?_;refine rr 4 O<|kT O O Zk O O O ?_;rw[b];try rfl
 have e5:WY n A.st L=_:=e4.trans<|Zm c71;refine ro 6 O<|kB O (λc91=>?_) λc91=>?_
 ·have e6:WY n A.st L=_:=e5.trans<|Zn c91;refine ro 5 O<|kc (zK R8 call125 O)<|kc (S.not .none O<|zt O)<|kD<|OK.cond O O (λc96=>?_) λc96=>?_
  ·have b:=e6.trans (Zn<|by simpa using c96);refine kr<|RK.cF (zL Zk O O O O) a.fz O O<|rr 4 O<|kT O O Zk O O O ?_;rw[b];try rfl
  have f1:=e6.trans (Zm<|by simpa using c96);refine ro 8 O ?_;refine kc (S.Tx (NV (s:=A.st) (n:=L.Yb)) O call172 .none O (zc O<|zc O .nil) (⟨a.fz,Fz.same _ O,Zo⟩) O) ?_;refine rr 3 O<|kB O (λc102=>?_) λc102=>?_
  ·have b:=f1.trans<|Zn<|isS c102;refine kr<|RK.cF (zL Zk O O O O) a.fz O O<|rr 4 O<|kT O O Zk O O O ?_;rw[b];try rfl
  have f2:=f1.trans<|Zm<|isN c102;refine ro 7 O<|kc (zK Y4 call33 O)<|kc (S.Xb .none O<|zt O)<|kD<|kB O (λc107=>?_) λc107=>?_
  ·have b:=f2.trans (Zn<|by simpa using c107);refine kr<|RK.cF (zL Zk O O O O) a.fz O O<|rr 4 O<|kT O O Zk O O O ?_;rw[b];try rfl
  have f3:=f2.trans (Zm<|by simpa using c107);refine ro 7 O ?_;refine kc (S.hlen Gw (by show R A.Z5<=maxLen;have:R A.Z5<=4:=hlc;unfold maxLen;omega) .none O<|zt O) ?_;refine rr 3 O<|kB O (λc112=>?_) λc112=>?_
  ·have b:=f3.trans (Zn<|by show¬(R A.Z5:Int)<4;omega);refine kr<|RK.cF (zL Zk O O O O) a.fz O O<|rr 4 O<|kT O O Zk O O O ?_;rw[b];try rfl
  have b:=f3.trans (Zm (by show¬¬(R A.Z5:Int)<4;have:R A.Z5<=4:=hlc;omega));refine ro 10 O<|kc (zU dM O O) ?_;refine RK.c (zM [[_,_,_]] kI O O O O) ?_;refine RK.xs (S.MH (m:=1) (rows2:=[(⟨L.Yb,L.num,0⟩:XA).cs]) .c kI O (zt O) a.cs (zt O) O O O C (by rw[Zx];have:R A.Z5<=4:=hlc;omega) (by rw[Zx];have:R A.Z5<=4:=hlc;unfold maxLen;omega)) λq=>?_;refine rr 5 O ?_;rw[SA.oz q (⟨L.Yb,L.num,0⟩:XA)];refine OK.R3 (RK.cF (zL Zk O O O O) (SA.To (A:={A with ch:=some q,Z5:=A.Z5++[(⟨L.Yb,L.num,0⟩:XA)]}) ⟨a.rh,λe=>(by cases e),a.ph,a.mh,a.fh⟩ O (SA.Ed q _) O) O O ?_);refine rr 4 O<|kT O O Zk O O O ?_;rw[b];try rfl
 have e6:WY n A.st L=_:=e5.trans<|Zm c91;refine ro 6 O<|kB O (λc125=>?_) λc125=>?_
 ·have e7:WY n A.st L=_:=e6.trans<|Zn c125;refine ro 5 O ?_;refine kc (S.Tx (NV (s:=A.st) (n:=L.Yb)) O call172 .none O (zc O<|zc O .nil) (⟨a.fz,Fz.same _ O,Zo⟩) O) ?_;refine rr 10 O<|kB O (λc132=>?_) λc132=>?_
  ·have b:=e7.trans<|qx<|P9 c132;refine kr<|RK.cF (zL Zk O O O O) a.fz O O<|rr 5 O<|kT O O Zk O O O ?_;rw[b];try rfl
  obtain⟨j,hj⟩:=P_ c132;have hcj:=Vs hj;have hjl:j<R A.Z5:=(Y8 hj).1;obtain⟨cc,H⟩:∃c,A.Z5[j]?=some c:=⟨_,Zv hjl⟩;obtain⟨ch,E⟩:=Vb a.ch H;refine ro 6 O<|kc (S.Tx (SB (s:=A.st)) O call73 .none O (zc O .nil) (⟨a.fz,Zo⟩) O)<|rr 4 O ?_;by_cases g139:ZC (λp:Part=>decide<|p.place=0) 0 A.st.parts>=0
  ·obtain⟨i,y⟩:=P_ (show¬ZC (λp:Part=>decide<|p.place=0) 0 A.st.parts<0 by omega);have h:=Vs y;obtain⟨v,g,o,_⟩:=D1 y;obtain⟨pq,d⟩:=Vb a.ph g;refine kV (.c (zm O)<|.c (S.geq .none O (zt O)<|.Zg O)<|.c (zm O)<|.c (S.VN WC (.yes O O O W) O<|zt O)<|.c (S.YH Vg (.yes O O O W) O (zt O) O O (SA.TC d) O)<|.c (S.move (.yes O O O W) O<|zt O)<|.c (S.hidx (i:=i) V6 (.yes O O O W) O (zt O) (zt O) h o)<|.c (S.Ub Gy (.yes O O O W) O<|zt O)<|.c (S.Uc T6 (.yes O O O W) O (zt O) O<|Z9.Ki (k:=.p) (i:=i) (f:=3) (SA.Oh d) (Yo (f:=pC) g) O O<|.same _)<|.c (S.VN JC (.yes O O O W) O<|zt O)<|.c (S.YH T6 (.yes O O O W) O (zt O) O O O O)<|.c (S.vl (.yes O O O W) O (zt O)<|zt O)<|.c (S.Tc .none O (zt O) (zt O) W) .nil) ?_;refine Ab.D.code<|kB O (λc149=>?_) λc149=>?_
   ·have b:=e7.trans (qw hj<|ak y<|by rw[SA.Uq g];exact c149);refine kr<|RK.cF (zL Zk O O O O) a.fz O O<|rr 4 O<|kT O O Zk O O O ?_;rw[b];try rfl
   have hB:=ah y (c:=L.Yb) (by rw[SA.Uq g];exact c149);refine ro 3 O ?_;have b:=e7.trans<|Cs hj hB;refine ro 2 O<|kc (S.YH EW .none O (zt O) O O (SA.uj E) O)<|jm O<|kc (S.hidx (i:=j) Gw .none O (zt O) (zt O) hcj hjl)<|kc (zr Sf O) ?_;refine kc (S.V9 (rows':=(A.Z5.map XA.cs).set j ({cc with ZA:=0}:XA).cs) (.c) YK .none (zt O) (.Zg O) O (SA.dL E) (Yo H) O O O O C O) ?_;refine rr 3 O ?_;rw[SA.I0 E];refine OK.R3<|RK.cF (zL Zk O O O O) (SA.To (a.Qm j {cc with ZA:=0}) O (SA.xw _ _).symm<|SA.EG H λc=>{c with ZA:=0}) O O ?_;refine rr 4 O<|kT O O Zk O O O ?_;rw[b];try rfl
  have hB:=aj (P9 (show ZC (λp:Part=>decide<|p.place=0) 0 A.st.parts<0 by omega)) L.Yb;refine kV (.c (zm O)<|.c (S.geq .none O (zt O)<|.Zg O)<|.c (zm O)<|.c (zG O W)<|.c (zG O W)<|.c (zG O W)<|.c (zG O W)<|.c (zG O W)<|.c (zG O W)<|.c (zG O W)<|.c (zG O W)<|.c (zG O W)<|.c (S.Ug .none O (zt O) .Wx W) .nil) ?_;refine rd 5 O ?_;have b:=e7.trans<|Cs hj hB;refine ro 2 O<|kc (S.YH EW .none O (zt O) O O (SA.uj E) O)<|jm O<|kc (S.hidx (i:=j) Gw .none O (zt O) (zt O) hcj hjl)<|kc (zr Sf O) ?_;refine kc (S.V9 (rows':=(A.Z5.map XA.cs).set j ({cc with ZA:=0}:XA).cs) (.c) YK .none (zt O) (.Zg O) O (SA.dL E) (Yo H) O O O O C O) ?_;refine rr 3 O ?_;rw[SA.I0 E];refine OK.R3<|RK.cF (zL Zk O O O O) (SA.To (a.Qm j {cc with ZA:=0}) O (SA.xw _ _).symm<|SA.EG H λc=>{c with ZA:=0}) O O ?_;refine rr 4 O<|kT O O Zk O O O ?_;rw[b];try rfl
 have e7:WY n A.st L=_:=e6.trans<|Zm c125;refine ro 6 O<|kB O (λc157=>?_) λc157=>?_
 ·have e8:WY n A.st L=_:=e7.trans<|Zn c157;refine ro 7 O<|kB O (λc160=>?_) λc160=>?_
  ·have b:=e8.trans<|Jp<|P9 c160;refine kr<|RK.cF (zL Zk O O O O) a.fz O O<|rr 5 O<|kT O O Zk O O O ?_;rw[b];try rfl
  obtain⟨i,y⟩:=P_ c160;have h:=Vs y;obtain⟨v,g,o,hvn⟩:=nL y;obtain⟨pq,d⟩:=Vb a.ph g;have u:=e8.trans<|Jq y;refine ro 6 O<|kc (S.YH Vg .none O (zt O) O O (SA.TC d) O)<|jm O<|kc (S.hidx (i:=i) V6 .none O (zt O) (zt O) h o) ?_;refine kc (zJ (us:=v.2.cs) L5 O<|Z9.GF (k:=.p) (i:=i) (f:=0) (SA.Oh d) (Yo (f:=pC) g) O ⟨.same _,.same _,.same _,.same _,.sl<|a.fs g,.same _,.same _,.same _,.same _,.same _,.same _,.same _,.same _,Zo⟩ O)<|kc (zK (Ny (p:=v.2)) call75 O)<|kc (S.not .none O<|zt O)<|jm O<|RK.split (t:=170) O (λJ=>?_) λJ=>?_
  ·have b:=u.trans (n6 g<|by rw[show Yu v.2=false by simpa using J];rfl);refine rr 12 O<|RK.cF (zL Zk O O O O) a.fz O O<|rr 4 O<|kT O O Zk O O O ?_;rw[b];try rfl
  refine kc (S.VN WC (zg O O) O<|zt O)<|kc (S.YH Vg (zg O O) O (zt O) O O (SA.TC d) O)<|kc (S.move (zg O O) O<|zt O)<|kc (S.hidx (i:=i) V6 (zg O O) O (zt O) (zt O) h o)<|kc (S.Ub DK (zg O O) O<|zt O)<|kc (S.Uc CI (zg O O) O (zt O) O<|Z9.Ki (k:=.p) (i:=i) (f:=8) (SA.Oh d) (Yo (f:=pC) g) O O<|.same _) ?_;refine rr 3 O<|OK.cond O O (λc177=>?_) λc177=>?_
  ·have b:=u.trans (n6 g<|by rw[show v.2.marked=true from c177,Bool.not_true,bυ]);refine kr<|RK.cF (zL Zk O O O O) a.fz O O<|rr 4 O<|kT O O Zk O O O ?_;rw[b];try rfl
  have b:=u.trans (bE g<|by rw[show v.2.marked=false from c177,show Yu v.2=true by simpa using J];rfl);refine ro 5 O<|kc (S.YH Vg .none O (zt O) O O (SA.TC d) O)<|jm O<|kc (S.hidx (i:=i) V6 .none O (zt O) (zt O) h o)<|kc (zr DK O) ?_;refine kc (S.V9 (rows':=(A.parts.map pC).set i<|({v.2 with marked:=true}:Part).cells<|.raw<|v.1.w<|R v.2.frames) (.p) CI .none (zt O) .Wx O (SA.Oh d) (Yo (f:=pC) g) O O O O C O) ?_;refine rr 3 O ?_;rw[SA.S4 d g (p:={v.2 with marked:=true}) rfl];refine OK.R3<|RK.cF (zL Zk O O O O) (SA.To (SA.Ok.Zh a (i:=i) (v:=(v.1,(λp:Part=>({p with marked:=true}:Part)) v.2))<|a.fh v<|mr g) O (SA.T5 _ _).symm<|SA.Sn g v.1 λp=>{p with marked:=true}) O O ?_;refine rr 4 O<|kT O O Zk O O O ?_;rw[b];try rfl
 have e8:WY n A.st L=_:=e7.trans<|Zm c157;refine ro 6 O<|kB O (λZ=>?_) λZ=>?_
 ·have e9:WY n A.st L=_:=e8.trans<|Zn Z;have b:=e9;refine ro 6 O ?_;refine RK.c (S.VO (((Ku hn a z hl).Tq<|Z9.ZV _)) vC call173 .none O (zc O<|zc O<|zc O<|zc O .nil) O O) ?_;refine rr 6 O<|kT O O Zk O O O ?_;rw[b];try rfl
 have e9:WY n A.st L=_:=e8.trans<|Zm Z;refine ro 6 O<|kB O (λY=>?_) λY=>?_
 ·have M:WY n A.st L=_:=e9.trans<|Zn Y;refine ro 5 O<|kc (zK R8 call125 O)<|kc (S.not .none O<|zt O)<|kD<|OK.cond O O (λX=>?_) λX=>?_
  ·have b:=M.trans (Zn<|by simpa using X);refine kr<|RK.cF (zL Zk O O O O) a.fz O O<|rr 4 O<|kT O O Zk O O O ?_;rw[b];try rfl
  have f1:=M.trans (Zm<|by simpa using X);refine ro 6 O<|kc (zK (LW (s:=L.rest) I) call174 O) ?_;refine rr 14 O<|kB O (λV=>?_) λV=>?_
  ·have b:=f1.trans<|Zn V;refine kr<|RK.cF (zL Zk O O O O) a.fz O O<|rr 5 O<|kT O O Zk O O O ?_;rw[b];try rfl
  have f2:=f1.trans<|Zm V;refine ro 7 O ?_;refine kc (S.hlen Ap (by show R A.ZJ<=maxLen;have:R A.ZJ<=100:=hlr;unfold maxLen;omega) .none O<|zt O) ?_;refine rr 3 O<|kB O (λc214=>?_) λc214=>?_
  ·have b:=f2.trans (Zn<|by show R A.ZJ=6;omega);refine kr<|RK.cF (zL Zk O O O O) a.fz O O<|rr 4 O<|kT O O Zk O O O ?_;rw[b];try rfl
  have b:=f2.trans (Zm<|by show¬R A.ZJ=6;omega);have hcl:=l6 (λr:Rec=>decide<|r.name=L.Yr) A.ZJ;have hcn:0<=QA (λr:Rec=>decide<|r.name=L.Yr) A.ZJ:=eQ _;have hlr2:R A.ZJ<=100:=hlr;have hcv:QA (λr:Rec=>decide<|r.name=L.Yr) A.st.ZJ=QA (λr:Rec=>decide<|r.name=L.Yr) A.ZJ:=rfl;refine ro 3 O ?_;refine OK.Sd follows (ι:=(Nat×Nat)) (0,0) 13 O (S.MH (s:=[(217,.raw<|A.rh.w<|R A.ZJ),(228,.own 228 1),(2228,.arr 3 [(⟨L.Yr,A.st.YD L.Yr+1,(VJ L.rest).1⟩:Rec).cs]),(3000,.res<|Z9 A.mem)]) (m:=1) (rows2:=[(⟨L.Yr,A.st.YD L.Yr+1,(VJ L.rest).1⟩:Rec).cs]) .r kH O (zt O) a.rs (zt O) O O O C (by rw[Zx];have:R A.ZJ<=100:=hlr;omega) (by rw[Zx];have:R A.ZJ<=100:=hlr;unfold maxLen;omega)).st (λq=>(.cs (zf Qn O) (.cs (zl C1 O O O O) (.cs (zf N7 O) (.cs (zl T6 O O O O) (.cs (zL Zk O O O O) (.cs (zf N7 O) (.cs (zl T6 O O O O) (.cs (S.Tx (OS (s:=A.st) (n:=L.Yr)) O call72 .none O (zc O<|zc O .nil) (⟨a.fz,Fz.same _ O,Zo⟩) O) (.cs (zp O O I) (.cs (zU aa O O) (.cs (zm O) (.cs (zU lN O O) (.cs (zM [[_,_,_]] kH O O O O)
   (.x ⟨O,O,O,O,Zo⟩<|.cn (zf Qn O)<|.cn (zS C1 O O O O O O) .nil))))))))))))))) λq=>?_
  refine Ab.D.code<|kO ?_;rw[SA.oH q (⟨L.Yr,A.st.YD L.Yr+1,(VJ L.rest).1⟩:Rec)];refine OK.R3 (RK.cF (zL Zk O O O O) (SA.To (A:={A with rh:=some q,ZJ:=A.ZJ++[(⟨L.Yr,A.st.YD L.Yr+1,(VJ L.rest).1⟩:Rec)]}) ⟨λe=>(by cases e),a.ch,a.ph,a.mh,a.fh⟩ O (SA.iR q _) O) O O ?_);refine rr 4 O<|kT O O Zk O O O ?_;rw[b];try rfl
 have M:WY n A.st L=_:=e9.trans<|Zm Y;refine ro 6 O<|kB O (λU=>?_) λU=>?_
 ·have K:WY n A.st L=_:=M.trans<|Zn U;refine ro 7 O<|kB O (λT=>?_) λT=>?_
  ·have b:=K.trans<|Jp<|P9 T;refine kr<|RK.cF (zL Zk O O O O) a.fz O O<|rr 5 O<|kT O O Zk O O O ?_;rw[b];try rfl
  obtain⟨i,y⟩:=P_ T;have h:=Vs y;obtain⟨v,g,o,hvn⟩:=nL y;obtain⟨pq,d⟩:=Vb a.ph g;have u:=K.trans<|Jq y;refine ro 6 O<|kc (S.YH Vg .none O (zt O) O O (SA.TC d) O)<|jm O<|kc (S.hidx (i:=i) V6 .none O (zt O) (zt O) h o)<|kc (zr RT O) ?_;refine kc (zH YK O<|Z9.Ki (k:=.p) (i:=i) (f:=5) (SA.Oh d) (Yo (f:=pC) g) O O<|.same _) ?_;refine rr 3 O<|kB O (λB=>?_) λB=>?_
  ·have b:=u.trans<|oc g B;refine kr<|RK.cF (zL Zk O O O O) a.fz O O<|rr 4 O<|kT O O Zk O O O ?_;rw[b];try rfl
  have hwp:WX (ZO n.plan).1 v.2=(V1 (ZO n.plan).1 v.2.frames).rows.all λx=>x.known:=by unfold WX;rw[(z.XE g).2]
  refine ro 4 O ?_;refine kV (.c (zL Pn O O O O)<|.c (zf WC O)<|.c (S.YH Vg .none O (zt O) O O (SA.TC d) O)<|.c (zm O)<|.c (S.hidx (i:=i) V6 .none O (zt O) (zt O) h o)<|.c (zJ (us:=v.2.cs) L5 O<|Z9.GF (k:=.p) (i:=i) (f:=0) (SA.Oh d) (Yo (f:=pC) g) O ⟨.same _,.same _,.same _,.same _,.sl<|a.fs g,.same _,.same _,.same _,.same _,.same _,.same _,.same _,.same _,Zo⟩ O)<|.c (zK (QZ F z.pl<|z.vals g) call176 O)<|.c (zK (KZ (r:=V1 (ZO n.plan).1 v.2.frames)) call175 O)<|.c (S.not .none O<|zt O) .nil)<|Ab.D.code<|OK.cond O O (λQ=>?_) λQ=>?_
  ·have b:=u.trans (oa g B<|by rw[hwp];simpa using Q);refine kr<|RK.cF (zL Zk O O O O) a.fz O O<|rr 4 O<|kT O O Zk O O O ?_;rw[b];try rfl
  have hmm:=u.trans (iL g hvn B<|by rw[hwp];simpa using Q);refine ro 9 O ?_;refine kc (S.Tx (sG (l:=A.Z3) (n:=L.num)) O call41 .none O (zc O<|zc O .nil) (⟨a.fzM,Fz.same _ O,Zo⟩) O)<|kD<|OK.cond O O (λP=>?_) λP=>?_
  ·have b:=hmm.trans (Zn<|by rw[←Bg];exact P);refine kr<|RK.cF (zL Zk O O O O) a.fz O O<|rr 4 O<|kT O O Zk O O O ?_;rw[b];try rfl
  have b:=hmm.trans (Zm<|by rw[←Bg];exact Bool.not_eq_true _▸P);refine ro 8 O ?_;refine RK.c (zM [[_]] Xr O O O O) ?_;refine RK.xs (S.MH (m:=1) (rows2:=[Kh L.num]) .m Xr O (zt O) a.ms (zt O) O O O C (by rw[Zx];have:R A.Z3<=100:=hlm;omega) (by rw[Zx];have:R A.Z3<=100:=hlm;unfold maxLen;omega)) λq=>?_;refine rr 5 O ?_;rw[SA.oB q L.num];refine OK.R3 (RK.cF (zL Zk O O O O) (SA.To (A:={A with mh:=some q,Z3:=A.Z3++[L.num]}) ⟨a.rh,a.ch,a.ph,λe=>(by cases e),a.fh⟩ O (SA.Ee q _) O) O O ?_);refine rr 4 O<|kT O O Zk O O O ?_;rw[b];try rfl
 have K:WY n A.st L=_:=M.trans<|Zm U;refine ro 4 O ?_;have hlm2:R A.Z3<=100:=hlm;have hrl:R (A.st.XE (ZO n.plan).1)=R A.Z3:=Zx ..;refine OK.R3<|RK.c (S.XG (k:=15) (sz:=1) .none O)<|rr 9 O ?_;refine OK.loop (G:=Nat) [3,5,6,8,15] (λk=>[(3,.ptr 3 0),(1003,.box n.cs),(5,.ptr 5 0),(1005,.box L.cs),(6,.ptr 6 0),(1006,.box [.ZM,.ZM,.ZM,.ZM,bv 0,bv 0,.ZM]),(8,.ptr 8 0),(1008,.box A.cs),(15,.own 15 k),(2015,.arr 1<|((A.st.XE (ZO n.plan).1).take k).map ZG.cs),(16,bv k),(3000,.res<|Z9 A.mem)]) (λk=>k<=R A.Z3) (λk=>R A.Z3 - k) 0 (Zr _) ⟨O,O,O,O,O,O,O,O,(ZH N),(ZX N),O,O,Zo⟩ (λ_=>O) ?_;rintro k hk;refine ro 6 O ?_;refine kc (S.hlen Ym (by have:R A.Z3<=100:=hlm;unfold maxLen;omega) .none O<|zt O) ?_;refine rr 3 O<|kB O (λc274=>?_) λc274=>?_
 ·have hkm:k<R A.Z3:=I
  have hkr:k<R (A.st.XE (ZO n.plan).1):=I
  have hmk:A.Z3[k]?=some A.Z3[k]:=Zv hkm;obtain⟨i,y,hwi⟩:=hmd _<|Zt (l:=A.st.Z3) hkm;obtain⟨mq,hmh⟩:=Vb a.mh hmk;have h:=Vs y;obtain⟨v,g,o,_⟩:=nL y;obtain⟨pq,d⟩:=Vb a.ph g;have hrk:(A.st.XE (ZO n.plan).1)[k]=V1 (ZO n.plan).1 v.2.frames:=jz hkm y g hkr;refine ro 4 O ?_;refine kV (.c (zm O)<|.c (zL Pn O O O O)<|.c (zf WC O)<|.c (S.YH Vg .none O (zt O) O O (SA.TC d) O)<|.c (zL Zk O O O O)<|.c (zf C5 O)<|.c (S.YH Vr .none O (zt O) O O (SA.rawM hmh) O)<|.c (zm O)<|.c (S.hidx (i:=k) Ym .none O (zt O) (zt O) O hkm)<|.c (zH YK O<|Z9.Ki (k:=.m) (i:=k) (f:=0) (SA.atM hmh) (Yo (f:=Kh) hmk) O O<|.same _)<|.c (S.Tx (Ns (s:=A.st) (n:=A.Z3[k])) O call25 .none O (zc O<|zc O .nil) (⟨a.fz,Fz.same _ O,Zo⟩) O)<|.c (S.hidx (i:=i) V6 .none O (zt O) (zt O) h o)<|.c (zJ (us:=v.2.cs) L5 O<|Z9.GF (k:=.p) (i:=i) (f:=0) (SA.Oh d) (Yo (f:=pC) g) O ⟨.same _,.same _,.same _,.same _,.sl<|a.fs g,.same _,.same _,.same _,.same _,.same _,.same _,.same _,.same _,Zo⟩ O)<|.c (zK (QZ F z.pl<|z.vals g) call176 O)<|.c (zM [[_]] vF O O O O)<|.c (zP vF O O (by rw[Zx,List.length_take_of_le<|by rw[hrl];exact hk]) N I<|by simp only[maxLen];omega)<|.c (za O) .nil) ?_;refine Rd 7 O I ?_;refine Ab.D.lp ⟨k+1,I,I,O,O,O,O,O,O,O,O,(ZH N),(ZX<|by rw[←Wh hkr,ne,hrk];rfl),O,O,Zo⟩
 obtain rfl:k=R A.Z3:=I
 have hkl:R (A.st.XE (ZO n.plan).1)<=R A.Z3:=Nat.le_of_eq hrl;refine ro 4 O ?_;refine OK.freeze 15 O O O (by simp[hrl]) ?_;rw[sg hkl];refine OK.R3<|jm O<|kc (zk Sq O)<|rr 3 O<|kB O (λc295=>?_) λc295=>?_
 ·have b:=K.trans<|Zn I;refine kr<|RK.cF (zL Zk O O O O) a.fz O O<|rr 4 O<|kT O O Zk O O O ?_;rw[b];try rfl
 have f1:=K.trans<|Zm I;refine ro 7 O ?_;refine kc (S.mul .none O (.Zg O) (zt O) (mn _ I)<|mn _ I)<|jm O<|kc (zk Sq O) ?_;refine rr 3 O<|kB O (λc302=>?_) λc302=>?_
 ·have b:=f1.trans<|Zn I;refine kr<|RK.cF (zL Zk O O O O) a.fz O O<|rr 4 O<|kT O O Zk O O O ?_;rw[b];try rfl
 have b:=f1.trans<|Zm I;have hW:=zT z hmd;refine ro 3 O<|kV (.c (zL Pn O O O O)<|.c (zK (NW F) call178 O)<|.c (zm O)<|.c (zf xU O)<|.c (zl YK O O O O)<|.c (zK (EB (p:=(ZO n.plan).1) (l:=A.st.XE (ZO n.plan).1) (trim:=L.num) z.pl ⟨I,I⟩ hW ⟨hln.1,I⟩) call177 O)<|.c (zf Ay O)<|.c (zS Md O O O O O O) .nil) ?_;refine rd 3 O<|RK.cF (zL Zk O O O O) (SA.To (A:={A with env:=OM (ZO n.plan).1 (A.st.XE (ZO n.plan).1) L.num}) ⟨a.rh,a.ch,a.ph,a.mh,a.fh⟩ O O O) O O<|rr 4 O<|kT O O Zk O O O ?_;rw[b];try rfl
def Vp(n:Net)(OR:ba):Option Nat:=ix (λp:Ze=>decide<|p.name=OR) n.ZU
def Z6.head(H:Z6)(x:Entry):Int:=ZW [Z8 (decide<|H.entries<60) 8,Z8 (Vp H.XR x.OR).isSome 6,Z8 (decide<|0<=x.at_/\x.at_<=1000000000000) 2,Z8 (decide<|x.at_>=H.time) 9,Z8 (decide ((R x.text:Int)<=600)) 8,Z8 (x.text.all X6) 3,Z8 (X2 (ZQ 32 x.text).1).isSome 7]
def WQ(k:Nat)(H:Z6)(L:Sv):HE:=match k with
 |0=>(H,0)
 |1=>W_ H L.num L.Yr L.Yb
 |2=>Yl H (ZI L.rest).1 (ZI L.rest).2
 |3=>Sz H
 |4=>YJ H L.num Wi
 |5=>YJ H L.num Tu
 |6=>Tw H L.Yb L.num
 |7=>XZ H L.Yb
 |8=>YJ H L.num WU
 |9=>YJ H L.num<|Xz L.rest
 |10=>XX H L.Yr L.rest
 |11=>YJ H L.num Xe
 |_=>Wo H L.num
def Z6.tail(H:Z6)(x:Entry)(i k:Nat):Int:=ZW [Z8 (decide<|(H.XR.ZU[i]?.map Ze.role).getD 0>=S2.getD k 0) 18,Z8 (Q9 x.text<|kinds.getD k []).2 7]
def Za(H:Z6)(x:Entry):HE:=
 if H.head x≠0 then(H,H.head x)else match Vp H.XR x.OR,X2 (ZQ 32 x.text).1 with
 |some i,some k=>
  if H.tail x i k≠0 then(H,H.tail x i k)else
  let r:=WQ k H (Yn x.text).1
  if r.2≠0 then r else({r.1 with time:=x.at_,entries:=r.1.entries+1},0)
 |_,_=>(H,7)
variable{α:Type}
theorem nF(g:α->Bool)(l:List α):decide (ZC g 0 l>=0)=(ix g l).isSome:=by
 rw[SO];grind
def head_eq(A:HA)(x:Entry):A.plain.head x=ZW [Z8 (decide<|A.entries<60) 8,Z8 (decide<|ZC (λp:Ze=>decide<|p.name=x.OR) 0 A.XR.ZU>=0) 6,Z8 (decide<|0<=x.at_/\x.at_<=1000000000000) 2,Z8 (decide<|x.at_>=A.time) 9,Z8 (decide ((R x.text:Int)<=600)) 8,Z8 (!!(x.text.all X6)) 3,Z8 (X2 (ZQ 32 x.text).1).isSome 7]:=by
 rw[nF,fj];rfl
variable{a b:Bool}
def aP{c d e f:Bool}:ZW [Z8 a 8,Z8 b 6,Z8 c 2,Z8 d 9,Z8 e 8,Z8 f 3,Z8 false 7]≠0:=by
 cases a<;>cases b<;>cases c<;>cases d<;>cases e<;>cases f<;>decide
def mS{c d e f g:Bool}(h:ZW [Z8 a 8,Z8 b 6,Z8 c 2,Z8 d 9,Z8 e 8,Z8 f 3,Z8 g 7]=0):a=true/\b=true/\c=true/\d=true/\e=true/\f=true/\g=true:=by
 cases a<;>cases b<;>cases c<;>cases d<;>cases e<;>cases f<;>cases g<;>first|exact absurd h C|simp
def gV(h:ZW [Z8 a 18,Z8 b 7]=0):a=true/\b=true:=by
 cases a<;>cases b<;>first|exact absurd h C|simp
variable{x:Entry}{H:Z6}
def HV(h:H.head x=0):H.entries<60/\(Vp H.XR x.OR).isSome=true/\(0<=x.at_/\x.at_<=1000000000000)/\x.at_>=H.time/\(R x.text:Int)<=600/\x.text.all X6=true/\(X2 (ZQ 32 x.text).1).isSome=true:=by
 obtain⟨l,g,e,d,c,b,a⟩:=mS h;simp_all
def nM(k:Nat):R (kinds.getD k [])<=3/\∀b∈kinds.getD k [],b.toNat<128:=by
 by_cases h:k<13
 ·match k,h with
  |0,_=>decide
  |1,_=>decide
  |2,_=>decide
  |3,_=>decide
  |4,_=>decide
  |5,_=>decide
  |6,_=>decide
  |7,_=>decide
  |8,_=>decide
  |9,_=>decide
  |10,_=>decide
  |11,_=>decide
  |12,_=>decide
 have e:kinds.getD k []=[]:=by
  unfold List.getD;rw[bζ<|by show 13<=k;omega];rfl
 simp_all
variable{l:ba}
theorem l9{c:UInt8}:(ZQ c l).2.1=[]\/∃n,(ZQ c l).2.1=l.drop n:=by
 by_cases h:0<=Lib.indexByte l c
 ·rw[KG h];grind
 rw[Nz h];simp
theorem tc{c:UInt8}:∃n,(ZQ c l).1=l.take n:=by
 by_cases h:0<=Lib.indexByte l c
 ·rw[KG h];grind
 rw[Nz h];exact⟨R l,F⟩
structure Of(t l:ba):Prop where
 len:l.length<=t.length
 sub:∀b∈l,b∈t
theorem Of.nil(t:ba):Of t []:=⟨Zr _,λb h=>by cases h⟩
def Of.refl(t:ba):Of t t:=⟨Zq _,λ_ h=>h⟩
theorem Of.trans{a b:ba}(h:Of a b)(k:Of b c):Of a c:=⟨di k.len h.len,λx d=>h.sub x<|k.sub x d⟩
def Of.take(t:ba)(n:Nat):Of t<|t.take n:=⟨List.length_take_le' _ _,λ_ h=>eν h⟩
theorem Of.drop(t:ba)(n:Nat):Of t<|t.drop n:=⟨F,λ_ h=>dβ h⟩
theorem Of.rest(c:UInt8)(t:ba):Of t (ZQ c t).2.1:=by
 grind [l9,nil,drop]
theorem Of.first(c:UInt8)(t:ba):Of t (ZQ c t).1:=by
 obtain⟨n,h⟩:=tc (c:=c) (l:=t);simp_all[take]
theorem Of.split(c:UInt8){t w:ba}(h:w∈Z7 c t):Of t w:=by
 have key:∀(n:Nat)(t:ba),R t<=n->∀w∈Z7 c t,Of t w:=by
  intro n
  induction n with
  |zero=>
   intro t b w hw;have:t=[]:=tz I;subst this;rw[Rn]at hw;split at hw
   ·rename_i a;exact absurd a (by rw[show(ZQ c ([]:ba)).2.2=false from rfl];decide)
   simp_all[refl]
  |succ n d=>
   intro t b w hw;rw[Rn]at hw;split at hw
   ·rename_i a;rw[sf]at hw;rcases hw with rfl|hw
    all_goals grind [first,Of.rest,trans,KG,Nz]
   simp_all[refl]
 exact key _ t (Zq _) w h
theorem aR{t:ba}{L:List ba}(h:∀w∈L,Of t w)(i:Nat):Of t<|L.getD i []:=by
 unfold List.getD;cases e:L[i]? with
 |none=>exact .nil t
 |some w=>grind
theorem wO(t:ba):Of t (Yn t).1.rest/\Of t (Yn t).1.Yr/\Of t (Yn t).1.Yb:=by
 have a:=Of.rest 32 t;have hs:∀w∈Z7 32 (ZQ 32 t).2.1,Of t w:=λw hw=>a.trans<|.split 32 hw
 have g:=λi=>aR hs i
 have c:=a.trans<|Of.first 32 (ZQ 32 t).2.1;have b:=a.trans<|Of.rest 32 (ZQ 32 t).2.1;grind [Of.nil,Yn]
def Ka(n:Net):Prop:=(0<=n.lo/\n.lo<=10000)/\(0<=n.hi/\n.hi<=10000)
def Tl(k:Nat):Prop:=∀{A:HA}{m:Int},A.Ok m->m+2<=1000->Y_ A.plan=0->Ka A.XR->∀{L:Sv},(R L.rest<=600/\R L.Yr<=600/\R L.Yb<=600/\L.rest.all X6=true)->
 U_ prog (mW k) [] [.raw<|pV A.b,.agg (Q6 k L).cs] [(3000,.res<|Z9 A.mem)] [(3000,.res<|JX A.b (WQ k A.plain L).1<|m+2)] (bv (WQ k A.plain L).2)
variable{k:Nat}
def mG(h:k<13):∀args w,(callFunc (mW k) args).run prog w=.ok (.enter (mW k) args) w:=by
 match k,h with
 |0,_=>exact call154
 |1,_=>exact call155
 |2,_=>exact call156
 |3,_=>exact call157
 |4,_=>exact call158
 |5,_=>exact call159
 |6,_=>exact call160
 |7,_=>exact call161
 |8,_=>exact call162
 |9,_=>exact call163
 |10,_=>exact call164
 |11,_=>exact call165
 |12,_=>exact call166
def eff_0:Tl 0:=λa b _ _ _ _=>(qa a b).WB
def dU:Tl 1:=λa b _ _ _ _=>(uG a b).WB
def dV:Tl 2:=λa c b _ _ d=>ux a c d.1 b
def dW:Tl 3:=λa b _ _ _ _=>(jw a b).WB
def dX:Tl 4:=λa b _ _ _ _=>p9 a b
def eff_5:Tl 5:=λa b _ _ _ _=>jv a b
def dY:Tl 6:=λa b _ _ _ _=>(Ca a b).WB
def eff_7:Tl 7:=λa b _ _ _ _=>(zF a b).WB
def eff_8:Tl 8:=λa b _ _ _ _=>p_ a b
def mC:Tl 11:=λa b _ _ _ _=>uE a b
def mD:Tl 12:=λa b _ _ _ _=>(uA a b).WB
theorem OV{f:Z6->Nat->HE}(a:∀i,(f H i).1.entries=H.entries):(YJ H n f).1.entries=H.entries:=by
 unfold YJ;split
 ·rfl
 rename_i i _;split
 ·exact a i
 grind
theorem mA(k:Nat)(H:Z6)(L:Sv):(WQ k H L).1.entries=H.entries:=by
 have hs:∀r i,(Xz r H i).1.entries=H.entries:=λr i=>by
  unfold Xz;dsimp only
  repeat' split
  all_goals rfl
 have b:∀i,(Wi H i).1.entries=H.entries:=λi=>by unfold Wi;split<;>rfl
 have c:∀i,(Tu H i).1.entries=H.entries:=λi=>by unfold Tu;split<;>rfl
 have a:∀i,(WU H i).1.entries=H.entries:=λi=>by unfold WU;split<;>rfl
 have d:∀i,(Xe H i).1.entries=H.entries:=λi=>by grind [Xe]
 unfold WQ;split
 ·rfl
 ·grind [W_]
 ·unfold Yl;repeat' split
  all_goals rfl
 ·unfold Sz;split<;>rfl
 ·exact OV b
 ·exact OV c
 ·grind [Tw]
 ·grind [XZ]
 ·exact OV a
 all_goals grind [OV,XX,Wo]
theorem AZ(h:H.head x≠0):Za H x=(H,H.head x):=by unfold Za;grind
variable{i:Nat}
def mJ(h:H.head x=0)(hi:Vp H.XR x.OR=some i)(a:X2 (ZQ 32 x.text).1=some k)(b:H.tail x i k≠0):Za H x=(H,H.tail x i k):=by
 simp_all[Za]
def mI(h:H.head x=0)(hi:Vp H.XR x.OR=some i)(a:X2 (ZQ 32 x.text).1=some k)(c:H.tail x i k=0)(b:(WQ k H (Yn x.text).1).2≠0):Za H x=WQ k H (Yn x.text).1:=by
 simp_all[Za]
def mH(h:H.head x=0)(hi:Vp H.XR x.OR=some i)(a:X2 (ZQ 32 x.text).1=some k)(c:H.tail x i k=0)(b:(WQ k H (Yn x.text).1).2=0):Za H x=({(WQ k H (Yn x.text).1).1 with time:=x.at_,entries:=(WQ k H (Yn x.text).1).1.entries+1},0):=by
 simp_all[Za]
def ze{p:Ze}:Ct prog 109 [.agg p.cs,.Yt x.cs]<|.bool<|decide<|p.name=x.OR:=by
 refine cI func109 O<|ro 16 O<|kR O O ?_;rfl
def Ev{l:List Ze}:Ct prog 108 [.sl<|l.map Ze.cs,.fn 109 [.Yt x.cs]]<|bv<|ZC (λp:Ze=>decide<|p.name=x.OR) 0 l:=by
 refine cI func108 O<|OK.XF (rows:=l.map Ze.cs) (t:=0) O O λhlen=>?_;rw[Zx]at hlen;unfold maxLen at hlen;refine ro 9 O<|kc (zk RL O)<|rr 4 O ?_;refine OK.loop (G:=Nat) [] (λi=>[(0,.sl<|l.map Ze.cs),(1,.fn 109 [.Yt x.cs]),(7,bv<|R l),(8,bv i)]) (λi=>i<=R l/\ZC (λp:Ze=>decide<|p.name=x.OR) 0 l=ZC (λp:Ze=>decide<|p.name=x.OR) i (l.drop i)) (λi=>R l - i) 0 ⟨Zr _,O⟩ ⟨O,O,O,O,Zo⟩ (λ_=>O) ?_;rintro i ⟨hi,a⟩;refine ro 6 O<|kB O (λd=>?_) λd=>?_
 ·have c:i<R l:=by omega
  refine ro 15 O<|kc (zI RL O I O)<|kc (S.Vj fC .none O (zt O) O O)<|kc (S.Tm (ze (p:=l[i]) (x:=x)) call109 .none O (zt O) (zc O .nil) O O O)<|kD<|kB O (λb=>?_) λb=>?_
  ·refine ro 6 O<|kR O O ?_;refine YL ?_;rw[a,Y0 _ I];simp_all
  refine Ro 7 O I (Ab.D.lp ⟨i+1,⟨by omega,?_⟩,I,O,O,O,O,Zo⟩);rw[a,Y0 _ I];simp_all
 refine ro 7 O<|kR O O ?_;refine YL ?_;have:i=R l:=by omega
 subst this;rw[a,da];rfl
def Au{A:HA}{m:Int}(q:A.Ok m)(G:m+2<=1000)(V:Y_ A.plan=0)(Z:Ka A.XR)(K:R x.text<=100000)(hE:∀k,X2 (ZQ 32 x.text).1=some k->Tl k):U_ prog 78 [] [.raw<|pV A.b,.agg x.cs] [(3000,.res<|Z9 A.mem)] [(3000,.res<|JX A.b (Za A.plain x).1<|m+2)]<|.int .i64 (Za A.plain x).2:=by
 refine cH func78 O λB=>?_
 refine ro 7 O<|OK.Tr [] [(0,.raw<|pV A.b),(3000,.res<|Z9 A.mem)] 3 O O O O O O ⟨O,O,Zo⟩ O<|ro 6 O ?_;refine kc (zH CG O<|Z9.Xh (k:=.Y1) O O<|.same _)<|kc (S.Xd .none O (zt O) O)<|kc (zK (Ev (l:=A.XR.ZU) (x:=x)) call108 O) ?_;refine rr 5 O<|kc (S.assign .none O .Nt)<|rr 6 O<|kc (zK (J3 (l:=x.text) (c:=32) K) call111 O)<|rr 10 O ?_;rcases hk:X2 (ZQ 32 x.text).1 with _|k
 ·have d:=head_eq A x;rw[hk]at d;refine OK.R3<|jm O<|kc (zK (p7 hk) call112 O)<|rr 9 O ?_;refine kV (.c (zm O)<|.c (zn O O)<|.c (zr UA O)<|.c (zH YK O<|Z9.Xh (k:=.Y1) O O<|.same _)<|.c (S.lss .none O (zt O)<|.Zg O)<|.c (zK ZT call96 O)<|.c (zm O)<|.c (S.geq .none O (zt O)<|.Zg O)<|.c (zK ZT call96 O)<|.c (S.field Nu .none O (zt O) O)<|.c (zV YK O O)<|.c (zK XL call97 O)<|.c (zK ZT call96 O)<|.c (S.field Nu .none O (zt O) O)<|.c (zV YK O O)<|.c (zm O)<|.c (zn O O)<|.c (zr DB O)<|.c (zH YK O<|Z9.Xh (k:=.Y1) O O<|.same _)<|.c (S.geq .none O (zt O)<|zt O)<|.c (zK ZT call96 O)<|.c (S.field KB .none O (zt O) O)<|.c (zV T6 O O)<|.c (S.qV underlying9 .none O<|zt O)<|.c (S.leq .none O (zt O)<|.Zg O)<|.c (zK ZT call96 O)<|.c (S.field KB .none O (zt O) O)<|.c (zV T6 O O)<|.c (zm O)<|.c (zK (RE K) call113 O)<|.c (S.not .none O<|zt O)<|.c (zK ZT call96 O)<|.c (zm O)<|.c (zK ZT call96 O)<|.c (zM [[_],[_],[_],[_],[_],[_],[_]] Xk O O O O)<|.c (S.XY (YI (l:=[_,_,_,_,_,_,_])) call76 .none O (zc O .nil) (.cons (.p (.own O O) O) .nil) O)<|.c (za O) .nil) ?_;refine rd 8 O<|kB O (λe=>?_) λe=>?_
  ·have D:A.plain.head x≠0:=by rw[d];exact e
   have a:=AZ D;refine ro 6 O ?_;have B:=a;refine OK.YS (J':=JX A.b (Za A.plain x).1<|m+2) O (JX.ZV _ _ _) (λh Y w r=>HA.jx q I G (by rw[B]) r) ?_;refine OK.ret ⟨Y3.r1 (zo O O) ?_,O,Zo⟩;rw[a,d];rfl
  exact absurd aP e
 have d:=head_eq A x;rw[hk]at d;have H:k<13:=(Y8 hk).1;refine OK.R3<|jm O<|kc (zK (p8 hk) call112 O)<|rr 9 O ?_;refine kV (.c (zm O)<|.c (zn O O)<|.c (zr UA O)<|.c (zH YK O<|Z9.Xh (k:=.Y1) O O<|.same _)<|.c (S.lss .none O (zt O)<|.Zg O)<|.c (zK ZT call96 O)<|.c (zm O)<|.c (S.geq .none O (zt O)<|.Zg O)<|.c (zK ZT call96 O)<|.c (S.field Nu .none O (zt O) O)<|.c (zV YK O O)<|.c (zK XL call97 O)<|.c (zK ZT call96 O)<|.c (S.field Nu .none O (zt O) O)<|.c (zV YK O O)<|.c (zm O)<|.c (zn O O)<|.c (zr DB O)<|.c (zH YK O<|Z9.Xh (k:=.Y1) O O<|.same _)<|.c (S.geq .none O (zt O)<|zt O)<|.c (zK ZT call96 O)<|.c (S.field KB .none O (zt O) O)<|.c (zV T6 O O)<|.c (S.qV underlying9 .none O<|zt O)<|.c (S.leq .none O (zt O)<|.Zg O)<|.c (zK ZT call96 O)<|.c (S.field KB .none O (zt O) O)<|.c (zV T6 O O)<|.c (zm O)<|.c (zK (RE K) call113 O)<|.c (S.not .none O<|zt O)<|.c (zK ZT call96 O)<|.c (zm O)<|.c (zK ZT call96 O)<|.c (zM [[_],[_],[_],[_],[_],[_],[_]] Xk O O O O)<|.c (S.XY (YI (l:=[_,_,_,_,_,_,_])) call76 .none O (zc O .nil) (.cons (.p (.own O O) O) .nil) O)<|.c (za O) .nil) ?_;refine rd 8 O<|kB O (λe=>?_) λe=>?_
 ·have D:A.plain.head x≠0:=by rw[d];exact e
  have a:=AZ D;refine ro 6 O ?_;have B:=a;refine OK.YS (J':=JX A.b (Za A.plain x).1<|m+2) O (JX.ZV _ _ _) (λh Y w r=>HA.jx q I G (by rw[B]) r) ?_;refine OK.ret ⟨Y3.r1 (zo O O) ?_,O,Zo⟩;rw[a,d];rfl
 have h0:A.plain.head x=0:=by rw[d];exact Zu.1 e
 obtain⟨q1,q2,q3,q4,q5,q6,q7⟩:=HV h0;obtain⟨i,hi⟩:=sk.1 q2;have J:i<R A.XR.ZU:=(Y8 hi).1;have X:ZC (λp:Ze=>decide<|p.name=x.OR) 0 A.XR.ZU=(i:Int):=by rw[SO,show ix (λp:Ze=>decide<|p.name=x.OR) A.XR.ZU=some i from hi]
 obtain⟨E,P,N⟩:=wO x.text;have hL:R (Yn x.text).1.rest<=600/\R (Yn x.text).1.Yr<=600/\R (Yn x.text).1.Yb<=600/\(Yn x.text).1.rest.all X6=true:=⟨by have:=E.len;omega,by have:=P.len;omega,by have:=N.len;omega,rm.2 λb hb=>rm.1 q6 b<|E.sub b hb⟩;have C:A.plain.tail x i k=ZW [Z8 (decide<|A.XR.ZU[i].role>=S2.getD k 0) 18,Z8 (Q9 x.text<|kinds.getD k []).2 7]:=by unfold Z6.tail;rw[show A.plain.XR.ZU[i]?=some A.XR.ZU[i]from Zv J];rfl
 refine ro 8 O<|kc (S.Xo (uF (text:=x.text) (ks:=kinds.getD k []) K<|nM k) B call114 .none O (zc O<|zc O .nil) O)<|rr 10 O ?_;refine kV (.c (zm O)<|.c (zn O O)<|.c (zr TY O)<|.c (zr O2 O)<|.c (zr NL O)<|.c (zH CG O<|Z9.Xh (k:=.Y1) O O<|.same _)<|.c (zm O)<|.c (S.Zi (n:=i) RL .none O (zt O) (zt O) X J O)<|.c (S.field Dz .none O (zt O) O)<|.c (zV YK O O)<|.c (zf wo O)<|.c (zl YK O O O O)<|.c (S.geq .none O (zt O)<|zt O)<|.c (zK ZT call96 O)<|.c (zm O)<|.c (zK ZT call96 O)<|.c (zM [[_],[_]] Xk O O O O)<|.c (S.XY (YI (l:=[_,_])) call76 .none O (zc O .nil) (.cons (.p (.own O O) O) .nil) O)<|.c (za O) .nil) ?_;refine rd 7 O<|kB O (λg=>?_) λg=>?_
 ·have W:A.plain.tail x i k≠0:=by rw[C];exact g
  have a:=mJ h0 hi hk W;refine ro 6 O ?_;have B:=a;refine OK.YS (J':=JX A.b (Za A.plain x).1<|m+2) O (JX.ZV _ _ _) (λh Y w r=>HA.jx q I G (by rw[B]) r) ?_;refine OK.ret ⟨Y3.r1 (zo O O) ?_,O,Zo⟩;rw[a,C]
 have h2:A.plain.tail x i k=0:=by rw[C];exact Zu.1 g
 obtain⟨_,T⟩:=gV<|Zu.1 g;obtain⟨M,L⟩:=text_eq hk;have Q:=L<|M▸T;rw[Q];refine ro 9 O ?_;refine RK.c (S.Gs (((hE k hk q G V Z hL).Tq B<|Z9.ZV _)) (JX.ZV _ _ _) (mG H) .none O (zt O) (zc O<|zc O .nil) O O O O) ?_;refine rr 9 O<|kB O (λo=>?_) λo=>?_
 ·have a:=mI h0 hi hk h2 o;refine ro 6 O ?_;refine OK.YS (J':=JX A.b (Za A.plain x).1<|m+2) O (JX.ZV _ _ _) (λh Y w r=>by rw[a];exact r) ?_;refine OK.ret ⟨Y3.r1 (zo O O) ?_,O,Zo⟩;rw[a]
 have U:(WQ k A.plain (Yn x.text).1).2=0:=Zu.1 o;have a:=mH h0 hi hk h2 U;refine OK.rV O λt hb1 y z=>?_
 have he1:t.entries=A.entries:=(rn Z6.entries y).trans<|mA k A.plain _;have hen:=z.en;have q1b:A.entries<60:=q1;rw[←hb1];refine ro 9 O<|kc (S.Yf (xs':=({t with time:=x.at_}:HA).cs) (.Y1) YK .none (zt O) (zt O) O O O O O O O)<|rr 7 O ?_;refine kc (zH (u:=bv t.entries) YK O<|Z9.Xh (k:=.Y1) (HM.YW _ _ _) O<|.same _) ?_;refine Rr 3 O I ?_;refine kc (S.Yf (xs':=({t with time:=x.at_,entries:=t.entries+1}:HA).cs) (.Y1) YK .none (zt O) (zt O) O (HM.YW _ _ _) O O O O O) ?_;refine rr 3 O ?_;rw[HM.set_set];refine OK.nD (A1:={t with time:=x.at_,entries:=t.entries+1}) z O O ⟨O,O⟩ ⟨O,O⟩ ⟨O,O⟩ ⟨O,O⟩ (by dsimp only;omega) λF=>?_
 refine ro 4 O ?_;refine OK.YS (J':=JX t.b (Za A.plain x).1<|m+2) O (JX.ZV _ _ _) (λh Y w r=>Sg F I G O (by rw[a,←y];rfl) r) ?_;refine OK.ret ⟨Y3.r1 (zo O O) ?_,O,Zo⟩;rw[a]
def bH(h:(Ut l).2=true):0<=(Ut l).1/\(Ut l).1<=10000000:=by
 obtain⟨e,d⟩:=Nw l;rw[e]at h;have a:TF l 7=true:=by simp_all[Tt]
 obtain⟨c,b⟩:=XS.1 a;rw[d h,O8 I a];have o:=Sb l 0 c.2.2;have g:10 ^ (R l)<=10 ^ 7:=aφ C b;omega
def G3{t:ba}(h:(Yn t).2=true):0<=(Yn t).1.num/\(Yn t).1.num<=10000000:=by
 revert h;unfold Yn;dsimp only
 repeat' split
 all_goals intro h
 all_goals simp_all[bH]
def Cw(n:Net)(x:Entry):Int:=((n.ZU[(Vp n x.OR).getD 0]?).map Ze.role).getD 0
def GA(n:Net)(s:State)(x:Entry)(last:Int):SE:=
 if Vp n x.OR=none then(s,6)else if¬(0<=x.at_/\x.at_<=1000000000000)then(s,2)else if x.at_<last then(s,9)else if 600<R x.text then(s,8)else if x.text.all X6=false then(s,3)
 else if X2 (ZQ 32 x.text).1=none then(s,7)else if Cw n x<S2.getD ((X2 (ZQ 32 x.text).1).getD 0) 0 then(s,18)else if(Yn x.text).2=false then(s,7)else WY n s (Yn x.text).1
def uh(w:ba)(i:Nat):Int:=match X2 w with
 |some k=>if k<i then S2.getD k 0 else -1
 |none=> -1
def ve:∀k:Nat,k<13->X2 (Z4.getD k [])=some k:=C
theorem rUp_0(w:ba):uh w 0= -1:=by grind [uh]
variable{w:ba}
def eZ(a:k<13)(h:Z4.getD k []=w):uh w (k+1)=S2.getD k 0:=by subst h;unfold uh;rw[ve k a];simp
theorem eY(b:k<13)(h:¬Z4.getD k []=w):uh w (k+1)=uh w k:=by
 unfold uh;cases e:X2 w with
 |none=>rfl
 |some j=>
  have c:j≠k:=λa=>by
   subst a;obtain⟨g,d⟩:=Y8 e;simp_all
  grind
theorem rUp_n(h:uh w 13<0):X2 w=none:=by
 unfold uh at h;cases e:X2 w with
 |none=>rfl
 |some k=>
  have a:k<13:=(Y8 e).1;rw[e]at h;dsimp only at h;rw[Zn a]at h;have:∀k:Nat,k<13->¬S2.getD k 0<0:=C
  grind
theorem rUp_s(h:¬uh w 13<0):∃k,k<13/\X2 w=some k/\uh w 13=S2.getD k 0:=by
 unfold uh at h⊢;grind
def FW{b:UInt8}(h:(b.toNat:Int)<32\/(b.toNat:Int)>126):X6 b=false:=Zy I
def pK{b:UInt8}(c:¬(b.toNat:Int)<32)(a:¬(b.toNat:Int)>126):X6 b=true:=Zz I
theorem lu{g:α->Bool}{l:List α}{j:Nat}(h:j<R l)(a:g l[j]=false):(l.drop j).all g=false:=by grind [List.drop_eq_getElem_cons]
theorem all_on{g:α->Bool}{l:List α}{j:Nat}(h:j<R l)(a:g l[j]=true):(l.drop j).all g=(l.drop<|j+1).all g:=by grind [List.drop_eq_getElem_cons]
def Dj:Ct prog 116 [bv n]<|.bool<|decide<|0<=n/\n<=1000000000000:=by
 refine cI func116 O<|ro 8 O<|kc (zK Y4 call33 O)<|rr 3 O<|kR O O ?_;rfl
def AA{n:Net}(N:R n.plan<=1000)(hn:(0<=n.lo/\n.lo<=1000000000)/\(0<=n.hi/\n.hi<=1000000000)/\Y5 n.limit=true){s:State}(hg:s.Good (ZO n.plan).1)(P:s.j3 (ZO n.plan).1){last:Int}(X:R x.text<=100000):Ct prog 79 [.agg n.cs,.agg s.cs,.agg x.cs,bv last]<|.Yy [.agg (GA n s x last).1.cs,bv (GA n s x last).2]:=by
 refine cI func79 O<|ro 14 O<|kc (zK (Ez (s:=n) (n:=x.OR)) call115 O)<|rr 10 O<|kB O (λz=>?_) λz=>?_
 ·have b:GA n s x last=_:=Zn<|P9 z;refine ro 7 O<|kT O O Zk O O O ?_;rw[b];try rfl
 obtain⟨w,hw⟩:=P_ z;have K:=Vs hw;have B:w<R n.ZU:=(Y8 hw).1;have H:Vp n x.OR=some w:=hw;have e0:GA n s x last=_:=Zm (by rw[H];exactλh=>by cases h);refine ro 7 O<|kc (zK (Dj (n:=x.at_)) call116 O)<|kc (S.not .none O<|zt O)<|kD<|OK.cond O O (λy=>?_) λy=>?_
 ·have b:=e0.trans (Zn<|by have h:=y;simp only[zd,ul]at h;exact h);refine ro 7 O<|kT O O Zk O O O ?_;rw[b];try rfl
 have e1:=e0.trans (Zm<|by have h:=y;simp only[Bool.not_eq_false',de]at h;exact Zp h);refine ro 11 O<|kB O (λu=>?_) λu=>?_
 ·have b:=e1.trans<|Zn u;refine ro 7 O<|kT O O Zk O O O ?_;rw[b];try rfl
 have e2:=e1.trans<|Zm u;refine ro 11 O<|kB O (λW=>?_) λW=>?_
 ·have b:=e2.trans<|Zn I;refine ro 7 O<|kT O O Zk O O O ?_;rw[b];try rfl
 have U:=e2.trans<|Zm I;refine ro 9 O ?_;refine OK.loop (G:=Nat) [4,5,6,8] (λj=>[(4,.ptr 4 0),(1004,.box n.cs),(5,.ptr 5 0),(1005,.box s.cs),(6,.ptr 6 0),(1006,.box x.cs),(8,.ptr 8 0),(1008,.box [.ZM,.ZM,.ZM,.ZM,bv 0,bv 0,.ZM]),(10,bv<|ZC (λp:Ze=>decide<|p.name=x.OR) 0 n.ZU),(11,bv j)]) (λj=>j<=R x.text/\x.text.all X6=(x.text.drop j).all X6) (λj=>R x.text - j) 0 ⟨Zr _,O⟩ ⟨O,O,O,O,O,O,O,O,O,O,Zo⟩ (λ_=>O) ?_;rintro j ⟨hj,J⟩;refine ro 10 O<|kB O (λV=>?_) λV=>?_
 ·have d:j<R x.text:=by omega
  refine ro 9 O<|kc (S.Xc (n:=j) W6 .none O (zt O) (zt O) O d)<|rr 2 O<|RK.ZS (t:=54) O (λl=>?_) λl=>?_
  ·have b:=U.trans<|Zn<|J.trans<|lu d<|FW<|.inl l;refine rr 16 O<|kT O O Zk O O O ?_;rw[b];try rfl
  refine rr 3 O<|kc (S.Xc (n:=j) W6 (zg O O) O (zt O) (zt O) O d)<|rr 4 O<|kB O (λr=>?_) λr=>?_
  ·have b:=U.trans<|Zn<|J.trans<|lu d<|FW<|.inr r;refine ro 7 O<|kT O O Zk O O O ?_;rw[b];try rfl
  refine Ro 8 O I (Ab.D.lp ⟨j+1,⟨by omega,by rw[J,all_on d<|pK l r]⟩,I,O,O,O,O,O,O,O,O,O,O,Zo⟩)
 have Z:=U.trans (Zm<|by rw[J,ut I];decide);refine ro 6 O<|kc (zK (Pb (s:=x.text) X) call105 O)<|rr 16 O<|kc (zK Cj call117 O)<|rr 10 O ?_;refine OK.loop (G:=Nat) [4,5,6,8] (λi=>[(4,.ptr 4 0),(1004,.box n.cs),(5,.ptr 5 0),(1005,.box s.cs),(6,.ptr 6 0),(1006,.box x.cs),(8,.ptr 8 0),(1008,.box [.ZM,.ZM,.ZM,.ZM,bv 0,bv 0,.ZM]),(10,bv<|ZC (λp:Ze=>decide<|p.name=x.OR) 0 n.ZU),(12,.str (ZQ 32 x.text).1),(15,bv<|uh (ZQ 32 x.text).1 i),(16,.sl<|Z4.map λv=>[.str v]),(17,bv i)]) (λi=>i<=13) (λi=>13 - i) 0 C ⟨O,O,O,O,O,O,O,O,O,O,(OT (rUp_0 _).symm),O,O,Zo⟩ (λ_=>O) ?_;rintro i hi;refine ro 5 O<|kc (zk X9 O)<|rr 3 O<|kB O (λq=>?_) λq=>?_
 ·have a:i<13:=by have:(i:Int)<R Z4:=q;have Q:R Z4=13:=rfl;omega
  refine ro 8 O<|kc (zI X9 O (show i<R Z4 from a) O)<|rr 5 O<|kB O (λg=>?_) λg=>?_
  ·refine OK.R3<|kc (zK Ci call118 O)<|jm O<|kc (zI Ym O (show i<R S2 from a) O)<|Rr 10 O I ?_;refine Ab.D.lp ⟨i+1,I,I,O,O,O,O,O,O,O,O,O,O,(OT<|by first|exact((eZ a<|by rw[Uk (show i<R Z4 from a)];exact g).trans<|Uk (show i<R S2 from a)).symm|exact(eY a<|by rw[Uk (show i<R Z4 from a)];exact g).symm),O,O,Zo⟩
  refine Ro 8 O I ?_;refine Ab.D.lp ⟨i+1,I,I,O,O,O,O,O,O,O,O,O,O,(OT<|by first|exact((eZ a<|by rw[Uk (show i<R Z4 from a)];exact g).trans<|Uk (show i<R S2 from a)).symm|exact(eY a<|by rw[Uk (show i<R Z4 from a)];exact g).symm),O,O,Zo⟩
 obtain rfl:i=13:=by have:¬(i:Int)<R Z4:=q;have Q:R Z4=13:=rfl;omega
 refine ro 9 O<|kB O (λo=>?_) λo=>?_
 ·have b:=Z.trans<|Zn<|rUp_n o;refine ro 7 O<|kT O O Zk O O O ?_;rw[b];try rfl
 obtain⟨k,hk,E,F⟩:=rUp_s o;have T:=Z.trans (Zm<|by rw[E];exactλh=>by cases h);have M:Cw n x=n.ZU[w].role:=by unfold Cw;rw[H];show((n.ZU[w]?).map _).getD 0=_;rw[Zv B];rfl
 rw[E,M]at T;refine ro 8 O<|kc (S.Zi (n:=w) RL .none O (zt O) (zt O) K B O)<|rr 6 O<|kB O (λe=>?_) λe=>?_
 ·have b:=T.trans (Zn<|by rw[F]at e;exact e);refine ro 7 O<|kT O O Zk O O O ?_;rw[b];try rfl
 have Y:=T.trans (Zm<|by rw[F]at e;exact e);refine ro 6 O<|kc (zK (C3 (s:=x.text) X) call71 O)<|rr 12 O<|kc (S.not .none O<|zt O)<|kD<|OK.cond O O (λc=>?_) λc=>?_
 ·have b:=Y.trans (Zn<|by simpa using c);refine ro 7 O<|kT O O Zk O O O ?_;rw[b];try rfl
 have b:=Y.trans (Zm<|by simpa using c);refine ro 7 O ?_;refine kc (zK (zW N hn hg P (L:=(Yn x.text).1) (by have:=(wO x.text).1.len;omega)<|G3<|by simpa using c) call119 O) ?_;refine rr 6 O<|kT O O Zk O O O ?_;rw[b];try rfl
