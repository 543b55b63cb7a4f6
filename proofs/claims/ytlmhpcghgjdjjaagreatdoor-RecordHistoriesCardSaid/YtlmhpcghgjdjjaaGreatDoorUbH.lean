import Derived.Test.YtlmhpcghgjdjjaaGreatDoorTlH
set_option linter.all false
set_option maxHeartbeats 4000000
open List renaming length->R
namespace Go.Proofs.Z_
open Go.Ab Tryz
set_option maxRecDepth 9999
variable{v:Hd×Part}{i j:Nat}{q:Nat×Nat}{p:Part}{α:Type}
section
variable{A:SA}
def SA.uj(h:A.ch=some q):A.cs[1]?=some (.raw<|.slice (some ⟨q.1,0,none⟩) (R A.Z5) q.2):=by show some (X.raw<|A.ch.w _)=_;rw[h];rfl
def SA.TC(h:A.ph=some q):A.cs[2]?=some (.raw<|.slice (some ⟨q.1,0,none⟩) (R A.parts) q.2):=by show some (X.raw<|A.ph.w _)=_;rw[h];rfl
def SA.rawM(h:A.mh=some q):A.cs[3]?=some (.raw<|.slice (some ⟨q.1,0,none⟩) (R A.Z3) q.2):=by show some (X.raw<|A.mh.w _)=_;rw[h];rfl
def SA.dL(h:A.ch=some q):A.mem .c=some (q.1,.row 3 q.2<|A.Z5.map XA.cs):=by show A.ch.map _=_;rw[h];rfl
def SA.Oh(h:A.ph=some q):A.mem .p=some (q.1,.row 13 q.2<|A.parts.map pC):=by show A.ph.map _=_;rw[h];rfl
def SA.atM(h:A.mh=some q):A.mem .m=some (q.1,.row 1 q.2<|A.Z3.map Kh):=by show A.mh.map _=_;rw[h];rfl
theorem Vb{q:Hd}{l:List α}{x:α}(h:q=none->l=[])(a:l[i]?=some x):∃p,q=some p:=by
 cases q<;>grind
def Yo{β:Type}{f:α->β}{l:List α}{x:α}(h:l[i]?=some x):(l.map f)[i]?=some (f x):=by simp_all
def Vs{g:α->Bool}{l:List α}(h:ix g l=some i):ZC g 0 l=i:=by rw[SO,h]
def SA.Qm(A:SA)(j:Nat)(c:XA):SA:={A with Z5:=A.Z5.set j c}
def SA.Zh(A:SA)(i:Nat)(v:Hd×Part):SA:={A with parts:=A.parts.set i v}
def SA.I0(h:A.ch=some q)(j:Nat)(c:XA):A.mem.set .c (some (q.1,.row 3 q.2<|(A.Z5.map XA.cs).set j c.cs))=(A.Qm j c).mem:=funext λk=>by
 cases k with
 |c=>show some _=A.ch.map _;rw[h,←bτ];rfl
 |_=>exact HM.Z0 _ _ Z
def SA.xw(j:Nat)(c:XA):(A.Qm j c).cs=A.cs:=by simp[SA.Qm,SA.cs]
def SA.Ok.Qm(h:A.Ok)(j:Nat)(c:XA):(A.Qm j c).Ok:=⟨h.rh,λe=>by show A.Z5.set j c=[];rw[h.ch e];rfl,h.ph,h.mh,h.fh⟩
def set_eq{l:List α}{x:α}(h:l[i]?=some x)(f:α->α):l.set i (f x)=l.modify i f:=(WH h f).symm
def SA.EG{c:XA}(h:A.Z5[j]?=some c)(f:XA->XA):(A.Qm j<|f c).st={A.st with Z5:=A.st.Z5.modify j f}:=by simp_all[SA.Qm,SA.st,set_eq]
theorem SA.S4(h:A.ph=some q)(a:A.parts[i]?=some v)(b:p.frames=v.2.frames):A.mem.set .p (some (q.1,.row 13 q.2<|(A.parts.map pC).set i<|p.cells<|.raw<|v.1.w<|R v.2.frames))=(A.Zh i (v.1,p)).mem:=funext λk=>by
 cases k with
 |p=>show some _=A.ph.map _;rw[h];show _=some (_,HK.row 13 _<|(A.parts.set i (v.1,p)).map pC);rw[bτ];unfold pC;dsimp only;rw[b]
 |f j=>
  refine(HM.Z0 _ _ Z).trans ?_;show A.parts[j]?.bind _=(A.parts.set i (v.1,p))[j]?.bind _;rw[aχ];split
  ·rename_i e;subst e;rw[a,Zn (sT.1 a).1];show Option.map _ v.1=Option.map _ v.1;rw[b]
  rfl
 |_=>exact HM.Z0 _ _ Z
theorem SA.Gb(h:A.ph=some q){hd:Hd}{a:Part}(b:A.parts[i]?=some (hd,a))(n:Nat)(d:p.frames=a.frames)(e:n=a.frames.length):A.mem.set .p (some (q.1,.row 13 q.2<|(A.parts.map pC).set i<|p.cells<|.raw<|hd.w n))=(A.Zh i (hd,p)).mem:=by grind [SA.S4]
def SA.T5(i:Nat)(v:Hd×Part):(A.Zh i v).cs=A.cs:=by simp[SA.Zh,SA.cs]
def SA.Ok.Zh(h:A.Ok){i:Nat}{v:Hd×Part}(a:v.1=none->v.2.frames=[]):(A.Zh i v).Ok:=⟨h.rh,h.ch,λe=>by show A.parts.set i v=[];rw[h.ph e];rfl,h.mh,λw hw=>(aξ hw).elim (h.fh w) λe=>e▸a⟩
def SA.Sn(h:A.parts[i]?=some v)(q:Hd)(f:Part->Part):(A.Zh i (q,f v.2)).st=A.st.Zh i f:=by
 simp_all[SA.Zh,SA.st,State.Zh,set_eq]
theorem SA.Uq(h:A.parts[i]?=some v):A.st.p i=v.2:=by simp_all[State.p,SA.st]
def SA.To{M:HM SK}{xs:bi}{s:State}(h:A.Ok)(b:M=A.mem)(a:xs=A.cs)(hs:A.st=s):CX M (.agg xs)<|.agg s.cs:=by subst b;subst a;subst hs;exact h.fz
def SA.newP(A:SA)(q:Nat×Nat)(p:Part):SA:={A with ph:=some q,parts:=A.parts++[(none,p)]}
def SA.oF(q:Nat×Nat)(p:Part):A.mem.set .p (some (q.1,.row 13 q.2<|A.parts.map pC++[pC (none,p)]))=(A.newP q p).mem:=funext λk=>by
 cases k with
 |p=>show some _=some _;rw[←dι,←ne];rfl
 |f j=>
  refine(HM.Z0 _ _ Z).trans ?_;show A.parts[j]?.bind _=(A.parts++[(none,p)])[j]?.bind _;rcases w7 j (R A.parts) with h|h
  ·rw[m6 h]
  rw[aκ h,bζ h];cases j - R A.parts with
  |zero=>rfl
  |succ n=>rfl
 |_=>exact HM.Z0 _ _ Z
def SA.Ok.newP(h:A.Ok)(q:Nat×Nat){p:Part}(a:p.frames=[]):(A.newP q p).Ok:=⟨h.rh,h.ch,λe=>(by cases e),h.mh,λw hw=>(List.mem_append.1 hw).elim (h.fh w) λe=>by simp_all⟩
def SA.addF(A:SA)(i:Nat)(q:Nat×Nat)(p:Part)(f:Frame):SA:=A.Zh i (some q,{p with frames:=p.frames++[f]})
def SA.ld{c:Nat×Nat}(h:A.ph=some c)(a:A.parts[i]?=some v)(q:Nat×Nat)(f:Frame):(A.mem.set (.f i)<|some (q.1,.Te 2 q.2<|v.2.frames.map Frame.cs++[f.cs])).set .p (some (c.1,.row 13 c.2<|(A.parts.map pC).set i<|v.2.cells<|.raw<|.slice (some ⟨q.1,0,none⟩) (R (v.2.frames.map Frame.cs)+1) q.2))=(A.addF i q v.2 f).mem:=funext λk=>by
 cases k with
 |p=>
  show some _=A.ph.map _;rw[h];show _=some (_,HK.row 13 _<|(A.parts.set i _).map pC);rw[bτ,Zx];show _=some (_,HK.row 13 _<|List.set _ _<|pC (some q,{v.2 with frames:=v.2.frames++[f]}));unfold pC;dsimp only;rw[Zs];rfl
 |f j=>
  refine(HM.Z0 _ _ Z).trans ?_;show(if SK.f j=SK.f i then _ else A.parts[j]?.bind _)=(A.parts.set i _)[j]?.bind _;rw[aχ];by_cases e:i=j
  ·subst e;rw[Zn rfl,Zn rfl,Zn (sT.1 a).1];show _=some (_,HK.Te 2 _<|(v.2.frames++[f]).map Frame.cs);rw[ne];rfl
  rw[Zm (λh=>by cases h;exact e rfl),Zm e]
 |_=>exact(HM.Z0 _ _ Z).trans<|HM.Z0 _ _ Z
end
section
variable{α:Type}{g:α->Bool}{l:List α}
theorem nK:decide (ZC g 0 l>=0)=(ix g l).isSome:=by
 rw[SO];grind
theorem isS(h:ZC g 0 l>=0):(ix g l).isSome=true:=by grind [nK]
def isN(h:¬ZC g 0 l>=0):¬(ix g l).isSome=true:=by rw[←nK];simp_all
def P_(h:¬ZC g 0 l<0):∃j,ix g l=some j:=sk.1<|isS I
def P9(h:ZC g 0 l<0):ix g l=none:=by
 have:=isN (g:=g) (l:=l) I;simp_all
end
def qZ(s:State)(n:Int)(r c:ba)(j:Nat)(q:XA):SE:=if s.Tk.isSome then(s,17)else if q.ZA=q.Wb then(s,22)else if R s.parts=12 then(s,16)
 else({s with Z5:=s.Z5.modify j λc=>{c with ZA:=c.ZA+1},parts:=s.parts++[⟨n,r,s.YD r,c,[],0,false,0,false,Span.zero⟩]},0)
def N2(s:State)(n:Int)(r c:ba):SE:=match s.Ob c with
 |none=>(s,6)
 |some j=>if s.YD r=0 then(s,6)else if s.Tk.isSome then(s,17)else match s.Z5[j]? with
  |none=>(s,6)
  |some q=>if q.ZA=q.Wb then(s,22)else if R s.parts=12 then(s,16)
   else({s with Z5:=s.Z5.modify j λc=>{c with ZA:=c.ZA+1},parts:=s.parts++[⟨n,r,s.YD r,c,[],0,false,0,false,Span.zero⟩]},0)
section
variable{A:SA}{s:State}{n:Int}{r c:ba}
def jP(h:¬n>1000000):N3 s n r c=if(s.U1 n).isSome then(s,5)else N2 s n r c:=Zm h
theorem q9(h:s.YD r=0):N2 s n r c=(s,6):=by
 unfold N2;grind
def q8(h:s.Ob c=none):N2 s n r c=(s,6):=by unfold N2;rw[h]
def jR{q:XA}(d:s.Ob c=some j)(b:s.Z5[j]?=some q)(a:¬s.YD r=0):N2 s n r c=qZ s n r c j q:=by
 simp_all[N2,qZ]
theorem SA.PX:R A.st.parts=R A.parts:=Zx ..
def SA.iQ(q:Nat×Nat)(p:Part):(A.newP q p).st={A.st with parts:=A.st.parts++[p]}:=by simp[SA.newP,SA.st]
def SA.oD(j:Nat)(d:XA)(q:Nat×Nat)(p:Part):([.raw<|A.rh.w<|R A.ZJ,.raw<|A.ch.w<|R A.Z5,.raw<|.slice (some ⟨q.1,0,none⟩) (R (A.parts.map pC)+1) q.2,.raw<|A.mh.w<|R A.Z3,bv A.env.parts,bv A.env.trim,.sl<|A.env.rows.map λl=>[.sl<|l.map Range.cs]]:bi)=((A.Qm j d).newP q p).cs:=by
 unfold SA.cs SA.newP SA.Qm;dsimp only;rw[wi,Zs,Zx];rfl
end
def IF(p:Zf)(l:List Frame):R (V1 p l).rows=p.ticks.toNat:=by unfold V1;simp
theorem Fl{l:List Frame}{t:Nat}:∀(m:List Frame)(r:Row),(∀f∈m,f∈l)->(r=⟨false,[]⟩\/∃f∈l,r=⟨true,f.values⟩)->
  (m.foldl (λr f=>if f.tick=(t:Int)then⟨true,f.values⟩else r) r=⟨false,[]⟩\/∃f∈l,m.foldl (λr f=>if f.tick=(t:Int)then⟨true,f.values⟩else r) r=⟨true,f.values⟩)
 |[],r,_,h=>h
 |f::m,r,hm,h=>by
  rw[aτ];refine Fl m _ (λg a=>hm g<|rl _ a) ?_;grind
theorem H8(l:List Frame)(t:Nat):V4 l t=⟨false,[]⟩\/∃f∈l,V4 l t=⟨true,f.values⟩:=Fl l _ (λ_ h=>h)<|.inl rfl
def Nr{p:Zf}{l:List Frame}(m:Y_ p=0)(j:∀f∈l,Yp p f=0):(Vv p<|V1 p l).2=0/\∀(i:Nat)(h:i<R (V1 p l).rows),R (V1 p l).rows[i].values<=R p.ZY:=by
 have o:=X_ m;have a:∀x∈(V1 p l).rows,UJ p x=0/\R x.values<=R p.ZY:=λx b=>by
  unfold V1 at b;obtain⟨t,_,rfl⟩:=rx.1 b;rcases H8 l t with e|⟨f,d,e⟩
  ·rw[e];exact⟨rfl,Zr _⟩
  rw[e];have g:=j f d;have g2:=(VM g).2;refine⟨?_,by simp_all⟩;unfold Yp at g;rw[Zm<|Zp (VM<|j f d).1]at g;unfold UJ;simp_all
 refine⟨?_,λi hi=>(a _<|Zt hi).2⟩;unfold Vv;rw[Zm (by rw[IF];omega),Se _ _ 0 λi hi=>(a _<|Zt hi).1]
section
variable{A:SA}{pl:Zf}{i:Nat}{v:Hd×Part}
structure State.Good(pl:Zf)(s:State):Prop where
 sm:s.Sm
 fr:∀p∈s.parts,Hj pl p.frames/\p.frames.length<=40
 ju:∀p∈s.parts,p.place=0->p.WD=false
 env:0<s.env.rows.length->(Ve pl s.env).2=0
 pl:Y_ pl=0
def State.Good.XE(h:A.st.Good pl)(b:A.parts[i]?=some v):Um pl v.2.frames=0/\WG pl v.2.frames=V1 pl v.2.frames:=by
 have a:=h.fr v.2<|rx.2 ⟨v,mr b,rfl⟩;have d:=Hj.rec h.pl a.1 a.2;simp_all[NB]
def State.Good.vals(h:A.st.Good pl)(a:A.parts[i]?=some v):∀x∈v.2.frames,R x.values<=100000:=(h.sm.fr v.2<|rx.2 ⟨v,mr a,rfl⟩).2
theorem SA.T4(h:A.parts[i]?=some v)(w:Hd×Part):(A.Zh i w).parts[i]?=some w:=by
 show(A.parts.set i w)[i]?=_;grind
def SA.Gc(w w':Hd×Part):(A.Zh i w).Zh i w'=A.Zh i w':=by simp[SA.Zh]
def State.Good.both(h:A.st.Good pl)(a:A.parts[i]?=some v)(b:0<R A.env.rows):Xa pl A.env (V1 pl v.2.frames)=0:=by
 have d:=(h.fr v.2<|rx.2 ⟨v,mr a,rfl⟩).1.1;have e:(Ve pl A.env).2=0:=h.env b;unfold Xa;rw[Zm (by rw[h.pl];decide),Zm I];exact(Nr h.pl d).1
end
section
variable{A:SA}{pl:Zf}{i:Nat}{v:Hd×Part}
def end_T(d:Xa pl A.env (V1 pl v.2.frames)=0)(a:WG pl v.2.frames=V1 pl v.2.frames)(b:0<R A.env.rows):Sy pl A.st.env (decide<|0<R A.st.env.rows) v.2={v.2 with place:=1,WD:=true,verdict:=Us A.env (V1 pl v.2.frames)}:=by
 show Sy pl A.env (decide<|0<R A.env.rows) v.2=_;unfold Sy;simp_all
def end_F(a:WG pl v.2.frames=V1 pl v.2.frames)(d:v.2.WD=false)(b:¬0<R A.env.rows):Sy pl A.st.env (decide<|0<R A.st.env.rows) v.2={v.2 with place:=1,verdict:=if(V1 pl v.2.frames).rows.all (λx=>x.known)=true then v.2.verdict else 1}:=by
 show Sy pl A.env (decide<|0<R A.env.rows) v.2=_;simp_all[Sy,WX]
theorem D1(h:ix (λp:Part=>decide<|p.place=0) A.st.parts=some i):∃v,A.parts[i]?=some v/\i<R A.parts/\v.2.place=0:=by
 obtain⟨e,d⟩:=Y8 h;have a:i<R A.parts:=by grind [SA.PX]
 refine⟨A.parts[i],Zv a,a,?_⟩;have b:A.st.parts[i]=A.parts[i].2:=bκ ..;simp_all
theorem xy{l:List α}{x y:α}(h:l[i]?=some x):(l.set i y)[i]?=some y:=by grind
end
section
variable{A:SA}{pl:Zf}{i:Nat}{v:Hd×Part}{f:Frame}{e0:Int}{s:State}
def mX(a:s.Tk=some i)(h0:e0≠0):Wd pl s f e0=(s,e0):=by simp_all[Wd]
def mY(a:s.Tk=some i)(h:Yp pl f≠0):Wd pl s f 0=(s,Yp pl f):=by simp_all[Wd]
def mZ(b:A.st.Tk=some i)(a:A.parts[i]?=some v)(h:¬Yp pl f≠0)(d:v.2.frames.find? (λg=>decide<|g.tick=f.tick)=none):Wd pl A.st f 0=(A.st.Zh i λp=>{p with frames:=p.frames++[f]},0):=by
 unfold Wd;rw[b];refine(Zm C).trans<|(Zm h).trans ?_;rw[SA.Uq a,d]
def m_{g:Frame}(b:A.st.Tk=some i)(a:A.parts[i]?=some v)(h:¬Yp pl f≠0)(d:v.2.frames.find? (λg=>decide<|g.tick=f.tick)=some g):Wd pl A.st f 0=if g.values=f.values then(A.st,0)else(A.st,13):=by
 simp_all[Wd,SA.Uq]
theorem Fi{g:α->Bool}{l:List α}(h:j<R l):(l.drop j).find? g=if g l[j]=true then some l[j]else(l.drop<|j+1).find? g:=by
 grind [List.drop_eq_getElem_cons]
end
variable{A:SA}{L:Sv}
def GW(h:A.Ok)(Q:A.st.Sm):Vi prog 169 [] [.agg A.cs,.agg L.cs,bv<|ZC (λp:Part=>decide<|p.num=L.num) 0 A.st.parts] [(3000,.res<|Z9 A.mem)] [(3000,.res JT)]<|.Yy [.agg (N3 A.st L.num L.Yr L.Yb).1.cs,bv (N3 A.st L.num L.Yr L.Yb).2]:=by
 refine cG func169 O λ{_ _}=>?_
 have J:=Q.lp;rw[SA.PX]at J;refine ro 16 O<|kB O (λG=>?_) λG=>?_
 ·have e:N3 A.st L.num L.Yr L.Yb=(A.st,2):=Zn G;refine kr<|RK.cF (zL Zk O O O O) h.fz O O<|rr 4 O<|OK.ret ⟨Y3.r2 (zy O O Zk O) (zo O O) ?_,O,Zo⟩;rw[e];try rfl
 have W:=jP (s:=A.st) (r:=L.Yr) (c:=L.Yb) G;refine ro 9 O<|kB O (λF=>?_) λF=>?_
 ·have e:=W.trans<|Zn<|isS F;refine kr<|RK.cF (zL Zk O O O O) h.fz O O<|rr 4 O<|OK.ret ⟨Y3.r2 (zy O O Zk O) (zo O O) ?_,O,Zo⟩;rw[e];try rfl
 have N:=W.trans<|Zm<|isN F;refine ro 3 O ?_;refine kV (.c (zL Zk O O O O)<|.c (zf N7 O)<|.c (zl T6 O O O O)<|.c (S.Tx (OS (s:=A.st) (n:=L.Yr)) O call72 .none O (zc O<|zc O .nil) (⟨h.fz,Fz.same _ O,Zo⟩) O)<|.c (zL Zk O O O O)<|.c (zf JC O)<|.c (zl T6 O O O O)<|.c (S.Tx (NV (s:=A.st) (n:=L.Yb)) O call172 .none O (zc O<|zc O .nil) (⟨h.fz,Fz.same _ O,Zo⟩) O)<|.c (za O)<|.c (za O) .nil) ?_;refine rd 7 O<|RK.ZS (t:=27) O (λx=>?_) λx=>?_
 ·have e:=N.trans<|q9 x;refine rr 8 O<|RK.cF (zL Zk O O O O) h.fz O O<|rr 4 O<|OK.ret ⟨Y3.r2 (zy O O Zk O) (zo O O) ?_,O,Zo⟩;rw[e];try rfl
 refine rr 5 O<|kB O (λE=>?_) λE=>?_
 ·have e:=N.trans<|q8<|P9 E;refine kr<|RK.cF (zL Zk O O O O) h.fz O O<|rr 4 O<|OK.ret ⟨Y3.r2 (zy O O Zk O) (zo O O) ?_,O,Zo⟩;rw[e];try rfl
 obtain⟨j,K⟩:=P_ E;have u:=Vs K;have o:j<R A.Z5:=(Y8 K).1;obtain⟨y,b⟩:∃c,A.Z5[j]?=some c:=⟨_,Zv o⟩;obtain⟨ch,a⟩:=Vb h.ch b;have X:=Q.sh y<|mr b;have V:=N.trans<|jR (n:=L.num) (r:=L.Yr) K b x;refine ro 6 O<|kc (S.Tx (SB (s:=A.st)) O call73 .none O (zc O .nil) (⟨h.fz,Zo⟩) O)<|rr 3 O<|kB O (λB=>?_) λB=>?_
 ·have e:=V.trans<|Zn<|isS B;refine kr<|RK.cF (zL Zk O O O O) h.fz O O<|rr 4 O<|OK.ret ⟨Y3.r2 (zy O O Zk O) (zo O O) ?_,O,Zo⟩;rw[e];try rfl
 have U:=V.trans<|Zm<|isN B;refine ro 4 O ?_;refine kV (.c (zf Oa O)<|.c (S.YH EW .none O (zt O) O O (SA.uj a) O)<|.c (zm O)<|.c (S.hidx (i:=j) Gw .none O (zt O) (zt O) u o)<|.c (zr Sf O)<|.c (zH YK O<|Z9.Ki (k:=.c) (i:=j) (f:=2) (SA.dL a) (Yo b) O O<|.same _)<|.c (zf Oa O)<|.c (S.YH EW .none O (zt O) O O (SA.uj a) O)<|.c (zm O)<|.c (S.hidx (i:=j) Gw .none O (zt O) (zt O) u o)<|.c (zr DD O)<|.c (zH YK O<|Z9.Ki (k:=.c) (i:=j) (f:=1) (SA.dL a) (Yo b) O O<|.same _)<|.c (S.eql .none O (zt O)<|zt O) .nil)<|Ab.D.code<|kB O (λz=>?_) λz=>?_
 ·have e:=U.trans<|Zn z;refine kr<|RK.cF (zL Zk O O O O) h.fz O O<|rr 4 O<|OK.ret ⟨Y3.r2 (zy O O Zk O) (zo O O) ?_,O,Zo⟩;rw[e];try rfl
 have T:=U.trans<|Zm z;refine ro 7 O ?_;refine kc (S.hlen V6 (by show R A.parts<=maxLen;unfold maxLen;omega) .none O<|zt O) ?_;refine rr 3 O<|kB O (λP=>?_) λP=>?_
 ·have e:=T.trans (Zn<|by rw[SA.PX];omega);refine kr<|RK.cF (zL Zk O O O O) h.fz O O<|rr 4 O<|OK.ret ⟨Y3.r2 (zy O O Zk O) (zo O O) ?_,O,Zo⟩;rw[e];try rfl
 have e:=T.trans (Zm<|by rw[SA.PX];omega);refine ro 3 O ?_;refine kV (.c (zf Oa O)<|.c (S.YH EW .none O (zt O) O O (SA.uj a) O)<|.c (zm O)<|.c (zf Oa O)<|.c (S.YH EW .none O (zt O) O O (SA.uj a) O)<|.c (zm O)<|.c (S.hidx (i:=j) Gw .none O (zt O) (zt O) u o)<|.c (zr Sf O)<|.c (zH YK O<|Z9.Ki (k:=.c) (i:=j) (f:=2) (SA.dL a) (Yo b) O O<|.same _)<|.c (zp O O I)<|.c (S.hidx (i:=j) Gw .none O (zt O) (zt O) u o)<|.c (zr Sf O)<|.c (S.V9 (rows':=(A.Z5.map XA.cs).set j ({y with ZA:=y.ZA+1}:XA).cs) (.c) YK .none (zt O) (zt O) O (SA.dL a) (Yo b) O O O O C O) .nil)<|Ab.D.code<|kO ?_;rw[SA.I0 a];have H:=h.Qm j {y with ZA:=y.ZA+1};refine ro 8 O<|kc (zU aa O O)<|rr 2 O<|kc (zU bu41 O O)<|RK.nilH (d:=77) O O ?_;refine RK.c (zM [[_,_,_,_,_,_,_,_,_,_,_,_,_]] kJ O O O O) ?_;refine RK.xs (S.MH (m:=1) (rows2:=[pC (none,(⟨L.num,L.Yr,A.st.YD L.Yr,L.Yb,[],0,false,0,false,Span.zero⟩:Part))]) .p kJ O (zt O) H.ps (zt O) O O O C (by rw[Zx];show(R A.parts+1) * _<=_;omega)<|by rw[Zx];show R A.parts+1<=_;unfold maxLen;omega) λq=>?_;refine rr 5 O ?_;have M:=H.newP q (p:=(⟨L.num,L.Yr,A.st.YD L.Yr,L.Yb,[],0,false,0,false,Span.zero⟩:Part)) rfl;have Y:=(SA.iQ (A:=A.Qm j {y with ZA:=y.ZA+1}) q (⟨L.num,L.Yr,A.st.YD L.Yr,L.Yb,[],0,false,0,false,Span.zero⟩:Part)).trans (by rw[SA.EG b λc=>{c with ZA:=c.ZA+1}]);refine OK.R3<|RK.cF (zL Zk O O O O) (SA.To M (SA.oF _ _) (SA.oD j _ q _) Y) O O ?_;refine rr 4 O<|OK.ret ⟨Y3.r2 (zy O O Zk O) (zo O O) ?_,O,Zo⟩;rw[e];try rfl
variable{n:Net}
def NW(a:R n.plan<=1000):Ct prog 178 [.agg n.cs]<|.agg (ZO n.plan).1.cs:=by
 refine cI func178 O<|ro 10 O<|kc (zK (P4 (l:=n.plan) I) call36 O) ?_;refine rr 14 O<|OK.ret<|Y3.r1 (zy O O Qo O) ?_;rfl
def QZ(d:R n.plan<=1000)(a:Y_ (ZO n.plan).1=0)(b:∀x∈p.frames,R x.values<=100000):Ct prog 176 [.agg n.cs,.agg p.cs]<|.agg (V1 (ZO n.plan).1 p.frames).cs:=by
 refine cI func176 O<|ro 8 O ?_;refine kV (.c (zL Pn O O O O)<|.c (zK (NW d) call178 O)<|.c (zf VC O)<|.c (zl Qq O O O O)<|.c (zK (z1 (p:=(ZO n.plan).1) (l:=p.frames) (by have:=X_ a;omega) b) call231 O)<|.c (zS Oy O O O O O O) .nil) ?_;refine Ab.D.code<|OK.ret<|Y3.r1 (zy O O Oy O) ?_;rfl
def Ch(P:R n.plan<=1000)(u:A.Ok)(t:A.st.Good (ZO n.plan).1):Vi prog 171 [] [.agg n.cs,.agg A.cs] [(3000,.res<|Z9 A.mem)] [(3000,.res JT)]<|.Yy [.agg (Dv (ZO n.plan).1 (decide<|0<R A.st.env.rows) A.st).1.cs,bv (Dv (ZO n.plan).1 (decide<|0<R A.st.env.rows) A.st).2]:=by
 refine cG func171 O<|ro 11 O<|kc (S.Tx (SB (s:=A.st)) O call73 .none O (zc O .nil) (⟨u.fz,Zo⟩) O)<|rr 10 O<|kB O (λz=>?_) λz=>?_
 ·have B:A.st.Tk=none:=P9 z;have H:Dv (ZO n.plan).1 (decide<|0<R A.st.env.rows) A.st=(A.st,12):=by unfold Dv;rw[B]
  refine kr<|RK.cF (zL Zk O O O O) u.fz O O<|rr 4 O<|OK.ret ⟨Y3.r2 (zy O O Zk O) (zo O O) ?_,O,Zo⟩;rw[H];try rfl
 obtain⟨i,B⟩:=P_ z;have M:=Vs B;obtain⟨v,b,Q,L⟩:=D1 B;obtain⟨U,j⟩:=Vb u.ph b;have H:Dv (ZO n.plan).1 (decide<|0<R A.st.env.rows) A.st=(A.st.Zh i<|Sy (ZO n.plan).1 A.st.env<|decide<|0<R A.st.env.rows,0):=by unfold Dv;rw[show A.st.Tk=some i from B]
 obtain⟨_,D⟩:=t.XE b;refine ro 5 O<|kc (S.YH Vg .none O (zt O) O O (SA.TC j) O)<|jm O<|kc (S.hidx (i:=i) V6 .none O (zt O) (zt O) M Q)<|rr 4 O ?_;refine kV (.c (zL Pn O O O O)<|.c (zm O)<|.c (zn O O)<|.c (zJ (us:=v.2.cs) L5 O<|Z9.GF (k:=.p) (i:=i) (f:=0) (SA.Oh j) (Yo (f:=pC) b) O ⟨.same _,.same _,.same _,.same _,.sl<|u.fs b,.same _,.same _,.same _,.same _,.same _,.same _,.same _,.same _,Zo⟩ O)<|.c (zK (QZ P t.pl<|t.vals b) call176 O)<|.c (zA (c:=8) rN O)<|.c (zS Oy O O O O O O) .nil) ?_;refine rd 6 O ?_;refine kc (S.V9 (rows':=(A.parts.map pC).set i<|({v.2 with place:=1}:Part).cells<|.raw<|v.1.w<|R v.2.frames) (.p) YK .none (zt O) (.Zg O) O (SA.Oh j) (Yo b) O O O O C O) ?_;refine rr 4 O ?_;rw[SA.S4 j b (p:={v.2 with place:=1}) rfl];obtain⟨A1,a⟩:∃A1,A1=A.Zh i (v.1,{v.2 with place:=1}):=⟨_,rfl⟩;rw[←a];have d:A1.ph=some U:=by rw[a];exact j
 have e:A1.parts[i]?=some (v.1,{v.2 with place:=1}):=by rw[a];exact SA.T4 b _
 have m:=u.fh v<|mr b;refine ro 4 O<|kc (zk Gx O)<|rr 3 O<|kB O (λT=>?_) λT=>?_
 ·have E:0<R A.env.rows:=I
  have F:=t.both b E;have G:=vN F;have V:=X_ t.pl;obtain⟨_,N⟩:=Nr t.pl (t.fr v.2<|rx.2 ⟨v,mr b,rfl⟩).1.1;refine ro 6 O ?_;refine kc (zK (Cq (x:=A.env) (r:=V1 (ZO n.plan).1 v.2.frames) G.fit (by rw[IF];omega) (λi h=>by have:=N i h;omega) (j9<|t.env E)<|lK G) call226 O) ?_;refine rr 2 O ?_;refine kc (S.V9 (rows':=(A1.parts.map pC).set i<|({v.2 with place:=1,WD:=true}:Part).cells<|.raw<|v.1.w<|R v.2.frames) (.p) CI .none (zt O) .Wx O (SA.Oh d) (Yo e) O O O O C O) ?_;refine rr 2 O ?_;refine kc (S.V9 (rows':=(A1.parts.map pC).set i<|({v.2 with place:=1,WD:=true,verdict:=Us A.env (V1 (ZO n.plan).1 v.2.frames)}:Part).cells<|.raw<|v.1.w<|R v.2.frames) (.p) YK .none (zt O) (zt O) O (HM.YW _ _ _) (xy<|Yo e) O O O O C<|by rw[eυ];rfl) ?_;refine rr 3 O ?_;rw[HM.set_set,SA.Gb d e (p:={v.2 with place:=1,WD:=true,verdict:=Us A.env (V1 (ZO n.plan).1 v.2.frames)}) (R v.2.frames) rfl rfl];have q:(A1.Zh i (v.1,{v.2 with place:=1,WD:=true,verdict:=Us A.env (V1 (ZO n.plan).1 v.2.frames)})).Ok:=SA.Ok.Zh (by rw[a];exact u.Zh m) m;have o:A.cs=(A1.Zh i (v.1,{v.2 with place:=1,WD:=true,verdict:=Us A.env (V1 (ZO n.plan).1 v.2.frames)})).cs:=((SA.T5 i _).trans<|by rw[a];exact SA.T5 _ _).symm;have J:(A1.Zh i (v.1,{v.2 with place:=1,WD:=true,verdict:=Us A.env (V1 (ZO n.plan).1 v.2.frames)})).st=A.st.Zh i (Sy (ZO n.plan).1 A.st.env<|decide<|0<R A.st.env.rows):=by rw[a,SA.Gc,←(end_T F D E)];exact SA.Sn b v.1 _
  refine OK.R3<|RK.cF (zL Zk O O O O) (SA.To q O o J) O O<|rr 4 O<|OK.ret ⟨Y3.r2 (zy O O Zk O) (zo O O) ?_,O,Zo⟩;rw[H];try rfl
 have E:¬0<R A.env.rows:=I
 have K:=end_F (A:=A) D (t.ju v.2 (rx.2 ⟨v,mr b,rfl⟩) L) E;refine ro 3 O<|kc (zK (KZ (r:=V1 (ZO n.plan).1 v.2.frames)) call175 O)<|kc (S.not .none O<|zt O)<|kD<|OK.cond O O (λy=>?_) λy=>?_
 ·rw[Zm<|by simpa using y]at K;refine ro 4 O ?_;refine kc (S.V9 (rows':=(A1.parts.map pC).set i<|({v.2 with place:=1,verdict:=1}:Part).cells<|.raw<|v.1.w<|R v.2.frames) (.p) YK .none (zt O) (.Zg O) O (SA.Oh d) (Yo e) O O O O C O) ?_;refine rr 3 O ?_;rw[SA.Gb d e (p:={v.2 with place:=1,verdict:=1}) (R v.2.frames) rfl rfl];have q:(A1.Zh i (v.1,{v.2 with place:=1,verdict:=1})).Ok:=SA.Ok.Zh (by rw[a];exact u.Zh m) m;have o:A.cs=(A1.Zh i (v.1,{v.2 with place:=1,verdict:=1})).cs:=((SA.T5 i _).trans<|by rw[a];exact SA.T5 _ _).symm;have J:(A1.Zh i (v.1,{v.2 with place:=1,verdict:=1})).st=A.st.Zh i (Sy (ZO n.plan).1 A.st.env<|decide<|0<R A.st.env.rows):=by rw[a,SA.Gc,←K];exact SA.Sn b v.1 _
  refine OK.R3<|RK.cF (zL Zk O O O O) (SA.To q O o J) O O<|rr 4 O<|OK.ret ⟨Y3.r2 (zy O O Zk O) (zo O O) ?_,O,Zo⟩;rw[H];try rfl
 rw[Zn<|by simpa using y]at K;refine ro 3 O ?_;have q:A1.Ok:=by rw[a];exact u.Zh m
 have o:A.cs=A1.cs:=by rw[a];exact(SA.T5 _ _).symm
 have J:A1.st=A.st.Zh i (Sy (ZO n.plan).1 A.st.env<|decide<|0<R A.st.env.rows):=by rw[a,←SA.Sn b v.1,K]
 refine OK.R3<|RK.cF (zL Zk O O O O) (SA.To q O o J) O O<|rr 4 O<|OK.ret ⟨Y3.r2 (zy O O Zk O) (zo O O) ?_,O,Zo⟩;rw[H];try rfl
def Ey(P:R n.plan<=1000)(y:A.Ok)(U:A.st.Good (ZO n.plan).1)(Y:R L.rest<=600):Vi prog 170 [] [.agg n.cs,.agg A.cs,.agg L.cs] [(3000,.res<|Z9 A.mem)] [(3000,.res JT)]<|.Yy [.agg (Wd (ZO n.plan).1 A.st (ZI L.rest).1 (ZI L.rest).2).1.cs,bv (Wd (ZO n.plan).1 A.st (ZI L.rest).1 (ZI L.rest).2).2]:=by
 refine cG func170 O<|ro 12 O<|kc (S.Tx (SB (s:=A.st)) O call73 .none O (zc O .nil) (⟨y.fz,Zo⟩) O)<|rr 10 O<|kB O (λM=>?_) λM=>?_
 ·have F:A.st.Tk=none:=P9 M;have t:Wd (ZO n.plan).1 A.st (ZI L.rest).1 (ZI L.rest).2=(A.st,12):=by unfold Wd;rw[F]
  refine kr<|RK.cF (zL Zk O O O O) y.fz O O<|rr 4 O<|OK.ret ⟨Y3.r2 (zy O O Zk O) (zo O O) ?_,O,Zo⟩;rw[t];try rfl
 obtain⟨i,F⟩:=P_ M;have B:=Vs F;obtain⟨v,o,E,V⟩:=D1 F;obtain⟨X,d⟩:=Vb y.ph o;have W:=(U.fr v.2<|rx.2 ⟨v,mr o,rfl⟩).2;refine ro 6 O<|kc (zK (IT (l:=L.rest) I) call225 O) ?_;refine rr 15 O<|kB O (λz=>?_) λz=>?_
 ·refine kV (.c (zL Pn O O O O)<|.c (zK (NW P) call178 O)<|.c (zL Kz O O O O)<|.c (zK (Gv (p:=(ZO n.plan).1) (f:=(ZI L.rest).1)<|by have:=X_ U.pl;omega) call87 O)<|.c (za O) .nil) ?_;refine rd 8 O<|kB O (λe=>?_) λe=>?_
  ·have t:=(rn (Wd (ZO n.plan).1 A.st (ZI L.rest).1) z).trans<|mY (i:=i) F e;refine kr<|RK.cF (zL Zk O O O O) y.fz O O<|rr 5 O<|OK.ret ⟨Y3.r2 (zy O O Zk O) (zo O O) ?_,O,Zo⟩;rw[t];try rfl
  have N:=e;refine ro 9 O ?_;refine OK.loop (G:=Nat) [4,6,9] (λj=>[(4,.ptr 4 0),(1004,.box A.cs),(6,.ptr 6 0),(1006,.box [.ZM,.ZM,.ZM,.ZM,bv 0,bv 0,.ZM]),(8,bv<|ZC (λp:Part=>decide<|p.place=0) 0 A.st.parts),(9,.ptr 9 0),(1009,.box (ZI L.rest).1.cs),(11,bv j),(3000,.res<|Z9 A.mem)]) (λj=>j<=R v.2.frames/\v.2.frames.find? (λg:Frame=>decide<|g.tick=(ZI L.rest).1.tick)=(v.2.frames.drop j).find? (λg:Frame=>decide<|g.tick=(ZI L.rest).1.tick)) (λj=>R v.2.frames - j) 0 ⟨Zr _,O⟩ ⟨O,O,O,O,O,O,O,O,O,Zo⟩ (λ_=>O) ?_;rintro j ⟨hj,Q⟩;refine ro 5 O<|kc (S.YH Vg .none O (zt O) O O (SA.TC d) O)<|jm O<|kc (S.hidx (i:=i) V6 .none O (zt O) (zt O) B E)<|kc (zr VC O)<|kc (zH (u:=.sl<|v.2.frames.map Frame.cs) Qq O<|Z9.Ki (k:=.p) (i:=i) (f:=4) (SA.Oh d) (Yo (f:=pC) o) O O<|.sl<|y.fs o)<|kc (zk Rh O)<|rr 3 O<|kB O (λT=>?_) λT=>?_
  ·have H:j<R v.2.frames:=I
   refine ro 7 O<|kc (S.YH Vg .none O (zt O) O O (SA.TC d) O)<|jm O<|kc (S.hidx (i:=i) V6 .none O (zt O) (zt O) B E)<|kc (zr VC O)<|kc (zH (u:=.sl<|v.2.frames.map Frame.cs) Qq O<|Z9.Ki (k:=.p) (i:=i) (f:=4) (SA.Oh d) (Yo (f:=pC) o) O O<|.sl<|y.fs o)<|jm O<|kc (zI Rh O H O)<|rr 14 O<|kB O (λK=>?_) λK=>?_
   ·have t:=(rn (Wd (ZO n.plan).1 A.st (ZI L.rest).1) z).trans (m_ F o N<|Q.trans<|(Fi H).trans<|Zn<|by simpa using K);refine ro 7 O<|kc (zK (Me (a:=v.2.frames[j].values) (b:=(ZI L.rest).1.values)) call22 O)<|kc (S.Xb .none O<|zt O)<|kD<|kB O (λJ=>?_) λJ=>?_
    ·rw[Zm<|by simpa using J]at t;refine kr<|RK.cF (zL Zk O O O O) y.fz O O<|rr 4 O<|OK.ret ⟨Y3.r2 (zy O O Zk O) (zo O O) ?_,O,Zo⟩;rw[t];try rfl
    rw[Zn<|by simpa using J]at t;refine ro 4 O<|RK.cF (zL Zk O O O O) y.fz O O<|rr 4 O<|OK.ret ⟨Y3.r2 (zy O O Zk O) (zo O O) ?_,O,Zo⟩;rw[t];try rfl
   refine Ro 8 O I ?_;refine Ab.D.lp ⟨j+1,⟨I,by rw[Q,Fi H,Zm<|by simpa using K]⟩,I,O,O,O,O,O,O,O,O,O,Zo⟩
  have t:=(rn (Wd (ZO n.plan).1 A.st (ZI L.rest).1) z).trans (mZ F o N<|Q.trans<|by rw[ut I];rfl);refine ro 3 O ?_;refine OK.Sd follows (ι:=(Nat×Nat)) (0,0) 11 O (S.ig (s:=[(75,.raw<|v.1.w<|R v.2.frames),(77,.own 77 1),(2077,.arr 2 [(ZI L.rest).1.cs]),(3000,.res<|Z9 A.mem)]) (m:=1) (rows2:=[(ZI L.rest).1.cs]) (.f i) sL O (zt O) (y.fs o) (zt O) O O O C (by rw[Zx];omega)<|by rw[Zx];unfold maxLen;omega).st (λq=>(.cs (zf WC O) (.cs (S.YH Vg .none O (zt O) O O (SA.TC d) O) (.cs (zm O) (.cs (zf WC O) (.cs (S.YH Vg .none O (zt O) O O (SA.TC d) O) (.cs (zm O) (.cs (S.hidx (i:=i) V6 .none O (zt O) (zt O) B E) (.cs (zr VC O) (.cs (zH Qq O<|Z9.Ki (k:=.p) (i:=i) (f:=4) (SA.Oh d) (Yo (f:=pC) o) O O<|.same _) (.cs (zL Kz O O O O) (.cs (zM [[_,_]] sL O O O O)
   (.x ⟨O,O,O,O,Zo⟩<|.cn (S.hidx (i:=i) V6 .none O (zt O) (zt O) B E)<|.cn (zr VC O)<|.cn (S.V9 (rows':=(A.parts.map pC).set i<|v.2.cells<|.raw<|.slice (some ⟨q.1,0,none⟩) (R (v.2.frames.map Frame.cs)+1) q.2) (.p) Qq .none (zt O) (zt O) O ((HM.Z0 _ _ Z).trans<|SA.Oh d) (Yo (f:=pC) o) O O O O C O) .nil))))))))))))) λq=>?_
  refine Ab.D.code<|kO ?_;rw[SA.ld d o];refine OK.R3 (RK.cF (zL Zk O O O O) (SA.To (A:=A.addF i q v.2 (ZI L.rest).1) (y.Zh λh=>by cases h) O (SA.T5 _ _).symm<|SA.Sn o (some q) λp=>{p with frames:=p.frames++[(ZI L.rest).1]}) O O ?_);refine rr 4 O<|OK.ret ⟨Y3.r2 (zy O O Zk O) (zo O O) ?_,O,Zo⟩;rw[t];try rfl
 refine ro 9 O<|kB O (λe=>?_) λe=>?_
 ·have t:=mX (pl:=(ZO n.plan).1) (s:=A.st) (i:=i) (f:=(ZI L.rest).1) F e;refine kr<|RK.cF (zL Zk O O O O) y.fz O O<|rr 5 O<|OK.ret ⟨Y3.r2 (zy O O Zk O) (zo O O) ?_,O,Zo⟩;rw[t];try rfl
 exact absurd (Zu.1 e) z
def Rm(a b:Int):Int:=if a<b then -1 else if a>b then 1 else 0
variable{a b:Int}
theorem Jw(h:a<b):Rm a b= -1:=Zn h
def Dn(h:b<a):Rm a b=1:=(Zm I).trans<|Zn h
def gq(h:a=b):Rm a b=0:=(Zm I).trans<|Zm I
def lY(a b c:Int):Rm (a+c) (b+c)=Rm a b:=by
 simp[Rm]
theorem tdm(e:0<=a)(d:0<b):a=a.tdiv b * b+a.tmod b/\0<=a.tmod b/\a.tmod b<b/\0<=a.tdiv b/\a.tdiv b<=a:=by
 have p:=Int.mul_tdiv_add_tmod a b;have m:=bη b e;have j:=bδ a d;have h:=Int.tdiv_nonneg e<|Int.le_of_lt d;refine⟨by grind,m,j,h,?_⟩;have o:a.tdiv b * 1<=a.tdiv b * b:=dε d h;grind
theorem lZ{c e p q r s:Int}(m:a=p * b+r)(j:c=q * e+s)(d:0<=r/\r<b)(hs:0<=s/\s<e)(h:p<q):a * e<c * b:=by
 subst m;subst j;rw[eγ,eγ];have u:r * e<b * e:=Int.mul_lt_mul_of_pos_right d.2 I;have t:0<=s * b:=cη hs.1 I;have o:(p+1) * (b * e)<=q * (b * e):=Int.mul_le_mul_of_nonneg_right I<|cη I I;grind
theorem cmp_eq{c e p r s:Int}(h:a=p * b+r)(d:c=p * e+s):Rm (a * e) (c * b)=Rm (r * e) (s * b):=by
 subst h;subst d;rw[eγ,eγ,show p * e * b=p * b * e by grind,Int.add_comm _<|r * e,Int.add_comm _<|s * b];exact lY ..
def KC(n:Net)(d:Span):Bool:=decide (d.lo.num<n.lo * d.lo.den)||decide (d.hi.num>n.hi * d.hi.den)
def State.Yz(s:State)(i:Nat):State:={s with parts:=s.parts.map λp=>if decide (p.Yr=(s.p i).Yr)&&decide (p.YD=(s.p i).YD)&&Yu p then {p with marked:=true}else p}
def Qx(n:Net)(rest:ba)(s:State)(i:Nat):SE:=
 if(s.p i).place≠1 then(s,20)else if(Y9 rest).2≠0 then(s,(Y9 rest).2)else
 let c:=Y6 (Y9 rest).1 n.limit
 if c.2≠0 then(s,c.2)else
 let a:=s.Zh i λp=>{p with place:=4,depth:=c.1}
 (if KC n c.1 then a.Yz i else a,0)
def eR(h:Rm (a * 1) b<0):decide (a<b)=true:=by
 rw[Int.mul_one]at h;refine Zz<|aν λd=>?_;unfold Rm at h;omega
theorem eO(h:¬Rm (a * 1) b<0):decide (a<b)=false:=by
 rw[Int.mul_one]at h;grind [Jw]
theorem eP:decide (a>b)=decide (Rm (a * 1) b>0):=by
 rw[Int.mul_one];unfold Rm;grind
def mF(r:ba)(n:Int)(p:Part):Part:=if decide (p.Yr=r)&&decide (p.YD=n)&&Yu p then {p with marked:=true}else p
theorem mF_fr(r:ba)(n:Int)(p:Part):(mF r n p).frames=p.frames/\(mF r n p).Yr=p.Yr/\(mF r n p).YD=p.YD:=by unfold mF;grind
def SA.eH(A:SA)(i k:Nat):SA:={A with parts:=A.parts.mapIdx λj v=>if j<k then(v.1,mF (A.st.p i).Yr (A.st.p i).YD v.2)else v}
structure W7(A1:SA)(i k:Nat)(A2:SA):Prop where
 ok:A2.Ok
 eq:A2=A1.eH i k
section
variable{A1 A2:SA}{i k:Nat}{w v:Hd×Part}
theorem bD(h:A1.parts[k]?=some v)(j:Nat):(A1.eH i j).parts[k]?=some (if k<j then(v.1,mF (A1.st.p i).Yr (A1.st.p i).YD v.2)else v):=by
 simp_all[SA.eH]
def W7.zero(h:A1.Ok):W7 A1 i 0 A1:=⟨h,by
 unfold SA.eH;have:A1.parts.mapIdx (λj v=>if j<0 then(v.1,mF (A1.st.p i).Yr (A1.st.p i).YD v.2)else v)=A1.parts:=P2 λj=>by
  simp
 rw[this]⟩
def W7.len(h:W7 A1 i k A2):R A2.parts=R A1.parts:=by rw[h.eq];exact List.length_mapIdx
def W7.ph(h:W7 A1 i k A2):A2.ph=A1.ph:=by rw[h.eq];rfl
def W7.cs(h:W7 A1 i k A2):A1.cs=A2.cs:=by
 unfold SA.cs;rw[h.len,h.eq];rfl
def W7.at_(h:W7 A1 i k A2)(b:A1.parts[i]?=some v):∃a,A2.parts[i]?=some a/\a.2.Yr=(A1.st.p i).Yr/\a.2.YD=(A1.st.p i).YD:=by
 rw[h.eq];refine⟨_,bD b k,?_⟩;rw[SA.Uq b];split
 ·simp[mF_fr]
 simp
theorem W7.step(h:W7 A1 i k A2)(hw:A2.parts[k]?=some w):A1.eH i (k+1)=A2.Zh k (w.1,mF (A1.st.p i).Yr (A1.st.p i).YD w.2):=by
 have h0:A1.parts[k]?=some w:=by
  have e:=hw;rw[h.eq]at e;simp_all[SA.eH]
 rw[h.eq];unfold SA.eH SA.Zh;dsimp only;congr 1;refine P2 λj=>?_
 grind
theorem W7.on(h:W7 A1 i k A2)(hw:A2.parts[k]?=some w)(a:(w.2.Yr=(A1.st.p i).Yr/\w.2.YD=(A1.st.p i).YD)/\Yu w.2=true):W7 A1 i (k+1)<|A2.Zh k (w.1,{w.2 with marked:=true}):=by
 refine⟨h.ok.Zh<|h.ok.fh w<|mr hw,?_⟩;rw[h.step hw,mF,Zn<|by simp_all]
theorem W7.off(h:W7 A1 i k A2)(hw:A2.parts[k]?=some w)(a:¬((w.2.Yr=(A1.st.p i).Yr/\w.2.YD=(A1.st.p i).YD)/\Yu w.2=true)):W7 A1 i (k+1) A2:=by
 refine⟨h.ok,?_⟩;rw[h.step hw,mF,Zm λe=>a<|by simp_all];unfold SA.Zh;rw[show A2.parts.set k (w.1,w.2)=A2.parts from P2 λj=>by
  grind]
theorem W7.all{n:Nat}(h:W7 A1 i n A2)(a:R A1.parts=n):A2.st=A1.st.Yz i:=by
 rw[h.eq];unfold SA.eH SA.st State.Yz;dsimp only;congr 1;refine P2 λj=>?_
 rw[dp,List.getElem?_mapIdx,dp,dp];cases e:A1.parts[j]? with
 |none=>rfl
 |some v=>
  show some (if j<n then _ else _:Hd×Part).2=_;rw[Zn<|by grind];rfl
end
def CO{a b:Part}:Nq [.s a.Yr,.i a.YD] [.s b.Yr,.i b.YD]=decide (a.Yr=b.Yr/\a.YD=b.YD):=by simp[Nq,Pl.eq]
section
variable{A:SA}{n:Net}{i:Nat}{v:Hd×Part}{r:ba}
theorem bn{m:Int}(h:ix (λp:Part=>decide<|p.num=m) A.st.parts=some i):∃v,A.parts[i]?=some v/\i<R A.parts:=by
 have a:i<R A.parts:=by rw[←SA.PX];exact(Y8 h).1
 simp_all
theorem qO(a:A.parts[i]?=some v)(h:v.2.place≠1):Qx n r A.st i=(A.st,20):=by simp_all[Qx,SA.Uq]
theorem cS(a:A.parts[i]?=some v)(h:¬v.2.place≠1):Qx n r A.st i=if(Y9 r).2≠0 then(A.st,(Y9 r).2)else if(Y6 (Y9 r).1 n.limit).2≠0 then(A.st,(Y6 (Y9 r).1 n.limit).2)else(if KC n (Y6 (Y9 r).1 n.limit).1 then(A.st.Zh i λp=>{p with place:=4,depth:=(Y6 (Y9 r).1 n.limit).1}).Yz i else A.st.Zh i λp=>{p with place:=4,depth:=(Y6 (Y9 r).1 n.limit).1},0):=by
 simp_all[Qx,SA.Uq]
theorem cV(a:Y5 n.limit=true)(h:¬(Y9 r).2≠0):¬ZW [(WS (Y9 r).1).2,Z8 (Y5 n.limit) 2]≠0:=by
 have h0:=Zu.1 h;have d:(WS (Y9 r).1).2=0:=by
  by_cases b:(if(Yq 4 r).2=0 then(WS<|(Yq 4 r).1.map Xy).2 else(Yq 4 r).2)≠0
  ·simp_all[Nd]
  rw[EO b];grind
 rw[ZW,d,a];decide
end
theorem Fv:∀(f:Nat)(a b:Int),0<=a->0<=b->b.toNat<f->MF f a b∣a/\MF f a b∣b
 |0,_,_,_,_,h=>absurd h<|bπ _
 |f+1,a,b,ha,hb,h=>by
  rw[MF];split
  ·simp_all
  rename_i e;obtain⟨x,t,u,_⟩:=tdm (b:=b) ha I;obtain⟨q,p⟩:=Fv f b (a.tmod b) hb t I;obtain⟨j,d⟩:=q;obtain⟨m,o⟩:=p;exact⟨⟨a.tdiv b * j+m,by grind⟩,⟨j,d⟩⟩
theorem wP{n d:Int}(e:0<=n)(hd:1<=d):1<=(TZ n d).den:=by
 obtain⟨_,k,o⟩:=Fv (d.toNat+1) n d e I I;have p:=MG (a:=n) (b:=d) e I;show 1<=d.tdiv (ON n d);have m:d=ON n d * k:=o;have j:1<=k:=aν λh=>by
  grind [Int.mul_nonpos_of_nonneg_of_nonpos]
 grind [Int.mul_tdiv_cancel_left]
variable{limit:Int}
def Fh{c:List<|Int×Int}(b:Hp c)(e:0<=limit/\limit<=2000)(d:(Xp c limit).2=true):1<=(Xp c limit).1.den:=by
 cases h:ix (Vt limit) c with
 |none=>simp_all[Mu]
 |some j=>
  have a:=(Y8 h).1;cases j with
  |zero=>
   rw[Mt h a];have:=b.at_ _<|Zt a;exact wP I C
  |succ k=>
   rw[Mw h a];obtain⟨m,d,_⟩:=JJ b e h a;exact wP d.1 m.1
def gF{c:List<|Int×Int}:(Xp c limit).2=(ix (Vt limit) c).isSome:=by
 cases h:ix (Vt limit) c with
 |none=>rw[Mu h];rfl
 |some j=>
  have a:=(Y8 h).1;cases j with
  |zero=>rw[Mt h a];rfl
  |succ k=>rw[Mw h a];rfl
def Bt{l:List ZK}(h:Lj l)(d:(Xp (X5 l) limit).2=true):(Xp (UF l) limit).2=true:=by
 rw[gF]at d⊢;cases e:ix (Vt limit) (UF l)with
 |some j=>rfl
 |none=>
  obtain⟨j,o⟩:=sk.1 d;obtain⟨q,m⟩:=Y8 o;obtain⟨x,b,a⟩:=rx.1<|Zt q;rw[←a]at m;have p:=(T9 _ _ 0).1 e (x.depth,x.lo)<|rx.2 ⟨x,b,rfl⟩;have y:x.hi<limit:=pf m;have u:¬x.lo<limit:=a6 p;have t:=(h.ok x b).ord;omega
def r8{l:List ZK}(h:¬(Y6 l limit).2≠0):((0<=(Y6 l limit).1.lo.num/\(Y6 l limit).1.lo.num<=1000000000)/\1<=(Y6 l limit).1.lo.den/\(Y6 l limit).1.lo.den<=1000000000)/\(0<=(Y6 l limit).1.hi.num/\(Y6 l limit).1.hi.num<=1000000000)/\1<=(Y6 l limit).1.hi.den/\(Y6 l limit).1.hi.den<=1000000000:=by
 obtain⟨b,a⟩:=vW l limit;have h0:=Zu.1 h;have x:1<=(Y6 l limit).1.lo.den/\1<=(Y6 l limit).1.hi.den:=by
  by_cases m:ZW [(WS l).2,Z8 (Y5 limit) 2]≠0
  ·simp_all[yf]
  obtain⟨q,p⟩:=vY m;have d:=J5 q;have j:0<=limit/\limit<=2000:=pf p;by_cases o:((X5 l).getD 0 (0,0)).2<limit
  ·simp_all[Ju]
  cases e:(Xp (X5 l) limit).2 with
  |false=>simp_all[Jv]
  |true=>rw[Dm m o e];exact⟨Fh d.lower j<|Bt d e,Fh d.upper j e⟩
 have u:=b.num;have t:=a.num;have z:=b.den;have y:=a.den;omega
section
variable{n:Net}{s:State}{i:Nat}{c:Span}
theorem cQ(h:KC n c=true):((if KC n c then(s.Zh i λp=>{p with place:=4,depth:=c}).Yz i else s.Zh i λp=>{p with place:=4,depth:=c},0):SE)=((s.Zh i λp=>{p with place:=4,depth:=c}).Yz i,0):=by grind
def cP(h:KC n c=false):((if KC n c then(s.Zh i λp=>{p with place:=4,depth:=c}).Yz i else s.Zh i λp=>{p with place:=4,depth:=c},0):SE)=(s.Zh i λp=>{p with place:=4,depth:=c},0):=by rw[h];rfl
end
def KF{n:Int}(h:0<=n/\n<=1000000000)(j:1<=b):Ct prog 152 [bv n,bv b]<|bv<|n.tdiv b:=by
 refine cI func152 O λ{_ _}=>?_
 have e:=tdm h.1 (show 0<b by omega);have d:=cη e.2.2.2.1 (show 0<=b by omega);refine ro 9 O ?_;refine kc (S.quo .none O (zt O) (zt O) I (mn _ I)<|mn _ I) ?_;refine rr 8 O ?_;refine kc (S.rem .none O (zt O) (zt O) I O<|mn _ I) ?_;refine rr 3 O<|kB O (λa=>?_) λa=>?_
 ·exact absurd (show n.tmod b<0 from a) I
 refine ro 8 O<|kR O O ?_;rfl
def Mk{n d m k:Int}(hb:(0<=n/\n<=1000000000)/\(1<=d/\d<=1000000000)/\(0<=m/\m<=1000000000)/\(1<=k/\k<=1000000000)):Ct prog 107 [bv n,bv d,bv m,bv k]<|bv<|Rm (n * k)<|m * d:=by
 refine cI func107 O<|ro 6 O ?_;refine OK.rU [] (λ(a:Int)(b:Int)(c:Int)(e:Int)=>[(0,bv a),(1,bv b),(2,bv c),(3,bv e),(8,bv 0)]) (λa b c e=>((0<=a/\a<=1000000000)/\(1<=b/\b<=1000000000)/\(0<=c/\c<=1000000000)/\(1<=e/\e<=1000000000))/\Rm (n * k) (m * d)=Rm (a * e) (c * b)) (λa b c e=>(b+e).toNat) n d m k ⟨hb,O⟩ ⟨O,O,O,O,O,Zo⟩ (λ_ _ _ _=>O) ?_;rintro a b c e ⟨⟨⟨C,P⟩,⟨N,Z⟩,⟨B,M⟩,⟨L,Y⟩⟩,K⟩;obtain⟨T,z,y,X,W⟩:=tdm C (show 0<b by omega);obtain⟨Q,x,u,V,U⟩:=tdm B (show 0<e by omega);refine ro 5 O<|kc (zK (KF ⟨C,P⟩ N) call152 O)<|jm O<|jm O<|kc (zK (KF ⟨B,M⟩ L) call152 O)<|rr 12 O<|kB O (λH=>?_) λH=>?_
 ·have j:=K.trans<|Jw<|lZ T Q ⟨z,y⟩ ⟨x,u⟩ H;refine ro 5 O<|kR O O ?_;rw[j];try rfl
 refine ro 10 O<|kB O (λG=>?_) λG=>?_
 ·have j:=K.trans<|Dn<|lZ Q T ⟨x,u⟩ ⟨z,y⟩ G;refine ro 5 O<|kR O O ?_;rw[j];try rfl
 have J:c.tdiv e=a.tdiv b:=I
 have h:=K.trans<|cmp_eq T<|J▸Q;refine ro 7 O ?_;refine kc (S.mul .none O (zt O) (zt O) (mn _ I)<|mn _ I) ?_;refine Rr 4 O I ?_;refine kc (S.mul .none O (zt O) (zt O) (mn _ I)<|mn _ I) ?_;refine Rr 7 O I ?_;rw[show a - a.tdiv b * b=a.tmod b by omega,show c - c.tdiv e * e=c.tmod e by omega];refine ro 4 O<|RK.ZS (t:=35) O (λE=>?_) λE=>?_
 ·refine rr 5 O<|kB O (λF=>?_) λF=>?_
  ·have h0:a.tmod b=0:=E;have j:=h.trans (gq<|by rw[h0,show c.tmod e=0 from F,cζ,cζ]);refine ro 5 O<|kR O O ?_;rw[j];try rfl
  refine ro 9 O<|kB O (λp=>?_) λp=>?_
  ·have h0:a.tmod b=0:=p;have j:=h.trans (Jw<|by rw[h0,cζ];exact eδ I I);refine ro 5 O<|kR O O ?_;rw[j];try rfl
  refine ro 9 O<|kB O (λo=>?_) λo=>?_
  ·have h0:c.tmod e=0:=o;have j:=h.trans (Dn<|by rw[h0,cζ];exact eδ I I);refine ro 5 O<|kR O O ?_;rw[j];try rfl
  have q:Rm (n * k) (m * d)=Rm (e * a.tmod b) (b * c.tmod e):=by rw[h,cχ e,cχ b]
  refine ro 13 O<|Ab.D.lp ⟨e,(c.tmod e),b,(a.tmod b),⟨⟨I,I,I,I⟩,q⟩,I,O,O,O,O,O,Zo⟩
 refine rr 15 O<|kB O (λp=>?_) λp=>?_
 ·have h0:a.tmod b=0:=p;have j:=h.trans (Jw<|by rw[h0,cζ];exact eδ I I);refine ro 5 O<|kR O O ?_;rw[j];try rfl
 refine ro 9 O<|kB O (λo=>?_) λo=>?_
 ·have h0:c.tmod e=0:=o;have j:=h.trans (Dn<|by rw[h0,cζ];exact eδ I I);refine ro 5 O<|kR O O ?_;rw[j];try rfl
 have q:Rm (n * k) (m * d)=Rm (e * a.tmod b) (b * c.tmod e):=by rw[h,cχ e,cχ b]
 refine ro 13 O<|Ab.D.lp ⟨e,(c.tmod e),b,(a.tmod b),⟨⟨I,I,I,I⟩,q⟩,I,O,O,O,O,O,Zo⟩
def Ho{d:Span}(j:(0<=n.lo/\n.lo<=1000000000))(hh:(0<=n.hi/\n.hi<=1000000000))(e:(0<=d.lo.num/\d.lo.num<=1000000000)/\(1<=d.lo.den/\d.lo.den<=1000000000))(h:(0<=d.hi.num/\d.hi.num<=1000000000)/\(1<=d.hi.den/\d.hi.den<=1000000000)):Ct prog 74 [.agg n.cs,.agg d.cs]<|.bool<|KC n d:=by
 refine cI func74 O<|ro 18 O<|kc (zK (Mk (n:=d.lo.num) (d:=d.lo.den) (m:=n.lo) (k:=1) ⟨e.1,e.2,j,C⟩) call107 O) ?_;refine rr 2 O<|RK.ZS (t:=16) O (λb=>?_) λb=>?_
 ·refine rr 15 O<|kR O O ?_;refine Xj ?_;unfold KC
  first|(rw[eR b];rfl)|(rw[eO b,eP (a:=d.hi.num)];rfl)
 refine rr 9 O<|kc (S.call (Mk (n:=d.hi.num) (d:=d.hi.den) (m:=n.hi) (k:=1) ⟨h.1,h.2,hh,C⟩) call107 (zg O O) O (zc O<|zc O<|zc O<|zD O) O) ?_;refine rr 5 O<|kR O O ?_;refine Xj ?_;unfold KC
 first|(rw[eR b];rfl)|(rw[eO b,eP (a:=d.hi.num)];rfl)
def Ku(hn:(0<=n.lo/\n.lo<=1000000000)/\(0<=n.hi/\n.hi<=1000000000)/\Y5 n.limit=true)(M:A.Ok)(hg:A.st.Good (ZO n.plan).1)(hl:R L.rest<=600):Vi prog 173 [] [.agg n.cs,.agg A.cs,.agg L.cs,bv<|ZC (λp:Part=>decide<|p.num=L.num) 0 A.st.parts] [(3000,.res<|Z9 A.mem)] [(3000,.res JT)]<|.Yy [.agg (VQ A.st L.num<|Qx n L.rest).1.cs,bv (VQ A.st L.num<|Qx n L.rest).2]:=by
 refine cG func173 O λ{_ _}=>?_
 have hlp:=hg.sm.lp;rw[SA.PX]at hlp;refine ro 16 O<|kB O (λT=>?_) λT=>?_
 ·have hN:A.st.U1 L.num=none:=P9 T;have y:VQ A.st L.num (Qx n L.rest)=(A.st,6):=by unfold VQ;rw[hN]
  refine kr<|RK.cF (zL Zk O O O O) M.fz O O<|rr 4 O<|OK.ret ⟨Y3.r2 (zy O O Zk O) (zo O O) ?_,O,Zo⟩;rw[y];try rfl
 obtain⟨i,Z⟩:=P_ T;have t:=Vs Z;obtain⟨v,B,x⟩:=bn Z;obtain⟨pq,e⟩:=Vb M.ph B;have e1:VQ A.st L.num (Qx n L.rest)=Qx n L.rest A.st i:=by unfold VQ;rw[show A.st.U1 L.num=some i from Z]
 have V:=M.fh v<|mr B;refine ro 6 O<|kc (S.YH Vg .none O (zt O) O O (SA.TC e) O)<|jm O<|kc (S.hidx (i:=i) V6 .none O (zt O) (zt O) t x)<|kc (zr RT O) ?_;refine kc (zH YK O<|Z9.Ki (k:=.p) (i:=i) (f:=5) (SA.Oh e) (Yo (f:=pC) B) O O<|.same _) ?_;refine rr 3 O<|kB O (λQ=>?_) λQ=>?_
 ·have y:=e1.trans<|qO B Q;refine kr<|RK.cF (zL Zk O O O O) M.fz O O<|rr 4 O<|OK.ret ⟨Y3.r2 (zy O O Zk O) (zo O O) ?_,O,Zo⟩;rw[y];try rfl
 have e2:=e1.trans<|cS B Q;refine ro 6 O<|kc (zK (NY (s:=L.rest) I) call227 O) ?_;refine rr 15 O<|kB O (λG=>?_) λG=>?_
 ·have y:=e2.trans<|Zn G;refine kr<|RK.cF (zL Zk O O O O) M.fz O O<|rr 5 O<|OK.ret ⟨Y3.r2 (zy O O Zk O) (zo O O) ?_,O,Zo⟩;rw[y];try rfl
 have e3:=e2.trans<|Zm G;have W:=cV hn.2.2 G;refine ro 7 O<|kc (zK (uR (l:=(Y9 L.rest).1) (limit:=n.limit) W) call228 O)<|rr 15 O<|kB O (λF=>?_) λF=>?_
 ·have y:=e3.trans<|Zn F;refine kr<|RK.cF (zL Zk O O O O) M.fz O O<|rr 5 O<|OK.ret ⟨Y3.r2 (zy O O Zk O) (zo O O) ?_,O,Zo⟩;rw[y];try rfl
 have e4:=e3.trans<|Zm F;have X:=r8 F;refine ro 3 O ?_;refine kV (.c (zf WC O)<|.c (S.YH Vg .none O (zt O) O O (SA.TC e) O)<|.c (zm O)<|.c (zf WC O)<|.c (S.YH Vg .none O (zt O) O O (SA.TC e) O)<|.c (zm O)<|.c (zL L4 O O O O)<|.c (S.hidx (i:=i) V6 .none O (zt O) (zt O) t x)<|.c (zr RT O)<|.c (S.V9 (rows':=(A.parts.map pC).set i<|({v.2 with place:=4}:Part).cells<|.raw<|v.1.w<|R v.2.frames) (.p) YK .none (zt O) (.Zg O) O (SA.Oh e) (Yo (f:=pC) B) O O O O C O)<|.c (S.hidx (i:=i) V6 .none O (zt O) (zt O) t x)<|.c (zr yA O)<|.c (S.V9 (rows':=(A.parts.map pC).set i<|({v.2 with place:=4,depth:=(Y6 (Y9 L.rest).1 n.limit).1}:Part).cells<|.raw<|v.1.w<|R v.2.frames) (.p) L4 .none (zt O) (zt O) O (HM.YW _ _ _) (xy<|Yo (f:=pC) B) O O O O C<|by rw[eυ];rfl) .nil) ?_;refine rd 3 O ?_;rw[HM.set_set,SA.S4 e B (p:={v.2 with place:=4,depth:=(Y6 (Y9 L.rest).1 n.limit).1}) rfl];obtain⟨A1,h⟩:∃A1,A1=A.Zh i (v.1,{v.2 with place:=4,depth:=(Y6 (Y9 L.rest).1 n.limit).1}):=⟨_,rfl⟩;rw[←h];have H:A1.st=A.st.Zh i λp=>{p with place:=4,depth:=(Y6 (Y9 L.rest).1 n.limit).1}:=by rw[h];exact SA.Sn B v.1 λp=>{p with place:=4,depth:=(Y6 (Y9 L.rest).1 n.limit).1}
 have K:A.cs=A1.cs:=by rw[h];exact(SA.T5 _ _).symm
 have J:R A1.parts=R A.parts:=by rw[h];exact wi
 refine ro 3 O<|kc (zK (Ho (n:=n) (d:=(Y6 (Y9 L.rest).1 n.limit).1) hn.1 hn.2.1 X.1 X.2) call74 O)<|kD<|OK.cond O O (λP=>?_) λP=>?_
 ·have y:=e4.trans<|cQ (i:=i) P;refine ro 6 O ?_;refine OK.We [5,8] (λ(k:Nat)(A2:SA)=>[(5,.ptr 5 0),(1005,.box A.cs),(3,bv<|ZC (λp:Part=>decide<|p.num=L.num) 0 A.st.parts),(8,.ptr 8 0),(1008,.box [.ZM,.ZM,.ZM,.ZM,bv 0,bv 0,.ZM]),(13,bv k),(3000,.res<|Z9 A2.mem)]) (λk A2=>k<=R A.parts/\W7 A1 i k A2) (λk A2=>R A.parts - k) 0 A1 ⟨Zr _,W7.zero<|by rw[h];exact M.Zh V⟩ ⟨O,O,O,O,O,O,O,Zo⟩ (λ_ _=>O) ?_;rintro k A2 ⟨hk,E⟩;refine ro 6 O ?_;refine kc (S.hlen V6 (by unfold maxLen;omega) .none O<|zt O) ?_;refine rr 3 O<|kB O (λc64=>?_) λc64=>?_
  ·have u:k<R A.parts:=I
   obtain⟨w,hw⟩:∃w,A2.parts[k]?=some w:=⟨_,Zv<|by rw[E.len,J];exact u⟩;have j:A2.ph=some pq:=by rw[E.ph,h];exact e
   obtain⟨m,U,o⟩:=E.at_ (i:=i) (by rw[h];exact SA.T4 B _);refine ro 5 O ?_;by_cases a:w.2.Yr=m.2.Yr/\w.2.YD=m.2.YD
   ·have Y:w.2.Yr=(A1.st.p i).Yr/\w.2.YD=(A1.st.p i).YD:=by rw[←o.1,←o.2];exact a
    refine kV (.c (zf WC O)<|.c (S.YH Vg .none O (zt O) O O (SA.TC e) O)<|.c (zm O)<|.c (S.hidx (i:=k) V6 .none O (zt O) (zt O) O u)<|.c (zr TK O)<|.c (zJ (us:=[.str w.2.Yr,bv w.2.YD]) Ni O<|Z9.GF (k:=.p) (i:=k) (f:=1) (SA.Oh j) (Yo (f:=pC) hw) O ⟨.same _,.same _,Zo⟩ O)<|.c (zf WC O)<|.c (S.YH Vg .none O (zt O) O O (SA.TC e) O)<|.c (zm O)<|.c (S.hidx (i:=i) V6 .none O (zt O) (zt O) t x)<|.c (zr TK O)<|.c (zJ (us:=[.str m.2.Yr,bv m.2.YD]) Ni O<|Z9.GF (k:=.p) (i:=i) (f:=1) (SA.Oh j) (Yo (f:=pC) U) O ⟨.same _,.same _,Zo⟩ O)<|.c (S.rY (b:=decide<|w.2.Yr=m.2.Yr/\w.2.YD=m.2.YD) [.s [],.i 0] [.s w.2.Yr,.i w.2.YD] [.s m.2.Yr,.i m.2.YD] ET .none O (zt O) (zt O) O O O O CO)<|.c (zm O)<|.c (S.VN WC (.yes O O O<|by first|rfl|exact Zz a|exact Zy a|(rw[Zz a];rfl)|(rw[Zy a];rfl)|simp[*]) O<|zt O)<|.c (S.YH Vg (.yes O O O<|by first|rfl|exact Zz a|exact Zy a|(rw[Zz a];rfl)|(rw[Zy a];rfl)|simp[*]) O (zt O) O O (SA.TC e) O)<|.c (S.move (.yes O O O<|by first|rfl|exact Zz a|exact Zy a|(rw[Zz a];rfl)|(rw[Zy a];rfl)|simp[*]) O<|zt O)<|.c (S.hidx (i:=k) V6 (.yes O O O<|by first|rfl|exact Zz a|exact Zy a|(rw[Zz a];rfl)|(rw[Zy a];rfl)|simp[*]) O (zt O) (zt O) O u)<|.c (S.qD (us:=w.2.cs) L5 (.yes O O O<|by first|rfl|exact Zz a|exact Zy a|(rw[Zz a];rfl)|(rw[Zy a];rfl)|simp[*]) O (zt O) O<|Z9.GF (k:=.p) (i:=k) (f:=0) (SA.Oh j) (Yo (f:=pC) hw) O ⟨.same _,.same _,.same _,.same _,.sl<|E.ok.fs hw,.same _,.same _,.same _,.same _,.same _,.same _,.same _,.same _,Zo⟩ O)<|.c (S.call (Ny (p:=w.2)) call75 (.yes O O O<|by first|rfl|exact Zz a|exact Zy a|(rw[Zz a];rfl)|(rw[Zy a];rfl)|simp[*]) O (zc O .nil) O)<|.c (S.Tc .none O (zt O) (zt O)<|by first|rfl|exact Zz a|exact Zy a|(rw[Zz a];rfl)|(rw[Zy a];rfl)|simp[*]) .nil) ?_;refine Ab.D.code<|OK.cond O O (λN=>?_) λN=>?_
    ·have z:=E.on hw ⟨Y,N⟩;refine ro 2 O<|kc (S.YH Vg .none O (zt O) O O (SA.TC e) O)<|jm O<|kc (S.hidx (i:=k) V6 .none O (zt O) (zt O) O u)<|kc (zr DK O) ?_;refine kc (S.V9 (rows':=(A2.parts.map pC).set k<|({w.2 with marked:=true}:Part).cells<|.raw<|w.1.w<|R w.2.frames) (.p) CI .none (zt O) .Wx O (SA.Oh j) (Yo (f:=pC) hw) O O O O C O) ?_;refine rr 3 O ?_;rw[SA.S4 j hw (p:={w.2 with marked:=true}) rfl];refine Ro 5 O I<|Ab.D.lp ⟨k+1,(A2.Zh k (w.1,{w.2 with marked:=true})),⟨I,z⟩,I,O,O,O,O,O,O,O,Zo⟩
    have z:=E.off hw λq=>absurd q.2 (by rw[N];decide)
    refine Ro 8 O I<|Ab.D.lp ⟨k+1,A2,⟨I,z⟩,I,O,O,O,O,O,O,O,Zo⟩
   have z:=E.off hw λq=>a (by rw[o.1,o.2];exact q.1)
   refine kV (.c (zf WC O)<|.c (S.YH Vg .none O (zt O) O O (SA.TC e) O)<|.c (zm O)<|.c (S.hidx (i:=k) V6 .none O (zt O) (zt O) O u)<|.c (zr TK O)<|.c (zJ (us:=[.str w.2.Yr,bv w.2.YD]) Ni O<|Z9.GF (k:=.p) (i:=k) (f:=1) (SA.Oh j) (Yo (f:=pC) hw) O ⟨.same _,.same _,Zo⟩ O)<|.c (zf WC O)<|.c (S.YH Vg .none O (zt O) O O (SA.TC e) O)<|.c (zm O)<|.c (S.hidx (i:=i) V6 .none O (zt O) (zt O) t x)<|.c (zr TK O)<|.c (zJ (us:=[.str m.2.Yr,bv m.2.YD]) Ni O<|Z9.GF (k:=.p) (i:=i) (f:=1) (SA.Oh j) (Yo (f:=pC) U) O ⟨.same _,.same _,Zo⟩ O)<|.c (S.rY (b:=decide<|w.2.Yr=m.2.Yr/\w.2.YD=m.2.YD) [.s [],.i 0] [.s w.2.Yr,.i w.2.YD] [.s m.2.Yr,.i m.2.YD] ET .none O (zt O) (zt O) O O O O CO)<|.c (zm O)<|.c (zG O<|by first|rfl|exact Zz a|exact Zy a|(rw[Zz a];rfl)|(rw[Zy a];rfl)|simp[*])<|.c (zG O<|by first|rfl|exact Zz a|exact Zy a|(rw[Zz a];rfl)|(rw[Zy a];rfl)|simp[*])<|.c (zG O<|by first|rfl|exact Zz a|exact Zy a|(rw[Zz a];rfl)|(rw[Zy a];rfl)|simp[*])<|.c (zG O<|by first|rfl|exact Zz a|exact Zy a|(rw[Zz a];rfl)|(rw[Zy a];rfl)|simp[*])<|.c (zG O<|by first|rfl|exact Zz a|exact Zy a|(rw[Zz a];rfl)|(rw[Zy a];rfl)|simp[*])<|.c (zG O<|by first|rfl|exact Zz a|exact Zy a|(rw[Zz a];rfl)|(rw[Zy a];rfl)|simp[*])<|.c (S.Ug .none O (zt O) .Wx<|by first|rfl|exact Zz a|exact Zy a|(rw[Zz a];rfl)|(rw[Zy a];rfl)|simp[*]) .nil) ?_;refine Rd 10 O I<|Ab.D.lp ⟨k+1,A2,⟨I,z⟩,I,O,O,O,O,O,O,O,Zo⟩
  obtain rfl:k=R A.parts:=I
  have hF:CX A2.mem (.agg A.cs)<|.agg ((A.st.Zh i λp=>{p with place:=4,depth:=(Y6 (Y9 L.rest).1 n.limit).1}).Yz i).cs:=SA.To E.ok rfl (K.trans E.cs) (by rw[←H];exact E.all J);refine ro 4 O<|RK.cF (zL Zk O O O O) hF O O<|rr 4 O<|OK.ret ⟨Y3.r2 (zy O O Zk O) (zo O O) ?_,O,Zo⟩;rw[y];try rfl
 have y:=e4.trans<|cP (i:=i) P;have hF:CX A1.mem (.agg A.cs)<|.agg (A.st.Zh i λp=>{p with place:=4,depth:=(Y6 (Y9 L.rest).1 n.limit).1}).cs:=SA.To (by rw[h];exact M.Zh V) rfl K H;refine ro 4 O<|RK.cF (zL Zk O O O O) hF O O<|rr 4 O<|OK.ret ⟨Y3.r2 (zy O O Zk O) (zo O O) ?_,O,Zo⟩;rw[y];try rfl
