import Derived.Test.YtlmhpcghgjdjjaaGreatDoorTl
set_option linter.all false
set_option maxHeartbeats 4000000
open List renaming length->R
namespace Go.Proofs.Z9
open Go.Ab Tryz
set_option maxRecDepth 9999
section
variable{A:SA}
def SA.Pz{q:Nat×Nat}(h:A.ch=some q):A.cs[1]?=some (.raw (.slice (some ⟨q.1,0,none⟩) (R A.aC) q.2)):=by show some (X.raw (A.ch.w _))=_;rw[h];rfl
def SA.YW{q:Nat×Nat}(h:A.ph=some q):A.cs[2]?=some (.raw (.slice (some ⟨q.1,0,none⟩) (R A.parts) q.2)):=by show some (X.raw (A.ph.w _))=_;rw[h];rfl
def SA.rawM{q:Nat×Nat}(h:A.mh=some q):A.cs[3]?=some (.raw (.slice (some ⟨q.1,0,none⟩) (R A.aI) q.2)):=by show some (X.raw (A.mh.w _))=_;rw[h];rfl
def SA.Jh{q:Nat×Nat}(h:A.ch=some q):A.mem .c=some (q.1,.row 3 q.2 (A.aC.map o6.cs)):=by show A.ch.map _=_;rw[h];rfl
def SA.Iz{q:Nat×Nat}(h:A.ph=some q):A.mem .p=some (q.1,.row 13 q.2 (A.parts.map pC)):=by show A.ph.map _=_;rw[h];rfl
def SA.atM{q:Nat×Nat}(h:A.mh=some q):A.mem .m=some (q.1,.row 1 q.2 (A.aI.map V1)):=by show A.mh.map _=_;rw[h];rfl
def ZB{α:Type}{q:Hd}{l:List α}{i:Nat}{x:α}(h:q=none->l=[])(a:l[i]?=some x):∃p,q=some p:=by
 cases q<;>grind
def Z7{α β:Type}{f:α->β}{l:List α}{i:Nat}{x:α}(h:l[i]?=some x):(l.map f)[i]?=some (f x):=by simp_all
def ZC{α:Type}{g:α->Bool}{l:List α}{i:Nat}(h:ix g l=some i):bq g 0 l=i:=by rw[my,h]
def SA.Ee(A:SA)(j:Nat)(c:o6):SA:={A with aC:=A.aC.set j c}
def SA.eC(A:SA)(i:Nat)(v:Hd×Part):SA:={A with parts:=A.parts.set i v}
def SA.Vt{q:Nat×Nat}(h:A.ch=some q)(j:Nat)(c:o6):A.mem.set .c (some (q.1,.row 3 q.2 ((A.aC.map o6.cs).set j c.cs)))=(A.Ee j c).mem:=funext fun k=>by
 cases k with
 |c=>show some _=A.ch.map _;rw[h,←bτ];rfl
 |_=>exact HM.ai _ _ Z
def SA.QG(j:Nat)(c:o6):(A.Ee j c).cs=A.cs:=by simp[SA.Ee,SA.cs]
def SA.Ok.Ee(h:A.Ok)(j:Nat)(c:o6):(A.Ee j c).Ok:=⟨h.rh,fun e=>by show A.aC.set j c=[];rw[h.ch e];rfl,h.ph,h.mh,h.fh⟩
def set_eq{α:Type}{l:List α}{i:Nat}{x:α}(h:l[i]?=some x)(f:α->α):l.set i (f x)=l.modify i f:=(cR h f).symm
def SA.TO{j:Nat}{c:o6}(h:A.aC[j]?=some c)(f:o6->o6):(A.Ee j (f c)).st={A.st with aC:=A.st.aC.modify j f}:=by simp_all[SA.Ee,SA.st,set_eq]
theorem SA.YM{q:Nat×Nat}(h:A.ph=some q){i:Nat}{v:Hd×Part}(a:A.parts[i]?=some v){p:Part}(b:p.frames=v.2.frames):A.mem.set .p (some (q.1,.row 13 q.2 ((A.parts.map pC).set i (p.cells (.raw (v.1.w (R v.2.frames)))))))=(A.eC i (v.1,p)).mem:=funext fun k=>by
 cases k with
 |p=>show some _=A.ph.map _;rw[h];show _=some (_,HK.row 13 _ ((A.parts.set i (v.1,p)).map pC));rw[bτ];unfold pC;dsimp only;rw[b]
 |f j=>
  refine(HM.ai _ _ Z).trans ?_;show A.parts[j]?.bind _=(A.parts.set i (v.1,p))[j]?.bind _;rw[aχ];split
  ·rename_i e;subst e;rw[a,Zn (sT.1 a).1];show Option.map _ v.1=Option.map _ v.1;rw[b]
  rfl
 |_=>exact HM.ai _ _ Z
def SA.Ux{q:Nat×Nat}(h:A.ph=some q){i:Nat}{hd:Hd}{a:Part}(b:A.parts[i]?=some (hd,a)){p:Part}(n:Nat)(d:p.frames=a.frames)(e:n=a.frames.length):A.mem.set .p (some (q.1,.row 13 q.2 ((A.parts.map pC).set i (p.cells (.raw (hd.w n))))))=(A.eC i (hd,p)).mem:=by grind [SA.YM]
def SA.Y7(i:Nat)(v:Hd×Part):(A.eC i v).cs=A.cs:=by simp[SA.eC,SA.cs]
def SA.Ok.eC(h:A.Ok){i:Nat}{v:Hd×Part}(a:v.1=none->v.2.frames=[]):(A.eC i v).Ok:=⟨h.rh,h.ch,fun e=>by show A.parts.set i v=[];rw[h.ph e];rfl,h.mh,fun w hw=>(aξ hw).elim (h.fh w) fun e=>e▸a⟩
def SA.YB{i:Nat}{v:Hd×Part}(h:A.parts[i]?=some v)(q:Hd)(f:Part->Part):(A.eC i (q,f v.2)).st=A.st.eC i f:=by
 simp_all[SA.eC,SA.st,State.eC,set_eq]
theorem SA.Zb{i:Nat}{v:Hd×Part}(h:A.parts[i]?=some v):A.st.p i=v.2:=by simp_all[State.p,SA.st]
def SA.YR{M:HM SK}{xs:bi}{s:State}(h:A.Ok)(d:M=A.mem)(a:xs=A.cs)(b:A.st=s):Gj M (.agg xs) (.agg s.cs):=by subst d;subst a;subst b;exact h.fz
def SA.rT(A:SA)(q:Nat×Nat)(p:Part):SA:={A with ph:=some q,parts:=A.parts++[(none,p)]}
def SA.N0(q:Nat×Nat)(p:Part):A.mem.set .p (some (q.1,.row 13 q.2 (A.parts.map pC++[pC (none,p)])))=(A.rT q p).mem:=funext fun k=>by
 cases k with
 |p=>show some _=some _;rw[←dι,←ne];rfl
 |f j=>
  refine(HM.ai _ _ Z).trans ?_;show A.parts[j]?.bind _=(A.parts++[(none,p)])[j]?.bind _;rcases w7 j (R A.parts) with h|h
  ·rw[m6 h]
  rw[aκ h,bζ h];cases j - R A.parts with
  |zero=>rfl
  |succ n=>rfl
 |_=>exact HM.ai _ _ Z
def SA.Ok.rT(h:A.Ok)(q:Nat×Nat){p:Part}(a:p.frames=[]):(A.rT q p).Ok:=⟨h.rh,h.ch,fun e=>(by cases e),h.mh,fun w hw=>(List.mem_append.1 hw).elim (h.fh w) fun e=>by simp_all⟩
def SA.addF(A:SA)(i:Nat)(q:Nat×Nat)(p:Part)(f:Frame):SA:=A.eC i (some q,{p with frames:=p.frames++[f]})
def SA.MV{c:Nat×Nat}(h:A.ph=some c){i:Nat}{v:Hd×Part}(a:A.parts[i]?=some v)(q:Nat×Nat)(f:Frame):(A.mem.set (.f i) (some (q.1,.gM 2 q.2 (v.2.frames.map Frame.cs++[f.cs])))).set .p (some (c.1,.row 13 c.2 ((A.parts.map pC).set i (v.2.cells (.raw (.slice (some ⟨q.1,0,none⟩) (R (v.2.frames.map Frame.cs)+1) q.2))))))=(A.addF i q v.2 f).mem:=funext fun k=>by
 cases k with
 |p=>
  show some _=A.ph.map _;rw[h];show _=some (_,HK.row 13 _ ((A.parts.set i _).map pC));rw[bτ,Zx];show _=some (_,HK.row 13 _ (List.set _ _ (pC (some q,{v.2 with frames:=v.2.frames++[f]}))));unfold pC;dsimp only;rw[Zs];rfl
 |f j=>
  refine(HM.ai _ _ Z).trans ?_;show(if SK.f j=SK.f i then _ else A.parts[j]?.bind _)=(A.parts.set i _)[j]?.bind _;rw[aχ];by_cases e:i=j
  ·subst e;rw[Zn rfl,Zn rfl,Zn (sT.1 a).1];show _=some (_,HK.gM 2 _ ((v.2.frames++[f]).map Frame.cs));rw[ne];rfl
  rw[Zm (fun h=>by cases h;exact e rfl),Zm e]
 |_=>exact(HM.ai _ _ Z).trans (HM.ai _ _ Z)
end
section
variable{α:Type}{g:α->Bool}{l:List α}
theorem NG:decide (bq g 0 l>=0)=(ix g l).isSome:=by
 rw[my];grind
def isS(h:bq g 0 l>=0):(ix g l).isSome=true:=by grind [NG]
def isN(h:¬bq g 0 l>=0):¬(ix g l).isSome=true:=by rw[←NG];simp_all
def X2(h:¬bq g 0 l<0):∃j,ix g l=some j:=sk.1 (isS I)
def X1(h:bq g 0 l<0):ix g l=none:=by
 have:=isN (g:=g) (l:=l) I;simp_all
end
def OP(s:State)(n:Int)(r c:ba)(j:Nat)(q:o6):SE:=if s.xE.isSome then(s,17)else if q.shots=q.nM then(s,22)else if R s.parts=12 then(s,16)
 else({s with aC:=s.aC.modify j fun c=>{c with shots:=c.shots+1},parts:=s.parts++[⟨n,r,s.iN r,c,[],0,false,0,false,Span.zero⟩]},0)
def Xz(s:State)(n:Int)(r c:ba):SE:=match s.Bs c with
 |none=>(s,6)
 |some j=>if s.iN r=0 then(s,6)else if s.xE.isSome then(s,17)else match s.aC[j]? with
  |none=>(s,6)
  |some q=>if q.shots=q.nM then(s,22)else if R s.parts=12 then(s,16)
   else({s with aC:=s.aC.modify j fun c=>{c with shots:=c.shots+1},parts:=s.parts++[⟨n,r,s.iN r,c,[],0,false,0,false,Span.zero⟩]},0)
section
variable{A:SA}{s:State}{n:Int}{r c:ba}
def MK(h:¬n>1000000):XA s n r c=if(s.vr n).isSome then(s,5)else Xz s n r c:=Zm h
def OR(h:s.iN r=0):Xz s n r c=(s,6):=by
 unfold Xz;grind
def OQ(h:s.Bs c=none):Xz s n r c=(s,6):=by unfold Xz;rw[h]
def ML{j:Nat}{q:o6}(d:s.Bs c=some j)(b:s.aC[j]?=some q)(a:¬s.iN r=0):Xz s n r c=OP s n r c j q:=by
 simp_all[Xz,OP]
theorem SA.X7:R A.st.parts=R A.parts:=Zx ..
def SA.Mj(q:Nat×Nat)(p:Part):(A.rT q p).st={A.st with parts:=A.st.parts++[p]}:=by simp[SA.rT,SA.st]
def SA.NZ(j:Nat)(d:o6)(q:Nat×Nat)(p:Part):([.raw (A.rh.w (R A.yB)),.raw (A.ch.w (R A.aC)),.raw (.slice (some ⟨q.1,0,none⟩) (R (A.parts.map pC)+1) q.2),.raw (A.mh.w (R A.aI)),bv A.env.parts,bv A.env.trim,.sl (A.env.rows.map fun l=>[.sl (l.map Range.cs)])]:bi)=((A.Ee j d).rT q p).cs:=by
 unfold SA.cs SA.rT SA.Ee;dsimp only;rw[wi,Zs,Zx];rfl
end
def Vc(p:bC)(l:List Frame):R (ZO p l).rows=p.aR.toNat:=by unfold ZO;simp
def Ud{l:List Frame}{t:Nat}:∀(m:List Frame)(r:Row),(∀f∈m,f∈l)->(r=⟨false,[]⟩\/∃f∈l,r=⟨true,f.values⟩)->
  (m.foldl (fun r f=>if f.tick=(t:Int)then⟨true,f.values⟩else r) r=⟨false,[]⟩\/∃f∈l,m.foldl (fun r f=>if f.tick=(t:Int)then⟨true,f.values⟩else r) r=⟨true,f.values⟩)
 |[],r,_,h=>h
 |f::m,r,hm,h=>by
  rw[aτ];refine Ud m _ (fun g a=>hm g (rl _ a)) ?_;grind
theorem U4(l:List Frame)(t:Nat):ZK l t=⟨false,[]⟩\/∃f∈l,ZK l t=⟨true,f.values⟩:=Ud l _ (fun _ h=>h) (.inl rfl)
def Xf{p:bC}{l:List Frame}(m:bA p=0)(j:∀f∈l,dL p f=0):(gB p (ZO p l)).2=0/\∀(i:Nat)(h:i<R (ZO p l).rows),R (ZO p l).rows[i].values<=R p.aq:=by
 have o:=jc m;have a:∀x∈(ZO p l).rows,Y5 p x=0/\R x.values<=R p.aq:=fun x b=>by
  unfold ZO at b;obtain⟨t,_,rfl⟩:=rx.1 b;rcases U4 l t with e|⟨f,d,e⟩
  ·rw[e];exact⟨rfl,Zr _⟩
  rw[e];have g:=j f d;have g2:=(D9 g).2;refine⟨?_,by simp_all⟩;unfold dL at g;rw[Zm (Zp (D9 (j f d)).1)]at g;unfold Y5;simp_all
 refine⟨?_,fun i hi=>(a _ (Zt hi)).2⟩;unfold gB;rw[Zm (by rw[Vc];omega),Yx _ _ 0 fun i hi=>(a _ (Zt hi)).1]
section
variable{A:SA}{pl:bC}{i:Nat}{v:Hd×Part}
structure State.Good(pl:bC)(s:State):Prop where
 sm:s.Sm
 fr:∀p∈s.parts,Iu pl p.frames/\p.frames.length<=40
 ju:∀p∈s.parts,p.place=0->p.lP=false
 env:0<s.env.rows.length->(ki pl s.env).2=0
 pl:bA pl=0
def State.Good.nB(h:A.st.Good pl)(b:A.parts[i]?=some v):mC pl v.2.frames=0/\fM pl v.2.frames=ZO pl v.2.frames:=by
 have a:=h.fr v.2 (rx.2 ⟨v,mr b,rfl⟩);have d:=Iu.rec h.pl a.1 a.2;simp_all[Xe]
def State.Good.vals(h:A.st.Good pl)(a:A.parts[i]?=some v):∀x∈v.2.frames,R x.values<=100000:=(h.sm.fr v.2 (rx.2 ⟨v,mr a,rfl⟩)).2
def SA.pZ(h:A.parts[i]?=some v)(w:Hd×Part):(A.eC i w).parts[i]?=some w:=by
 show(A.parts.set i w)[i]?=_;grind
def SA.Uy(w w':Hd×Part):(A.eC i w).eC i w'=A.eC i w':=by simp[SA.eC]
def State.Good.both(h:A.st.Good pl)(a:A.parts[i]?=some v)(b:0<R A.env.rows):dZ pl A.env (ZO pl v.2.frames)=0:=by
 have d:=(h.fr v.2 (rx.2 ⟨v,mr a,rfl⟩)).1.1;have e:(ki pl A.env).2=0:=h.env b;unfold dZ;rw[Zm (by rw[h.pl];decide),Zm I];exact(Xf h.pl d).1
end
section
variable{A:SA}{pl:bC}{i:Nat}{v:Hd×Part}
def end_T(d:dZ pl A.env (ZO pl v.2.frames)=0)(a:fM pl v.2.frames=ZO pl v.2.frames)(b:0<R A.env.rows):rC pl A.st.env (decide (0<R A.st.env.rows)) v.2={v.2 with place:=1,lP:=true,verdict:=oX A.env (ZO pl v.2.frames)}:=by
 show rC pl A.env (decide (0<R A.env.rows)) v.2=_;unfold rC;simp_all
def end_F(a:fM pl v.2.frames=ZO pl v.2.frames)(d:v.2.lP=false)(b:¬0<R A.env.rows):rC pl A.st.env (decide (0<R A.st.env.rows)) v.2={v.2 with place:=1,verdict:=if(ZO pl v.2.frames).rows.all (fun x=>x.known)=true then v.2.verdict else 1}:=by
 show rC pl A.env (decide (0<R A.env.rows)) v.2=_;simp_all[rC,mw]
def Tw(h:ix (fun p:Part=>decide (p.place=0)) A.st.parts=some i):∃v,A.parts[i]?=some v/\i<R A.parts/\v.2.place=0:=by
 obtain⟨e,d⟩:=eE h;have a:i<R A.parts:=by grind [SA.X7]
 refine⟨A.parts[i],Zv a,a,?_⟩;have b:A.st.parts[i]=A.parts[i].2:=bκ ..;simp_all
def QH{α:Type}{l:List α}{i:Nat}{x y:α}(h:l[i]?=some x):(l.set i y)[i]?=some y:=by grind
end
section
variable{A:SA}{pl:bC}{i:Nat}{v:Hd×Part}{f:Frame}{e0:Int}{s:State}
def Ns(a:s.xE=some i)(h0:e0≠0):ZQ pl s f e0=(s,e0):=by simp_all[ZQ]
def Nt(a:s.xE=some i)(h:dL pl f≠0):ZQ pl s f 0=(s,dL pl f):=by simp_all[ZQ]
def Nu(b:A.st.xE=some i)(a:A.parts[i]?=some v)(h:¬dL pl f≠0)(d:v.2.frames.find? (fun g=>decide (g.tick=f.tick))=none):ZQ pl A.st f 0=(A.st.eC i fun p=>{p with frames:=p.frames++[f]},0):=by
 unfold ZQ;rw[b];refine(Zm C).trans ((Zm h).trans ?_);rw[SA.Zb a,d]
def Nv{g:Frame}(b:A.st.xE=some i)(a:A.parts[i]?=some v)(h:¬dL pl f≠0)(d:v.2.frames.find? (fun g=>decide (g.tick=f.tick))=some g):ZQ pl A.st f 0=if g.values=f.values then(A.st,0)else(A.st,13):=by
 simp_all[ZQ,SA.Zb]
theorem Ub{α:Type}{g:α->Bool}{l:List α}{j:Nat}(h:j<R l):(l.drop j).find? g=if g l[j]=true then some l[j]else(l.drop (j+1)).find? g:=by
 grind [List.drop_eq_getElem_cons]
end
def UJ{A:SA}(h:A.Ok)(Q:A.st.Sm){L:vN}:dF prog 169 [] [.agg A.cs,.agg L.cs,bv (bq (fun p:Part=>decide (p.num=L.num)) 0 A.st.parts)] [(3000,.res (aa A.mem))] [(3000,.res JT)] (.cf [.agg (XA A.st L.num L.oF L.coil).1.cs,bv (XA A.st L.num L.oF L.coil).2]):=by
 refine cG func169 O fun{_ _}=>?_
 have J:=Q.lp;rw[SA.X7]at J;refine ro 16 O (kB O (fun G=>?_) (fun G=>?_))
 ·have e:XA A.st L.num L.oF L.coil=(A.st,2):=Zn G;refine kr (RK.cF (zL Z_ O O O O) h.fz O O (rr 4 O (OK.ret ⟨aA.r2 (zy O O Z_ O) (zo O O) ?_,O,Zo⟩)));rw[e];try rfl
 have W:=MK (s:=A.st) (r:=L.oF) (c:=L.coil) G;refine ro 9 O (kB O (fun F=>?_) (fun F=>?_))
 ·have e:=W.trans (Zn (isS F));refine kr (RK.cF (zL Z_ O O O O) h.fz O O (rr 4 O (OK.ret ⟨aA.r2 (zy O O Z_ O) (zo O O) ?_,O,Zo⟩)));rw[e];try rfl
 have N:=W.trans (Zm (isN F));refine ro 3 O ?_;refine kV (.c (zL Z_ O O O O) (.c (zf VQ O) (.c (zl Y9 O O O O) (.c (S.YT (XF (s:=A.st) (n:=L.oF)) O call72 .none O (zc O (zc O .nil)) (⟨h.fz,Fz.same _ O,Zo⟩) O) (.c (zL Z_ O O O O) (.c (zf T6 O) (.c (zl Y9 O O O O) (.c (S.YT (Xu (s:=A.st) (n:=L.coil)) O call172 .none O (zc O (zc O .nil)) (⟨h.fz,Fz.same _ O,Zo⟩) O) (.c (za O) (.c (za O) .nil)))))))))) ?_;refine rd 7 O (RK.bh (t:=27) O (fun x=>?_) (fun x=>?_))
 ·have e:=N.trans (OR x);refine rr 8 O (RK.cF (zL Z_ O O O O) h.fz O O (rr 4 O (OK.ret ⟨aA.r2 (zy O O Z_ O) (zo O O) ?_,O,Zo⟩)));rw[e];try rfl
 refine rr 5 O (kB O (fun E=>?_) (fun E=>?_))
 ·have e:=N.trans (OQ (X1 E));refine kr (RK.cF (zL Z_ O O O O) h.fz O O (rr 4 O (OK.ret ⟨aA.r2 (zy O O Z_ O) (zo O O) ?_,O,Zo⟩)));rw[e];try rfl
 obtain⟨j,K⟩:=X2 E;have u:=ZC K;have o:j<R A.aC:=(eE K).1;obtain⟨y,b⟩:∃c,A.aC[j]?=some c:=⟨_,Zv o⟩;obtain⟨ch,a⟩:=ZB h.ch b;have X:=Q.sh y (mr b);have V:=N.trans (ML (n:=L.num) (r:=L.oF) K b x);refine ro 6 O (kc (S.YT (YA (s:=A.st)) O call73 .none O (zc O .nil) (⟨h.fz,Zo⟩) O) (rr 3 O (kB O (fun B=>?_) (fun B=>?_))))
 ·have e:=V.trans (Zn (isS B));refine kr (RK.cF (zL Z_ O O O O) h.fz O O (rr 4 O (OK.ret ⟨aA.r2 (zy O O Z_ O) (zo O O) ?_,O,Zo⟩)));rw[e];try rfl
 have U:=V.trans (Zm (isN B));refine ro 4 O ?_;refine kV (.c (zf XQ O) (.c (S.fc T8 .none O (zt O) O O (SA.Pz a) O) (.c (zm O) (.c (S.hidx (i:=j) Wn .none O (zt O) (zt O) u o) (.c (zr X0 O) (.c (zH Z8 O (aa.V2 (k:=.c) (i:=j) (f:=2) (SA.Jh a) (Z7 b) O O (.same _))) (.c (zf XQ O) (.c (S.fc T8 .none O (zt O) O O (SA.Pz a) O) (.c (zm O) (.c (S.hidx (i:=j) Wn .none O (zt O) (zt O) u o) (.c (zr SG O) (.c (zH Z8 O (aa.V2 (k:=.c) (i:=j) (f:=1) (SA.Jh a) (Z7 b) O O (.same _))) (.c (S.eql .none O (zt O) (zt O)) .nil))))))))))))) (Ab.D.code (kB O (fun z=>?_) (fun z=>?_)))
 ·have e:=U.trans (Zn z);refine kr (RK.cF (zL Z_ O O O O) h.fz O O (rr 4 O (OK.ret ⟨aA.r2 (zy O O Z_ O) (zo O O) ?_,O,Zo⟩)));rw[e];try rfl
 have T:=U.trans (Zm z);refine ro 7 O ?_;refine kc (S.hlen ZH (by show R A.parts<=maxLen;unfold maxLen;omega) .none O (zt O)) ?_;refine rr 3 O (kB O (fun P=>?_) (fun P=>?_))
 ·have e:=T.trans (Zn (by rw[SA.X7];omega));refine kr (RK.cF (zL Z_ O O O O) h.fz O O (rr 4 O (OK.ret ⟨aA.r2 (zy O O Z_ O) (zo O O) ?_,O,Zo⟩)));rw[e];try rfl
 have e:=T.trans (Zm (by rw[SA.X7];omega));refine ro 3 O ?_;refine kV (.c (zf XQ O) (.c (S.fc T8 .none O (zt O) O O (SA.Pz a) O) (.c (zm O) (.c (zf XQ O) (.c (S.fc T8 .none O (zt O) O O (SA.Pz a) O) (.c (zm O) (.c (S.hidx (i:=j) Wn .none O (zt O) (zt O) u o) (.c (zr X0 O) (.c (zH Z8 O (aa.V2 (k:=.c) (i:=j) (f:=2) (SA.Jh a) (Z7 b) O O (.same _))) (.c (zp O O I) (.c (S.hidx (i:=j) Wn .none O (zt O) (zt O) u o) (.c (zr X0 O) (.c (S.ZP (rows':=(A.aC.map o6.cs).set j ({y with shots:=y.shots+1}:o6).cs) (.c) Z8 .none (zt O) (zt O) O (SA.Jh a) (Z7 b) O O O O C O) .nil))))))))))))) (Ab.D.code (kO ?_));rw[SA.Vt a];have H:=h.Ee j {y with shots:=y.shots+1};refine ro 8 O (kc (zU vp O O) (rr 2 O (kc (zU oy O O) (RK.nilH (d:=77) O O ?_))));refine RK.c (zM [[_,_,_,_,_,_,_,_,_,_,_,_,_]] LV O O O O) ?_;refine RK.xs (S.happR (m:=1) (rows2:=[pC (none,(⟨L.num,L.oF,A.st.iN L.oF,L.coil,[],0,false,0,false,Span.zero⟩:Part))]) .p LV O (zt O) H.ps (zt O) O O O C (by rw[Zx];show(R A.parts+1) * _<=_;omega) (by rw[Zx];show R A.parts+1<=_;unfold maxLen;omega)) (fun q=>?_);refine rr 5 O ?_;have M:=H.rT q (p:=(⟨L.num,L.oF,A.st.iN L.oF,L.coil,[],0,false,0,false,Span.zero⟩:Part)) rfl;have Y:=(SA.Mj (A:=A.Ee j {y with shots:=y.shots+1}) q (⟨L.num,L.oF,A.st.iN L.oF,L.coil,[],0,false,0,false,Span.zero⟩:Part)).trans (by rw[SA.TO b fun c=>{c with shots:=c.shots+1}]);refine OK.bN (RK.cF (zL Z_ O O O O) (SA.YR M (SA.N0 _ _) (SA.NZ j _ q _) Y) O O ?_);refine rr 4 O (OK.ret ⟨aA.r2 (zy O O Z_ O) (zo O O) ?_,O,Zo⟩);rw[e];try rfl
def Xv{n:Net}(a:R n.aS<=1000):Ct prog 178 [.agg n.cs] (.agg (bP n.aS).1.cs):=by
 refine cI func178 O (ro 10 O (kc (zK (sn (l:=n.aS) I) call36 O) ?_));refine rr 14 O (OK.ret (aA.r1 (zy O O Xs O) ?_));rfl
def Yl{n:Net}{p:Part}(d:R n.aS<=1000)(a:bA (bP n.aS).1=0)(b:∀x∈p.frames,R x.values<=100000):Ct prog 176 [.agg n.cs,.agg p.cs] (.agg (ZO (bP n.aS).1 p.frames).cs):=by
 refine cI func176 O (ro 8 O ?_);refine kV (.c (zL XB O O O O) (.c (zK (Xv d) call178 O) (.c (zf Zf O) (.c (zl XO O O O O) (.c (zK (RC (p:=(bP n.aS).1) (l:=p.frames) (by have:=jc a;omega) b) call231 O) (.c (zS WL O O O O O O) .nil)))))) ?_;refine Ab.D.code (OK.ret (aA.r1 (zy O O WL O) ?_));rfl
def Sd{n:Net}(P:R n.aS<=1000){A:SA}(u:A.Ok)(t:A.st.Good (bP n.aS).1):dF prog 171 [] [.agg n.cs,.agg A.cs] [(3000,.res (aa A.mem))] [(3000,.res JT)] (.cf [.agg (S7 (bP n.aS).1 (decide (0<R A.st.env.rows)) A.st).1.cs,bv (S7 (bP n.aS).1 (decide (0<R A.st.env.rows)) A.st).2]):=by
 refine cG func171 O (ro 11 O (kc (S.YT (YA (s:=A.st)) O call73 .none O (zc O .nil) (⟨u.fz,Zo⟩) O) (rr 10 O (kB O (fun z=>?_) (fun z=>?_)))))
 ·have B:A.st.xE=none:=X1 z;have H:S7 (bP n.aS).1 (decide (0<R A.st.env.rows)) A.st=(A.st,12):=by unfold S7;rw[B]
  refine kr (RK.cF (zL Z_ O O O O) u.fz O O (rr 4 O (OK.ret ⟨aA.r2 (zy O O Z_ O) (zo O O) ?_,O,Zo⟩)));rw[H];try rfl
 obtain⟨i,B⟩:=X2 z;have M:=ZC B;obtain⟨v,b,Q,L⟩:=Tw B;obtain⟨U,j⟩:=ZB u.ph b;have H:S7 (bP n.aS).1 (decide (0<R A.st.env.rows)) A.st=(A.st.eC i (rC (bP n.aS).1 A.st.env (decide (0<R A.st.env.rows))),0):=by unfold S7;rw[show A.st.xE=some i from B]
 obtain⟨_,D⟩:=t.nB b;refine ro 5 O (kc (S.fc ZA .none O (zt O) O O (SA.YW j) O) (jm O (kc (S.hidx (i:=i) ZH .none O (zt O) (zt O) M Q) (rr 4 O ?_))));refine kV (.c (zL XB O O O O) (.c (zm O) (.c (zn O O) (.c (zJ (us:=v.2.cs) T7 O (aa.UE (k:=.p) (i:=i) (f:=0) (SA.Iz j) (Z7 (f:=pC) b) O ⟨.same _,.same _,.same _,.same _,.sl (u.fs b),.same _,.same _,.same _,.same _,.same _,.same _,.same _,.same _,Zo⟩ O)) (.c (zK (Yl P t.pl (t.vals b)) call176 O) (.c (zA (c:=8) L0 O) (.c (zS WL O O O O O O) .nil))))))) ?_;refine rd 6 O ?_;refine kc (S.ZP (rows':=(A.parts.map pC).set i (({v.2 with place:=1}:Part).cells (.raw (v.1.w (R v.2.frames))))) (.p) Z8 .none (zt O) (.af O) O (SA.Iz j) (Z7 b) O O O O C O) ?_;refine rr 4 O ?_;rw[SA.YM j b (p:={v.2 with place:=1}) rfl];obtain⟨A1,a⟩:∃A1,A1=A.eC i (v.1,{v.2 with place:=1}):=⟨_,rfl⟩;rw[←a];have d:A1.ph=some U:=by rw[a];exact j
 have e:A1.parts[i]?=some (v.1,{v.2 with place:=1}):=by rw[a];exact SA.pZ b _
 have m:=u.fh v (mr b);refine ro 4 O (kc (zk VC O) (rr 3 O (kB O (fun T=>?_) (fun T=>?_))))
 ·have E:0<R A.env.rows:=I
  have F:=t.both b E;have G:=ED F;have V:=jc t.pl;obtain⟨_,N⟩:=Xf t.pl (t.fr v.2 (rx.2 ⟨v,mr b,rfl⟩)).1.1;refine ro 6 O ?_;refine kc (zK (Sn (x:=A.env) (r:=ZO (bP n.aS).1 v.2.frames) G.fit (by rw[Vc];omega) (fun i h=>by have:=N i h;omega) (LN (t.env E)) (M1 G)) call226 O) ?_;refine rr 2 O ?_;refine kc (S.ZP (rows':=(A1.parts.map pC).set i (({v.2 with place:=1,lP:=true}:Part).cells (.raw (v.1.w (R v.2.frames))))) (.p) SP .none (zt O) .aJ O (SA.Iz d) (Z7 e) O O O O C O) ?_;refine rr 2 O ?_;refine kc (S.ZP (rows':=(A1.parts.map pC).set i (({v.2 with place:=1,lP:=true,verdict:=oX A.env (ZO (bP n.aS).1 v.2.frames)}:Part).cells (.raw (v.1.w (R v.2.frames))))) (.p) Z8 .none (zt O) (zt O) O (HM.bw _ _ _) (QH (Z7 e)) O O O O C (by rw[eυ];rfl)) ?_;refine rr 3 O ?_;rw[HM.set_set,SA.Ux d e (p:={v.2 with place:=1,lP:=true,verdict:=oX A.env (ZO (bP n.aS).1 v.2.frames)}) (R v.2.frames) rfl rfl];have q:(A1.eC i (v.1,{v.2 with place:=1,lP:=true,verdict:=oX A.env (ZO (bP n.aS).1 v.2.frames)})).Ok:=SA.Ok.eC (by rw[a];exact u.eC m) m;have o:A.cs=(A1.eC i (v.1,{v.2 with place:=1,lP:=true,verdict:=oX A.env (ZO (bP n.aS).1 v.2.frames)})).cs:=((SA.Y7 i _).trans (by rw[a];exact SA.Y7 _ _)).symm;have J:(A1.eC i (v.1,{v.2 with place:=1,lP:=true,verdict:=oX A.env (ZO (bP n.aS).1 v.2.frames)})).st=A.st.eC i (rC (bP n.aS).1 A.st.env (decide (0<R A.st.env.rows))):=by rw[a,SA.Uy,←(end_T F D E)];exact SA.YB b v.1 _
  refine OK.bN (RK.cF (zL Z_ O O O O) (SA.YR q O o J) O O (rr 4 O (OK.ret ⟨aA.r2 (zy O O Z_ O) (zo O O) ?_,O,Zo⟩)));rw[H];try rfl
 have E:¬0<R A.env.rows:=I
 have K:=end_F (A:=A) D (t.ju v.2 (rx.2 ⟨v,mr b,rfl⟩) L) E;refine ro 3 O (kc (zK (Wg (r:=ZO (bP n.aS).1 v.2.frames)) call175 O) (kc (S.not .none O (zt O)) (kD (OK.cond O O (fun y=>?_) (fun y=>?_)))))
 ·rw[Zm (by simpa using y)]at K;refine ro 4 O ?_;refine kc (S.ZP (rows':=(A1.parts.map pC).set i (({v.2 with place:=1,verdict:=1}:Part).cells (.raw (v.1.w (R v.2.frames))))) (.p) Z8 .none (zt O) (.af O) O (SA.Iz d) (Z7 e) O O O O C O) ?_;refine rr 3 O ?_;rw[SA.Ux d e (p:={v.2 with place:=1,verdict:=1}) (R v.2.frames) rfl rfl];have q:(A1.eC i (v.1,{v.2 with place:=1,verdict:=1})).Ok:=SA.Ok.eC (by rw[a];exact u.eC m) m;have o:A.cs=(A1.eC i (v.1,{v.2 with place:=1,verdict:=1})).cs:=((SA.Y7 i _).trans (by rw[a];exact SA.Y7 _ _)).symm;have J:(A1.eC i (v.1,{v.2 with place:=1,verdict:=1})).st=A.st.eC i (rC (bP n.aS).1 A.st.env (decide (0<R A.st.env.rows))):=by rw[a,SA.Uy,←K];exact SA.YB b v.1 _
  refine OK.bN (RK.cF (zL Z_ O O O O) (SA.YR q O o J) O O (rr 4 O (OK.ret ⟨aA.r2 (zy O O Z_ O) (zo O O) ?_,O,Zo⟩)));rw[H];try rfl
 rw[Zn (by simpa using y)]at K;refine ro 3 O ?_;have q:A1.Ok:=by rw[a];exact u.eC m
 have o:A.cs=A1.cs:=by rw[a];exact(SA.Y7 _ _).symm
 have J:A1.st=A.st.eC i (rC (bP n.aS).1 A.st.env (decide (0<R A.st.env.rows))):=by rw[a,←SA.YB b v.1,K]
 refine OK.bN (RK.cF (zL Z_ O O O O) (SA.YR q O o J) O O (rr 4 O (OK.ret ⟨aA.r2 (zy O O Z_ O) (zo O O) ?_,O,Zo⟩)));rw[H];try rfl
def TH{n:Net}(P:R n.aS<=1000){A:SA}(y:A.Ok)(U:A.st.Good (bP n.aS).1){L:vN}(Y:R L.rest<=600):dF prog 170 [] [.agg n.cs,.agg A.cs,.agg L.cs] [(3000,.res (aa A.mem))] [(3000,.res JT)] (.cf [.agg (ZQ (bP n.aS).1 A.st (aY L.rest).1 (aY L.rest).2).1.cs,bv (ZQ (bP n.aS).1 A.st (aY L.rest).1 (aY L.rest).2).2]):=by
 refine cG func170 O (ro 12 O (kc (S.YT (YA (s:=A.st)) O call73 .none O (zc O .nil) (⟨y.fz,Zo⟩) O) (rr 10 O (kB O (fun M=>?_) (fun M=>?_)))))
 ·have F:A.st.xE=none:=X1 M;have t:ZQ (bP n.aS).1 A.st (aY L.rest).1 (aY L.rest).2=(A.st,12):=by unfold ZQ;rw[F]
  refine kr (RK.cF (zL Z_ O O O O) y.fz O O (rr 4 O (OK.ret ⟨aA.r2 (zy O O Z_ O) (zo O O) ?_,O,Zo⟩)));rw[t];try rfl
 obtain⟨i,F⟩:=X2 M;have B:=ZC F;obtain⟨v,o,E,V⟩:=Tw F;obtain⟨X,d⟩:=ZB y.ph o;have W:=(U.fr v.2 (rx.2 ⟨v,mr o,rfl⟩)).2;refine ro 6 O (kc (zK (Vn (l:=L.rest) I) call225 O) ?_);refine rr 15 O (kB O (fun z=>?_) (fun z=>?_))
 ·refine kV (.c (zL XB O O O O) (.c (zK (Xv P) call178 O) (.c (zL UN O O O O) (.c (zK (TM (p:=(bP n.aS).1) (f:=(aY L.rest).1) (by have:=jc U.pl;omega)) call87 O) (.c (za O) .nil))))) ?_;refine rd 8 O (kB O (fun e=>?_) (fun e=>?_))
  ·have t:=(rn (ZQ (bP n.aS).1 A.st (aY L.rest).1) z).trans (Nt (i:=i) F e);refine kr (RK.cF (zL Z_ O O O O) y.fz O O (rr 5 O (OK.ret ⟨aA.r2 (zy O O Z_ O) (zo O O) ?_,O,Zo⟩)));rw[t];try rfl
  have N:=e;refine ro 9 O ?_;refine OK.loop (G:=Nat) [4,6,9] (fun j=>[(4,.ptr 4 0),(1004,.box A.cs),(6,.ptr 6 0),(1006,.box [.bO,.bO,.bO,.bO,bv 0,bv 0,.bO]),(8,bv (bq (fun p:Part=>decide (p.place=0)) 0 A.st.parts)),(9,.ptr 9 0),(1009,.box (aY L.rest).1.cs),(11,bv j),(3000,.res (aa A.mem))]) (fun j=>j<=R v.2.frames/\v.2.frames.find? (fun g:Frame=>decide (g.tick=(aY L.rest).1.tick))=(v.2.frames.drop j).find? (fun g:Frame=>decide (g.tick=(aY L.rest).1.tick))) (fun j=>R v.2.frames - j) 0 ⟨Zr _,O⟩ ⟨O,O,O,O,O,O,O,O,O,Zo⟩ (fun _=>O) ?_;rintro j ⟨hj,Q⟩;refine ro 5 O (kc (S.fc ZA .none O (zt O) O O (SA.YW d) O) (jm O (kc (S.hidx (i:=i) ZH .none O (zt O) (zt O) B E) (kc (zr Zf O) (kc (zH (u:=.sl (v.2.frames.map Frame.cs)) XO O (aa.V2 (k:=.p) (i:=i) (f:=4) (SA.Iz d) (Z7 (f:=pC) o) O O (.sl (y.fs o)))) (kc (zk Y8 O) (rr 3 O (kB O (fun T=>?_) (fun T=>?_)))))))))
  ·have H:j<R v.2.frames:=I
   refine ro 7 O (kc (S.fc ZA .none O (zt O) O O (SA.YW d) O) (jm O (kc (S.hidx (i:=i) ZH .none O (zt O) (zt O) B E) (kc (zr Zf O) (kc (zH (u:=.sl (v.2.frames.map Frame.cs)) XO O (aa.V2 (k:=.p) (i:=i) (f:=4) (SA.Iz d) (Z7 (f:=pC) o) O O (.sl (y.fs o)))) (jm O (kc (zI Y8 O H O) (rr 14 O (kB O (fun K=>?_) (fun K=>?_))))))))))
   ·have t:=(rn (ZQ (bP n.aS).1 A.st (aY L.rest).1) z).trans (Nv F o N (Q.trans ((Ub H).trans (Zn (by simpa using K)))));refine ro 7 O (kc (zK (AM (a:=v.2.frames[j].values) (b:=(aY L.rest).1.values)) call22 O) (kc (S.jP .none O (zt O)) (kD (kB O (fun J=>?_) (fun J=>?_)))))
    ·rw[Zm (by simpa using J)]at t;refine kr (RK.cF (zL Z_ O O O O) y.fz O O (rr 4 O (OK.ret ⟨aA.r2 (zy O O Z_ O) (zo O O) ?_,O,Zo⟩)));rw[t];try rfl
    rw[Zn (by simpa using J)]at t;refine ro 4 O (RK.cF (zL Z_ O O O O) y.fz O O (rr 4 O (OK.ret ⟨aA.r2 (zy O O Z_ O) (zo O O) ?_,O,Zo⟩)));rw[t];try rfl
   refine Ro 8 O I ?_;refine Ab.D.lp ⟨j+1,⟨I,by rw[Q,Ub H,Zm (by simpa using K)]⟩,I,O,O,O,O,O,O,O,O,O,Zo⟩
  have t:=(rn (ZQ (bP n.aS).1 A.st (aY L.rest).1) z).trans (Nu F o N (Q.trans (by rw[ut I];rfl)));refine ro 3 O ?_;refine OK.Ye follows (ι:=(Nat×Nat)) (0,0) 11 O (S.Ie (s:=[(75,.raw (v.1.w (R v.2.frames))),(77,.own 77 1),(2077,.arr 2 [(aY L.rest).1.cs]),(3000,.res (aa A.mem))]) (m:=1) (rows2:=[(aY L.rest).1.cs]) (.f i) WO O (zt O) (y.fs o) (zt O) O O O C (by rw[Zx];omega) (by rw[Zx];unfold maxLen;omega)).st (fun q=>(.cs (zf ZZ O) (.cs (S.fc ZA .none O (zt O) O O (SA.YW d) O) (.cs (zm O) (.cs (zf ZZ O) (.cs (S.fc ZA .none O (zt O) O O (SA.YW d) O) (.cs (zm O) (.cs (S.hidx (i:=i) ZH .none O (zt O) (zt O) B E) (.cs (zr Zf O) (.cs (zH XO O (aa.V2 (k:=.p) (i:=i) (f:=4) (SA.Iz d) (Z7 (f:=pC) o) O O (.same _))) (.cs (zL UN O O O O) (.cs (zM [[_,_]] WO O O O O)
   (.x ⟨O,O,O,O,Zo⟩ (.cn (S.hidx (i:=i) ZH .none O (zt O) (zt O) B E) (.cn (zr Zf O) (.cn (S.ZP (rows':=(A.parts.map pC).set i (v.2.cells (.raw (.slice (some ⟨q.1,0,none⟩) (R (v.2.frames.map Frame.cs)+1) q.2)))) (.p) XO .none (zt O) (zt O) O ((HM.ai _ _ Z).trans (SA.Iz d)) (Z7 (f:=pC) o) O O O O C O) .nil)))))))))))))))) (fun q=>?_)
  refine Ab.D.code (kO ?_);rw[SA.MV d o];refine OK.bN (RK.cF (zL Z_ O O O O) (SA.YR (A:=A.addF i q v.2 (aY L.rest).1) (y.eC fun h=>by cases h) O (SA.Y7 _ _).symm (SA.YB o (some q) fun p=>{p with frames:=p.frames++[(aY L.rest).1]})) O O ?_);refine rr 4 O (OK.ret ⟨aA.r2 (zy O O Z_ O) (zo O O) ?_,O,Zo⟩);rw[t];try rfl
 refine ro 9 O (kB O (fun e=>?_) (fun e=>?_))
 ·have t:=Ns (pl:=(bP n.aS).1) (s:=A.st) (i:=i) (f:=(aY L.rest).1) F e;refine kr (RK.cF (zL Z_ O O O O) y.fz O O (rr 5 O (OK.ret ⟨aA.r2 (zy O O Z_ O) (zo O O) ?_,O,Zo⟩)));rw[t];try rfl
 exact absurd (Zu.1 e) z
end Go.Proofs.Z9
namespace Go.Proofs.Z9
open Go.Ab Tryz
def Yo(a b:Int):Int:=if a<b then -1 else if a>b then 1 else 0
theorem VJ{a b:Int}(h:a<b):Yo a b= -1:=Zn h
def S5{a b:Int}(h:b<a):Yo a b=1:=(Zm I).trans (Zn h)
def LF{a b:Int}(h:a=b):Yo a b=0:=(Zm I).trans (Zm I)
def Nc(a b c:Int):Yo (a+c) (b+c)=Yo a b:=by
 simp[Yo]
def tdm{a b:Int}(e:0<=a)(d:0<b):a=a.tdiv b * b+a.tmod b/\0<=a.tmod b/\a.tmod b<b/\0<=a.tdiv b/\a.tdiv b<=a:=by
 have p:=Int.mul_tdiv_add_tmod a b;have m:=bη b e;have j:=bδ a d;have h:=Int.tdiv_nonneg e (Int.le_of_lt d);refine⟨by grind,m,j,h,?_⟩;have o:a.tdiv b * 1<=a.tdiv b * b:=dε d h;grind
def Nd{a b c e p q r s:Int}(o:a=p * b+r)(m:c=q * e+s)(j:0<=r/\r<b)(d:0<=s/\s<e)(h:p<q):a * e<c * b:=by
 subst o;subst m;rw[eγ,eγ];have x:r * e<b * e:=Int.mul_lt_mul_of_pos_right j.2 I;have u:0<=s * b:=cη d.1 I;have t:(p+1) * (b * e)<=q * (b * e):=Int.mul_le_mul_of_nonneg_right I (cη I I);grind
def cmp_eq{a b c e p r s:Int}(h:a=p * b+r)(d:c=p * e+s):Yo (a * e) (c * b)=Yo (r * e) (s * b):=by
 subst h;subst d;rw[eγ,eγ,show p * e * b=p * b * e by grind,Int.add_comm _ (r * e),Int.add_comm _ (s * b)];exact Nc ..
def Va(n:Net)(d:Span):Bool:=decide (d.lo.num<n.lo * d.lo.den)||decide (d.hi.num>n.hi * d.hi.den)
def State.Ff(s:State)(i:Nat):State:={s with parts:=s.parts.map fun p=>if decide (p.oF=(s.p i).oF)&&decide (p.iN=(s.p i).iN)&&gE p then {p with marked:=true}else p}
def Yb(n:Net)(rest:ba)(s:State)(i:Nat):SE:=
 if(s.p i).place≠1 then(s,20)else if(DH rest).2≠0 then(s,(DH rest).2)else
 let c:=It (DH rest).1 n.limit
 if c.2≠0 then(s,c.2)else
 let a:=s.eC i fun p=>{p with place:=4,depth:=c.1}
 (if Va n c.1 then a.Ff i else a,0)
def Lb{a b:Int}(h:Yo (a * 1) b<0):decide (a<b)=true:=by
 rw[Int.mul_one]at h;refine Zz (aν fun d=>?_);unfold Yo at h;omega
def K_{a b:Int}(h:¬Yo (a * 1) b<0):decide (a<b)=false:=by
 rw[Int.mul_one]at h;grind [VJ]
def La{a b:Int}:decide (a>b)=decide (Yo (a * 1) b>0):=by
 rw[Int.mul_one];unfold Yo;grind
def mF(r:ba)(n:Int)(p:Part):Part:=if decide (p.oF=r)&&decide (p.iN=n)&&gE p then {p with marked:=true}else p
def mF_fr(r:ba)(n:Int)(p:Part):(mF r n p).frames=p.frames/\(mF r n p).oF=p.oF/\(mF r n p).iN=p.iN:=by unfold mF;grind
def SA.K9(A:SA)(i k:Nat):SA:={A with parts:=A.parts.mapIdx fun j v=>if j<k then(v.1,mF (A.st.p i).oF (A.st.p i).iN v.2)else v}
structure ZV(A1:SA)(i k:Nat)(A2:SA):Prop where
 ok:A2.Ok
 eq:A2=A1.K9 i k
section
variable{A1 A2:SA}{i k:Nat}{w v:Hd×Part}
theorem NN(h:A1.parts[k]?=some v)(j:Nat):(A1.K9 i j).parts[k]?=some (if k<j then(v.1,mF (A1.st.p i).oF (A1.st.p i).iN v.2)else v):=by
 simp_all[SA.K9]
def ZV.zero(h:A1.Ok):ZV A1 i 0 A1:=⟨h,by
 unfold SA.K9;have:A1.parts.mapIdx (fun j v=>if j<0 then(v.1,mF (A1.st.p i).oF (A1.st.p i).iN v.2)else v)=A1.parts:=P2 fun j=>by
  simp
 rw[this]⟩
def ZV.len(h:ZV A1 i k A2):R A2.parts=R A1.parts:=by rw[h.eq];exact List.length_mapIdx
def ZV.ph(h:ZV A1 i k A2):A2.ph=A1.ph:=by rw[h.eq];rfl
def ZV.cs(h:ZV A1 i k A2):A1.cs=A2.cs:=by
 unfold SA.cs;rw[h.len,h.eq];rfl
def ZV.at_(h:ZV A1 i k A2)(b:A1.parts[i]?=some v):∃a,A2.parts[i]?=some a/\a.2.oF=(A1.st.p i).oF/\a.2.iN=(A1.st.p i).iN:=by
 rw[h.eq];refine⟨_,NN b k,?_⟩;rw[SA.Zb b];split
 ·simp[mF_fr]
 simp
theorem ZV.step(h:ZV A1 i k A2)(hw:A2.parts[k]?=some w):A1.K9 i (k+1)=A2.eC k (w.1,mF (A1.st.p i).oF (A1.st.p i).iN w.2):=by
 have h0:A1.parts[k]?=some w:=by
  have e:=hw;rw[h.eq]at e;simp_all[SA.K9]
 rw[h.eq];unfold SA.K9 SA.eC;dsimp only;congr 1;refine P2 fun j=>?_
 grind
theorem ZV.on(h:ZV A1 i k A2)(hw:A2.parts[k]?=some w)(a:(w.2.oF=(A1.st.p i).oF/\w.2.iN=(A1.st.p i).iN)/\gE w.2=true):ZV A1 i (k+1) (A2.eC k (w.1,{w.2 with marked:=true})):=by
 refine⟨h.ok.eC (h.ok.fh w (mr hw)),?_⟩;rw[h.step hw,mF,Zn (by simp_all)]
theorem ZV.off(h:ZV A1 i k A2)(hw:A2.parts[k]?=some w)(a:¬((w.2.oF=(A1.st.p i).oF/\w.2.iN=(A1.st.p i).iN)/\gE w.2=true)):ZV A1 i (k+1) A2:=by
 refine⟨h.ok,?_⟩;rw[h.step hw,mF,Zm (fun e=>a (by simp_all))];unfold SA.eC;rw[show A2.parts.set k (w.1,w.2)=A2.parts from P2 fun j=>by
  grind]
theorem ZV.all{n:Nat}(h:ZV A1 i n A2)(a:R A1.parts=n):A2.st=A1.st.Ff i:=by
 rw[h.eq];unfold SA.K9 SA.st State.Ff;dsimp only;congr 1;refine P2 fun j=>?_
 rw[i7,List.getElem?_mapIdx,i7,i7];cases e:A1.parts[j]? with
 |none=>rfl
 |some v=>
  show some (if j<n then _ else _:Hd×Part).2=_;rw[Zn (by grind)];rfl
end
def SV{a b:Part}:Ap [.s a.oF,.i a.iN] [.s b.oF,.i b.iN]=decide (a.oF=b.oF/\a.iN=b.iN):=by simp[Ap,Pl.eq]
section
variable{A:SA}{n:Net}{i:Nat}{v:Hd×Part}{r:ba}
theorem Kf{m:Int}(h:ix (fun p:Part=>decide (p.num=m)) A.st.parts=some i):∃v,A.parts[i]?=some v/\i<R A.parts:=by
 have a:i<R A.parts:=by rw[←SA.X7];exact(eE h).1
 simp_all
theorem OI(a:A.parts[i]?=some v)(h:v.2.place≠1):Yb n r A.st i=(A.st,20):=by simp_all[Yb,SA.Zb]
theorem KS(a:A.parts[i]?=some v)(h:¬v.2.place≠1):Yb n r A.st i=if(DH r).2≠0 then(A.st,(DH r).2)else if(It (DH r).1 n.limit).2≠0 then(A.st,(It (DH r).1 n.limit).2)else(if Va n (It (DH r).1 n.limit).1 then(A.st.eC i fun p=>{p with place:=4,depth:=(It (DH r).1 n.limit).1}).Ff i else A.st.eC i fun p=>{p with place:=4,depth:=(It (DH r).1 n.limit).1},0):=by
 simp_all[Yb,SA.Zb]
theorem KU(a:ve n.limit=true)(h:¬(DH r).2≠0):¬aF [(FU (DH r).1).2,ae (ve n.limit) 2]≠0:=by
 have h0:=Zu.1 h;have d:(FU (DH r).1).2=0:=by
  by_cases b:(if(Is 4 r).2=0 then(FU ((Is 4 r).1.map xj)).2 else(Is 4 r).2)≠0
  ·simp_all[Xn]
  rw[TW b];grind
 rw[aF,d,a];decide
end
def Ui:∀(f:Nat)(a b:Int),0<=a->0<=b->b.toNat<f->FE f a b∣a/\FE f a b∣b
 |0,_,_,_,_,h=>absurd h (bπ _)
 |f+1,a,b,ha,hb,h=>by
  rw[FE];split
  ·simp_all
  rename_i e;obtain⟨x,t,u,_⟩:=tdm (b:=b) ha I;obtain⟨q,p⟩:=Ui f b (a.tmod b) hb t I;obtain⟨j,d⟩:=q;obtain⟨m,o⟩:=p;exact⟨⟨a.tdiv b * j+m,by grind⟩,⟨j,d⟩⟩
def Qv{n d:Int}(e:0<=n)(hd:1<=d):1<=(zO n d).den:=by
 obtain⟨_,k,o⟩:=Ui (d.toNat+1) n d e I I;have p:=W7 (a:=n) (b:=d) e I;show 1<=d.tdiv (HL n d);have m:d=HL n d * k:=o;have j:1<=k:=aν fun h=>by
  grind [Int.mul_nonpos_of_nonneg_of_nonpos]
 grind [Int.mul_tdiv_cancel_left]
def Ua{c:List (Int×Int)}(b:UL c){limit:Int}(e:0<=limit/\limit<=2000)(d:(yt c limit).2=true):1<=(yt c limit).1.den:=by
 cases h:ix (ZG limit) c with
 |none=>simp_all[WU]
 |some j=>
  have a:=(eE h).1;cases j with
  |zero=>
   rw[WT h a];have:=b.at_ _ (Zt a);exact Qv I C
  |succ k=>
   rw[WV h a];obtain⟨m,d,_⟩:=VT b e h a;exact Qv d.1 m.1
def LO{c:List (Int×Int)}{limit:Int}:(yt c limit).2=(ix (ZG limit) c).isSome:=by
 cases h:ix (ZG limit) c with
 |none=>rw[WU h];rfl
 |some j=>
  have a:=(eE h).1;cases j with
  |zero=>rw[WT h a];rfl
  |succ k=>rw[WV h a];rfl
def R3{l:List jI}(h:Wr l){limit:Int}(d:(yt (yu l) limit).2=true):(yt (GX l) limit).2=true:=by
 rw[LO]at d⊢;cases e:ix (ZG limit) (GX l)with
 |some j=>rfl
 |none=>
  obtain⟨j,o⟩:=sk.1 d;obtain⟨q,m⟩:=eE o;obtain⟨x,b,a⟩:=rx.1 (Zt q);rw[←a]at m;have p:=(YO _ _ 0).1 e (x.depth,x.lo) (rx.2 ⟨x,b,rfl⟩);have y:x.hi<limit:=pf m;have u:¬x.lo<limit:=a6 p;have t:=(h.ok x b).ord;omega
def M_{l:List jI}{limit:Int}(h:¬(It l limit).2≠0):((0<=(It l limit).1.lo.num/\(It l limit).1.lo.num<=1000000000)/\1<=(It l limit).1.lo.den/\(It l limit).1.lo.den<=1000000000)/\(0<=(It l limit).1.hi.num/\(It l limit).1.hi.num<=1000000000)/\1<=(It l limit).1.hi.den/\(It l limit).1.hi.den<=1000000000:=by
 obtain⟨b,a⟩:=P9 l limit;have h0:=Zu.1 h;have x:1<=(It l limit).1.lo.den/\1<=(It l limit).1.hi.den:=by
  by_cases m:aF [(FU l).2,ae (ve limit) 2]≠0
  ·simp_all[QV]
  obtain⟨q,p⟩:=P_ m;have d:=VZ q;have j:0<=limit/\limit<=2000:=pf p;by_cases o:((yu l).getD 0 (0,0)).2<limit
  ·simp_all[VH]
  cases e:(yt (yu l) limit).2 with
  |false=>simp_all[VI]
  |true=>rw[S4 m o e];exact⟨Ua d.lower j (R3 d e),Ua d.upper j e⟩
 have u:=b.num;have t:=a.num;have z:=b.den;have y:=a.den;omega
section
variable{n:Net}{s:State}{i:Nat}{c:Span}
theorem KQ(h:Va n c=true):((if Va n c then(s.eC i fun p=>{p with place:=4,depth:=c}).Ff i else s.eC i fun p=>{p with place:=4,depth:=c},0):SE)=((s.eC i fun p=>{p with place:=4,depth:=c}).Ff i,0):=by grind
def KP(h:Va n c=false):((if Va n c then(s.eC i fun p=>{p with place:=4,depth:=c}).Ff i else s.eC i fun p=>{p with place:=4,depth:=c},0):SE)=(s.eC i fun p=>{p with place:=4,depth:=c},0):=by rw[h];rfl
end
def V9{n b:Int}(h:0<=n/\n<=1000000000)(j:1<=b):Ct prog 152 [bv n,bv b] (bv (n.tdiv b)):=by
 refine cI func152 O fun{_ _}=>?_
 have e:=tdm h.1 (show 0<b by omega);have d:=cη e.2.2.2.1 (show 0<=b by omega);refine ro 9 O ?_;refine kc (S.quo .none O (zt O) (zt O) I (mn _ I) (mn _ I)) ?_;refine rr 8 O ?_;refine kc (S.rem .none O (zt O) (zt O) I O (mn _ I)) ?_;refine rr 3 O (kB O (fun a=>?_) (fun a=>?_))
 ·exact absurd (show n.tmod b<0 from a) I
 refine ro 8 O (kR O O ?_);rfl
def WQ{n d m k:Int}(hb:(0<=n/\n<=1000000000)/\(1<=d/\d<=1000000000)/\(0<=m/\m<=1000000000)/\(1<=k/\k<=1000000000)):Ct prog 107 [bv n,bv d,bv m,bv k] (bv (Yo (n * k) (m * d))):=by
 refine cI func107 O (ro 6 O ?_);refine OK.Io [] (fun(a:Int)(b:Int)(c:Int)(e:Int)=>[(0,bv a),(1,bv b),(2,bv c),(3,bv e),(8,bv 0)]) (fun a b c e=>((0<=a/\a<=1000000000)/\(1<=b/\b<=1000000000)/\(0<=c/\c<=1000000000)/\(1<=e/\e<=1000000000))/\Yo (n * k) (m * d)=Yo (a * e) (c * b)) (fun a b c e=>(b+e).toNat) (n) (d) (m) (k) ⟨hb,O⟩ ⟨O,O,O,O,O,Zo⟩ (fun _ _ _ _=>O) ?_;rintro a b c e ⟨⟨⟨C,P⟩,⟨N,Z⟩,⟨B,M⟩,⟨L,Y⟩⟩,K⟩;obtain⟨T,z,y,X,W⟩:=tdm C (show 0<b by omega);obtain⟨Q,x,u,V,U⟩:=tdm B (show 0<e by omega);refine ro 5 O (kc (zK (V9 ⟨C,P⟩ N) call152 O) (jm O (jm O (kc (zK (V9 ⟨B,M⟩ L) call152 O) (rr 12 O (kB O (fun H=>?_) (fun H=>?_)))))))
 ·have j:=K.trans (VJ (Nd T Q ⟨z,y⟩ ⟨x,u⟩ H));refine ro 5 O (kR O O ?_);rw[j];try rfl
 refine ro 10 O (kB O (fun G=>?_) (fun G=>?_))
 ·have j:=K.trans (S5 (Nd Q T ⟨x,u⟩ ⟨z,y⟩ G));refine ro 5 O (kR O O ?_);rw[j];try rfl
 have J:c.tdiv e=a.tdiv b:=I
 have h:=K.trans (cmp_eq T (J▸Q));refine ro 7 O ?_;refine kc (S.mul .none O (zt O) (zt O) (mn _ I) (mn _ I)) ?_;refine Rr 4 O I ?_;refine kc (S.mul .none O (zt O) (zt O) (mn _ I) (mn _ I)) ?_;refine Rr 7 O I ?_;rw[show a - a.tdiv b * b=a.tmod b by omega,show c - c.tdiv e * e=c.tmod e by omega];refine ro 4 O (RK.bh (t:=35) O (fun E=>?_) (fun E=>?_))
 ·refine rr 5 O (kB O (fun F=>?_) (fun F=>?_))
  ·have h0:a.tmod b=0:=E;have j:=h.trans (LF (by rw[h0,show c.tmod e=0 from F,cζ,cζ]));refine ro 5 O (kR O O ?_);rw[j];try rfl
  refine ro 9 O (kB O (fun p=>?_) (fun p=>?_))
  ·have h0:a.tmod b=0:=p;have j:=h.trans (VJ (by rw[h0,cζ];exact eδ I I));refine ro 5 O (kR O O ?_);rw[j];try rfl
  refine ro 9 O (kB O (fun o=>?_) (fun o=>?_))
  ·have h0:c.tmod e=0:=o;have j:=h.trans (S5 (by rw[h0,cζ];exact eδ I I));refine ro 5 O (kR O O ?_);rw[j];try rfl
  have q:Yo (n * k) (m * d)=Yo (e * a.tmod b) (b * c.tmod e):=by rw[h,cχ e,cχ b]
  refine ro 13 O (Ab.D.lp ⟨e,(c.tmod e),b,(a.tmod b),⟨⟨I,I,I,I⟩,q⟩,I,O,O,O,O,O,Zo⟩)
 refine rr 15 O (kB O (fun p=>?_) (fun p=>?_))
 ·have h0:a.tmod b=0:=p;have j:=h.trans (VJ (by rw[h0,cζ];exact eδ I I));refine ro 5 O (kR O O ?_);rw[j];try rfl
 refine ro 9 O (kB O (fun o=>?_) (fun o=>?_))
 ·have h0:c.tmod e=0:=o;have j:=h.trans (S5 (by rw[h0,cζ];exact eδ I I));refine ro 5 O (kR O O ?_);rw[j];try rfl
 have q:Yo (n * k) (m * d)=Yo (e * a.tmod b) (b * c.tmod e):=by rw[h,cχ e,cχ b]
 refine ro 13 O (Ab.D.lp ⟨e,(c.tmod e),b,(a.tmod b),⟨⟨I,I,I,I⟩,q⟩,I,O,O,O,O,O,Zo⟩)
def UH{n:Net}{d:Span}(j:(0<=n.lo/\n.lo<=1000000000))(hh:(0<=n.hi/\n.hi<=1000000000))(e:(0<=d.lo.num/\d.lo.num<=1000000000)/\(1<=d.lo.den/\d.lo.den<=1000000000))(h:(0<=d.hi.num/\d.hi.num<=1000000000)/\(1<=d.hi.den/\d.hi.den<=1000000000)):Ct prog 74 [.agg n.cs,.agg d.cs] (.bool (Va n d)):=by
 refine cI func74 O (ro 18 O (kc (zK (WQ (n:=d.lo.num) (d:=d.lo.den) (m:=n.lo) (k:=1) ⟨e.1,e.2,j,C⟩) call107 O) ?_));refine rr 2 O (RK.bh (t:=16) O (fun b=>?_) (fun b=>?_))
 ·refine rr 15 O (kR O O ?_);refine ew ?_;unfold Va
  first|(rw[Lb b];rfl)|(rw[K_ b,La (a:=d.hi.num)];rfl)
 refine rr 9 O (kc (S.call (WQ (n:=d.hi.num) (d:=d.hi.den) (m:=n.hi) (k:=1) ⟨h.1,h.2,hh,C⟩) call107 (zg O O) O (zc O (zc O (zc O (zD O)))) O) ?_);refine rr 5 O (kR O O ?_);refine ew ?_;unfold Va
 first|(rw[Lb b];rfl)|(rw[K_ b,La (a:=d.hi.num)];rfl)
def V5{n:Net}(hn:(0<=n.lo/\n.lo<=1000000000)/\(0<=n.hi/\n.hi<=1000000000)/\ve n.limit=true){A:SA}(K:A.Ok)(hg:A.st.Good (bP n.aS).1){L:vN}(hl:R L.rest<=600):dF prog 173 [] [.agg n.cs,.agg A.cs,.agg L.cs,bv (bq (fun p:Part=>decide (p.num=L.num)) 0 A.st.parts)] [(3000,.res (aa A.mem))] [(3000,.res JT)] (.cf [.agg (ZL A.st L.num (Yb n L.rest)).1.cs,bv (ZL A.st L.num (Yb n L.rest)).2]):=by
 refine cG func173 O fun{_ _}=>?_
 have hlp:=hg.sm.lp;rw[SA.X7]at hlp;refine ro 16 O (kB O (fun Q=>?_) (fun Q=>?_))
 ·have hN:A.st.vr L.num=none:=X1 Q;have x:ZL A.st L.num (Yb n L.rest)=(A.st,6):=by unfold ZL;rw[hN]
  refine kr (RK.cF (zL Z_ O O O O) K.fz O O (rr 4 O (OK.ret ⟨aA.r2 (zy O O Z_ O) (zo O O) ?_,O,Zo⟩)));rw[x];try rfl
 obtain⟨i,hu⟩:=X2 Q;have o:=ZC hu;obtain⟨v,z,u⟩:=Kf hu;obtain⟨pq,a⟩:=ZB K.ph z;have e1:ZL A.st L.num (Yb n L.rest)=Yb n L.rest A.st i:=by unfold ZL;rw[show A.st.vr L.num=some i from hu]
 have U:=K.fh v (mr z);refine ro 6 O (kc (S.fc ZA .none O (zt O) O O (SA.YW a) O) (jm O (kc (S.hidx (i:=i) ZH .none O (zt O) (zt O) o u) (kc (zr Zl O) ?_))));refine kc (zH Z8 O (aa.V2 (k:=.p) (i:=i) (f:=5) (SA.Iz a) (Z7 (f:=pC) z) O O (.same _))) ?_;refine rr 3 O (kB O (fun P=>?_) (fun P=>?_))
 ·have x:=e1.trans (OI z P);refine kr (RK.cF (zL Z_ O O O O) K.fz O O (rr 4 O (OK.ret ⟨aA.r2 (zy O O Z_ O) (zo O O) ?_,O,Zo⟩)));rw[x];try rfl
 have e2:=e1.trans (KS z P);refine ro 6 O (kc (zK (Xx (s:=L.rest) I) call227 O) ?_);refine rr 15 O (kB O (fun F=>?_) (fun F=>?_))
 ·have x:=e2.trans (Zn F);refine kr (RK.cF (zL Z_ O O O O) K.fz O O (rr 5 O (OK.ret ⟨aA.r2 (zy O O Z_ O) (zo O O) ?_,O,Zo⟩)));rw[x];try rfl
 have e3:=e2.trans (Zm F);have V:=KU hn.2.2 F;refine ro 7 O (kc (zK (PG (l:=(DH L.rest).1) (limit:=n.limit) V) call228 O) (rr 15 O (kB O (fun E=>?_) (fun E=>?_))))
 ·have x:=e3.trans (Zn E);refine kr (RK.cF (zL Z_ O O O O) K.fz O O (rr 5 O (OK.ret ⟨aA.r2 (zy O O Z_ O) (zo O O) ?_,O,Zo⟩)));rw[x];try rfl
 have e4:=e3.trans (Zm E);have X:=M_ E;refine ro 3 O ?_;refine kV (.c (zf ZZ O) (.c (S.fc ZA .none O (zt O) O O (SA.YW a) O) (.c (zm O) (.c (zf ZZ O) (.c (S.fc ZA .none O (zt O) O O (SA.YW a) O) (.c (zm O) (.c (zL VK O O O O) (.c (S.hidx (i:=i) ZH .none O (zt O) (zt O) o u) (.c (zr Zl O) (.c (S.ZP (rows':=(A.parts.map pC).set i (({v.2 with place:=4}:Part).cells (.raw (v.1.w (R v.2.frames))))) (.p) Z8 .none (zt O) (.af O) O (SA.Iz a) (Z7 (f:=pC) z) O O O O C O) (.c (S.hidx (i:=i) ZH .none O (zt O) (zt O) o u) (.c (zr PX O) (.c (S.ZP (rows':=(A.parts.map pC).set i (({v.2 with place:=4,depth:=(It (DH L.rest).1 n.limit).1}:Part).cells (.raw (v.1.w (R v.2.frames))))) (.p) VK .none (zt O) (zt O) O (HM.bw _ _ _) (QH (Z7 (f:=pC) z)) O O O O C (by rw[eυ];rfl)) .nil))))))))))))) ?_;refine rd 3 O ?_;rw[HM.set_set,SA.YM a z (p:={v.2 with place:=4,depth:=(It (DH L.rest).1 n.limit).1}) rfl];obtain⟨A1,e⟩:∃A1,A1=A.eC i (v.1,{v.2 with place:=4,depth:=(It (DH L.rest).1 n.limit).1}):=⟨_,rfl⟩;rw[←e];have G:A1.st=A.st.eC i fun p=>{p with place:=4,depth:=(It (DH L.rest).1 n.limit).1}:=by rw[e];exact SA.YB z v.1 fun p=>{p with place:=4,depth:=(It (DH L.rest).1 n.limit).1}
 have J:A.cs=A1.cs:=by rw[e];exact(SA.Y7 _ _).symm
 have H:R A1.parts=R A.parts:=by rw[e];exact wi
 refine ro 3 O (kc (zK (UH (n:=n) (d:=(It (DH L.rest).1 n.limit).1) hn.1 hn.2.1 X.1 X.2) call74 O) (kD (OK.cond O O (fun N=>?_) (fun N=>?_))))
 ·have x:=e4.trans (KQ (i:=i) N);refine ro 6 O ?_;refine OK.mP [5,8] (fun(k:Nat)(A2:SA)=>[(5,.ptr 5 0),(1005,.box A.cs),(3,bv (bq (fun p:Part=>decide (p.num=L.num)) 0 A.st.parts)),(8,.ptr 8 0),(1008,.box [.bO,.bO,.bO,.bO,bv 0,bv 0,.bO]),(13,bv k),(3000,.res (aa A2.mem))]) (fun k A2=>k<=R A.parts/\ZV A1 i k A2) (fun k A2=>R A.parts - k) (0) (A1) ⟨Zr _,ZV.zero (by rw[e];exact K.eC U)⟩ ⟨O,O,O,O,O,O,O,Zo⟩ (fun _ _=>O) ?_;rintro k A2 ⟨hk,B⟩;refine ro 6 O ?_;refine kc (S.hlen ZH (by unfold maxLen;omega) .none O (zt O)) ?_;refine rr 3 O (kB O (fun c64=>?_) (fun c64=>?_))
  ·have t:k<R A.parts:=I
   obtain⟨w,hw⟩:∃w,A2.parts[k]?=some w:=⟨_,Zv (by rw[B.len,H];exact t)⟩;have h:A2.ph=some pq:=by rw[B.ph,e];exact a
   obtain⟨j,T,m⟩:=B.at_ (i:=i) (by rw[e];exact SA.pZ z _);refine ro 5 O ?_;by_cases Z:w.2.oF=j.2.oF/\w.2.iN=j.2.iN
   ·have Y:w.2.oF=(A1.st.p i).oF/\w.2.iN=(A1.st.p i).iN:=by rw[←m.1,←m.2];exact Z
    refine kV (.c (zf ZZ O) (.c (S.fc ZA .none O (zt O) O O (SA.YW a) O) (.c (zm O) (.c (S.hidx (i:=k) ZH .none O (zt O) (zt O) O t) (.c (zr Yt O) (.c (zJ (us:=[.str w.2.oF,bv w.2.iN]) MO O (aa.UE (k:=.p) (i:=k) (f:=1) (SA.Iz h) (Z7 (f:=pC) hw) O ⟨.same _,.same _,Zo⟩ O)) (.c (zf ZZ O) (.c (S.fc ZA .none O (zt O) O O (SA.YW a) O) (.c (zm O) (.c (S.hidx (i:=i) ZH .none O (zt O) (zt O) o u) (.c (zr Yt O) (.c (zJ (us:=[.str j.2.oF,bv j.2.iN]) MO O (aa.UE (k:=.p) (i:=i) (f:=1) (SA.Iz h) (Z7 (f:=pC) T) O ⟨.same _,.same _,Zo⟩ O)) (.c (S.Mp (b:=decide (w.2.oF=j.2.oF/\w.2.iN=j.2.iN)) [.s [],.i 0] [.s w.2.oF,.i w.2.iN] [.s j.2.oF,.i j.2.iN] Td .none O (zt O) (zt O) O O O O SV) (.c (zm O) (.c (S.dH ZZ (.yes O O O W) O (zt O)) (.c (S.fc ZA (.yes O O O W) O (zt O) O O (SA.YW a) O) (.c (S.move (.yes O O O W) O (zt O)) (.c (S.hidx (i:=k) ZH (.yes O O O W) O (zt O) (zt O) O t) (.c (S.jG (us:=w.2.cs) T7 (.yes O O O W) O (zt O) O (aa.UE (k:=.p) (i:=k) (f:=0) (SA.Iz h) (Z7 (f:=pC) hw) O ⟨.same _,.same _,.same _,.same _,.sl (B.ok.fs hw),.same _,.same _,.same _,.same _,.same _,.same _,.same _,.same _,Zo⟩ O)) (.c (S.call (Xi (p:=w.2)) call75 (.yes O O O W) O (zc O .nil) O) (.c (S.aQ .none O (zt O) (zt O) W) .nil))))))))))))))))))))) ?_;refine Ab.D.code (OK.cond O O (fun M=>?_) (fun M=>?_))
    ·have y:=B.on hw ⟨Y,M⟩;refine ro 2 O (kc (S.fc ZA .none O (zt O) O O (SA.YW a) O) (jm O (kc (S.hidx (i:=k) ZH .none O (zt O) (zt O) O t) (kc (zr SI O) ?_))));refine kc (S.ZP (rows':=(A2.parts.map pC).set k (({w.2 with marked:=true}:Part).cells (.raw (w.1.w (R w.2.frames))))) (.p) SP .none (zt O) .aJ O (SA.Iz h) (Z7 (f:=pC) hw) O O O O C O) ?_;refine rr 3 O ?_;rw[SA.YM h hw (p:={w.2 with marked:=true}) rfl];refine Ro 5 O I (Ab.D.lp ⟨k+1,(A2.eC k (w.1,{w.2 with marked:=true})),⟨I,y⟩,I,O,O,O,O,O,O,O,Zo⟩)
    have y:=B.off hw fun q=>absurd q.2 (by rw[M];decide)
    refine Ro 8 O I (Ab.D.lp ⟨k+1,A2,⟨I,y⟩,I,O,O,O,O,O,O,O,Zo⟩)
   have y:=B.off hw fun q=>Z (by rw[m.1,m.2];exact q.1)
   refine kV (.c (zf ZZ O) (.c (S.fc ZA .none O (zt O) O O (SA.YW a) O) (.c (zm O) (.c (S.hidx (i:=k) ZH .none O (zt O) (zt O) O t) (.c (zr Yt O) (.c (zJ (us:=[.str w.2.oF,bv w.2.iN]) MO O (aa.UE (k:=.p) (i:=k) (f:=1) (SA.Iz h) (Z7 (f:=pC) hw) O ⟨.same _,.same _,Zo⟩ O)) (.c (zf ZZ O) (.c (S.fc ZA .none O (zt O) O O (SA.YW a) O) (.c (zm O) (.c (S.hidx (i:=i) ZH .none O (zt O) (zt O) o u) (.c (zr Yt O) (.c (zJ (us:=[.str j.2.oF,bv j.2.iN]) MO O (aa.UE (k:=.p) (i:=i) (f:=1) (SA.Iz h) (Z7 (f:=pC) T) O ⟨.same _,.same _,Zo⟩ O)) (.c (S.Mp (b:=decide (w.2.oF=j.2.oF/\w.2.iN=j.2.iN)) [.s [],.i 0] [.s w.2.oF,.i w.2.iN] [.s j.2.oF,.i j.2.iN] Td .none O (zt O) (zt O) O O O O SV) (.c (zm O) (.c (zG O W) (.c (zG O W) (.c (zG O W) (.c (zG O W) (.c (zG O W) (.c (zG O W) (.c (S.aO .none O (zt O) .aJ W) .nil))))))))))))))))))))) ?_;refine Rd 10 O I (Ab.D.lp ⟨k+1,A2,⟨I,y⟩,I,O,O,O,O,O,O,O,Zo⟩)
  obtain rfl:k=R A.parts:=I
  have hF:Gj A2.mem (.agg A.cs) (.agg ((A.st.eC i fun p=>{p with place:=4,depth:=(It (DH L.rest).1 n.limit).1}).Ff i).cs):=SA.YR B.ok rfl (J.trans B.cs) (by rw[←G];exact B.all H);refine ro 4 O (RK.cF (zL Z_ O O O O) hF O O (rr 4 O (OK.ret ⟨aA.r2 (zy O O Z_ O) (zo O O) ?_,O,Zo⟩)));rw[x];try rfl
 have x:=e4.trans (KP (i:=i) N);have hF:Gj A1.mem (.agg A.cs) (.agg (A.st.eC i fun p=>{p with place:=4,depth:=(It (DH L.rest).1 n.limit).1}).cs):=SA.YR (by rw[e];exact K.eC U) rfl J G;refine ro 4 O (RK.cF (zL Z_ O O O O) hF O O (rr 4 O (OK.ret ⟨aA.r2 (zy O O Z_ O) (zo O O) ?_,O,Zo⟩)));rw[x];try rfl
