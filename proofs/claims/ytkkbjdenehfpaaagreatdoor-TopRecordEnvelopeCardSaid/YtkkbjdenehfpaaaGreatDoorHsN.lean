import Derived.Test.YtkkbjdenehfpaaaGreatDoorHoN
set_option linter.all false
namespace Go.Ab
open Go.RowKit
variable{E:Env}{q0:Array Oper}{s r rg:St}{d ty:Nat}{v9:String}{v4:Array Edge}{jn:Option (Nat×Bool)}
section
variable{x:Operand}
def S.neerr{t m:Nat}{ok:Bool}{ms:Array<|String×TypeId}(b:E.P.underlying t=some (.interface ms))(o:Gd q0 s jn rg)(hd:ca E d=true)(j:YO s x (.cb<|xY ok) r):
  Zb E q0 ⟨some d,.binOp .neq t x (.const .nilIface) m,ty,v9,v4,jn⟩ s (rg++r) [(d,.bool<|!ok)] []:=
 Zb.val o hd rfl j.looks λc A w _ n=>by
  have k:E.P.underlying t=some (.interface<|E.P.methodsAt t):=by
   have:E.P.methodsAt t=ms:=by unfold Program.methodsAt;rw[b]
   rw[this];exact b
  have h0:xY ok<|A.eval x:=j.rep (c:=c) (a:=A) (w:=w) n;have l:A.eval (.const .nilIface)=.nilIface:=rfl;refine⟨.bool<|!ok,?_,ZR.WB<|.bool _⟩;rcases h0 with⟨rfl,e⟩|⟨rfl,h,i,e⟩
  ·have g:=run_equal_nil_nil (P:=E.P) w t k;have f:(eqGuard .neq t x (.const .nilIface) .nilIface .nilIface).run E.P w=.ok () w:=by rw[eqGuard_nil_constR];rfl
   simp[execOp,e,l,f,binOp,g]
  have g:=run_equal_held_nil (P:=E.P) w t h i k;have f:(eqGuard .neq t x (.const .nilIface) (.iface h i) .nilIface).run E.P w=.ok () w:=by simp[eqGuard]
  simp[execOp,e,l,f,binOp,g]
end
variable{K:Type}
def Fz.Ip{M:HM K}{x y:X}(h:Fz M x y):X4 y=false:=by
 cases h with
 |same _ h=>cases x<;>first|rfl|cases h
 |_=>rfl
def CX.Ip{K:Type}{M:HM K}{x y:X}(h:CX M x y):X4 y=false:=by
 cases x
 case agg xs=>obtain⟨a,rfl,_⟩:=h;rfl
 all_goals exact Fz.Ip h
def S.Tx{M:HM K}{f:Nat}{os:List Operand}{xo:Array TypeId}{xs ys:bi}{qp:X}(C:Ct E.P f ys qp)(hs:z_ qp=true)(b:∀vj w,(callFunc f vj).run E.P w=.ok (.enter f vj) w)(B:Gd q0 s jn rg)(hd:ca E d=true)
  (m:V5 s os xs r) (u:Z1 (CX M) xs ys) (j:look s 3000=some (.res<|Z9 M)):
  Zb E q0 ⟨some d,.call {callee:=.value<|.func f,args:=os.toArray,argTypes:=xo},ty,v9,v4,jn⟩ s (rg++(r++[(3000,.res<|Z9 M)])) [(d,qp)] []:=
 N4 (vt:=[]) B hd (m.looks.app ⟨j,Zo⟩) b (by simpa using C.at) hs λU c a w D l=>by
  refine⟨?_,[],rfl,Zo⟩;have A:Z9 M c.h c.Y w:=(WW<|l (3000,.res<|Z9 M) F).2;have i:=m.rep (c:=c) (a:=a) (w:=w) λp z=>l p (by simp[z])
  have xf:Mem.le (hfz M c.h w)<|VW w:=by
   intro p v e;rcases nC e with g|⟨_,g⟩
   ·exact D.hw p v g
   exact g
  have vy:∀{xs ys:bi}{vs:List Value},Z1 (CX M) xs ys->Z1 (YG c) xs vs->Z1 (YQ<|ZL<|VW w) ys vs:=by
   intro xs
   induction xs with
   |nil=>intro ys vs g k;rw[g.YN,k.YN];trivial
   |cons x xs t=>
    intro ys vs g k;obtain⟨y,o,rfl,n,J⟩:=g.YU;obtain⟨v,q,rfl,I,H⟩:=k.YU;have G:YG (ZL<|hfz M c.h w) y v:=CX.rep (c:=c) rfl A n I;exact⟨T.xJ (G.mono ⟨xf,(λ_ _ e=>by cases e),(λ_ _ _ _ e=>by cases e)⟩) n.Ip,t J H⟩
  exact vy u i
section
variable{U:bc}{qf:Code}{Q:bo}{K:Type}[DecidableEq K]{M:HM K}
theorem Good.Fx{a:Act}{w:World}(B j:Nat)(kb:K){k n sz:Nat}{vv:bi}{vi:List bi}(hB:Nat.blt B 1000=true)(hl:look s (1000+B)=some (.box vv))(N:vv[j]?=some (.own k n))(D:look s (2000+k)=some (.arr sz vi))(Z:vi.length=n)(H:M kb=none)(C:look s 3000=some (.res<|Z9 M))(F:E.fs.contains k=false)(hg:Good E U s a w):
  ∃O o,TL o kb O sz vi/\(∀u,u≠kb->o u=M u)/\Good E U ((1000+B,.box<|vv.set j<|.raw O)::(2000+k,.any)::(3000,.res<|Z9 o)::s) a w:=by
 subst Z;obtain⟨c,z,hh⟩:=hg;rw[rb]at hB;obtain⟨L,e',vs,g1,g2,g3,g4⟩:=Wp<|hh _ _ D;obtain⟨b0,T0,S,W,V,A⟩:=VT (hh _ _ hl) hB;have t:∀{l:Ctx},Ext c l->Z1 (Zc l) (vv.set j<|.raw L) S.toList:=by
  intro l y;refine Z1.WI (by rw[wi];exact A.length) λi x v f p=>?_
  rw[aχ]at f;split at f
  ·rename_i e;subst e;split at f
   ·cases f;obtain⟨_,m,X,lv,J,q2,T⟩:=QU (c:=c) (v:=v)<|A.get N p;rw[g1]at J;cases J;exact T rfl
   cases f
  exact(A.get f p).mono y
 have g:∀{l:Ctx}{o:HM K},Ext c l->Z9 o l.h l.Y w->(∀vy x,vy≠2000+k->vy≠3000->look s vy=some x->Holds l a w vy x)->∀vy x,look ((1000+B,.box<|vv.set j<|.raw L)::(2000+k,.any)::(3000,.res<|Z9 o)::s) vy=some x->Holds l a w vy x:=by
  intro l o y N ho vy x f;simp only[look]at f;split at f
  ·rename_i e;have:=Nat.eq_of_beq_eq_true e;cases f;subst this;exact(Holds.MX hB (y.loc _ _ W) V<|t y).2
  split at f
  ·rename_i e;have:=Nat.eq_of_beq_eq_true e;cases f;subst this;unfold Holds;grind
  grind [Nat.eq_of_beq_eq_true,Holds.Tp,Z9.ZV,Nat.beq_refl]
 have q:=(WW<|hh _ _ C).2;rcases g2.2 with⟨rfl,h1⟩|⟨b,P,I,rfl,_,f1,f2,f3,f4,f5⟩
 ·exact⟨_,M,.inl ⟨rfl,tz h1,H⟩,λ_ _=>rfl,c,z,g (Ext.refl c) q λvy x _ _ f=>hh vy x f⟩
 exact⟨_,M.set kb<|some (b,.row sz P vi),.inr ⟨b,P,rfl,HM.YW _ _ _⟩,λu G=>HM.Z0 _ _ G,_,z.nr g1<|KT F,g (Ext.dead g1) (Lr z q kb g1 ⟨(z.arr _ _ _ b g1 rfl).2.2.1,⟨f2,f3,g3⟩,e',I,f1,f4,by simp_all⟩) λvy x h2 h3 f=>Holds.dead g1 (λe=>h2 e.symm) h3<|hh vy x f⟩
def OK.Fx(B j:Nat)(kb:K){k n sz:Nat}{vv:bi}{vi:List bi}(hB:Nat.blt B 1000=true)(o:look s (1000+B)=some (.box vv))(p:vv[j]?=some (.own k n))(g:look s (2000+k)=some (.arr sz vi))(m:vi.length=n)(l:M kb=none)(f:look s 3000=some (.res<|Z9 M))
  (h:∀c b,TL b kb c sz vi->(∀e,e≠kb->b e=M e)->OK E qf Q U ((1000+B,.box<|vv.set j<|.raw c)::(2000+k,.any)::(3000,.res<|Z9 b)::s)) (i:E.fs.contains k=false:=by rfl):OK E qf Q U s:=λa w q=>by
 obtain⟨c,b,v,u,t⟩:=q.Fx B j kb hB o p g m l f i;exact h c b v u a w t
end
theorem Z9.join{M ao:HM K}{h:Mem}{Y a:Nat->Prop}{w:World}(g:Z9 M h Y w)(f:Z9 ao h a w)(hd:∀b,Y b->¬a b):Z9 (λk=>(M k).or<|ao k) h (λb=>Y b\/a b) w:=by
 have vy:∀k b x,(M k).or (ao k)=some (b,x)->M k=some (b,x)\/ao k=some (b,x):=by
  intro k b x e;cases c:M k<;>grind
 grind [Z9]
variable{l:List Oper}{U:bc}{Q:bo}
section
variable{E:Env}{q0:Array Oper}{s r r1 r2 r3 rg rd:St}{d ty:Nat}{v9:String}{v4:Array Edge}{K:Type}
theorem S.au{M:HM K}{g:Nat}{os:List Operand}{xo:Array TypeId}{ys:List X}{ι:Type}{qp:ι→X}{ao:ι→HM K}(hf:dG E.P g ys qp λq=>Z9<|ao q)
  (T:∀vj w,(callFunc g vj).run E.P w=.ok (.enter g vj) w) (hd:ca E d=true) (ha:V5 s os ys r) (ho:ys.all V3=true):
  vD E q0 ⟨some d,.call {callee:=.value<|.func g,args:=os.toArray,argTypes:=xo},ty,v9,v4,none⟩ (r++[(3000,.res<|Z9 M)]) (λq=>[(d,qp q),(3000,.res<|Z9 λk=>(M k).or<|ao q k)]) []:=by
 simp only[Zw,rb]at hd;intro U c a w l W _ next Q L
 have hw:Region.wanted (⟨some d,.call {callee:=.value<|.func g,args:=os.toArray,argTypes:=xo},ty,v9,v4,none⟩:Oper) (yielded q0 a.tmps)=true:=rfl;have t:=Yj (ha.rep (c:=c) (a:=a) (w:=w) λp f=>W p<|sb _ f) ho;have hj:=(WW<|W _<|ui _ rv).2;unfold T_;rw[Zn hw];refine⟨λ_ _=>trivial,?_⟩;rw[Oper.semAt_eq _ _ _ λcl he=>by cases he];have hfo:a.eval (.func g)=.func (.func g) #[] #[]:=rfl;have z:(execOp a.eval ⟨some d,.call {callee:=.value<|.func g,args:=os.toArray,argTypes:=xo},ty,v9,v4,none⟩).run E.P w=.ok (.enter g (os.map a.eval).toArray) w:=by
  simp_all[execOp,resolve,Deferred.ofValue,invoke]
 rw[z];refine⟨Z,?_⟩;have J:CallsIn E.ac (0 - 1) E.P g (os.map a.eval).toArray w _:=(callsIn_wide (n:=0)).2<|hf c.h w _ l.hw t;refine J.mono ?_;rintro en V ⟨q,v,H,I,rfl,f,A,hJ⟩;have hfr:∀b,I b->w.heap.size<=b:=λb i=>dφ λD=>f.out b i D
 have B:V7 c.h c.Y w H (λb=>c.Y b\/I b) V:=by
  refine⟨f.below.mono (Zq _) λ_ _ e=>e.elim,f.le,λp v y=>(f.new p v y).imp id λe=>e.imp id λe=>e.elim,f.hw,λb i=>?_,λb i D=>?_⟩
  ·rcases i with i|i
   ·have:=(l.Y b i).1;have:=f.below.size;omega
   exact f.lt b i
  grind
 have N:Z9 M H c.Y V:=Z9.ZV M _ _ _ _ _ hj f.le (λp v y=>(f.new p v y).imp id λe=>e.elim (λe i=>by have:=(l.Y _ i).1;omega) λe=>e.elim) f.hw (f.below.mono (Zr _) λ_ _ e=>e) λb i=>f.below.block b (l.Y b i).1 id
 have hj3:=N.join hJ λb i hy'=>by have:=(l.Y b i).1;grind
 have G:Ext c ⟨H,c.loc,c.arr,λb=>c.Y b\/I b⟩:=⟨f.le,λ_ _ e=>e,λ_ m y lv e=>⟨m,y,lv,e,Zq _,λ_=>rfl⟩⟩;have O:d<a.tmps.size:=by rw[l.nt];exact hd.2
 refine L q ⟨H,c.loc,c.arr,λb=>c.Y b\/I b⟩ _ _ ((l.Ue B).put _ _) ?_ ?_
 ·intro p C;simp only[sf,H4,or_false]at C;rcases C with rfl|rfl
  ·unfold Holds;rw[Zn hd.1,XN O];exact A.mono<|Xn (c:=⟨H,c.loc,c.arr,λb=>c.Y b\/I b⟩) rfl
  simp_all[Holds.Tp,Z9.ZV]
 intro vy u hk h0;have j:d≠vy:=hk (d,qp q) F;have o:vy≠3000:=λe=>hk (3000,.res<|Z9 λk=>(M k).or<|ao q k) F e.symm
 by_cases J:vy<1000
 ·refine Holds.put ?_ j _;unfold Holds at h0⊢;rw[Zn J]at h0⊢;exact h0.mono G
 exact(Holds.Ue l B J o h0).put j _
def RK.QK{M:HM K}{l:List Oper}{U:bc}{Q:bo}(L:List<|Nat×X)(b:look s 3000=some (.res<|Z9 M))(f:∀p∈L,p.1<1000/\∃x,look s p.1=some x/\CX M x p.2)(h:RK E q0 l U (L++(3000,.any)::s) Q):RK E q0 l U s Q:=λk c a w e=>h k c a w<|e.QK L b f
def JT:bm:=λ_ _ _=>True
def RK.addT(h:RK E q0 l U ((3000,.res JT)::s) Q):RK E q0 l U s Q:=λk f a w g=>by
 obtain⟨c,i,hh⟩:=g;refine h k f a w ⟨c,i,λvy x b=>?_⟩;simp only[look]at b;split at b
 ·rename_i e;have:=Nat.eq_of_beq_eq_true e;cases b;subst this;exact Holds.Tp (λ_ _ _ _ _ _ _ _ _ _ _=>trivial) trivial
 exact hh vy x b
def RK.cF{M:HM K}{o:Oper}{x y:X}(h:Zb E q0 o s rd [(d,x)] [])(f:CX M x y)(a:look ((d,x)::s) 3000=some (.res<|Z9 M))(hd:Nat.blt d 1000=true)(b:RK E q0 l U ((3000,.res JT)::(d,y)::(3000,.any)::(d,x)::s) Q):RK E q0 (o::l) U s Q:=by
 refine RK.c h<|RK.QK (s:=(d,x)::s) [(d,y)] a (λp e=>?_)<|RK.addT b;simp_all[look]
def RK.nilH{xs:bi}(j:look s d=some (.agg xs))(hd:Nat.blt d 1000=true)(h:RK E q0 l U ((d,.agg<|xs.map xI)::s) Q):RK E q0 l U s Q:=λk m a w n=>by
 obtain⟨c,o,hh⟩:=n;refine h k m a w ⟨c,o,λvy x b=>?_⟩;simp only[look]at b;split at b
 ·rename_i e;have:=Nat.eq_of_beq_eq_true e;cases b;subst this;obtain⟨vs,g,i⟩:=(hh _ _ j).slot hd;rw[rb]at hd;unfold Holds;rw[Zn hd];refine⟨vs,g,?_⟩;have vy:∀{xs:bi}{vs:List Value},Z1 (Zc c) xs vs->Z1 (Zc c) (xs.map Ab.xI) vs:=by
   intro xs
   induction xs with
   |nil=>intro vs h;exact h
   |cons x xs f=>
    intro vs h
    match vs,h with
    |v::vs,h=>exact⟨by cases x<;>exact h.1,f h.2⟩
  exact vy i
 exact hh vy x b
