import Derived.LaidEql
import Derived.Test.YtkkbjdenehfpaaaGreatDoorFwN
set_option linter.all false
open List renaming length->R
namespace Go.Ab
open Go.RowKit
inductive HK where
 |box (xs:bi)
 |row (sz cap:Nat) (rows:List bi)
 |Te (sz cap:Nat) (rows:List bi)
 |iter (s:ba) (pos:Nat)
def xZ(h:Mem)(w:World)(b:Nat):HK->Prop
 |.box xs=>(∀o,h ⟨b,o,none⟩=none)/\∃T vs,w.heap[b]?=some (.cells vs T (0,0))/\Z1 (ZR h) xs (vs.toList.take<|R xs)
 |.row sz vz vi=>(∀o,h ⟨b,o,none⟩=none)/\(R vi<=vz/\vz<=maxLen/\∀r∈vi,R r=sz)/\∃T vs,w.heap[b]?=some (.cells vs T (0,0))/\vs.size=vz * sz/\Z1 (ZR h) vi.flatten (vs.toList.take<|R vi * sz)
 |.Te sz vz vi=>(∀i,R vi * sz<=i->h ⟨b,i,none⟩=none)/\(R vi<=vz/\vz<=maxLen/\∀r∈vi,R r=sz)/\∃T vs,w.heap[b]?=some (.cells vs T (0,0))/\vs.size=vz * sz/\Z1 (ZR h) vi.flatten (vs.toList.take<|R vi * sz)/\
  ∀(i:Nat)(v:Value),(vs.toList.take<|R vi * sz)[i]?=some v->h ⟨b,i,none⟩=some v
 |.iter s v9=>(∀o,h ⟨b,o,none⟩=none)/\w.heap[b]?=some (.stringIter ⟨s.toArray⟩ v9)
variable{h:Mem}{b:Nat}{w w':World}
theorem xZ.grow{A:Mem}{x:HK}(B:xZ h w b x)(xf:Mem.le h A)(H:∀o v,A ⟨b,o,none⟩=some v->h ⟨b,o,none⟩=some v)(hw:w'.heap[b]?=w.heap[b]?):xZ A w' b x:=by
 have f:∀o,h ⟨b,o,none⟩=none->A ⟨b,o,none⟩=none:=λo G=>by
  cases hh:A ⟨b,o,none⟩<;>grind
 cases x with
 |box xs=>obtain⟨p,T,vs,g,q⟩:=B;exact⟨λo=>f o<|p o,T,vs,hw.trans g,q.mono λ_ _=>ZR.mono xf⟩
 |row sz vz vi=>obtain⟨p,h0,T,vs,g,q,C⟩:=B;exact⟨λo=>f o<|p o,h0,T,vs,hw.trans g,q,C.mono λ_ _=>ZR.mono xf⟩
 |Te sz vz vi=>obtain⟨p,h0,T,vs,g,q,C,F⟩:=B;exact⟨λi hi=>f i<|p i hi,h0,T,vs,hw.trans g,q,C.mono λ_ _=>ZR.mono xf,λi v D=>xf _ _<|F i v D⟩
 |iter s v9=>obtain⟨p,g⟩:=B;exact⟨λo=>f o<|p o,hw.trans g⟩
abbrev HM(K:Type):=K->Option (Nat×HK)
variable{vi:List bi}{n o sz:Nat}{Y:Nat->Prop}{hd v:Value}{us:bi}
variable{K:Type}
section
def Z9(M:HM K):bm:=λh Y w=>(∀k b x,M k=some (b,x)->Y b/\xZ h w b x)/\∀g f b x y,M g=some (b,x)->M f=some (b,y)->g=f
theorem Z9.ZV(M:HM K):Y2<|Z9 M:=by
 rintro h C Y w A ⟨g,q⟩ xf xi hw B p;exact⟨λk b x f=>⟨(g k b x f).1,(g k b x f).2.grow xf (λo v i=>(xi _ v i).elim id λe=>absurd (g k b x f).1 e)<|p b (g k b x f).1⟩,q⟩
def Z9.mono{M:HM K}{i:Nat->Prop}(f:Z9 M h Y w)(p:∀b,Y b->i b):Z9 M h i w:=⟨λk b x g=>⟨p b (f.1 k b x g).1,(f.1 k b x g).2⟩,f.2⟩
theorem Z9.nil:Z9 (λ_:K=>none) h Y w:=⟨λk b x e=>by simp at e,λg f b x y e=>by simp at e⟩
def Z9.less{M i:HM K}(g:Z9 M h Y w)(f:∀k p,i k=some p->M k=some p):Z9 i h Y w:=⟨λk b x A=>g.1 k b x<|f k _ A,λv q b x y C B=>g.2 v q b x y (f _ _ C)<|f _ _ B⟩
variable[DecidableEq K]
def HM.set(M:HM K)(k:K)(p:Option<|Nat×HK):HM K:=λj=>if j=k then p else M j
def HM.YW(M:HM K)(k:K)(p:Option<|Nat×HK):M.set k p k=p:=Zn rfl
def HM.Z0(M:HM K){k j:K}(p:Option<|Nat×HK)(h:j≠k):M.set k p j=M j:=Zm h
theorem Z9.Ue{M:HM K}{p:Mem}{C:Nat->Prop}{g:K}{b0:Nat}{D:HK}(B:Z9 M h Y w)(xf:Mem.le h p)(H:∀b,b≠b0->Y b->∀o v,p ⟨b,o,none⟩=some v->h ⟨b,o,none⟩=some v)
  (hw:∀b,b≠b0->Y b->w'.heap[b]?=w.heap[b]?) (J:∀b,Y b->C b) (f:(∃x,M g=some (b0,x))\/¬Y b0) (I:C b0) (V:xZ p w' b0 D):Z9 (M.set g<|some (b0,D)) p C w':=by
 have A:∀k b x,k≠g->M k=some (b,x)->b≠b0:=by
  rintro k b x i e rfl;rcases f with⟨O,N⟩|f
  ·exact i<|B.2 _ _ _ _ _ e N
  exact f (B.1 _ _ _ e).1
 refine⟨λk b x e=>?_,λT S b x y X W=>?_⟩
 ·by_cases i:k=g
  ·simp_all[HM.YW]
  rw[HM.Z0 _ _ i]at e;obtain⟨q,G⟩:=B.1 k b x e;have F:=A k b x i e;exact⟨J b q,G.grow xf (H b F q)<|hw b F q⟩
 grind [Z9,HM.set]
omit [DecidableEq K]
def Vk(M:HM K)(k:K)(hd:Value)(sz:Nat)(vi:List bi):Prop:=(hd=.slice none 0 0/\vi=[]/\M k=none)\/∃b vz,hd=.slice (some ⟨b,0,none⟩) (R vi) vz/\M k=some (b,.Te sz vz vi)
def TL(M:HM K)(k:K)(hd:Value)(sz:Nat)(vi:List bi):Prop:=(hd=.slice none 0 0/\vi=[]/\M k=none)\/∃b vz,hd=.slice (some ⟨b,0,none⟩) (R vi) vz/\M k=some (b,.row sz vz vi)
def Vk.data{M:HM K}{k:K}(p:Vk M k hd sz vi)(g:Z9 M h Y w):ZR h (.sl vi) hd:=by
 rcases p with⟨rfl,rfl,_⟩|⟨b,vz,rfl,q⟩
 ·exact .I3 none 0<|Zr _
 obtain⟨_,_,⟨C,B,A⟩,T,vs,I,H,f,G⟩:=g.1 k b _ q;exact .sl vi b 0 vz sz (vs.toList.take<|R vi * sz) C B A f.length (λi v e=>by simp_all) λi x v F D=>f.get F D
inductive Vw(M:HM K):X->X->Prop
 |same (x:X):Vw M x x
 |sl {k:K} {hd:Value} {sz:Nat} {rows:List bi} (h:Vk M k hd sz rows):Vw M (.raw hd)<|.sl rows
def Vw.get{M:HM K}{x u:X}(b:Vw M x u)(f:Z9 M h Y w)(r:ZR h x v):ZR h u v:=by
 cases b with
 |same=>exact r
 |sl g=>cases r;exact g.data f
def Z9.Xh{M:HM K}{k:K}{xs:bi}{x u:X}(p:M k=some (b,.box xs))(g:xs[o]?=some x)(i:Vw M x u):∀h Y w,Z9 M h Y w->∃v,w.cell? ⟨b,o,none⟩=some v/\YG (ZL h) u v:=by
 intro h Y w f;obtain⟨_,F,T,vs,D,A⟩:=f.1 k b _ p;obtain⟨v,C,q⟩:=A.WN g;have B:=i.get f q;simp_all[ZR.WB,H0,World.cell?]
theorem Z9.KL{M:HM K}{k:K}{xs:bi}(C:M k=some (b,.box xs))(f:Z1 (Vw M) ((xs.drop o).take n) us)(B:R us=n):∀h Y w,Z9 M h Y w->∃vs:List Value,R vs=n/\(∀(i:Nat)(v:Value),vs[i]?=some v->w.cell? ⟨b,o+i,none⟩=some v)/\Z1 (Zc<|ZL h) us vs:=by
 intro h Y w p;obtain⟨_,G,T,vs,F,D⟩:=p.1 k b _ C;have g:=(D.drop o).take n;refine⟨((vs.toList.take<|R xs).drop o).take n,by rw[←g.length,f.length,B],λi v hi=>?_,?_⟩
 ·simp_all[H0,World.cell?]
 refine Z1.WI (f.length.symm.trans g.length) λi u v A q=>?_
 have hi:i<R ((xs.drop o).take n):=by grind
 exact ZR.Av<|(f.get (Zv hi) A).get p<|g.get (Zv hi) q
end
theorem K8{α:Type}{l vals:List α}{L:Nat}(b:R vals=n)(h:o+n<=L)(f:L<=R l):(l.take o++(vals++l.drop (o+n))).take L=(l.take L).take o++(vals++(l.take L).drop (o+n)):=by
 obtain⟨A,B,rfl,rfl⟩:∃A B,l=A++B/\R A=L:=⟨l.take L,l.drop L,(a7 L l).symm,by simp_all⟩;have g:(A++B).take o=A.take o:=aε I;grind [List.take_left',List.length_take]
def xI:X->X
 |.ZM=>.raw<|.slice none 0 0
 |x=>x
def bS:X->Bool
 |.ZM=>true
 |x=>BI x
variable{c:Ctx}
theorem H_of{u:X}(h:Zc c u v)(b:bS u=true):ZR c.h (xI u) v:=by
 cases u<;>first|exact D_of h b|(have f:_=Value.slice none 0 0:=h;exact ZR.Iu f rfl)
def vA{c:Ctx}:∀{us:bi}{vs:List Value},Z1 (Zc c) us vs->us.all bS=true->Z1 (ZR c.h) (us.map xI) vs
 |[],[],_,_=>trivial
 |_::_,_::_,h,ho=>by simp only[so,Zw]at ho;exact⟨H_of h.1 ho.1,vA h.2 ho.2⟩
 |[],_::_,h,_=>h.elim
 |_::_,[],h,_=>h.elim
variable{ag:Bool}{vz e t:Nat}
variable{r r1 r2 r3 rg:St}{d ty:Nat}{v9:String}{v4:Array Edge}{jn:Option (Nat×Bool)}{y z:Operand}
section
variable{E:Env}{q0:Array Oper}{s:St}{x:Operand}[DecidableEq K]
def S.Yf{T:Nat}{u:X}{xs xs':bi}{M:HM K}(B:K)(ht:W5 E.P T ag n)(hg:Gd q0 s jn rg)(Z:YO s x (.raw<|.pointer<|some ⟨b,o,none⟩) r1)(W:YO s y u r2)(hl:look s 3000=some (.res<|Z9 M))(hM:M B=some (b,.box xs))
  (hu:Qj u=true) (D:(Yv u).all bS=true) (H:R (Yv u)=n) (f:Nat.ble (o+n) (R xs)=true) (C:xs.take o++((Yv u).map xI++xs.drop (o+n))=xs'):
  Zb E q0 ⟨none,.store T x y,ty,v9,v4,jn⟩ s (rg++((r1++r2)++[(3000,.res<|Z9 M)])) [(3000,.res<|Z9<|M.set B<|some (b,.box xs'))] []:=
 Zb.res hg rfl (Z.looks.app W.looks) hl λU c a w hb hr g=>by
  subst C;rw[ky]at f;have h0:a.eval x=.pointer (some ⟨b,o,none⟩):=Z.rep (c:=c) (a:=a) (w:=w) λp G=>hr p (by simp[G])
  obtain⟨hc,ho⟩:=Ux (W.rep (c:=c) (a:=a) (w:=w) λp G=>hr p<|by simp[G]) hu;have A:=vA hc D;obtain⟨hY,h1,V,vs,h2,O⟩:=g.1 B b _ hM;have J:=O.length;rw[sc]at J;have v:=hc.length;have hvl:R vs.toList=vs.size:=F
  have N:(a.eval y).cells.size=n:=by rw[←H,v];simp
  have q:R (a.eval y).cells.toList=n:=by rw[←v,H]
  have i:=run_storeCells_at E.P b o V (a.eval y).cells.toList 0 vs w h2 (by simp;omega) ho;simp only[bγ]at i;refine⟨w.setRow b (vs.toList.take o++(a.eval y).cells.toList++vs.toList.drop (o+R (a.eval y).cells.toList)).toArray,?_,IC hb hY h1 rfl rfl rfl F λj g=>setRow_other w b j _ g,Holds.Tp (Z9.ZV _) ?_⟩
  ·simp[execOp,h0,Instr.storeAt,Instr.sureAddr,storeVar,ht.size,N,i]
  refine g.Ue (Mem.le_refl _) (λ_ _ _ _ _ e=>e) (λj g _=>setRow_other w b j _ g) (λ_ e=>e) (.inl ⟨_,hM⟩) hY ⟨h1,V,_,setRow_heap w b vs _ V _ h2,?_⟩;rw[q];have hc2l:=A.length;have qk:R (xs.take o++((Yv u).map xI++xs.drop (o+n)))=R xs:=by simp only[Zs,sc,vd,Zx,H];omega
  simp only[m7];rw[qk,K8 q f I];exact(O.take o).append<|A.append<|O.drop<|o+n
def S.hlen{b:Option Addr}(hs:Qh E.P t e sz)(g:n<=maxLen)(i:Gd q0 s jn rg)(hd:ca E d=true)(f:YO s x (.raw<|.slice b n vz) r1):
 Zb E q0 ⟨some d,.call {callee:=.builtin .len,args:=#[x],argTypes:=#[t]},ty,v9,v4,jn⟩ s (rg++r1) [(d,.int .i64 n)] []:=S.rslen (r:=⟨b,vz,n⟩) hs g i hd f
end
theorem CF:∀{L1 L2:List Uv}{D:Nat->Bool}(s:St)(_:R L1=R L2)(_:∀j,D j=true->L1[j]?=L2[j]?),K9 L1 D s=K9 L2 D s/\∀U,uD L1 D U=uD L2 D U
 |[],[],_,_,_,_=>⟨rfl,λ_=>rfl⟩
 |b1::L1,b2::L2,D,s,hl,hj=>by
  have b:=λs=>CF (L1:=L1) (L2:=L2) (D:=λj=>D<|j+1) s (by grind) (λj f=>by grind)
  cases f:D 0 with
  |false=>exact⟨by simp_all[K9],λU=>by rw[uD,uD,f];exact(b s).2 _⟩
  |true=>
   have e:b1=b2:=by grind
   subst e;exact⟨by simp_all[K9],λU=>by rw[uD,uD];exact(b s).2 _⟩
 |[],_::_,_,_,hl,_=>by simp at hl
 |_::_,[],_,_,hl,_=>by simp at hl
variable{ι:Type}
variable{U U':bc}
section
variable{E:Env}{l:List Oper}{s:St}
theorem gy(v:ι){x:Nat}{ox:Oper}{rd:St}{wr:ι->St}{al:bc}{A:ι->List Uv}{sq:ι->St}(h:∀q,LxS E l.toArray (some x) l U s (A q) U'<|sq q)(hc:∀q,SG l (A q)=true)
  (Z:∀q q' j,j≠x->j<R l->((yl l []).getD j 0).testBit x=false->(A q)[j]?=(A q')[j]?) (hx:∀q,(A q)[x]?=some ⟨rd,wr q,al⟩) (O:l[x]?=some ox) (hX:vD E l.toArray ox rd wr al)
  (Q:Exit->Act->World->Prop) (hQ:∀q a w,Good E U' (sq q) a w->Q .normal a w):
  ∀(f:Nat)(b:Array Bool)(a:Act)(w:World),b.size=R l->Aw b.toList<=f->NF l (λj=>b.getD j false)->b.getD x false=false->
   Good E (uD (A v) (λj=>b.getD j false) U) (K9 (A v) (λj=>b.getD j false) s) a w->wpAnyIn E.ac 0 E.P .any l.toArray Q f b a w:=by
 have hdown:NJ 0 l=true:=by
  have:=hc v;simp_all[SG]
 have hxl:x<R l:=(ae.1 O).1;have fin:∀(b:Array Bool),b.size=R l->b.getD x false=false->Region.ready .any l.toArray b≠[]:=by
  grind [FZ]
 intro f
 induction f with
 |zero=>
  grind [Bb]
 |succ f ih=>
  intro b a w G hun C hj hg;refine⟨λhr=>absurd hr<|fin b G hj,λi hi=>?_⟩;obtain⟨h0,o,ho,hedges⟩:=mem_ready.1 hi;have hil:i<R l:=by grind
  have B:l[i]?=some o:=by grind
  have X:i<b.size:=I
  obtain⟨c,p,g⟩:=hg;have hsame:∀q,K9 (A q) (λj=>b.getD j false) s=K9 (A v) (λj=>b.getD j false) s/\uD (A q) (λj=>b.getD j false) U=uD (A v) (λj=>b.getD j false) U:=λq=>by
   have:=CF (D:=λj=>b.getD j false) (L1:=A q) (L2:=A v) s (by rw[(h q).length,(h v).length]) (λj hjd=>by
    have V:j<R l:=by
     grind
    have hjx:j≠x:=λe=>by simp_all
    refine Z q v j hjx V ?_;cases hb:((yl l []).getD j 0).testBit x with
    |false=>rfl
    |true=>
     have hD:=T7 C l [] [] rfl rfl F j x hb V λo' H e he hb=>C j o' H hjd e he hb;simp_all)
   simp_all
  by_cases W:i=x
  ·subst W;rw[B]at O;cases O;obtain⟨p1,p2,_⟩:=O1 (h v) (hc v) G C p g hi B<|hx v;refine WA ho<|hX _ c a w p p1 p2 _ Q ?_;intro q c' a' T hb' J S;obtain⟨_,_,p3⟩:=O1 (h q) (hc q) G C (by simp_all) (λvy y hy=>g vy y<|by simp_all) hi B<|hx q;obtain⟨q1,q2,q3⟩:=p3 c' a' T (by grind) J S;refine td (h q) (hc q) Q (hQ q) f _ a' T (by grind) I q1 (λy hy=>?_) q3;cases hy;simp[X]
  have hbi:(A v)[i]?=some ((A v)[i]'(by have:=(h v).length;omega)):=Zv _;obtain⟨o',H,N,_,_⟩:=(h v).at' i _ hbi;rw[B]at H;cases H;obtain⟨p1,p2,p3⟩:=O1 (h v) (hc v) G C p g hi B hbi;refine WA ho (N (λe=>W<|by cases e;rfl) _ c a w p p1 p2 _ Q ?_);intro c' a' T hb' _ J S;obtain⟨q1,q2,q3⟩:=p3 c' a' T hb' J S;refine ih _ a' T (by grind) I q1 ?_ q3;simp_all
end
inductive Da(E:Env)(all:Array Oper)(rd wr:St)(al:bc):Option Nat->List Oper->bc->St->List Uv->bc->St->Prop
 |nil {U:bc} {s:St}:Da E all rd wr al none [] U s [] U s
 |cons {o:Oper} {k:Option Nat} {l:List Oper} {U U':bc} {s s':St} {L:List Uv} {rd2 wr2:St} {al2:bc}:Step E all o rd2 wr2 al2->Yw s rd2->(al2.all λk=>!U.contains k)=true->
  Da E all rd wr al k l (al2++U) (wr2++s) L U' s'->Da E all rd wr al (k.map (· +1)) (o::l) U s (⟨rd2,wr2,al2⟩::L) U' s'
 |xop {o:Oper} {l:List Oper} {U U':bc} {s s':St} {L:List Uv}:Yw s rd->(al.all λk=>!U.contains k)=true->
  Da E all rd wr al none l (al++U) (wr++s) L U' s'->Da E all rd wr al (some 0) (o::l) U s (⟨rd,wr,al⟩::L) U' s'
variable{E:Env}{q0:Array Oper}
section
variable{s0 s' rd wr rd2 wr2:St}{al al2:bc}{o:Oper}{l:List Oper}{L:List Uv}{n:Nat}
def Da.cs(h:Zb E q0 o s0 rd2 wr2 al2)(b:Da E q0 rd wr al (some n) l (al2++U) (wr2++s0) L U' s')(f:(al2.all λk=>!U.contains k)=true:=by rfl):Da E q0 rd wr al (some<|n+1) (o::l) U s0 (⟨rd2,wr2,al2⟩::L) U' s':=.cons (k:=some n) h.1 h.2 f b
def Da.cn(h:Zb E q0 o s0 rd2 wr2 al2)(b:Da E q0 rd wr al none l (al2++U) (wr2++s0) L U' s')(f:(al2.all λk=>!U.contains k)=true:=by rfl):Da E q0 rd wr al none (o::l) U s0 (⟨rd2,wr2,al2⟩::L) U' s':=.cons (k:=none) h.1 h.2 f b
def Da.x(f:Yw s0 rd)(b:Da E q0 rd wr al none l (al++U) (wr++s0) L U' s')(g:(al.all λk=>!U.contains k)=true:=by rfl):Da E q0 rd wr al (some 0) (o::l) U s0 (⟨rd,wr,al⟩::L) U' s':=.xop f g b
def Da.s{k:Option Nat}(h:Da E q0 rd wr al k l U s0 L U' s'):LxS E q0 k l U s0 L U' s':=by
 induction h with
 |nil=>exact⟨rfl,λD _=>⟨rfl,rfl⟩,λi b v=>by simp at v⟩
 |cons hs p f _ g=>
  refine g.cons (λ_=>hs) (λi e q=>e ?_) p f;rw[q];rfl
 |xop p f _ g=>exact g.cons (λe=>absurd rfl e) (λi _ e=>by cases e) p f
def Da.at{k:Option Nat}(h:Da E q0 rd wr al k l U s0 L U' s'):∀x,k=some x->L[x]?=some ⟨rd,wr,al⟩:=by
 induction h with
 |nil=>intro x e;cases e
 | @cons _ k _ _ _ _ _ _ _ _ _ _ _ _ _ ih=>
   intro x e;cases k with
   |none=>cases e
   |some j=>cases e;exact ih j rfl
 |xop=>intro x e;cases e;rfl
end
def MA(x:Nat):Nat->bc->List Uv->List (Option Uv)
 |_,_,[]=>[]
 |j,[],a::l=>(if Nat.beq j x then none else some a)::MA x (j+1) [] l
 |j,c::cs,a::l=>(if c.testBit x||Nat.beq j x then none else some a)::MA x (j+1) cs l
def DL{x:Nat}:∀{L1 L2:List Uv}{cs:bc}{i:Nat},MA x i cs L1=MA x i cs L2->∀j,i+j≠x->(cs.getD j 0).testBit x=false->L1[j]?=L2[j]?
 |[],[],_,_,_,_,_,_=>rfl
 |[],_::_,[],_,h,_,_,_=>by simp[MA]at h
 |[],_::_,_::_,_,h,_,_,_=>by simp[MA]at h
 |_::_,[],[],_,h,_,_,_=>by simp[MA]at h
 |_::_,[],_::_,_,h,_,_,_=>by simp[MA]at h
 |a::L1,b::L2,[],i,h,0,hj,_=>by
  simp only[MA,v6]at h;have g:Nat.beq i x=false:=by cases e:Nat.beq i x with|false=>rfl|true=>exact absurd (Nat.eq_of_beq_eq_true e) (by simpa using hj)
  simpa[g]using h.1
 |a::L1,b::L2,[],i,h,j+1,hj,hc=>by
  simp only[MA,v6]at h;simpa using DL h.2 j I (by simpa using hc)
 |a::L1,b::L2,c::cs,i,h,0,hj,hc=>by
  simp only[MA,v6]at h;have g:Nat.beq i x=false:=by cases e:Nat.beq i x with|false=>rfl|true=>exact absurd (Nat.eq_of_beq_eq_true e) (by simpa using hj)
  have f:c.testBit x=false:=by simpa using hc
  simpa[g,f]using h.1
 |a::L1,b::L2,c::cs,i,h,j+1,hj,hc=>by
  simp only[MA,v6]at h;simpa using DL h.2 j I (by simpa using hc)
variable{E:Env}{l:List Oper}{rd:St}{U:bc}{Q:bo}
def OK.Sd{U':bc}{s:St}{C:Nat}(D:E.P.follows .mixedOrders=true)(B:ι)(x:Nat){A:Oper}{wr:ι->St}{al:bc}{b:ι->List Uv}{f:ι->St}(p:l[x]?=some A)
  (N:vD E l.toArray A rd wr al) (h:∀q,Da E l.toArray rd (wr q) al (some x) l U s (b q) U'<|f q) (O:∀q,Q .normal U'<|f q) (J:∀q,SG l (b q)=true:=by intro _;kernel_rfl) (G:∀q g,MA x 0 (yl l []) (b q)=MA x 0 (yl l []) (b g):=by intro _ _;kernel_rfl):
  OK E (.region C l.toArray true) Q U s:=by
 intro a w v;refine wpIn_region_draw λt=>?_
 simp only[Region.schedule,D,cυ,if_true];refine wpAnyIn_sound _ t _ a _ ?_;refine gy B (λq=>(h q).s) J (λq g j T _ S=>DL (G q g) j I S) (λq=>(h q).at x rfl) p N _ (λq a w v=>⟨U',f q,v,O q⟩) l.toArray.size (Array.replicate l.toArray.size false) a w.drew F ?_ ?_ ?_ ?_
 ·have:∀n:Nat,Aw (List.replicate n false)=n:=by intro n;simp[Aw]
  simp[this]
 ·intro i o _ H;exfalso;have h0:false=true:=(RH l.toArray.size i).symm.trans H;cases h0
 ·exact RH _ _
 have:(λj=>(Array.replicate l.toArray.size false).getD j false)=(λ_:Nat=>false):=by
  funext j;exact RH _ j
 rw[this,RN,P0];exact v.drew
section
variable{P:Program}(w:World)
theorem Kw(base t u ty e e0:Nat)(du:TypeDesc)(i:TypeInfo)(z:Value)(size bytes:Nat)(ht:P.underlying t=some (.slice e))(hu:P.underlying u=some du)(O:Ad du)
  (hi:P.info? e=some i) (hz:i.zero=some z) (T:i.size=size) (hby:i.bytes=bytes) (hzs:z.cells.size=size)
  (v:Value) (n:Nat) (xs:List Value) (A:w.ownsRow base e0 size v n xs) (x:Value) (m:Nat) (b:List Value) (qk:∀w,(Builtin.lenOf x).run P w=.ok m w) (hl:R b=m * size)
  (hf:∀N:World,(∀p,N.cell? p=w.cell? p)->(Builtin.firstCells size m x).run P N=.ok b.toArray N) (h1:∀q∈b,q.oneCell'=true)
  (h63:n+m<=maxLen) (S:(n+m) * bytes<=140737488355328) (X:base<=w.heap.size):
  ∃Z N e1,(Builtin.append_ #[t,u] ty #[v,x]).run P w=.ok Z N/\N.ownsRow base e1 size Z (n+m) (xs++b)/\w.grownBy N v.ownBlock/\(Z.ownBlock=v.ownBlock\/(Z.ownBlock=some w.heap.size/\w.heap.size<N.heap.size/\∀k,k<w.heap.size->N.heap[k]?=w.heap[k]?))/\(m=0->Z=v)/\∃a l c,Z=.slice a l c:=by
 subst T;subst hby;have hsmall:n+m<=9223372036854775807:=by simp_all[maxLen]
 have B:R (xs++b)=(n+m) * i.size:=by rw[Zs,A.1,hl,aρ]
 have H:∀(old:Nat),(w.drew.alloc<|.cells (xs.toArray++b.toArray++Builtin.zeroCells z.cells (grownCap w (n+m) old e - (n+m))) e).ownsRow base e i.size
   (.slice (some ⟨w.heap.size,0,none⟩) (n+m)<|grownCap w (n+m) old e) (n+m) (xs++b):=by
  intro old;have hge:=grownCap_ge w (n+m) old e;have W:grownCap w (n+m) old e<=maxLen:=grownCap_le_maxLen w (n+m) old e h63;refine⟨B,.inr ⟨w.heap.size,_,_,rfl,X,heap_alloc_new w.drew _,hge,W,?_,?_⟩⟩
  ·simp only[Array.size_append,dν,size_zeroCells,hzs,A.1,hl,←aρ];simp_all
  grind
 have gby:∀(o:Obj)(u0:Option Nat),w.grownBy (w.drew.alloc o) u0:=λo u0=>⟨rfl,rfl,rfl,F,λk V _=>Below.heap_alloc w.drew o k V⟩
 rcases A.2 with⟨rfl,rfl⟩|⟨g,vz,J,rfl,hbg,hg,hnc,W,hcs,nE⟩
 ·have hx:xs=[]:=tz (by simp_all);subst hx;by_cases hm:m=0
  ·subst hm;have hn:b=[]:=tz I;subst hn;refine⟨.slice none 0 0,w,e,?_,cκ w base e i.size,⟨rfl,rfl,rfl,Zq _,λ_ _ _=>rfl⟩,.inl rfl,λ_=>rfl,none,0,0,rfl⟩;have:=hf w λ_=>rfl
   rcases O with⟨e',rfl⟩|rfl<;>simp[Builtin.append_,run_underlying ht,run_underlying hu,sizeOf,typeInfo,hi,qk,this]
  have D:¬(9223372036854775807<(m:Int)):=I
  have G:¬(281474976710656<Builtin.nextslicecap m 0 * i.bytes):=by rw[nextslicecap_zero I];grind
  have hgr:=H 0;simp only[wc,bε,Array.empty_append]at hgr⊢;refine⟨.slice (some ⟨w.heap.size,0,none⟩) m<|grownCap w m 0 e,w.drew.alloc<|.cells (b.toArray++Builtin.zeroCells z.cells (grownCap w m 0 e - m)) e,e,?_,hgr,gby _ _,.inr ⟨rfl,F,λk V=>Below.heap_alloc w.drew _ k V⟩,λh=>absurd h hm,_,_,_,rfl⟩;have C:=hf w.drew λ_=>rfl
  rcases O with⟨e',rfl⟩|rfl<;>simp[Builtin.append_,run_underlying ht,run_underlying hu,sizeOf,typeInfo,zeroValue,hi,hz,qk,hm,D,G,Question.forced,run_firstCells_none,C,newRow,grownCap]
 by_cases f:n+m<=vz
 ·have hfit:n * i.size+R b<=J.size:=by rw[hl,hcs,←aρ];exact m8 _ f
  have C:=hf w λ_=>rfl
  have hst:=run_storeCells_at P g (n * i.size) e0 b 0 J w hg I h1;simp only[bγ]at hst;refine⟨.slice (some ⟨g,0,none⟩) (n+m) vz,w.setRow g (J.toList.take (n * i.size)++b++J.toList.drop (n * i.size+R b)).toArray,e0,?_,
   ⟨B,.inr ⟨g,vz,_,rfl,hbg,setRow_heap w g J _ e0 _ hg,f,W,?_,?_⟩⟩,⟨rfl,rfl,rfl,F,λk _ V=>setRow_other w g k _ λe=>V<|by simp[Value.ownBlock,e]⟩,.inl rfl,(λh=>by subst h;rfl),_,_,_,rfl⟩
  ·rcases O with⟨e',rfl⟩|rfl<;>simp[Builtin.append_,run_underlying ht,run_underlying hu,sizeOf,typeInfo,hi,qk,f,C,Addr.add_lit,hst]
  all_goals grind
 have holds:∀j u,xs[j]?=some u->w.cell? ((⟨g,0,none⟩:Addr).add j)=some u:=A.cells (g:=g) rfl;have hn:¬(n+m<=vz):=f;have D:¬(9223372036854775807<((n:Int)+(m:Int))):=I
 have h48:=growslice_fits (need:=n+m) (old:=vz) (bytes:=i.bytes) I S;have G:¬(281474976710656<Builtin.nextslicecap (n+m) vz * i.bytes):=I
 have C:=hf w.drew λ_=>rfl
 have hfo:=run_firstCells_some (P:=P) w.drew i.size n ⟨g,0,none⟩ n vz xs A.1 (by simp_all);refine⟨_,_,e,?_,H vz,gby _ _,.inr ⟨rfl,F,λk V=>Below.heap_alloc w.drew _ k V⟩,(λh=>I),_,_,_,rfl⟩;rcases O with⟨e',rfl⟩|rfl<;>(simp[Builtin.append_,run_underlying ht,run_underlying hu,sizeOf,typeInfo,zeroValue,hi,hz,qk,hn,D,G,Question.forced,C,hfo,newRow,grownCap];grind)
end
variable{qr:List bi}{i:Nat}{y:Value}
section
variable{P:Program}{t u e sz bytes m:Nat}{du:TypeDesc}{h:Mem}{Y:Nat->Prop}{w:World}
def vK(N:RP P t e sz bytes)(hu:P.underlying u=some du)(F:Ad du){T:TypeId}{xs:List Value}(C:w.ownsRow 0 T sz hd n xs){f:List Value}(h1:∀q∈f,q.oneCell'=true)(hl:R f=m * sz)(n2:∀w,(Builtin.lenOf y).run P w=.ok m w)
  (W:∀g:World,(∀p,g.cell? p=w.cell? p)->(Builtin.firstCells sz m y).run P g=.ok f.toArray g) (hm0:0<m) (H:(n+m) * bytes<=140737488355328) (G:n+m<=maxLen):
  ∃b vz v I g,(Builtin.append_ #[t,u] ty #[hd,y]).run P w=.ok (.slice (some ⟨b,0,none⟩) (n+m) vz) g/\g.heap[b]?=some (.cells v I (0,0))/\n+m<=vz/\vz<=maxLen/\v.size=vz * sz/\v.toList.take ((n+m) * sz)=xs++f/\
   (g.os=w.os/\g.tape=w.tape/\g.output=w.output/\w.heap.size<=g.heap.size)/\((hd.ownBlock=some b/\∀k,k≠b->k<w.heap.size->g.heap[k]?=w.heap[k]?)\/(b=w.heap.size/\∀k,k<w.heap.size->g.heap[k]?=w.heap[k]?)):=by
 obtain⟨i,O,i1,i2,i3,Z,X⟩:=N.ex;obtain⟨v',g,I,V,S,B,A,_,_⟩:=Kw (P:=P) w 0 t u ty e T du i O sz bytes N.OA hu F i1 i2 i3 Z X hd n xs C y m f n2 hl W h1 G H<|Zr _;rcases S.2 with⟨_,h0⟩|⟨b,vz,v,rfl,_,f1,f2,f3,f4,f5⟩
 ·omega
 refine⟨b,vz,v,I,g,V,f1,f2,f3,f4,f5,⟨B.os,B.tape,B.output,B.size⟩,?_⟩;rcases A with A|⟨A,_,q5⟩
 ·have J:hd.ownBlock=some b:=A.symm;exact .inl ⟨J,λk hk D=>B.block k D<|by simp_all⟩
 have J:b=w.heap.size:=aγ A;simp_all
theorem O0{cur:Array Value}{T:TypeId}{xs:List Value}(p:w.heap[b]?=some (.cells cur T (0,0)))(g:cur.toList.take n=xs)(f:xs[i]?=some v):w.cell? ⟨b,i,none⟩=some v:=by
 grind [World.cell?]
def vL{p:Addr}(g:p.block=b)(f:p.spot=none):p=⟨b,p.off,none⟩:=by cases p;simp_all
variable{K:Type}[DecidableEq K]
theorem Z9.app(hA:RP P t e sz bytes)(hu:P.underlying u=some du)(hdu:Ad du){M:HM K}{k0:K}(hj:Z9 M h Y w)(hw:∀p v,h p=some v->w.cell? p=some v)(hY:∀b,Y b->b<w.heap.size)(hgr:Vk M k0 hd sz vi){A:List Value}
  (n1:Z1 (ZR h) qr.flatten A) (n2:∀w,(Builtin.lenOf y).run P w=.ok m w) (n4:∀g:World,(∀p,g.cell? p=w.cell? p)->(Builtin.firstCells sz m y).run P g=.ok A.toArray g) (hr2:∀q∈qr,R q=sz) (hm:R qr=m) (hm0:0<m) (hbd:(R vi+m) * bytes<=140737488355328) (hbm:R vi+m<=maxLen):
  ∃b vz g N,(Builtin.append_ #[t,u] ty #[hd,y]).run P w=.ok (.slice (some ⟨b,0,none⟩) (R vi+m) vz) g/\V7 h Y w N (λx=>Y x\/x=b) g/\Z9 (M.set k0<|some (b,.Te sz vz<|vi++qr)) N (λx=>Y x\/x=b) g:=by
 obtain⟨T,xs,V,hxs,X,H⟩:∃T xs,w.ownsRow 0 T sz hd (R vi) xs/\Z1 (ZR h) vi.flatten xs/\(∀r∈vi,R r=sz)/\∀b,hd.ownBlock=some b->Y b/\(∃x,M k0=some (b,x))/\(∀i,R vi * sz<=i->h ⟨b,i,none⟩=none)/\∀(i:Nat)(v:Value),xs[i]?=some v->h ⟨b,i,none⟩=some v:=by
  rcases hgr with⟨rfl,rfl,_⟩|⟨b,vz,rfl,hM⟩
  ·exact⟨0,[],⟨F,.inl ⟨rfl,rfl⟩⟩,Zo,(λ_ h=>by cases h),λb e=>by cases e⟩
  obtain⟨hYb,g1,⟨g2,g3,g4⟩,T,vs,g5,g6,g7,g8⟩:=hj.1 k0 b _ hM;refine⟨T,vs.toList.take<|R vi * sz,⟨?_,.inr ⟨b,vz,vs,rfl,Zr _,g5,g2,g3,g6,rfl⟩⟩,g7,g4,λb' e=>?_⟩
  ·simp_all
  cases e;simp_all
 have hfl2:R A=m * sz:=by rw[←n1.length,YM hr2,hm]
 have hxl:=V.1;obtain⟨b,vz,cur,e1,g,q1,q2,q3,q4,q5,q6,⟨o1,o2,o3,o4⟩,q7⟩:=vK hA hu hdu V (SY n1) hfl2 n2 n4 hm0 hbd hbm;have G:∀(i:Nat)(v:Value),(xs++A)[i]?=some v->g.cell? ⟨b,i,none⟩=some v:=λi v O=>O0 q2 q6 O
 have hnb:∀i,R vi * sz<=i->h ⟨b,i,none⟩=none:=by
  intro i hi;rcases q7 with⟨f1,_⟩|⟨rfl,_⟩
  ·exact(H b f1).2.2.1 i hi
  cases hh:h ⟨w.heap.size,i,none⟩with
  |none=>rfl
  |some v=>have:=block_lt_of_cell<|hw _ _ hh;simp at this
 have S:∀(i:Nat)(v:Value),h ⟨b,i,none⟩=some v->xs[i]?=some v:=by
  intro i v O;rcases q7 with⟨f1,_⟩|⟨rfl,_⟩
  ·have C:i<R xs:=by
    rcases w7 i (R xs) with J|J
    ·exact J
    rw[hnb i I]at O;cases O
   have:=(H b f1).2.2.2 i _<|Zv C;rw[O]at this;rw[Zv C];exact this.symm
  have:=block_lt_of_cell<|hw _ _ O;simp at this
 have D:∀k,k≠b->k<w.heap.size->g.heap[k]?=w.heap[k]?:=λk hk C=>q7.elim (λf=>f.2 k hk C) λf=>f.2 k C
 obtain⟨N,hh'⟩:∃N:Mem,N=λp=>if p.block=b/\p.spot=none/\p.off<(R vi+m) * sz then g.cell? p else h p:=⟨_,rfl⟩
 have hin:∀p v,N p=some v->h p=some v\/(p.block=b/\g.cell? p=some v):=by
  intro p v B;rw[hh']at B;dsimp only at B;split at B
  ·rename_i hc;exact .inr ⟨hc.1,B⟩
  exact .inl B
 have xf:Mem.le h N:=by
  intro p v B;rw[hh'];dsimp only;split
  ·rename_i hc;rw[vL hc.1 hc.2.1]at B⊢;have J:=S _ _ B;exact G _ _ (by rw[m6 (ae.1 J).1];exact J)
  exact B
 have hw':∀p v,N p=some v->g.cell? p=some v:=by
  intro p v B;rcases hin p v B with J|J
  ·have h2:=hw p v J;by_cases hb:p.block=b
   ·have Z:=Pv h2;rw[hb]at Z;rw[Z]at J⊢;have h3:=S _ _ J;exact G _ _ (by rw[m6 (ae.1 h3).1];exact h3)
   rw[cα<|D _ hb<|block_lt_of_cell h2];exact h2
  exact J.2
 have hbb:Y b\/w.heap.size<=b:=q7.elim (λf=>.inl (H b f.1).1) λf=>.inr I
 refine⟨b,vz,g,N,q1,⟨⟨o1,o2,o3,o4,λk hk W=>?_⟩,xf,λp v B=>?_,hw',λk W=>?_,λk W C=>?_⟩,?_⟩
 ·grind
 ·grind
 ·grind
 ·grind
 refine hj.Ue xf (λk hk W o v B=>?_) (λk hk W=>D k hk<|hY k W) (λ_ e=>.inl e) ?_ (.inr rfl) ⟨λi hi=>?_,⟨by simp_all,q4,λr hr=>(List.mem_append.1 hr).elim (X r)<|hr2 r⟩,e1,cur,q2,q5,?_,?_⟩
 ·simp_all
 ·grind
 ·grind
 ·rw[Zs,hm,q6,aω];exact(hxs.append n1).mono λ_ _=>ZR.mono xf
 intro i v O;rw[Zs,hm,q6]at O;grind
theorem Z9.appR(hA:RP P t e sz bytes)(hu:P.underlying u=some du)(hdu:Ad du){M:HM K}{O:K}(hj:Z9 M h Y w)(hw:∀p v,h p=some v->w.cell? p=some v)(hY:∀b,Y b->b<w.heap.size)(hgr:TL M O hd sz vi){g:List Value}
  (X:Z1 (ZR h) qr.flatten g) (n2:∀w,(Builtin.lenOf y).run P w=.ok m w) (n4:∀A:World,(∀p,A.cell? p=w.cell? p)->(Builtin.firstCells sz m y).run P A=.ok g.toArray A) (H:∀q∈qr,R q=sz) (hm:R qr=m) (hm0:0<m) (hbd:(R vi+m) * bytes<=140737488355328) (hbm:R vi+m<=maxLen):
  ∃b vz A,(Builtin.append_ #[t,u] ty #[hd,y]).run P w=.ok (.slice (some ⟨b,0,none⟩) (R vi+m) vz) A/\V7 h Y w h (λx=>Y x\/x=b) A/\Z9 (M.set O<|some (b,.row sz vz<|vi++qr)) h (λx=>Y x\/x=b) A:=by
 obtain⟨T,xs,J,Z,G,B⟩:∃T xs,w.ownsRow 0 T sz hd (R vi) xs/\Z1 (ZR h) vi.flatten xs/\(∀r∈vi,R r=sz)/\∀b,hd.ownBlock=some b->Y b/\(∃x,M O=some (b,x))/\(∀i,h ⟨b,i,none⟩=none):=by
  rcases hgr with⟨rfl,rfl,_⟩|⟨b,vz,rfl,hM⟩
  ·exact⟨0,[],⟨F,.inl ⟨rfl,rfl⟩⟩,Zo,(λ_ h=>by cases h),λb e=>by cases e⟩
  obtain⟨hYb,g1,⟨g2,g3,g4⟩,T,vs,g5,g6,g7⟩:=hj.1 O b _ hM;refine⟨T,vs.toList.take<|R vi * sz,⟨?_,.inr ⟨b,vz,vs,rfl,Zr _,g5,g2,g3,g6,rfl⟩⟩,g7,g4,λb' e=>?_⟩
  ·simp_all
  cases e;simp_all
 have N:R g=m * sz:=by rw[←X.length,YM H,hm]
 obtain⟨b,vz,cur,e1,A,q1,q2,q3,q4,q5,q6,⟨o1,o2,o3,o4⟩,W⟩:=vK hA hu hdu J (SY X) N n2 n4 hm0 hbd hbm;have hnb:∀i,h ⟨b,i,none⟩=none:=by
  intro i;rcases W with⟨f1,_⟩|⟨rfl,_⟩
  ·exact(B b f1).2.2 i
  cases hh:h ⟨w.heap.size,i,none⟩with
  |none=>rfl
  |some v=>have:=block_lt_of_cell<|hw _ _ hh;simp at this
 have D:∀k,k≠b->k<w.heap.size->A.heap[k]?=w.heap[k]?:=λk V C=>W.elim (λf=>f.2 k V C) λf=>f.2 k C
 have hbb:Y b\/w.heap.size<=b:=W.elim (λf=>.inl (B b f.1).1) λf=>.inr I
 refine⟨b,vz,A,q1,⟨⟨o1,o2,o3,o4,λk V S=>?_⟩,Mem.le_refl _,λp v hp=>.inl hp,λp v hp=>?_,λk S=>?_,λk S C=>?_⟩,?_⟩
 ·grind
 ·grind [Pv,World.cell?_of_block,block_lt_of_cell]
 ·grind
 ·grind
 refine hj.Ue (Mem.le_refl _) (λ_ _ _ _ _ e=>e) (λk V S=>D k V<|hY k S) (λ_ e=>.inl e) ?_ (.inr rfl) ⟨hnb,⟨by simp_all,q4,λr hr=>(List.mem_append.1 hr).elim (G r)<|H r⟩,e1,cur,q2,q5,?_⟩
 ·grind
 rw[Zs,hm,q6,aω];exact Z.append X
end
variable{a:Act}{bytes j k m:Nat}{J:bm}
variable{s:St}{x:Operand}
section
variable{y:Operand}
def S.j8{T:Nat}{u:X}(O:Nat.blt k 1000=true)(V:Gd q0 s jn rg)(hd:(Nat.blt d 1000&&Nat.blt d E.nt)=true)(C:YO s x u r)(g:Qj u=true)(A:E.fs.contains k=false:=by rfl):
  Zb E q0 ⟨some d,.box T x,ty,v9,v4,jn⟩ s (rg++r) ((d,.Wt k 1 0)::[(2000+k,.W8 (R<|Yv u) [] (Yv u) [])]) [k]:=
 Zb.mk V hd rfl C.looks λU c a w W N B=>by
  rw[rb]at O;have i:k∉U:=B k F;have D:=(Ux (C.rep (c:=c) (a:=a) (w:=w) N) g).1;have b:=D.length;have hB:=Ww w<|.cells (a.eval x).cells T;obtain⟨g1,g2,J,Z⟩:=W.NQ (k:=k) (KT A) i (n:=1) (v:=.slice (some ⟨w.heap.size,0,none⟩) 1 1) hB (.inr ⟨rfl,by show w.heap.size<(w.heap.push _).size;rw[Array.size_push];omega⟩);refine⟨.pointer<|some ⟨w.heap.size,0,none⟩,_,w.alloc<|.cells (a.eval x).cells T,?_,g1,g2,⟨1,_,true,J,Zq _,λ_=>⟨_,_,_,rfl,rfl⟩⟩,?_,?_⟩
  ·simp[execOp,Instr.box,newVar,newRow]
  ·intro p H;simp only[pi]at H;subst H;refine Holds.n9 (n:=1) (e:=T) (vs:=(a.eval x).cells.toList) (v1:=[]) (v2:=(a.eval x).cells.toList) (v3:=[]) I rfl J ⟨by rw[b];omega,.inr ⟨w.heap.size,1,(a.eval x).cells,rfl,Zr _,heap_alloc_new w _,Zq _,by unfold maxLen;omega,by rw[b];simp,?_⟩⟩ ?_ F trivial (D.mono λ_ _=>Zc.mono g2) trivial
   ·rw[b,cβ];exact sg<|Zq _
   intro q G;simp at G;subst G;rfl
  intro vy u f _ g;exact Z vy u f g
structure x8(E:Env)(all:Array Oper)(o:Oper)(s:St){ι:Type}(rd:St)(wr:ι->St)(al:bc):Prop where
 st:vD E all o rd wr al
 lk:Yw s rd
theorem RK.xs{o:Oper}{wr:ι->St}{al:bc}(h:x8 E q0 o s rd wr al)(A:∀q,RK E q0 l (al++U) (wr q++s) Q)(I:(al.all λk=>!U.contains k)=true:=by rfl):RK E q0 (o::l) U s Q:=by
 intro k b a w C;rw[tt,bχ,wpOpsIn_cons];refine WA (by simpa using b 0) ?_;obtain⟨c,F,hh⟩:=C;refine h.st U c a w F (λp B=>hh _ _<|h.lk.all p B) (λk b=>by simp_all) _ _ λq G H g f v D=>?_
 refine A q (k+1) (λj=>?_) H g ⟨G,f,λvy x i=>?_⟩
 ·have:=b<|j+1;grind
 rw[Wz]at i;cases b:look (wr q) vy with
 |some y=>
  simp_all[XO]
 |none=>
  grind [O5]
theorem x8.mk'{op:Op}{qp:ι->X}{V:ι->bm}{ks:bc}(hd:ca E d=true)(i:MM op=false)(hl:Yw s r)(hl3:look s 3000=some (.res J))(hS:∀q,Y2<|V q)
  (hks:ks.all (λk=>!E.fs.contains k&&Nat.blt k 1000)=true)
  (h:∀(U:bc)(c:Ctx)(a:Act)(w:World),ZB E U c a w->(∀p∈r,Holds c a w p.1 p.2)->J c.h c.Y w->∃b,ZB E U b a w/\Ext c b/\(∀vy x,vy≠3000->(∀k∈ks,2000+k≠vy)->Holds c a w vy x->Holds b a w vy x)/\
   ∃(q:ι)(v:Value)(D:World)(B:Mem)(C:Nat->Prop),(execOp a.eval ⟨some d,op,ty,v9,v4,none⟩).run E.P w=.ok (.value v) D/\V7 b.h b.Y w B C D/\YG (ZL B) (qp q) v/\V q B C D):
  x8 E q0 ⟨some d,op,ty,v9,v4,none⟩ s (r++[(3000,.res J)]) (λq=>(d,qp q)::(3000,.res<|V q)::ks.map λk=>(2000+k,X.any)) []:=by
 refine⟨?_,hl.app ⟨hl3,Zo⟩⟩;simp only[Zw,rb]at hd;intro U c a w hb hr hal next Q Z
 have hw:Region.wanted (⟨some d,op,ty,v9,v4,none⟩:Oper) (yielded q0 a.tmps)=true:=rfl;obtain⟨b,T,A,O,q,v,D,B,C,G,I,H,hx⟩:=h U c a w hb (λp I=>hr p<|by simp[I]) (WW<|hr (3000,.res J) F).2;unfold T_;rw[Zn hw];refine⟨λ_ _=>trivial,?_⟩;rw[Oper.semAt_eq _ _ _ (λcl he=>by simp only at he;rw[he]at i;cases i),G];have S:Ext c ⟨B,b.loc,b.arr,C⟩:=A.trans ⟨I.le,λ_ _ e=>e,λ_ m hv lv e=>⟨m,hv,lv,e,Zq _,λ_=>rfl⟩⟩;have hdt:d<a.tmps.size:=by rw[hb.nt];exact hd.2
 refine Z q ⟨B,b.loc,b.arr,C⟩ _ D ((T.Ue I).put _ _) (λp f=>?_) λvy u hk W=>?_
 ·rcases sf.1 f with rfl|f
  ·unfold Holds;rw[Zn hd.1,XN hdt];exact H.mono<|Xn (c:=⟨B,b.loc,b.arr,C⟩) rfl
  rcases sf.1 f with rfl|f
  ·simp_all[Holds.Tp]
  grind [Holds]
 have N:d≠vy:=hk (d,qp q) F;have g:3000≠vy:=hk (3000,.res<|V q) F;have hnk:∀k∈ks,2000+k≠vy:=λk hk2=>hk (2000+k,.any)<|rl _<|rl _<|rx.2 ⟨k,hk2,rfl⟩
 by_cases h1:vy<1000
 ·refine Holds.put ?_ N _;unfold Holds at W⊢;rw[Zn h1]at W⊢;exact W.mono S
 exact(Holds.Ue T I h1 (λe=>g e.symm)<|O vy u (λe=>g e.symm) hnk W).put N _
def wX{B:Value}(G:YG c (.own j m) B)(F:Holds c a w (2000+j)<|.arr sz qr)(I:R qr=m):
  ∃b,Z1 (ZR c.h) qr.flatten b/\(∀q∈qr,R q=sz)/\(∀w,(Builtin.lenOf B).run E.P w=.ok m w)/\∀f:World,(∀p,f.cell? p=w.cell? p)->(Builtin.firstCells sz m B).run E.P f=.ok b.toArray f:=by
 subst I;obtain⟨_,m0,V,lv,S,e2,O⟩:=QU G;obtain⟨v,e',vs,g1,g2,N,J⟩:=Wp F;rw[S]at g1;cases g1;have A:=O rfl;refine⟨vs,J,N,?_,?_⟩
 ·intro T;rw[A];rcases g2.2 with⟨rfl,h0⟩|⟨g,vz,D,rfl,_⟩
  all_goals simp_all[Builtin.lenOf]
 intro f C;rw[A];rcases g2.2 with⟨rfl,h0⟩|⟨g,vz,D,rfl,G,F,h3,Z,X,W⟩
 ·have:vs=[]:=tz (by rw[g2.1,h0];simp);simp_all[Builtin.firstCells]
 exact run_firstCells_some f sz (R qr) ⟨g,0,none⟩ (R qr) vz vs g2.1 λi u H=>by rw[C];exact g2.cells (g:=g) rfl i u H
variable{K:Type}[DecidableEq K]
def S.ig{hdr:Value}{M:HM K}(N:K)(V:RP E.P t e sz bytes)(hd:ca E d=true)(O:YO s x (.raw hdr) r1)(D:Vk M N hdr sz vi)(f:YO s y (.own j m) r2)(C:look s (2000+j)=some (.arr sz qr))
  (B:look s 3000=some (.res<|Z9 M)) (T:R qr=m) (A:0<m) (H:(R vi+m) * bytes<=140737488355328) (G:R vi+m<=maxLen):
  x8 E q0 ⟨some d,.call {callee:=.builtin .append,args:=#[x,y],argTypes:=#[t,t]},ty,v9,v4,none⟩ s ((r1++(r2++[(2000+j,.arr sz qr)]))++[(3000,.res<|Z9 M)])
   (λq:Nat×Nat=>(d,.raw<|.slice (some ⟨q.1,0,none⟩) (R vi+m) q.2)::(3000,.res<|Z9<|M.set N<|some (q.1,.Te sz q.2<|vi++qr))::([]:bc).map λk=>(2000+k,X.any)) []:=
 x8.mk' hd rfl (O.looks.app<|f.looks.app ⟨C,Zo⟩) B (λ_=>Z9.ZV _) rfl λU c a w I i hj=>by
  have g:a.eval x=hdr:=O.rep (c:=c) (a:=a) (w:=w) λp v=>i p (by simp[v])
  obtain⟨J,n1,n0,n2,n4⟩:=wX (E:=E) (f.rep (c:=c) (a:=a) (w:=w) λp v=>i p<|by simp[v]) (i (2000+j,.arr sz qr) F) T;refine⟨c,I,Ext.refl c,λ_ _ _ _ h=>h,?_⟩;obtain⟨b,vz,W,h',q1,q2,Z⟩:=hj.app (P:=E.P) (ty:=ty) V V.OA Pg I.hw (λb f=>(I.Y b f).1) D n1 n2 n4 n0 T A H G;refine⟨(b,vz),_,W,h',_,?_,q2,rfl,Z⟩;simp only[execOp,resolve,invoke,builtin,Sem.run_bind,Sem.run_pure,Result.andThen_ok,bψ,ta,H2,g,q1]
def S.MH{hdr:Value}{M:HM K}(N:K)(V:RP E.P t e sz bytes)(hd:ca E d=true)(O:YO s x (.raw hdr) r1)(D:TL M N hdr sz vi)(f:YO s y (.own j m) r2)(C:look s (2000+j)=some (.arr sz qr))
  (B:look s 3000=some (.res<|Z9 M)) (T:R qr=m) (A:0<m) (H:(R vi+m) * bytes<=140737488355328) (G:R vi+m<=maxLen):
  x8 E q0 ⟨some d,.call {callee:=.builtin .append,args:=#[x,y],argTypes:=#[t,t]},ty,v9,v4,none⟩ s ((r1++(r2++[(2000+j,.arr sz qr)]))++[(3000,.res<|Z9 M)])
   (λq:Nat×Nat=>(d,.raw<|.slice (some ⟨q.1,0,none⟩) (R vi+m) q.2)::(3000,.res<|Z9<|M.set N<|some (q.1,.row sz q.2<|vi++qr))::([]:bc).map λk=>(2000+k,X.any)) []:=
 x8.mk' hd rfl (O.looks.app<|f.looks.app ⟨C,Zo⟩) B (λ_=>Z9.ZV _) rfl λU c a w I i hj=>by
  have g:a.eval x=hdr:=O.rep (c:=c) (a:=a) (w:=w) λp v=>i p (by simp[v])
  obtain⟨J,n1,n0,n2,n4⟩:=wX (E:=E) (f.rep (c:=c) (a:=a) (w:=w) λp v=>i p<|by simp[v]) (i (2000+j,.arr sz qr) F) T;refine⟨c,I,Ext.refl c,λ_ _ _ _ h=>h,?_⟩;obtain⟨b,vz,W,q1,q2,Z⟩:=hj.appR (P:=E.P) (ty:=ty) V V.OA Pg I.hw (λb f=>(I.Y b f).1) D n1 n2 n4 n0 T A H G;refine⟨(b,vz),_,W,c.h,_,?_,q2,rfl,Z⟩;simp only[execOp,resolve,invoke,builtin,Sem.run_bind,Sem.run_pure,Result.andThen_ok,bψ,ta,H2,g,q1]
end
variable{f:Nat}{vv qs:bi}
section
variable{E:Env}{U:bc}{c:Ctx}{a:Act}{w:World}
def Ctx.dead(c:Ctx)(k n:Nat)(f:Value):Ctx:=⟨c.h,c.loc,λj=>if j=k then some (n,f,false)else c.arr j,λb=>c.Y b\/f.ownBlock=some b⟩
theorem Ext.dead{k n:Nat}{b:Value}(f:c.arr k=some (n,b,true)):Ext c<|c.dead k n b:=⟨Mem.le_refl _,λ_ _ e=>e,λj m u lv e=>by
 grind [Ctx.dead]⟩
def Holds.dead{k n:Nat}{G:Value}(S:c.arr k=some (n,G,true)){vy:Nat}{x:X}(T:2000+k≠vy)(N:vy≠3000)(h0:Holds c a w vy x):Holds (c.dead k n G) a w vy x:=by
 have f:=Ext.dead S;unfold Holds at h0⊢;split at h0
 ·rename_i i;rw[Zn i];exact h0.mono f
 rename_i i;rw[Zm i];refine XH h0 λh0=>?_
 split at h0
 ·rename_i B;rw[Zn B];obtain⟨b,o,p,D,C⟩:=h0;exact⟨b,o,p,D,C.mono f⟩
 rename_i B;rw[Zm B];split at h0
 ·rename_i J;rw[Zn J];obtain⟨v,g,A,F,q,O,p,D,C⟩:=h0;have H:vy - 2000≠k:=I
  generalize vy - 2000=j at p H;exact⟨v,g,A,F,q,O.mono f,(Zm H).trans p,D,C⟩
 exact absurd h0.1 N
variable{K:Type}[DecidableEq K]{M:HM K}
def Lr(v:ZB E U c a w)(q:Z9 M c.h c.Y w)(kb:K){l:Nat}{g:HK}(A:c.arr k=some (n,.slice (some ⟨b,0,none⟩) l f,true))(p:xZ c.h w b g):Z9 (M.set kb<|some (b,g)) (c.dead k n<|.slice (some ⟨b,0,none⟩) l f).h (c.dead k n<|.slice (some ⟨b,0,none⟩) l f).Y w:=
 q.Ue (Mem.le_refl _) (λ_ _ _ _ _ e=>e) (λ_ _ _=>rfl) (λ_ e=>.inl e) (.inr λi=>(v.Y b i).2.2.2 _ _ _ A rfl) (.inr rfl) p
def nw(i:ZB E U c a w)(q:Z9 M c.h c.Y w)(kb:K)(g:k∉E.fs)(v:Holds c a w (2000+k)<|.arr sz vi)(h0:0<R vi):
  ∃b f,c.arr k=some (R vi,.slice (some ⟨b,0,none⟩) (R vi) f,true)/\ZB E U (c.dead k (R vi)<|.slice (some ⟨b,0,none⟩) (R vi) f) a w/\Z9 (M.set kb<|some (b,.row sz f vi)) (c.dead k (R vi)<|.slice (some ⟨b,0,none⟩) (R vi) f).h (c.dead k (R vi)<|.slice (some ⟨b,0,none⟩) (R vi) f).Y w:=by
 obtain⟨H,G,vs,g1,g2,A,J⟩:=Wp v;rcases g2.2 with⟨_,I⟩|⟨b,f,p,rfl,_,F,D,C,B,N⟩
 ·omega
 refine⟨b,f,g1,i.nr g1 g,Lr i q kb g1 ⟨(i.arr _ _ _ b g1 rfl).2.2.1,⟨D,C,A⟩,G,p,F,B,?_⟩⟩;simp_all
theorem OU.own{c:Ctx}{k2 n2:Nat}{b:Value}(e:∃lv,c.arr k2=some (n2,b,lv)){x:X}(i:x=.own k2 n2){v:Value}(h:Zc c x v)(p:b.oneCell'=true):ZR c.h (.raw b) v:=by
 subst i;obtain⟨g,e⟩:=e;obtain⟨_,m,A,lv,f,_,q⟩:=(h:Xw c (.own k2 n2) v);rw[e]at f;cases f;exact ZR.Iu (q rfl) p
def OU(k2 n2:Nat)(f:Value):bi->bi->Prop:=Z1 λx b=>(bS x=true/\b=xI x)\/(x=.own k2 n2/\b=.raw f)
theorem OU.rep{k2 n2:Nat}{b:Value}(e:∃lv,c.arr k2=some (n2,b,lv))(p:b.oneCell'=true):∀{xs xs':bi},OU k2 n2 b xs xs'->∀{vs:List Value},Z1 (Zc c) xs vs->Z1 (ZR c.h) xs' vs
 |[],[],_,vs,h=>h.YN▸trivial
 |x::xs,x'::xs',hc,vs,h=>by
  obtain⟨v,f,rfl,q,i⟩:=h.YU;refine⟨?_,OU.rep e p hc.2 i⟩;rcases hc.1 with⟨g,rfl⟩|⟨g,rfl⟩
  all_goals grind [H_of,OU.own]
 |[],_::_,hc,_,_=>hc.elim
 |_::_,[],hc,_,_=>hc.elim
def HQ(i:ZB E U c a w)(B:Z9 M c.h c.Y w)(kb:K)(g:k∉E.fs)(D:Holds c a w (2000+k)<|.W8 sz [] vv [])(C:∀vs,Z1 (Zc c) vv vs->Z1 (ZR c.h) qs vs):
  ∃b f,c.arr k=some (1,.slice (some ⟨b,0,none⟩) 1 f,true)/\ZB E U (c.dead k 1<|.slice (some ⟨b,0,none⟩) 1 f) a w/\Z9 (M.set kb<|some (b,.box qs)) (c.dead k 1<|.slice (some ⟨b,0,none⟩) 1 f).h (c.dead k 1<|.slice (some ⟨b,0,none⟩) 1 f).Y w:=by
 obtain⟨W,V,S,vs,g1,g2,g3,A,T,v,Z,I,q,H⟩:=OX D;rcases g2.2 with⟨_,G⟩|⟨b,f,p,rfl,_,J,f2,f3,f4,f5⟩
 ·simp at G
 have O:A=[]:=I.YN;have N:v=[]:=H.YN;subst O N;have F:=C _ q;refine⟨b,f,g1,i.nr g1 g,Lr i B kb g1 ⟨(i.arr _ _ _ b g1 rfl).2.2.1,S,p,J,?_⟩⟩;have X:R qs=sz:=by rw[F.length,←q.length];simp_all
 simp_all
omit [DecidableEq K]
theorem Vk.other[DecidableEq K]{k kb:K}(f:Vk M k hd sz vi)(b:k≠kb)(p:Option<|Nat×HK):Vk (M.set kb p) k hd sz vi:=by
 grind [Vk,HM.set]
end
section
variable{y:Operand}[DecidableEq K]
def w8{l cp:Nat}{B:Value}(H:YG c (.own j 1) B)(G:Holds c a w (2000+j)<|.W8 1 [] [.Wt k 1 0] [])(e:∃lv,c.arr k=some (1,.slice (some ⟨b,0,none⟩) l cp,lv)):
  Z1 (ZR c.h) [[X.raw<|.pointer<|some ⟨b,0,none⟩]].flatten [Value.pointer<|some ⟨b,0,none⟩]/\(∀w,(Builtin.lenOf B).run E.P w=.ok 1 w)/\∀f:World,(∀p,f.cell? p=w.cell? p)->(Builtin.firstCells 1 1 B).run E.P f=.ok [Value.pointer<|some ⟨b,0,none⟩].toArray f:=by
 obtain⟨_,m0,hv,lv,e1,e2,e3⟩:=QU H;obtain⟨hk,hv',e',vs,g1,g2,g3,N,v2,J,I,g5,g6,g7⟩:=OX G;simp only[aυ,wc]at g1 g2;rw[e1]at g1;cases g1;have q:=e3 rfl;have W:N=[]:=g5.YN;have V:J=[]:=g7.YN;subst W V;obtain⟨v,A,rfl,T,S⟩:=g6.YU;have O:A=[]:=S.YN;subst O;obtain⟨lv0,e⟩:=e;obtain⟨m,hv2,lv2,F,p2,p3⟩:=(T:Xw c (.Wt k 1 0) v);rw[e]at F;cases F;obtain⟨b',l',cp',Z,rfl⟩:=p3 rfl;cases Z;simp only[bε,i8]at I;subst I;refine⟨⟨ZR.raw _ rfl,Zo⟩,λw2=>?_,λf C=>?_⟩
 ·rw[q];rcases g2.2 with⟨rfl,h0⟩|⟨g,vz,D,rfl,_⟩
  all_goals simp_all[Builtin.lenOf]
 rw[q];rcases g2.2 with⟨rfl,h0⟩|⟨g,vz,D,rfl,H,G,h3,h4,h5,h6⟩
 ·omega
 exact run_firstCells_some f 1 1 ⟨g,0,none⟩ 1 vz _ g2.1 λi u hu=>by rw[C];exact g2.cells (g:=g) rfl i u hu
variable{M:HM K}{t e bytes j k:Nat}{hdr:Value}{vi:List bi}
def S.ey(C kb:K)(hA:RP E.P t e 1 bytes)(hd:ca E d=true)(hx:YO s x (.raw hdr) r1)(hgr:Vk M C hdr 1 vi)(T:C≠kb)(A:YO s y (.own j 1) r2)(O:look s (2000+j)=some (.W8 1 [] [.Wt k 1 0] []))(J:look s (2000+k)=some (.W8 sz [] vv []))
  (N:look s 3000=some (.res<|Z9 M)) (v:Nat.beq j k=false) (hc:vv.all bS=true) (hc2:vv.map xI=qs) (hbd:(R vi+1) * bytes<=140737488355328) (hbm:R vi+1<=maxLen) (f:[k].all (λk=>!E.fs.contains k&&Nat.blt k 1000)=true:=by rfl):
  x8 E q0 ⟨some d,.call {callee:=.builtin .append,args:=#[x,y],argTypes:=#[t,t]},ty,v9,v4,none⟩ s ((r1++(r2++[(2000+j,.W8 1 [] [.Wt k 1 0] []),(2000+k,.W8 sz [] vv [])]))++[(3000,.res<|Z9 M)])
   (λq:Nat×Nat×Nat=>(d,.raw<|.slice (some ⟨q.2.1,0,none⟩) (R vi+1) q.2.2)::(3000,.res<|Z9<|(M.set kb<|some (q.1,.box qs)).set C<|some (q.2.1,.Te 1 q.2.2<|vi++[[.raw<|.pointer<|some ⟨q.1,0,none⟩]]))::[k].map λk=>(2000+k,X.any)) []:=
 x8.mk' hd rfl (hx.looks.app<|A.looks.app ⟨O,J,Zo⟩) N (λ_=>Z9.ZV _) f λU c a w hb i hj=>by
  subst hc2;have V:k∉E.fs:=by
   simp only[so,Zw,zd]at f;exact KT f.1.1
  have W:2000+k≠2000+j:=fun e=>by have h1:j=k:=I
                                  rw[h1,aσ]at v;cases v
  have G:a.eval x=hdr:=hx.rep (c:=c) (a:=a) (w:=w) λp H=>i p (by simp[H])
  obtain⟨b,cp,B,g,Z⟩:=HQ hb hj kb V (i (2000+k,.W8 sz [] vv []) F) λvs h=>vA h hc;have D:YG c (.own j 1)<|a.eval y:=A.rep (c:=c) (a:=a) (w:=w) λp H=>i p (by simp[H])
  obtain⟨n1,n2,n4⟩:=w8 (E:=E) (D.mono<|Ext.dead B) (Holds.dead (a:=a) B W (by have:=OX<|i (2000+j,.W8 1 [] [.Wt k 1 0] []) F;omega)<|i (2000+j,.W8 1 [] [.Wt k 1 0] []) F) ⟨false,Zn rfl⟩;refine⟨_,g,Ext.dead B,λvy u h3 hk hu=>Holds.dead B (hk k F) h3 hu,?_⟩;obtain⟨b2,vz,w',h',q1,q2,q3⟩:=Z.app (P:=E.P) (ty:=ty) hA hA.OA Pg g.hw (λb A=>(g.Y b A).1) (hgr.other T _) n1 n2 n4 (λq hq=>by simp at hq;subst hq;rfl) rfl I hbd hbm;refine⟨(b,b2,vz),_,w',h',_,?_,q2,rfl,q3⟩;simp only[execOp,resolve,invoke,builtin,Sem.run_bind,Sem.run_pure,Result.andThen_ok,bψ,ta,H2,G,q1]
def S.aU{sz2 k2 n2:Nat}(qs:Value->bi)(J kb T:K)(hA:RP E.P t e 1 bytes)(hd:ca E d=true)(hx:YO s x (.raw hdr) r1)(hgr:Vk M J hdr 1 vi)(hkb:J≠kb)(hke:J≠T)(N:YO s y (.own j 1) r2)(hl2:look s (2000+j)=some (.W8 1 [] [.Wt k 1 0] []))(hl4:look s (2000+k)=some (.W8 sz [] vv []))
  (hl5:look s (2000+k2)=some (.arr sz2 qr)) (hn2:R qr=n2) (h0:0<n2) (hl3:look s 3000=some (.res<|Z9 M)) (f:(Nat.beq j k||Nat.beq j k2||Nat.beq k k2)=false) (hc:∀b vz,OU k2 n2 (.slice (some ⟨b,0,none⟩) n2 vz) vv<|qs<|.slice (some ⟨b,0,none⟩) n2 vz) (hbd:(R vi+1) * bytes<=140737488355328) (hbm:R vi+1<=maxLen)
  (g:[k2,k].all (λk=>!E.fs.contains k&&Nat.blt k 1000)=true:=by rfl):
  x8 E q0 ⟨some d,.call {callee:=.builtin .append,args:=#[x,y],argTypes:=#[t,t]},ty,v9,v4,none⟩ s ((r1++(r2++[(2000+j,.W8 1 [] [.Wt k 1 0] []),(2000+k,.W8 sz [] vv []),(2000+k2,.arr sz2 qr)]))++[(3000,.res<|Z9 M)])
   (λq:(Nat×Nat)×Nat×Nat×Nat=>(d,.raw<|.slice (some ⟨q.2.2.1,0,none⟩) (R vi+1) q.2.2.2)::(3000,.res<|Z9<|((M.set T<|some (q.1.1,.row sz2 q.1.2 qr)).set kb<|some (q.2.1,.box<|qs<|.slice (some ⟨q.1.1,0,none⟩) n2 q.1.2)).set J<|some (q.2.2.1,.Te 1 q.2.2.2<|vi++[[.raw<|.pointer<|some ⟨q.2.1,0,none⟩]]))::[k2,k].map λk=>(2000+k,X.any)) []:=
 x8.mk' hd rfl (hx.looks.app<|N.looks.app ⟨hl2,hl4,hl5,Zo⟩) hl3 (λ_=>Z9.ZV _) g λU c a w hb v hj=>by
  subst hn2;simp only[so,Zw,zd,wa,dχ,cν]at g f;have hk9:k∉E.fs:=KT g.2.1;have A:k2∉E.fs:=KT g.1.1;have ne1:j≠k:=λe=>by rw[e,aσ]at f;cases f.1.1
  have ne2:j≠k2:=λe=>by rw[e,aσ]at f;cases f.1.2
  have ne3:k≠k2:=λe=>by rw[e,aσ]at f;cases f.2
  have W:a.eval x=hdr:=hx.rep (c:=c) (a:=a) (w:=w) λp Z=>v p (by simp[Z])
  have D:=v (2000+j,.W8 1 [] [.Wt k 1 0] []) F;have C:=v (2000+k,.W8 sz [] vv []) F;have jlt:=(OX D).1;have klt:=(OX C).1;obtain⟨b0,H,G,hb0,hj0⟩:=nw hb hj T A (v (2000+k2,.arr sz2 qr) F) h0;have B:=Holds.dead (a:=a) G (show 2000+k2≠2000+k by omega) I C;obtain⟨b,cp,O,i,hj1⟩:=HQ hb0 hj0 kb hk9 B λvs h=>(hc b0 H).rep ⟨false,Zn rfl⟩ rfl h;have V:YG c (.own j 1)<|a.eval y:=N.rep (c:=c) (a:=a) (w:=w) λp Z=>v p (by simp[Z])
  obtain⟨n1,n2,n4⟩:=w8 (E:=E) ((V.mono<|Ext.dead G).mono<|Ext.dead O) (Holds.dead (a:=a) O I I<|Holds.dead (a:=a) G I I D) ⟨false,Zn rfl⟩;refine⟨_,i,(Ext.dead G).trans<|Ext.dead O,λvy u h3 hk hu=>Holds.dead O (hk k F) h3<|Holds.dead G (hk k2 F) h3 hu,?_⟩;obtain⟨b2,vz,w',h',q1,q2,q3⟩:=hj1.app (P:=E.P) (ty:=ty) hA hA.OA Pg i.hw (λb N=>(i.Y b N).1) ((hgr.other hke _).other hkb _) n1 n2 n4 (λq hq=>by simp at hq;subst hq;rfl) rfl I hbd hbm;refine⟨((b0,H),b,b2,vz),_,w',h',_,?_,q2,rfl,q3⟩;simp only[execOp,resolve,invoke,builtin,Sem.run_bind,Sem.run_pure,Result.andThen_ok,bψ,ta,H2,W,q1]
end
variable{u0:bi}
section
variable{M:HM K}
theorem j_{α:Type}{vi:List<|List α}(hw:∀r∈vi,R r=sz){u0:List α}{x:α}(b:vi[i]?=some u0)(g:u0[f]?=some x):vi.flatten[i * sz+f]?=some x:=by
 have p:=SL i hw b;grind
def Z9.Ki{k:K}{x u:X}(C:M k=some (b,.row sz vz vi))(A:vi[i]?=some u0)(p:u0[f]?=some x)(B:o=i * sz+f)(q:Vw M x u):∀h Y w,Z9 M h Y w->∃v,w.cell? ⟨b,o,none⟩=some v/\YG (ZL h) u v:=by
 intro h Y w g;obtain⟨_,N,⟨g1,g2,I⟩,T,vs,H,J,G⟩:=g.1 k b _ C;obtain⟨v,F,D⟩:=G.WN<|j_ I A p;refine⟨v,?_,ZR.WB (c:=ZL h)<|q.get g D⟩;subst B;exact O0 H rfl F
theorem Z9.GF{k:K}(I:M k=some (b,.row sz vz vi))(G:vi[i]?=some u0)(H:o=i * sz+f)(p:Z1 (Vw M) ((u0.drop f).take n) us)(B:R us=n):∀h Y w,Z9 M h Y w->∃vs:List Value,R vs=n/\(∀(i:Nat)(v:Value),vs[i]?=some v->w.cell? ⟨b,o+i,none⟩=some v)/\Z1 (Zc<|ZL h) us vs:=by
 intro h Y w C;obtain⟨_,X,⟨g1,g2,S⟩,T,vs,O,W,N⟩:=C.1 k b _ I;have A:=(N.drop<|i * sz+f).take n;have e:(vi.flatten.drop<|i * sz+f).take n=(u0.drop f).take n:=by
  have J:=p.length;rw[B,sc,vd]at J;have V:=SL i S G;grind [List.drop_drop,List.drop_take]
 rw[e]at A;refine⟨((vs.toList.take<|R vi * sz).drop<|i * sz+f).take n,by rw[←A.length,p.length,B],λj v g=>?_,?_⟩
 ·rw[H0]at g;split at g
  ·rw[m9]at g;subst H;exact O0 O rfl g
  cases g
 refine Z1.WI (p.length.symm.trans A.length) λj u v F D=>?_
 have q:j<R ((u0.drop f).take n):=by rw[p.length];grind
 exact ZR.Av<|(p.get (Zv q) F).get C<|A.get (Zv q) D
theorem A_{α:Type}{sz:Nat}{us:List α}{f:Nat}:∀{vi:List<|List α}(i:Nat){u0:List α},(∀r∈vi,R r=sz)->vi[i]?=some u0->f+R us<=sz->(vi.set i<|u0.take f++(us++u0.drop (f+R us))).flatten=vi.flatten.take (i * sz+f)++(us++vi.flatten.drop (i * sz+f+R us))
 |[],i,u0,_,h,_=>by simp at h
 |r::vi,0,u0,h,b,hf=>by
  grind
 |r::vi,i+1,u0,h,b,hf=>by
  have p:=h r rv;have g:=A_ (us:=us) (f:=f) i (λr b=>h r<|rl _ b) (by simpa using b) hf;rw[List.set_cons_succ,P1,P1,g];have v:(i+1) * sz+f=R r+(i * sz+f):=by grind
  have q:(i+1) * sz+f+R us=R r+(i * sz+f+R us):=I
  simp_all[cξ,dσ,sg]
end
section
variable{y:Operand}[DecidableEq K]
def S.V9{T:Nat}{u:X}{x2:List bi}{M:HM K}(H:K)(ht:W5 E.P T ag n)(hg:Gd q0 s jn rg)(hx:YO s x (.raw<|.pointer<|some ⟨b,o,none⟩) r1)(hy:YO s y u r2)(hl:look s 3000=some (.res<|Z9 M))(hM:M H=some (b,.row sz vz vi))
  (W:vi[i]?=some u0) (ho:o=i * sz+f) (hu:Qj u=true) (O:(Yv u).all bS=true) (hn:R (Yv u)=n) (D:f+n<=sz) (N:vi.set i (u0.take f++((Yv u).map xI++u0.drop (f+n)))=x2):
  Zb E q0 ⟨none,.store T x y,ty,v9,v4,jn⟩ s (rg++((r1++r2)++[(3000,.res<|Z9 M)])) [(3000,.res<|Z9<|M.set H<|some (b,.row sz vz x2))] []:=
 Zb.res hg rfl (hx.looks.app hy.looks) hl λU c a w hb C A=>by
  subst N;subst ho;have h0:a.eval x=.pointer (some ⟨b,i * sz+f,none⟩):=hx.rep (c:=c) (a:=a) (w:=w) λp hp=>C p (by simp[hp])
  obtain⟨hc,ho⟩:=Ux (hy.rep (c:=c) (a:=a) (w:=w) λp hp=>C p<|by simp[hp]) hu;have hc2:=vA hc O;obtain⟨hY,h1,⟨g1,g2,g3⟩,T',vs,h2,h3,h4⟩:=A.1 H b _ hM;have hil:i<R vi:=(ae.1 W).1;have V:R u0=sz:=g3 u0<|mr W;have G:=hc.length;have J:R vs.toList=vs.size:=F
  have hcs:(a.eval y).cells.size=n:=by rw[←hn,G];simp
  have g:R (a.eval y).cells.toList=n:=by rw[←G,hn]
  have v:R ((Yv u).map xI)=n:=by rw[Zx,hn]
  have xf:i * sz+f+n<=R vi * sz:=by
   have:=m8 sz (show i+1<=R vi from hil);rw[bρ]at this;omega
  have hle2:R vi * sz<=vz * sz:=m8 _ g1;have B:=run_storeCells_at E.P b (i * sz+f) T' (a.eval y).cells.toList 0 vs w h2 (by simp;omega) ho;simp only[bγ]at B;refine⟨w.setRow b (vs.toList.take (i * sz+f)++(a.eval y).cells.toList++vs.toList.drop (i * sz+f+R (a.eval y).cells.toList)).toArray,?_,IC hb hY h1 rfl rfl rfl F λj A=>setRow_other w b j _ A,Holds.Tp (Z9.ZV _) ?_⟩
  ·simp[execOp,h0,Instr.storeAt,Instr.sureAddr,storeVar,ht.size,hcs,B]
  refine A.Ue (Mem.le_refl _) (λ_ _ _ _ _ e=>e) (λj A _=>setRow_other w b j _ A) (λ_ e=>e) (.inl ⟨_,hM⟩) hY ⟨h1,⟨by rw[wi];exact g1,g2,λq Z=>?_⟩,T',_,setRow_heap w b vs _ T' _ h2,?_,?_⟩
  ·rcases aξ Z with Z|rfl
   ·exact g3 q Z
   simp only[Zs,sc,vd,v,V];omega
  ·simp only[dν,Zs,sc,vd,g,J];omega
  rw[g,wi];simp only[m7];rw[K8 g xf I];have e:=A_ (us:=(Yv u).map xI) (f:=f) i g3 W (by rw[v];exact D);rw[v]at e;rw[e];exact(h4.take _).append<|hc2.append<|h4.drop _
def S.hidx{z:Int}(hs:Qh E.P t e sz)(F:Gd q0 s jn rg)(hd:ca E d=true)(v:YO s x (.raw<|.slice (some ⟨b,0,none⟩) n vz) r1)(q:YO s y (.int .i64 z) r2)(C:z=i)(hi:i<n):
  Zb E q0 ⟨some d,.indexAddr t x y,ty,v9,v4,jn⟩ s (rg++(r1++r2)) [(d,.raw<|.pointer<|some ⟨b,i * sz,none⟩)] []:=
 Zb.val F hd rfl (v.looks.app q.looks) λc A w hh B=>by
  have D:A.eval x=.slice (some ⟨b,0,none⟩) n vz:=v.rep (c:=c) (a:=A) (w:=w) λp g=>B p (by simp[g])
  obtain⟨hw,_⟩:=Xq (q.rep (c:=c) (a:=A) (w:=w) λp g=>B p<|by simp[g]);subst C;refine⟨.pointer<|some ⟨b,i * sz,none⟩,?_,rfl⟩;have f:¬n<=i:=I
  simp[execOp,D,hw,Instr.indexAt,asIntOf,run_underlying hs.OA,hs.size,Ul,f]
def S.Km{p:Option Addr}(i:E.P.underlying t=some (.pointer e))(B:Gd q0 s jn rg)(hd:ca E d=true)(b:YO s x (.raw<|.pointer p) r):
  Zb E q0 ⟨some d,.binOp .eql t x (.const<|.pointer none) f,ty,v9,v4,jn⟩ s (rg++r) [(d,.bool p.isNone)] []:=
 Zb.val B hd rfl b.looks λc A w _ q=>by
  have g:A.eval x=.pointer p:=b.rep (c:=c) (a:=A) (w:=w) q;refine⟨.bool p.isNone,?_,ZR.WB<|.bool _⟩;have C:A.eval (.const<|.pointer none)=.pointer none:=rfl;have v:(eqGuard .eql t x (.const<|.pointer none) (.pointer p)<|.pointer none).run E.P w=.ok () w:=by simp[eqGuard]
  have D:(Op.equalIn Op.maxDepth t (.pointer p)<|.pointer none).run E.P w=.ok p.isNone w:=by
   rw[show Op.maxDepth=(Op.maxDepth - 1)+1 from rfl];cases p<;>simp[Op.equalIn,run_underlying i,Sem.run_bind]
  simp only[execOp,g,C,Sem.run_bind,v,Result.andThen_ok,binOp,Op.equal,D];rfl
def S.uf{p:Option Addr}(i:E.P.underlying t=some (.pointer e))(B:Gd q0 s jn rg)(hd:ca E d=true)(b:YO s x (.raw<|.pointer p) r):
  Zb E q0 ⟨some d,.binOp .neq t x (.const<|.pointer none) f,ty,v9,v4,jn⟩ s (rg++r) [(d,.bool<|!p.isNone)] []:=
 Zb.val B hd rfl b.looks λc A w _ q=>by
  have g:A.eval x=.pointer p:=b.rep (c:=c) (a:=A) (w:=w) q;refine⟨.bool<|!p.isNone,?_,ZR.WB<|.bool _⟩;have C:A.eval (.const<|.pointer none)=.pointer none:=rfl;have v:(eqGuard .neq t x (.const<|.pointer none) (.pointer p)<|.pointer none).run E.P w=.ok () w:=by simp[eqGuard]
  have D:(Op.equalIn Op.maxDepth t (.pointer p)<|.pointer none).run E.P w=.ok p.isNone w:=by
   rw[show Op.maxDepth=(Op.maxDepth - 1)+1 from rfl];cases p<;>simp[Op.equalIn,run_underlying i,Sem.run_bind]
  simp only[execOp,g,C,Sem.run_bind,v,Result.andThen_ok,binOp,Op.equal,D];rfl
end
inductive Fz{K:Type}(M:HM K):X->X->Prop
 |same (x:X) (h:BI x=true):Fz M x x
 |ZM:Fz M .ZM<|.sl []
 |nil:Fz M (.raw<|.slice none 0 0)<|.sl []
 |row {k:K} {b cap sz:Nat} {rows rows':List bi} (hM:M k=some (b,.row sz cap rows)) (hl:rows'.length=rows.length) (hw:∀r∈rows',r.length=sz) (hc:∀(i:Nat)(x x':X),rows.flatten[i]?=some x->rows'.flatten[i]?=some x'->Fz M x x'):Fz M (.raw<|.slice (some ⟨b,0,none⟩) rows.length cap)<|.sl rows'
 |Te {k:K} {b cap sz:Nat} {rows rows':List bi} (hM:M k=some (b,.Te sz cap rows)) (hl:rows'.length=rows.length) (hw:∀r∈rows',r.length=sz) (hc:∀(i:Nat)(x x':X),rows.flatten[i]?=some x->rows'.flatten[i]?=some x'->Fz M x x'):Fz M (.raw<|.slice (some ⟨b,0,none⟩) rows.length cap)<|.sl rows'
section
variable{M:HM K}
def Fz.ofGro{k:K}(v:Vk M k hd sz vi)(B:vi.all (λr=>r.all BI)=true)(hw:∀r∈vi,R r=sz):Fz M (.raw hd)<|.sl vi:=by
 rcases v with⟨rfl,rfl,_⟩|⟨b,vz,rfl,A⟩
 ·exact .nil
 refine .Te A rfl hw λi x C g f=>?_
 rw[g]at f;cases f;obtain⟨r,q,p⟩:=ai.1<|mr g;exact .same x<|bj.1 (bj.1 B r q) x p
def Fz.ofRow{k:K}{x2:List bi}(C:TL M k hd sz vi)(f:Z1 (Z1<|Fz M) vi x2)(hw:∀r∈vi,R r=sz):Fz M (.raw hd)<|.sl x2:=by
 rcases C with⟨rfl,rfl,_⟩|⟨b,vz,rfl,F⟩
 ·rw[f.YN];exact .nil
 have q:∀r∈x2,R r=sz:=λr v=>by
  obtain⟨i,hi,rfl⟩:=dl v;have g:=f.get (i:=i) (Zv<|by rw[f.length];exact hi)<|Zv hi;rw[←g.length];simp_all
 have D:∀{vi x2:List bi},Z1 (Z1<|Fz M) vi x2->Z1 (Fz M) vi.flatten x2.flatten:=by
  intro vi
  induction vi with
  |nil=>intro x2 h;rw[h.YN];trivial
  |cons r vi B=>
   intro x2 h;obtain⟨H,p,rfl,g,A⟩:=h.YU;rw[P1,P1];exact g.append<|B A
 exact .row F f.length.symm q λi x G g A=>(D f).get g A
open Classical in
noncomputable def hfz(M:HM K)(h:Mem)(w:World):Mem:=fun p=>if p.spot=none/\∃k sz vz vi,M k=some (p.block,.row sz vz vi)/\p.off<vi.length * sz then w.cell? p else h p
theorem nC{p:Addr}(e:hfz M h w p=some v):h p=some v\/((∃k sz vz vi,M k=some (p.block,.row sz vz vi))/\w.cell? p=some v):=by
 unfold hfz at e;split at e
 all_goals grind
def DU(f:Z9 M h Y w):Mem.le h<|hfz M h w:=by
 intro p v e;unfold hfz;split
 ·rename_i g;obtain⟨q,k,sz,vz,vi,i,_⟩:=g;have b:=(f.1 k _ _ i).2.1 p.off;rw[←vL rfl q,e]at b;cases b
 exact e
theorem Fz.repD(A:Z9 M h Y w){x p:X}(H:Fz M x p):∀{v:Value},ZR h x v->ZR (hfz M h w) p v:=by
 induction H with
 |same x V=>intro v r;exact r.mono<|DU A
 |ZM=>intro v r;cases r
 |nil=>intro v r;cases r;exact .I3 none 0<|Zr _
 | @row k b vz sz vi x2 hM hl hw hc ih=>
   intro v r;cases r;obtain⟨_,S,⟨g1,g2,C⟩,T,vs,G,O,g⟩:=A.1 k b _ hM;rw[←hl];have f:R x2.flatten=R (vs.toList.take<|R vi * sz):=by rw[←g.length,YM C,YM hw,hl]
   refine .sl x2 b 0 vz sz (vs.toList.take<|R vi * sz) I g2 hw f (λi v e=>?_) λi p v F D=>?_
   ·have J:=(ae.1 e).1;rw[sc]at J;have B:0+i<R vi * sz:=I
    unfold hfz;rw[Zn ⟨rfl,k,sz,vz,vi,hM,B⟩,wc];exact O0 G rfl e
   obtain⟨x,q⟩:∃x,vi.flatten[i]?=some x:=⟨_,Zv<|by rw[g.length,←f];grind⟩;exact ih i x p q F<|g.get q D
 | @Te k b vz sz vi x2 hM hl hw hc ih=>
   intro v r;cases r;obtain⟨_,S,⟨g1,g2,C⟩,T,vs,G,O,g,N⟩:=A.1 k b _ hM;rw[←hl];have f:R x2.flatten=R (vs.toList.take<|R vi * sz):=by rw[←g.length,YM C,YM hw,hl]
   refine .sl x2 b 0 vz sz (vs.toList.take<|R vi * sz) I g2 hw f (λi v e=>?_) λi p v F D=>?_
   ·rw[wc];exact DU A _ _<|N i v e
   obtain⟨x,q⟩:∃x,vi.flatten[i]?=some x:=⟨_,Zv<|by rw[g.length,←f];grind⟩;exact ih i x p q F<|g.get q D
def Fz.repC(b:Z9 M c.h c.Y w){x f:X}(i:Fz M x f)(r:Zc c x v):ZR (hfz M c.h w) f v:=by
 cases i with
 |same _ g=>exact(D_of r g).mono<|DU b
 |ZM=>have h:v=.slice none 0 0:=r;subst h;exact .I3 none 0<|Zr _
 |nil=>have h:v=.slice none 0 0:=r;subst h;exact .I3 none 0<|Zr _
 |row hM hl hw hc=>exact(Fz.row hM hl hw hc).repD b<|ZR.Iu r rfl
 |Te hM hl hw hc=>exact(Fz.Te hM hl hw hc).repD b<|ZR.Iu r rfl
def CX(M:HM K):X->X->Prop
 |.agg xs,y=>∃b,y=.agg b/\Z1 (Fz M) xs b
 |x,y=>Fz M x y
theorem CX.rep{c':Ctx}(B:c'.h=hfz M c.h w)(A:Z9 M c.h c.Y w){x f:X}(g:CX M x f)(r:YG c x v):YG c' f v:=by
 have J:∀{x f:X}{v:Value},Fz M x f->Zc c x v->YG c' f v:=λg r=>ZR.WB (c:=c') (by rw[B];exact g.repC A r)
 cases x with
 |agg xs=>
  obtain⟨b,rfl,S⟩:=g;obtain⟨vs,rfl,O⟩:=r;refine⟨vs,rfl,?_⟩;have N:∀{xs b:bi}{vs:List Value},Z1 (Fz M) xs b->Z1 (Zc c) xs vs->Z1 (Zc c') b vs:=by
   intro xs
   induction xs with
   |nil=>intro b vs p i;rw[p.YN,i.YN];trivial
   |cons x xs F=>
    intro b vs p i;obtain⟨y,C,rfl,I,H⟩:=p.YU;obtain⟨v,D,rfl,G,q⟩:=i.YU;exact⟨ZR.Av (by rw[B];exact I.repC A G),F H q⟩
  grind
 |Yy xs=>cases g;rename_i h;cases h
 |_=>exact J g r
end
variable{qf:Code}
section
variable{M:HM K}
theorem Good.QK(L:List<|Nat×X)(A:look s 3000=some (.res<|Z9 M))(N:∀p∈L,p.1<1000/\∃x,look s p.1=some x/\CX M x p.2)(J:Good E U s a w):Good E U (L++(3000,.any)::s) a w:=by
 obtain⟨c,C,hh⟩:=J;have G:=(WW<|hh _ _ A).2;have F:V7 c.h c.Y w (hfz M c.h w) c.Y w:=by
  refine⟨WV.refl _ _ _,DU G,λp v e=>?_,λp v e=>?_,λb q=>(C.Y b q).1,λ_ q _=>q⟩
  ·grind [Z9,hfz]
  rcases nC e with g|⟨_,g⟩
  ·exact C.hw p v g
  exact g
 refine⟨_,C.Ue F,λvy x f=>?_⟩;have i:Ext c ⟨hfz M c.h w,c.loc,c.arr,c.Y⟩:=⟨F.le,λ_ _ e=>e,λ_ m H lv e=>⟨m,H,lv,e,Zq _,λ_=>rfl⟩⟩;rw[Wz]at f;cases B:look L vy with
 |some y=>
  rw[B]at f;cases f;obtain⟨g,T,S,O⟩:=N _<|XO B;have D:=hh _ _ S;unfold Holds at D⊢;rw[Zn g]at D⊢;exact O.rep (c':=⟨hfz M c.h w,c.loc,c.arr,c.Y⟩) rfl G D
 |none=>
  rw[B]at f;simp only[Option.or,look]at f;split at f
  ·rename_i e;have:=Nat.eq_of_beq_eq_true e;cases f;subst this;unfold Holds;simp
  rename_i I;have h0:=hh vy x f;by_cases g:vy<1000
  ·unfold Holds at h0⊢;rw[Zn g]at h0⊢;exact h0.mono i
  grind [Holds.Ue,Nat.beq_refl]
def OK.QK(L:List<|Nat×X)(b:look s 3000=some (.res<|Z9 M))(g:∀p∈L,p.1<1000/\∃x,look s p.1=some x/\CX M x p.2)(h:OK E qf Q U<|L++(3000,.any)::s):OK E qf Q U s:=λa w f=>h a w<|f.QK L b g
end
def Df(P:Program)(Y:Nat->Prop):Prop:=∀n,Jo n->∀g,P.globalNamed n=some g->¬Y g
def U_(P:Program)(f:Nat)(fs:bc)(vj:bi)(rd wr:St)(qp:X):Prop:=
 ∀(c:Ctx)(w:World)(vs:List Value),OJ P w->Df P (c.out fs)->Pp fs c w->(∀p∈rd,∀a,Holds c a w p.1 p.2)->Z1 (YQ c) vj vs->
  Calls P f vs.toArray w λe b=>∃v g,e=.returned v/\Rj fs c w wr qp v g b
variable{fs:bc}{vj:bi}
def Vi.WB{P:Program}{wr:St}{qp:X}(h:Vi P f fs vj rd wr qp):U_ P f fs vj rd wr qp:=λc w vs _ _=>h c w vs
def U_.intro{P:Program}{nt:Nat}{fn:Func}{qf:Code}{rs:List ResultVar}{wr:St}{qp:X}(J:P.funcs[f]?=some fn)(N:fn.body=some qf)(v:fn.ntmps=nt)(F:fn.results=rs.toArray)
  (H:Nat.ble (R vj) nt=true) (D:vj.all (λx=>!X4 x)=true) (A:Nat.ble (R vj) 1000=true) (i:wr.all (SN fs)=true)
  (h:∀w c,TM (TG P nt fs w c)->OK (TG P nt fs w c) qf (den (TG P nt fs w c) (k8 (TG P nt fs w c) rs wr qp) []) fs (Uj 0 vj++rd)):U_ P f fs vj rd wr qp:=λc w vs S O B q b=>
 Vi.at J N v F H D A i w c (h w c ⟨S,λn v g I C=>by
  rcases C with C|⟨p,G,_⟩
  ·exact O n v g I C
  cases G⟩) vs B q b
def dF(E:Env)(f:Nat)(vj:bi)(qp:X)(J0 J1:bm):Prop:=
 ∀(h:Mem)(Y:Nat->Prop)(w:World)(vs:List Value),(∃U c a,ZB E U c a w/\c.Y=Y)->(∀p v,h p=some v->w.cell? p=some v)->(∀b,Y b->b<w.heap.size)->J0 h Y w->Z1 (YQ<|ZL h) vj vs->
  Calls E.P f vs.toArray w λe i=>∃v g q,e=.returned v/\V7 h Y w g q i/\J1 g q i/\YG (ZL g) qp v
variable{J0 J1:bm}
def U_.atJ'{qp:X}(hf:U_ E.P f [] vj [(3000,.res J0)] [(3000,.res J1)] qp)(hS0:Y2 J0){vs:List Value}(W:OJ E.P w)(Z:Df E.P Y)
  (hw:∀p v,h p=some v->w.cell? p=some v) (hY:∀b,Y b->b<w.heap.size) (hJ0:J0 h Y w) (B:Z1 (YQ<|ZL h) vj vs):Calls E.P f vs.toArray w λe H=>∃v O V,e=.returned v/\V7 h Y w O V H/\J1 O V H/\YG (ZL O) qp v:=by
 have A:∀b,(Ctx.mk h (λ_=>none) (λ_=>none) Y).out [] b->Y b:=by
  rintro b (C|⟨k,q,_⟩|⟨k,m,G,q,_⟩)
  all_goals simp_all
 have J:=hf ⟨h,λ_=>none,λ_=>none,Y⟩ w vs W (λn hn g hg hX=>Z n hn g hg<|A g hX)
  ⟨hw,(λk b e=>by cases e),(λk m G b e=>by cases e),(λ_ _=>⟨rfl,rfl⟩),(λb C=>⟨hY b C,(λk e=>by cases e),(λk m G e=>by cases e)⟩)⟩
  (λp T a'=>by
   simp_all[Holds.Tp])
  (B.mono λ_ _=>YQ.mono<|Xn (c:=Ctx.mk h (λ_=>none) (λ_=>none) Y) rfl)
 refine Calls.mono J ?_;rintro en H ⟨u,D,rfl,i⟩;obtain⟨_,N⟩:=WW<|i.wr (3000,.res J1) F {tmps:=#[],defers:=[]};refine⟨u,D.h,D.Y,rfl,⟨i.below.mono (Zq _) λk _ hk=>A k hk,i.le,λp v T=>(i.new p v T).imp id λq=>q.imp id<|A _,i.ok.hw,λb C=>(i.ok.Y b C).1,λb C I=>A b<|i.out b (.inl C) I⟩,N,?_⟩;refine YG.mono (c:=D) (c':=ZL D.h) ⟨Mem.le_refl D.h,λk b e=>?_,λk m G lv e=>?_⟩ i.res
 ·have S:=i.loc k b e;cases S
 obtain⟨_,_,_,S,_⟩:=i.arr k m G lv e;cases S
def U_.Tq{qp:X}(D:U_ E.P f [] vj [(3000,.res J0)] [(3000,.res J1)] qp)(p:TM E)(q:Y2 J0):dF E f vj qp J0 J1:=λh Y w vs i hw F v b=>by
 obtain⟨U,c,a,i,rfl⟩:=i;exact D.atJ' q (p.now i) (λn A g B C=>p.out n A g B<|(i.Y g C).2.1<|p.tab.lt n A g B) hw F v b
def Vi.Tq{qp:X}(V:Vi E.P f [] vj [(3000,.res J0)] [(3000,.res J1)] qp)(J:Y2 J0):dF E f vj qp J0 J1:=λh Y w vs hb hw W O B=>by
 have i:∀b,(Ctx.mk h (λ_=>none) (λ_=>none) Y).out [] b->Y b:=by
  rintro b (A|⟨k,q,_⟩|⟨k,m,D,q,_⟩)
  ·exact A
  ·cases q
  cases q
 have I:=V ⟨h,λ_=>none,λ_=>none,Y⟩ w vs
  ⟨hw,(λk b e=>by cases e),(λk m D b e=>by cases e),(λ_ _=>⟨rfl,rfl⟩),(λb A=>⟨W b A,(λk e=>by cases e),(λk m D e=>by cases e)⟩)⟩
  (λp G a'=>by
   simp only[pi]at G;subst G;exact Holds.Tp J O)
  (B.mono λ_ _=>YQ.mono<|Xn (c:=Ctx.mk h (λ_=>none) (λ_=>none) Y) rfl)
 refine Calls.mono I ?_;rintro en Z ⟨u,C,rfl,g⟩;obtain⟨_,N⟩:=WW<|g.wr (3000,.res J1) F {tmps:=#[],defers:=[]};refine⟨u,C.h,C.Y,rfl,⟨g.below.mono (Zq _) λk _ T=>i k T,g.le,λp v G=>(g.new p v G).imp id λq=>q.imp id<|i _,g.ok.hw,λb A=>(g.ok.Y b A).1,λb A H=>i b<|g.out b (.inl A) H⟩,N,?_⟩;refine YG.mono (c:=C) (c':=ZL C.h) ⟨Mem.le_refl C.h,λk b e=>?_,λk m D lv e=>?_⟩ g.res
 ·have S:=g.loc k b e;cases S
 obtain⟨_,_,_,S,_⟩:=g.arr k m D lv e;cases S
variable{xo:Array TypeId}{os:List Operand}{vt ys:bi}
section
variable{y:Operand}
def I_{J:Operand}{qp:X}(hg:Gd q0 s jn rg)(hd:ca E d=true)(hl:Yw s r)(W:∀vj w,(callFunc f vj).run E.P w=.ok (.enter f vj) w)
  (hf:dF E f (ys++vt) qp J0 J1) (hS:Y2 J1) (S:look s 3000=some (.res J0))
  (h:∀(c:Ctx)(a:Act)(w:World),(∀p∈r,Holds c a w p.1 p.2)->Z1 (YQ<|ZL c.h) ys (os.map a.eval)/\∃g:List Value,a.eval J=.func (.func f) #[] g.toArray/\Z1 (YQ<|ZL c.h) vt g):
  Zb E q0 ⟨some d,.call {callee:=.value J,args:=os.toArray,argTypes:=xo},ty,v9,v4,jn⟩ s (rg++(r++[(3000,.res J0)])) ((d,qp)::[(3000,.res J1)]) []:=by
 simp only[Zw,rb]at hd;refine⟨?_,hg.looks.app<|hl.app ⟨S,Zo⟩⟩;intro U c a w A O _ next Q hn
 have hw:=hg.wanted (o:=⟨some d,.call {callee:=.value J,args:=os.toArray,argTypes:=xo},ty,v9,v4,jn⟩) λp q=>O p<|sb _ q;obtain⟨N,g,hfo,V⟩:=h c a w λp q=>O p (by simp[q])
 unfold T_;rw[Zn hw];refine⟨λ_ _=>trivial,?_⟩;rw[Oper.semAt_eq _ _ _ λcl he=>by cases he];have B:(execOp a.eval ⟨some d,.call {callee:=.value J,args:=os.toArray,argTypes:=xo},ty,v9,v4,jn⟩).run E.P w=.ok (.enter f (os.map a.eval++g).toArray) w:=by
  simp_all[execOp,resolve,Deferred.ofValue,invoke]
 rw[B];refine⟨Z,?_⟩;obtain⟨hS0,hJ0⟩:=WW<|O (3000,.res J0) F;have I:CallsIn E.ac (0 - 1) E.P f (os.map a.eval++g).toArray w _:=(callsIn_wide (n:=0)).2<|hf c.h c.Y w _ ⟨U,c,a,A,rfl⟩ A.hw (λb v=>(A.Y b v).1) hJ0<|N.append V;refine I.mono ?_;rintro en w' ⟨u,h',Y',rfl,q,hJ1,C⟩;have i:Ext c ⟨h',c.loc,c.arr,Y'⟩:=⟨q.le,λ_ _ e=>e,λ_ m hv lv e=>⟨m,hv,lv,e,Zq _,λ_=>rfl⟩⟩;have T:d<a.tmps.size:=by rw[A.nt];exact hd.2
 refine hn ⟨h',c.loc,c.arr,Y'⟩ _ w' ((A.Ue q).put _ _) i ?_ ?_
 ·intro p D;simp only[sf,H4,or_false]at D;rcases D with rfl|rfl
  ·unfold Holds;rw[Zn hd.1,XN T];exact C.mono<|Xn (c:=⟨h',c.loc,c.arr,Y'⟩) rfl
  simp_all[Holds.Tp]
 intro vy y hk v;have H:d≠vy:=hk (d,qp) F;have G:3000≠vy:=hk (3000,.res J1) F;by_cases I:vy<1000
 ·refine Holds.put ?_ H u;unfold Holds at v⊢;rw[Zn I]at v⊢;exact v.mono i
 exact(Holds.Ue A q I (λe=>G e.symm) v).put H u
def S.VO{qp:X}(A:dF E f ys qp J0 J1)(B:Y2 J1)(b:∀vj w,(callFunc f vj).run E.P w=.ok (.enter f vj) w)(v:Gd q0 s jn rg)(hd:ca E d=true)
  (i:V5 s os ys r) (q:ys.all V3=true) (g:look s 3000=some (.res J0)):
  Zb E q0 ⟨some d,.call {callee:=.value<|.func f,args:=os.toArray,argTypes:=xo},ty,v9,v4,jn⟩ s (rg++(r++[(3000,.res J0)])) ((d,qp)::[(3000,.res J1)]) []:=
 I_ (vt:=[]) v hd i.looks b (by simpa using A) B g λ_ _ _ p=>⟨Yj (i.rep p) q,[],rfl,Zo⟩
def S.Gs{qp:X}(hf:dF E f (ys++vt) qp J0 J1)(hS:Y2 J1)(g:∀vj w,(callFunc f vj).run E.P w=.ok (.enter f vj) w)(Z:Gd q0 s jn rg)(hd:ca E d=true)
  (H:YO s x (.fn f vt) r1) (J:V5 s os ys r) (V:ys.all V3=true) (F:look s 3000=some (.res J0)) (D:vt.all (Np [])=true) (C:vt.all (λu=>!Yx u)=true):
  Zb E q0 ⟨some d,.call {callee:=.value x,args:=os.toArray,argTypes:=xo},ty,v9,v4,jn⟩ s (rg++((r1++r)++[(3000,.res J0)])) ((d,qp)::[(3000,.res J1)]) []:=
 I_ Z hd (H.looks.app J.looks) g hf hS F λc a w I=>by
  refine⟨Yj (J.rep λp i=>I p<|ui _ i) V,?_⟩;obtain⟨G,A,q⟩:=H.rep (c:=c) (a:=a) (w:=w) λp i=>I p<|sb _ i
  refine⟨G,A,?_⟩;have:∀{b:bi}{vs:List Value},Z1 (Xw c) b vs->b.all (Np [])=true->b.all (λu=>!Yx u)=true->Z1 (YQ<|ZL c.h) b vs:=by
   intro b
   induction b with
   |nil=>intro vs h _ _;exact(Z1.YN h)▸trivial
   |cons u b O=>
    intro vs h A q;obtain⟨v,N,rfl,T,B⟩:=h.YU;simp only[so,Zw,zd]at A q;refine⟨?_,O B A.2<|by simpa using q.2⟩;have i:=(T.cut A.1).mono<|UX<|Mem.le_refl c.h;have W:=q.1;cases u<;>first|exact i|cases W
  exact this q D C
end
def C0(P:Program)(f:Nat)(vj:bi)(qp:ι->X)(J:ι->bm):Prop:=
 ∀(h:Mem)(w:World)(vs:List Value),OJ P w->(∀p v,h p=some v->w.cell? p=some v)->Z1 (YQ<|ZL h) vj vs->
  Calls P f vs.toArray w λen g=>∃q v b i,en=.returned v/\V7 h (λ_=>False) w b i g/\YG (ZL b) (qp q) v/\J q b i g
def dH(E:Env)(f:Nat)(vj:bi)(qp:ι->X)(J:ι->bm):Prop:=
 ∀(h:Mem)(w:World)(vs:List Value),(∃U c a,ZB E U c a w)->(∀p v,h p=some v->w.cell? p=some v)->Z1 (YQ<|ZL h) vj vs->
  Calls E.P f vs.toArray w λen g=>∃q v b i,en=.returned v/\V7 h (λ_=>False) w b i g/\YG (ZL b) (qp q) v/\J q b i g
def C0.at{qp:ι->X}{J:ι->bm}(h:C0 E.P f vj qp J)(i:TM E):dH E f vj qp J:=λm w vs b hw g=>by
 obtain⟨U,c,a,b⟩:=b;exact h m w vs (i.now b) hw g
theorem C0.intro{P:Program}{f nt:Nat}{fn:Func}{qf:Code}{rs:List ResultVar}{vj:bi}{ι:Type}{qp:ι->X}{J:ι->bm}(hf:P.funcs[f]?=some fn)(hb:fn.body=some qf)(hn:fn.ntmps=nt)(hr:fn.results=rs.toArray)
  (hl:Nat.ble (R vj) nt=true) (ht:vj.all (λx=>!X4 x)=true) (hl2:Nat.ble (R vj) 1000=true)
  (h:∀w c,TM (TG P nt [] w c)->OK (TG P nt [] w c) qf (den (TG P nt [] w c) (RetX (TG P nt [] w c) rs qp J) []) [] (Uj 0 vj)):C0 P f vj qp J:=by
 intro h0 w vs V hw H;refine(callsIn_wide (n:=0)).1<|callsIn_of_wp_marks hf hb trivial ?_ rfl;have qk:=H.length;rw[ky]at hl hl2;have N:∀b,¬(ZL h0).out [] b:=by
  rintro b (hy|⟨k,_,e⟩|⟨k,m,hv,_,e,_⟩)
  all_goals simp_all
 refine wpIn_mono (h w (ZL h0) ⟨V,λn _ g _ hX=>by
  rcases hX with hX|⟨p,O,_⟩
  all_goals simp_all⟩ {tmps:=vs.toArray++Array.replicate (fn.ntmps - vs.toArray.size) undef,defers:=[]} w ?_) ?_
 ·refine⟨ZL h0,⟨WV.refl _ _ _,Zq _,?_,⟨.nil,λd hd=>by cases hd⟩,(λp O=>by cases O),hw,Mem.le_refl _,λp v e=>.inl e,(λk b e=>by cases e),(λk m hv b e=>by cases e),(λ_ _=>⟨rfl,rfl⟩),(λb e=>e.elim),(λk b _ e=>by cases e),(λk m hv lv _ e=>by cases e)⟩,λvy x hx=>TV H ht hl2 vy x hx⟩;simp_all
 rintro e S T ⟨U',s',⟨c,i,hh⟩,q,⟨he,ys,hys,Z⟩,hl3⟩;have hE:(TG P nt [] w<|ZL h0).B=w.heap.size:=rfl;have I:LeavesInM Fence.wide 0 P fn S.tmps (λen T=>∃q v h' Y',en=.returned v/\V7 h0 (λ_=>False) w h' Y' T/\YG (ZL h') (qp q) v/\J q h' Y' T) S.defers .returning T:=by
  refine VG (B:=w.heap.size) (aw:=c.all) S.defers T i.RR.1 ?_ ?_
  ·intro d hd;obtain⟨D,h1,G,h3,h4⟩:=i.RR.2 d hd;simp_all
  intro w2 e1 e2 e3 e4 e5 e6;obtain⟨i,hh⟩:=i.calm hh e1 e2 e3 e4 rfl e5 e6;obtain⟨C,h1,G,h3⟩:=Sl i hh hys;have W:(results fn S.tmps).run P w2=.ok (if h:C.toArray.size=1 then C.toArray[0]else .tuple C.toArray) w2:=by
   have he:results fn S.tmps=(fn.results.mapM (NZ S.tmps)>>=λvs=>pure (if h:vs.size=1 then vs[0]else .tuple vs)):=by
    rfl
   simp_all
  have A:=Rj.El (s:=s') (wr:=[(3000,.res<|J q)]) (qp:=qp q) (v:=if h:C.toArray.size=1 then C.toArray[0]else .tuple C.toArray) i hE hh ⟨hl3,Zo⟩ rfl (by
   rw[←Z];have hl:=G.length
   match ys,C,G,h3,hl with
   |[y],[v],G,h3,_=>exact ap.WB G.1<|h3 y F
   |[],[],G,_,_=>exact⟨[],rfl,Zo⟩
   |y1::y2::ys,v1::v2::vs,G,_,_=>exact⟨v1::v2::vs,F,G⟩
   |[_],[],G,_,_=>grind
   |[],_::_,G,_,_=>grind
   |[_],_::_::_,G,_,_=>grind
   |_::_::_,[],G,_,_=>grind
   |_::_::_,[_],G,_,_=>grind) (λb h=>h.elim id λ⟨p,O,_⟩=>by cases O)
  obtain⟨_,hJ1⟩:=WW<|A.wr (3000,.res<|J q) F {tmps:=#[],defers:=[]};refine⟨_,W,q,_,(c.TH []<|(TG P nt [] w<|ZL h0).fin c w2).h,(c.TH []<|(TG P nt [] w<|ZL h0).fin c w2).Y,rfl,⟨A.below.mono (Zq _) λk _ hk=>(N k hk).elim,A.le,λp v O=>(A.new p v O).imp id λq=>q.imp id λq=>(N _ q).elim,A.ok.hw,λb hy=>(A.ok.Y b hy).1,λb hy hlt=>N b<|A.out b (.inl hy) hlt⟩,?_,hJ1⟩;refine A.res.mono ⟨Mem.le_refl _,λk b e=>?_,λk m hv lv e=>?_⟩
  all_goals grind
 rcases he with rfl|rfl
 ·exact I
 exact I
variable{g:Nat}
section
variable{y:Operand}
theorem RK.Ng{qp:ι->X}{J:ι->bm}(hf:dH E g ys qp J)(hS:∀q,Y2<|J q)(hm:∀q h Y B w,J q h Y w->(∀b,Y b->B b)->J q h B w)
  (hcall:∀vj w,(callFunc g vj).run E.P w=.ok (.enter g vj) w) (hd:ca E d=true) (ha:V5 s os ys r) (ho:ys.all V3=true)
  (h:∀q,RK E q0 l U ((d,qp q)::(3000,.res<|J q)::s) Q):RK E q0 (⟨some d,.call {callee:=.value<|.func g,args:=os.toArray,argTypes:=xo},ty,v9,v4,none⟩::l) U s Q:=by
 simp only[Zw,rb]at hd;intro k hk a w hg;rw[tt,bχ,wpOpsIn_cons];refine WA (by simpa using hk 0) ?_;obtain⟨c,F,hh⟩:=hg;have hw:Region.wanted (⟨some d,.call {callee:=.value<|.func g,args:=os.toArray,argTypes:=xo},ty,v9,v4,none⟩:Oper) (yielded q0 a.tmps)=true:=rfl;have D:=Yj (ha.rep (c:=c) (a:=a) (w:=w) λp f=>hh p.1 p.2<|ha.looks.all p f) ho;unfold T_;rw[Zn hw];refine⟨λ_ _=>trivial,?_⟩;rw[Oper.semAt_eq _ _ _ λcl he=>by cases he];have hfo:a.eval (.func g)=.func (.func g) #[] #[]:=rfl;have H:(execOp a.eval ⟨some d,.call {callee:=.value<|.func g,args:=os.toArray,argTypes:=xo},ty,v9,v4,none⟩).run E.P w=.ok (.enter g (os.map a.eval).toArray) w:=by
  simp_all[execOp,resolve,Deferred.ofValue,invoke]
 rw[H];refine⟨Z,?_⟩;have V:CallsIn E.ac (0 - 1) E.P g (os.map a.eval).toArray w _:=(callsIn_wide (n:=0)).2<|hf c.h w _ ⟨_,_,_,F⟩ F.hw D;refine V.mono ?_;rintro en w' ⟨q,v,W,B,rfl,f,I,hJ⟩;have hfr:∀b,B b->w.heap.size<=b:=λb i=>dφ λS=>f.out b i S
 have N:V7 c.h c.Y w W (λb=>c.Y b\/B b) w':=by
  refine⟨f.below.mono (Zq _) λ_ _ e=>e.elim,f.le,λp v hv=>(f.new p v hv).imp id λe=>e.imp id λe=>e.elim,f.hw,λb i=>?_,λb i S=>?_⟩
  ·rcases i with i|i
   ·have:=(F.Y b i).1;have:=f.below.size;omega
   exact f.lt b i
  grind
 have T:Ext c ⟨W,c.loc,c.arr,λb=>c.Y b\/B b⟩:=⟨f.le,λ_ _ e=>e,λ_ m hv lv e=>⟨m,hv,lv,e,Zq _,λ_=>rfl⟩⟩;have hdt:d<a.tmps.size:=by rw[F.nt];exact hd.2
 refine h q (k+1) (λj=>?_) _ _ ⟨⟨W,c.loc,c.arr,λb=>c.Y b\/B b⟩,(F.Ue N).put _ _,λvy u G=>?_⟩
 ·have:=hk<|j+1;grind
 simp only[look]at G;split at G
 ·rename_i e;have:=Nat.eq_of_beq_eq_true e;cases G;subst this;unfold Holds;rw[Zn hd.1,XN hdt];exact I.mono<|Xn (c:=⟨W,c.loc,c.arr,λb=>c.Y b\/B b⟩) rfl
 rename_i hne;have A:d≠vy:=λe=>hne (by simp_all)
 split at G
 ·grind [Nat.eq_of_beq_eq_true,Holds.Tp]
 rename_i O;have C:vy≠3000:=λe=>O (by simp_all)
 have h0:=hh vy u G;by_cases V:vy<1000
 ·refine Holds.put ?_ A _;unfold Holds at h0⊢;rw[Zn V]at h0⊢;exact h0.mono T
 exact(Holds.Ue F N V C h0).put A _
end
variable{p:Nat}
theorem K4{P:Program}{l:ByteArray}(h:w.heap[b]?=some (.stringIter l p)):(getObj b).run P w=.ok (.stringIter l p) w:=by
 grind [getObj,Sem.run]
theorem Cz{P:Program}{l:ByteArray}{o:Obj}(h:w.heap[b]?=some (.stringIter l p)):(setObj b o).run P w=.ok () {w with heap:=w.heap.setIfInBounds b o}:=by
 grind [setObj,Sem.run]
section
variable{y:Operand}[DecidableEq K]{M:HM K}
theorem x_(i:ZB E U c a w)(I:Z9 M c.h c.Y w)(D:K)(o:Obj)(B:HK)(q:∀h A,(∀o,h ⟨w.heap.size,o,none⟩=none)->A.heap[w.heap.size]?=some o->xZ h A w.heap.size B):
  V7 c.h c.Y w c.h (λb=>c.Y b\/b=w.heap.size) (w.alloc o)/\Z9 (M.set D<|some (w.heap.size,B)) c.h (λb=>c.Y b\/b=w.heap.size) (w.alloc o):=by
 have hB:=Ww w o;have g:∀o,c.h ⟨w.heap.size,o,none⟩=none:=λo=>by
  cases hh:c.h ⟨w.heap.size,o,none⟩with
  |none=>rfl
  |some v=>have:=block_lt_of_cell<|i.hw _ _ hh;simp at this
 have hs:(w.alloc o).heap.size=w.heap.size+1:=F
 refine⟨⟨⟨hB.os,hB.tape,hB.output,hB.size,λk q _=>hB.block k q⟩,Mem.le_refl _,λ_ _ e=>.inl e,λp v e=>?_,λb f=>?_,λb f H=>?_⟩,?_⟩
 ·have C:=i.hw p v e;rw[hB.cell<|block_lt_of_cell C];exact C
 ·rcases f with f|rfl
  ·have:=(i.Y b f).1;omega
  omega
 ·grind
 refine I.Ue (Mem.le_refl _) (λ_ _ _ _ _ e=>e) (λb G f=>hB.block b (i.Y b f).1) (λ_ e=>.inl e) (.inr λf=>by have:=(i.Y _ f).1;omega) (.inr rfl)<|q _ _ g ?_;exact heap_alloc_new w o
def S.qY{t:TypeId}{l:ba}(f:K)(C:E.P.underlying t=some .string)(hd:ca E d=true)(g:YO s x (.str l) r)(b:look s 3000=some (.res<|Z9 M)):
  x8 E q0 ⟨some d,.range t x,ty,v9,v4,none⟩ s (r++[(3000,.res<|Z9 M)]) (λq:Nat=>(d,.raw<|.pointer<|some ⟨q,0,none⟩)::(3000,.res<|Z9<|M.set f<|some (q,.iter l 0))::([]:bc).map λk=>(2000+k,X.any)) []:=
 x8.mk' hd rfl g.looks b (λ_=>Z9.ZV _) rfl λU c a w i D G=>by
  obtain⟨B,_⟩:=Uu (g.rep (c:=c) (a:=a) (w:=w) λp F=>D p<|by simp[F]);obtain⟨A,v⟩:=x_ i G f (.stringIter ⟨l.toArray⟩ 0) (.iter l 0) λh J I H=>⟨I,H⟩;refine⟨c,i,Ext.refl c,λ_ _ _ _ h=>h,w.heap.size,_,w.alloc<|.stringIter ⟨l.toArray⟩ 0,c.h,_,?_,A,rfl,v⟩;simp[execOp,B,Instr.range,run_underlying C]
def S.Aa{A:Nat}{l:ba}(B:K)(hd:ca E d=true)(O:YO s x (.raw<|.pointer<|some ⟨b,0,none⟩) r)(I:look s 3000=some (.res<|Z9 M))(T:M B=some (b,.iter l p))(D:p<R l)(hm:p<=maxLen)(q:Utf8.decode ⟨l.toArray⟩ p=(A,f))(hc:A<2147483648):
  x8 E q0 ⟨some d,.next x true,ty,v9,v4,none⟩ s (r++[(3000,.res<|Z9 M)]) (λ_:Unit=>(d,.Yy [.bool true,.int .i64 p,.int .i32 A])::(3000,.res<|Z9<|M.set B<|some (b,.iter l<|p+f))::([]:bc).map λk=>(2000+k,X.any)) []:=
 x8.mk' (qp:=λ_=>_) hd rfl O.looks I (λ_=>Z9.ZV _) rfl λU c a w J hr v=>by
  have Z:a.eval x=.pointer (some ⟨b,0,none⟩):=O.rep (c:=c) (a:=a) (w:=w) λp D=>hr p (by simp[D])
  obtain⟨N,W,V⟩:=v.1 B b _ T;have H:b<w.heap.size:=(J.Y b N).1;have i:({w with heap:=w.heap.setIfInBounds b (.stringIter ⟨l.toArray⟩<|p+f)}:World).heap[b]?=some (.stringIter ⟨l.toArray⟩<|p+f):=by simp[Array.getElem?_setIfInBounds_self_of_lt H]
  have g:∀j,j≠b->({w with heap:=w.heap.setIfInBounds b (.stringIter ⟨l.toArray⟩<|p+f)}:World).heap[j]?=w.heap[j]?:=λj v=>by simp[Array.getElem?_setIfInBounds,Ne.symm v]
  refine⟨c,J,Ext.refl c,λ_ _ _ _ h=>h,(),.tuple #[.bool true,.int .i64 p,.int .i32 A],{w with heap:=w.heap.setIfInBounds b (.stringIter ⟨l.toArray⟩<|p+f)},c.h,c.Y,?_,IC J N W rfl rfl rfl F g,?_,?_⟩
  ·have C:(⟨l.toArray⟩:ByteArray).size=R l:=rfl;have hg:(getObj b).run E.P w=.ok (.stringIter ⟨l.toArray⟩ p) w:=K4 V;have hs:(setObj b<|.stringIter ⟨l.toArray⟩<|p+f).run E.P w=.ok () {w with heap:=w.heap.setIfInBounds b (.stringIter ⟨l.toArray⟩<|p+f)}:=Cz V;simp[execOp,Z,Instr.next,hg,C,D,q,hs,goInt]
  ·exact⟨_,rfl,ZR.bool true,ZR.WB (c:=ZL c.h)<|.int<|P3 hm,ZR.int (by show IntKind.i32.wrap _=_;unfold IntKind.wrap;simp[IntKind.bits,IntKind.signed];omega),Zo⟩
  exact v.Ue (Mem.le_refl _) (λ_ _ _ _ _ e=>e) (λj G _=>g j G) (λ_ e=>e) (.inl ⟨_,T⟩) N ⟨W,i⟩
def S.qW{l:ba}(q:K)(i:Gd q0 s jn rg)(hd:ca E d=true)(v:YO s x (.raw<|.pointer<|some ⟨b,0,none⟩) r)(g:look s 3000=some (.res<|Z9 M))(G:M q=some (b,.iter l p))(C:R l<=p):
  Zb E q0 ⟨some d,.next x true,ty,v9,v4,jn⟩ s (rg++(r++[(3000,.res<|Z9 M)])) [(d,.Yy [.bool false])] []:=
 Zb.val i hd rfl (v.looks.app ⟨g,Zo⟩) λc A w _ B=>by
  have _:=(inferInstance:DecidableEq K);have D:A.eval x=.pointer (some ⟨b,0,none⟩):=v.rep (c:=c) (a:=A) (w:=w) λp C=>B p (by simp[C])
  obtain⟨I,J,H⟩:=(WW<|B (3000,.res<|Z9 M) F).2.1 q b _ G;refine⟨.tuple #[.bool false],?_,_,rfl,ZR.bool false,Zo⟩;have f:(⟨l.toArray⟩:ByteArray).size=R l:=rfl;have i:(getObj b).run E.P w=.ok (.stringIter ⟨l.toArray⟩ p) w:=K4 H;simp[execOp,D,Instr.next,i,f,show¬p<R l by omega]
end
def me{l:ba}{c:UInt8}(hi:l[i]?=some c)(f:c.toNat<128):Utf8.decode ⟨l.toArray⟩ i=(c.toNat,1):=by
 obtain⟨b,rfl⟩:=ae.1 hi;simp_all[ByteArray.get!,Utf8.decode]
theorem az{l:ba}{c:UInt8}(hi:l[i]?=some c)(f:128<=c.toNat):128<=(Utf8.decode ⟨l.toArray⟩ i).1/\(Utf8.decode ⟨l.toArray⟩ i).1<2147483648:=by
 obtain⟨b,rfl⟩:=ae.1 hi;have h0:((⟨l.toArray⟩:ByteArray).get!<|i+0).toNat=l[i].toNat:=by simp[ByteArray.get!,b]
 rw[Utf8.decode];simp only[h0];rw[Zm I];have e:Utf8.runeError=65533:=rfl
 repeat' split
 all_goals grind
def OK.qy{p:ι->Prop}{J:ι->bm}(g:look s 3000=some (.res λh Y w=>∃q,p q/\J q h Y w))(B:∀q,Y2<|J q)(h:∀q,p q->OK E qf Q U ((3000,.res<|J q)::s)):OK E qf Q U s:=λa w v=>by
 obtain⟨c,A,hh⟩:=v;obtain⟨q,f,i⟩:=(WW<|hh _ _ g).2;refine h q f a w ⟨c,A,λvy x b=>?_⟩;simp only[look]at b;split at b
 ·rename_i e;have:=Nat.eq_of_beq_eq_true e;cases b;subst this;exact Holds.Tp (B q) i
 exact hh vy x b
def Y2.ex{p:ι->Prop}{J:ι->bm}(f:∀q,Y2<|J q):Y2 λh Y w=>∃q,p q/\J q h Y w:=by
 rintro h A Y w v ⟨q,i,g⟩ a b c d e;exact⟨q,i,f q _ _ _ _ _ g a b c d e⟩
section
variable{y:Operand}[DecidableEq K]
def S.hpeq{Z:Nat}{i g:bi}{M:HM K}(hJ:∀h Y w,J h Y w->Z9 M h Y w)(N k2:K)(B:W5 E.P e ag n)(ht:E.P.underlying t=some (.pointer e))(hn:n≠0)(hg:Gd q0 s jn rg)(hd:ca E d=true)(T:YO s x (.raw<|.pointer<|some ⟨f,0,none⟩) r1)(O:YO s y (.raw<|.pointer<|some ⟨b,0,none⟩) r2)
  (hl:look s 3000=some (.res J)) (I:M N=some (f,.box i)) (H:M k2=some (b,.box g)):
  Zb E q0 ⟨some d,.binOp .eql t x y Z,ty,v9,v4,jn⟩ s (rg++((r1++r2)++[(3000,.res J)])) [(d,.bool<|decide<|f=b)] []:=
 Zb.val hg hd rfl ((T.looks.app O.looks).app ⟨hl,Zo⟩) λc A w _ C=>by
  have _:=(inferInstance:DecidableEq K);have v:A.eval x=.pointer (some ⟨f,0,none⟩):=T.rep (c:=c) (a:=A) (w:=w) λp D=>C p (by simp[D])
  have q:A.eval y=.pointer (some ⟨b,0,none⟩):=O.rep (c:=c) (a:=A) (w:=w) λp D=>C p (by simp[D])
  have V:Z9 M c.h c.Y w:=hJ _ _ _ (WW<|C (3000,.res J) F).2;obtain⟨_,_,T1,X,q1,_⟩:=V.1 N f _ I;obtain⟨_,_,T2,W,q2,_⟩:=V.1 k2 b _ H;refine⟨.bool<|decide<|f=b,?_,ZR.WB<|.bool _⟩;have hq:(eqGuard .eql t x y (.pointer<|some ⟨f,0,none⟩)<|.pointer<|some ⟨b,0,none⟩).run E.P w=.ok () w:=by simp[eqGuard]
  have hs:(sameAddr ⟨f,0,none⟩ ⟨b,0,none⟩).run E.P w=.ok (decide<|f=b) w:=by
   by_cases G:f=b
   ·subst G;rw[run_sameAddr_same w,Zz rfl]
   rw[run_sameAddr_other w (λe=>G<|rn Addr.block e) q1 q2,Zy G]
  have h3:(Op.equalIn Op.maxDepth t (.pointer<|some ⟨f,0,none⟩)<|.pointer<|some ⟨b,0,none⟩).run E.P w=.ok (decide<|f=b) w:=by
   rw[show Op.maxDepth=(Op.maxDepth - 1)+1 from rfl];simp only[Op.equalIn,run_underlying ht,Sem.run_bind,Result.andThen_ok,B.size,Zn hn,hs]
  simp only[execOp,v,q,Sem.run_bind,hq,Result.andThen_ok,binOp,Op.equal,h3];rfl
end
def S.aO{T Tf:Nat}{u:X}(G:FtI E.P T f o Tf)(C:W5 E.P Tf false n)(F:Gd q0 s jn rg)(hd:ca E d=true)(q:YO s x (.agg us) r)(B:us[o]?=some u)(p:QL u=false):
  Zb E q0 ⟨some d,.field T x f,ty,v9,v4,jn⟩ s (rg++r) [(d,u)] []:=
 Zb.val F hd rfl q.looks λc A w hh D=>by
  obtain⟨vs,I,H⟩:=q.rep (c:=c) (a:=A) (w:=w) D;obtain⟨b,W,V,O,N,J⟩:=G.ex;obtain⟨v,g,i⟩:=H.WN B;refine⟨v,?_,ab.WB i p⟩;simp only[execOp,I,Instr.field];rw[Sem.run_bind,Sem.run_bind,run_underlying V];simp[O,part,asAgg,N,J,C.agg,g]
def nilsD(e:v=.slice none 0 0):ZR h (.sl []) v:=by subst e;exact .I3 none 0<|Zr _
def Lh:bi->bi->Prop:=Z1 λx b=>(bS x=true/\b=xI x)\/(x=.ZM/\b=.sl [])
def Lh.rep:∀{xs xs':bi},Lh xs xs'->∀{c:Ctx}{vs:List Value},Z1 (Zc c) xs vs->Z1 (ZR c.h) xs' vs
 |[],[],_,_,[],_=>trivial
 |x::xs,x'::xs',h,c,v::vs,hv=>by
  refine⟨?_,Lh.rep h.2 hv.2⟩;rcases h.1 with⟨f,b⟩|⟨f,b⟩
  ·rw[b];exact H_of hv.1 f
  subst f;subst b;exact nilsD hv.1
 |[],_::_,h,_,_,_=>h.elim
 |_::_,[],h,_,_,_=>h.elim
 |[],[],_,_,_::_,hv=>hv.elim
 |_::_,_::_,_,_,[],hv=>hv.elim
section
variable[DecidableEq K]{M:HM K}
def OK.hboxC(t:Nat)(kb:K)(g:Nat.blt t 1000=true)(N:look s t=some (.Wt k 1 0))(p:look s (2000+k)=some (.W8 sz [] vv []))(S:Lh vv qs)(i:look s 3000=some (.res<|Z9 M))
  (h:∀b,OK E qf Q U<|(t,.raw<|.pointer<|some ⟨b,0,none⟩)::(2000+k,.any)::(3000,.res<|Z9<|M.set kb<|some (b,.box qs))::s) (q:E.fs.contains k=false:=by rfl):OK E qf Q U s:=λa w O=>by
 obtain⟨c,T,hh⟩:=O;obtain⟨b,cp,F,C,B⟩:=HQ T (WW<|hh _ _ i).2 kb (KT q) (hh _ _ p) λvs h=>S.rep h;obtain⟨m,Z,lv,D,W,J⟩:=(show Xw c (.Wt k 1 0) _ from(hh _ _ N).slot g);rw[F]at D;cases D;obtain⟨b',X,V,H,G⟩:=J rfl;cases H;refine h b a w ⟨_,C,λvy x f=>?_⟩;simp only[look]at f;split at f
 ·rename_i e;have:=Nat.eq_of_beq_eq_true e;cases f;subst this;rw[rb]at g;unfold Holds;rw[Zn g];exact G
 split at f
 ·rename_i e;have:=Nat.eq_of_beq_eq_true e;cases f;subst this;unfold Holds;rw[Zm I];exact .inl rfl
 rename_i A;split at f
 ·rename_i e;have:=Nat.eq_of_beq_eq_true e;cases f;subst this;exact Holds.Tp (Z9.ZV _) B
 rename_i v;exact Holds.dead F (λe=>A<|by rw[e];exact aσ _) (λe=>v<|by rw[e];exact aσ _)<|hh vy x f
end
def IZ(ks:List ba):List<|ba×X:=ks.map λs=>(s,X.bool true)
section
variable{y:Operand}
theorem S.iD{vy:ba}{ks:List ba}{es:List<|X×X}{i:Value}(B:E.P.underlying t=some (.map p e))(D:E.P.underlying p=some .string)(q:∀w,(zeroValue e).run E.P w=.ok i w)(b:i=.bool false)(F:Gd q0 s jn rg)(hd:ca E d=true)
  (A:YO s x (.QS k) r1) (v:YO s y (.str vy) r2) (C:look s (1000+k)=some (.omap es)) (g:es=QN (IZ ks)) (f:Nat.blt k 1000=true:=by rfl):
  Zb E q0 ⟨some d,.lookup t x y false,ty,v9,v4,jn⟩ s (rg++(r1++(r2++[(1000+k,.omap es)]))) [(d,.bool<|decide<|vy∈ks)] []:=by
 subst b;have e:(PG (IZ ks) vy).getD (.bool false)=.bool (decide<|vy∈ks):=by
  unfold IZ;rw[FI];grind
 have h:=S.nU (d:=d) (ty:=ty) (v9:=v9) (v4:=v4) (l:=IZ ks) (zx:=.bool false) B D q (λc=>ZR.bool false) F hd A v C g (by rw[e];rfl) f;simp_all
def S.jK{vy:List UInt8}{ks:List<|List UInt8}{es:List<|X×X}(v:E.P.underlying t=some (.map g e))(C:E.P.underlying g=some .string)(D:Gd q0 s jn rg)(q:YO s x (.QS k) r1)(p:YO s y (.str vy) r2)(i:YO s z (.bool true) r3)(B:look s (1000+k)=some (.omap es))(f:es=QN (IZ ks))(A:vy∉ks)(b:Nat.blt k 1000=true:=by rfl):
  Zb E q0 ⟨none,.mapUpdate t x y z,ty,v9,v4,jn⟩ s (rg++(r1++(r2++(r3++[(1000+k,.omap es)])))) [(1000+k,.omap<|QN<|IZ<|ks++[vy])] []:=
 S.iG (l:=IZ ks) v C D q p i rfl B f (by unfold IZ;rw[BU _ _ _ A]) b
end
def S.tO {T:Nat} (H : TM E) (D : E.P.globalNamed "martensite/recipe.names" = some g) (B : W5 E.P T true 6) (G : Gd q0 s jn rg) (hd : (Nat.blt d 1000 && Nat.blt d E.nt) = true) :
  Zb E q0 ⟨some d,.load T<|.global g,ty,v9,v4,jn⟩ s (rg++[]) [(d,.agg<|XC.map X.str)] []:=
 Zb.mk G hd rfl trivial λU c a w q I _=>by
  obtain⟨N,J,e⟩:=(H.now q).nam g D;refine⟨.agg (XC.map λl=>Value.string ⟨l.toArray⟩).toArray,c,w,?_,q,Ext.refl c,⟨XC.map λl=>Value.string ⟨l.toArray⟩,rfl,?_⟩,(λp C=>by cases C),λvy y _ _ A=>A⟩
  ·have h0:a.eval (.global g)=.pointer (some ⟨g,0,none⟩):=rfl;simp only[execOp,h0];rw[Sem.run_bind,RJ B (vs:=XC.map λl=>Value.string ⟨l.toArray⟩) (by rfl) λi v b=>?_]
   ·rfl
   unfold World.cell?;simp only[wc,e];simpa using b
  refine Z1.WI F λi u v f b=>?_
  rw[dp]at f b;cases hi:XC[i]? with
  |none=>rw[hi]at f;cases f
  |some t=>
   rw[hi]at f b;cases f;cases b;exact ZR.str _ (by have:=mr hi;simp[XC]at this;rcases this with rfl|rfl|rfl|rfl|rfl|rfl<;>decide)
def J_{p:bm}(f:∀h Y w,J h Y w->J0 h Y w)(b:∀h Y w,J0 h Y w->p h Y w):∀h Y w,J h Y w->p h Y w:=by simp_all
def CtR(E:Env)(f:Nat)(vj:bi)(qp:X)(J0:bm):Prop:=
 ∀J,Y2 J->(∀h Y w,J h Y w->J0 h Y w)->dF E f vj qp J J
section
variable{y:Operand}
theorem Af{O:Operand}{qp:X}(hg:Gd q0 s jn rg)(hd:ca E d=true)(hl:Yw s r)(hcall:∀vj w,(callFunc f vj).run E.P w=.ok (.enter f vj) w)
  (hf:CtR E f (ys++vt) qp J0) (V:look s 3000=some (.res J0))
  (h:∀(c:Ctx)(a:Act)(w:World),(∀p∈r,Holds c a w p.1 p.2)->Z1 (YQ<|ZL c.h) ys (os.map a.eval)/\∃q:List Value,a.eval O=.func (.func f) #[] q.toArray/\Z1 (YQ<|ZL c.h) vt q):
  Zb E q0 ⟨some d,.call {callee:=.value O,args:=os.toArray,argTypes:=xo},ty,v9,v4,jn⟩ s (rg++(r++[(3000,.res J0)])) [(d,qp)] []:=by
 simp only[Zw,rb]at hd;refine⟨?_,hg.looks.app<|hl.app ⟨V,Zo⟩⟩;intro U c a w B T _ next Q hn
 have hw:=hg.wanted (o:=⟨some d,.call {callee:=.value O,args:=os.toArray,argTypes:=xo},ty,v9,v4,jn⟩) λp g=>T p<|sb _ g;obtain⟨S,q,hfo,hcs⟩:=h c a w λp g=>T p (by simp[g])
 unfold T_;rw[Zn hw];refine⟨λ_ _=>trivial,?_⟩;rw[Oper.semAt_eq _ _ _ λcl he=>by cases he];have C:(execOp a.eval ⟨some d,.call {callee:=.value O,args:=os.toArray,argTypes:=xo},ty,v9,v4,jn⟩).run E.P w=.ok (.enter f (os.map a.eval++q).toArray) w:=by
  simp_all[execOp,resolve,Deferred.ofValue,invoke]
 rw[C];refine⟨Z,?_⟩;obtain⟨hS0,hJ0⟩:=WW<|T (3000,.res J0) F;have hSJ:Y2 (λh Y v=>J0 h Y v/\(∀b,c.Y b->v.heap[b]?=w.heap[b]?)/\(∀p u,c.Y p.block->h p=some u->c.h p=some u)/\∀b,c.Y b->Y b):=by
  grind [Y2]
 have J:CallsIn E.ac (0 - 1) E.P f (os.map a.eval++q).toArray w _:=(callsIn_wide (n:=0)).2<|hf _ hSJ (λ_ _ _ h=>h.1) c.h c.Y w _ ⟨U,c,a,B,rfl⟩ B.hw (λb A=>(B.Y b A).1) ⟨hJ0,λ_ _=>rfl,λ_ _ _ h=>h,λ_ h=>h⟩<|S.append hcs;refine J.mono ?_;rintro en w' ⟨u,N,Y',rfl,g,⟨_,j1,j2,_⟩,D⟩;have hB:Below w.heap.size w w':=⟨g.below.os,g.below.tape,g.below.output,g.below.size,λk W=>by
  by_cases A:c.Y k
  ·grind
  exact g.below.block k W A⟩
 have xi:∀p v,N p=some v->c.h p=some v\/w.heap.size<=p.block:=λp v I=>(g.new p v I).elim .inl λh=>h.elim .inr λA=>.inl<|j2 p v A I
 have hdt:d<a.tmps.size:=by rw[B.nt];exact hd.2
 have i:Ext c ⟨N,c.loc,c.arr,c.Y⟩:=⟨g.le,λ_ _ e=>e,λ_ m I lv e=>⟨m,I,lv,e,Zq _,λ_=>rfl⟩⟩;refine hn ⟨N,c.loc,c.arr,c.Y⟩ _ w' ((B.below_grow hB g.le xi g.hw).put _ _) i ?_ ?_
 ·intro p G;simp only[pi]at G;subst G;unfold Holds;rw[Zn hd.1,XN hdt];exact D.mono<|Xn (c:=⟨N,c.loc,c.arr,c.Y⟩) rfl
 intro vy y W A;have H:d≠vy:=W (d,qp) F;by_cases J:vy<1000
 ·refine Holds.put ?_ H u;unfold Holds at A⊢;rw[Zn J]at A⊢;exact A.mono i
 exact(Holds.below B hB i (λ_ _ _ e=>e) rfl xi g.hw J A).put H u
def S.Wc{qp:X}(A:CtR E f ys qp J0)(b:∀vj w,(callFunc f vj).run E.P w=.ok (.enter f vj) w)(v:Gd q0 s jn rg)(hd:ca E d=true)
  (i:V5 s os ys r) (q:ys.all V3=true) (g:look s 3000=some (.res J0)):
  Zb E q0 ⟨some d,.call {callee:=.value<|.func f,args:=os.toArray,argTypes:=xo},ty,v9,v4,jn⟩ s (rg++(r++[(3000,.res J0)])) [(d,qp)] []:=
 Af (vt:=[]) v hd i.looks b (by simpa using A) g λ_ _ _ p=>⟨Yj (i.rep p) q,[],rfl,Zo⟩
end
theorem cell_heap{p:Addr}(h:w'.heap[p.block]?=w.heap[p.block]?):w'.cell? p=w.cell? p:=by
 grind [World.cell?]
theorem dc(hf:De E.P f){K:Type}[DecidableEq K]{M:HM K}{kb:K}{zs:List Int}(hM:M kb=some (b,.row 1 vz<|zs.map λn=>[X.int .i64 n]))(hn:R zs=n)(J:n<4611686018427387904):
  dF E f [.raw<|.slice (some ⟨b,0,none⟩) n vz] (.Yy []) (Z9 M) (Z9<|M.set kb<|some (b,.row 1 vz<|(zs.mergeSort λx y=>decide<|x<=y).map λn=>[X.int .i64 n])):=by
 intro h Y w vs _ hw Z hj D;subst hn;obtain⟨v,vs',rfl,hv,O⟩:=D.YU;have I:=Z1.YN O;subst I;have S:v=.slice (some ⟨b,0,none⟩) (R zs) vz:=hv;subst S;obtain⟨F,q1,⟨q2,q3,q4⟩,T,cs,q5,q6,q7⟩:=hj.1 kb b _ hM;rw[UC,Zx,Nat.mul_one]at q7;rw[Zx]at q2;have G:=LA q7;have hH:=holds_of_blockI q5 (ss:=zs) G;have V:=Z b F;have B:=bμ zs λx y=>decide<|x<=y;refine(hf.some b 0 vz zs w hH V J).mono ?_;rintro en w' ⟨rfl,q,os,rfl⟩;obtain⟨g1,g2,g3,g4,g5⟩:=grownBy_sortedI (w:=w) (g:=b) (n:=q) (os:=os) (zs.mergeSort λx y=>decide<|x<=y).toArray;have H:=ownsRow_sortedI (w:=w) (base:=0) (g:=b) (cap:=vz) (n:=q) (e:=T) (os:=os) (cur:=cs) (ss:=zs) (ts:=zs.mergeSort λx y=>decide<|x<=y) B.length_eq (Zr _) q5 q2 q3 q6;have i:∀k,k<w.heap.size->k≠b->(Go.Sort.grow (Go.Sort.putRow (Value.int .i64) (Go.Sort.ahead w q) b 0 (zs.mergeSort λx y=>decide<|x<=y).toArray) os).heap[k]?=w.heap[k]?:=λk W C=>g5 k W λe=>C<|aγ e
 refine⟨_,h,Y,rfl,⟨⟨g1,g2,g3,g4,λk W A=>i k W λe=>A<|e▸F⟩,Mem.le_refl _,λp v e=>.inl e,λp v hp=>?_,λN A=>rp (Z N A) g4,λ_ A _=>A⟩,?_,⟨[],rfl,Zo⟩⟩
 ·grind [Pv,World.cell?]
 refine hj.Ue (Mem.le_refl _) (λ_ _ _ _ _ e=>e) (λN C A=>i N (Z N A) C) (λ_ e=>e) (.inl ⟨_,hM⟩) F ⟨q1,?_⟩;rcases H.2 with⟨h0,_⟩|⟨g,cap',cur,h1,_,h2,h3,h4,h6,h8⟩
 ·cases h0
 cases h1;refine⟨⟨by simp_all,h4,λr hr=>by grind⟩,_,_,h2,h6,?_⟩;grind [UC,Zx,Gq]
section
variable{y:Operand}
def S.Ig{A B:Nat}{f:bi}(hA:RP E.P t e 1 bytes)(hg:Gd q0 s jn rg)(hd:ca E d=true)
  (hx:YO s x (.Wt A 1 0) r) (hl:look s (2000+A)=some (.W8 B [] f [])) (X:E.fs.contains k=false:=by rfl) (Z:Nat.blt k 1000=true:=by rfl):
  Zb E q0 ⟨some d,.buildSlice t 1 #[(0,x)],ty,v9,v4,jn⟩ s (rg++(r++[(2000+A,.W8 B [] f [])])) ((d,.own k 1)::[(2000+k,.W8 1 [] [.Wt A 1 0] [])]) [k]:=
 Zb.mk hg hd rfl (hx.looks.app ⟨hl,Zo⟩) λU c a w hb H hal=>by
  rw[rb]at Z;have W:k∉U:=hal k F;obtain⟨V,zv,hz,hzs⟩:=hA.run;have G:YG c (.Wt A 1 0)<|a.eval x:=hx.rep (c:=c) (a:=a) (w:=w) λp hp=>H p (by simp[hp])
  obtain⟨m,hv,lv,e1,e2,e3⟩:=O9 G;obtain⟨_,hv',_,_,e4,_⟩:=OX<|H (2000+A,.W8 B [] f []) F;rw[e4]at e1;cases e1;obtain⟨b,l,cp,_,e5⟩:=e3 rfl;have g:(a.eval x).cells= #[a.eval x]:=by rw[e5];rfl
  have D:∀(q:Array Value),q.size=1->Z1 (Zc c) [.any] q.toList:=λq T=>by
   obtain⟨v,hv⟩:∃v,q= #[v]:=by
    refine⟨q[0]' I,?_⟩;apply Array.ext
    ·simp[T]
    intro i h1 O;simp at O;subst O;rfl
   subst hv;exact⟨Zo,Zo⟩
  obtain⟨vv,h1,O⟩:=Rt (c:=c) (λi=>some (i * 1,1)) [(0,.Wt A 1 0)] [(0,a.eval x)] [.any] (((Array.range<|1 * 1).map λi=>(if 1 * 1=0 then #[]else zv.cells)[i % (if 1 * 1=0 then #[]else zv.cells).size]!)) [.Wt A 1 0] (D _ F) ⟨⟨rfl,by rw[g];exact⟨G,Zo⟩⟩,Zo⟩ rfl;have C:vv.size=1:=by have:=O.length;simpa using this.symm
  have hB:=Ww w<|.cells vv e;obtain⟨g1,g2,g3,g4⟩:=hb.NQ (KT X) W (n:=1) (v:=.slice (some ⟨w.heap.size,0,none⟩) 1 1) hB<|.inr ⟨rfl,F⟩;have hp:=hA.pos;refine⟨.slice (some ⟨w.heap.size,0,none⟩) 1 1,_,w.alloc<|.cells vv e,?_,g1,g2,⟨⟨_,_,_,rfl⟩,1,_,_,g3,Zq _,λ_=>rfl⟩,?_,λvy u N _ hu=>g4 vy u N hu⟩
  ·simp only[execOp,Instr.buildSlice,Sem.run_bind,run_underlying hA.OA,Result.andThen_ok,V];simp at h1;simp[hz,h1,newRow]
  intro p J;simp only[pi]at J;subst J;refine Holds.n9 (e:=e) (n:=1) (vs:=vv.toList) (v1:=[]) (v2:=vv.toList) (v3:=[]) (xr:=[]) (post:=[]) I rfl g3 ⟨by simp[C],.inr ⟨w.heap.size,1,vv,rfl,Zr _,heap_alloc_new w _,Zq _,by unfold maxLen;omega,by rw[C],?_⟩⟩ ?_ F trivial (O.mono λ_ _=>Zc.mono g2) trivial
  ·rw[sg<|by simp[C]]
  intro q T;simp only[bε,pi]at T;subst T;rfl
end
def MT:List (Int×X)->Int->Option X
 |[],_=>none
 |p::l,k=>if p.1=k then some p.2 else MT l k
def LK(l:List<|Int×X):List<|X×X:=l.map λp=>(.int .i64 p.1,p.2)
def ir{n:Int}(r:ZR h (.int .i64 n) v):v=.int .i64 n:=by cases r;rfl
theorem CA(a b:Int):Instr.sameNow (.int .i64) (.int .i64 a) (.int .i64 b)=some (decide<|b=a):=by
 have h:(a==b)=decide (b=a):=by
  grind
 simp only[Instr.sameNow,if_true,h]
theorem HJ{h:Mem}{k:Int}:∀{l:List<|Int×X}{es:List MapEntry}(i:Nat),Z1 (x6 h) (LK l) es->
  (MT l k=none/\Instr.findNow (.int .i64) (.int .i64 k) es i=some none/\(∀m∈es,m.key≠.int .i64 k))\/
  ∃(j:Nat)(u:X)(m:MapEntry),MT l k=some u/\Instr.findNow (.int .i64) (.int .i64 k) es i=some (some (i+j,m.val))/\YQ (ZL h) u m.val
 |[],[],i,_=>.inl ⟨rfl,rfl,(λm A=>by cases A)⟩
 |p::l,m::es,i,hr=>by
  obtain⟨⟨D,C⟩,B⟩:=hr;have G:=ir D;by_cases f:p.1=k
  ·refine .inr ⟨0,p.2,m,by simp[MT,f],?_,C⟩;simp_all[Instr.findNow,CA]
  have H:∀i,Instr.findNow (.int .i64) (.int .i64 k) (m::es) i=Instr.findNow (.int .i64) (.int .i64 k) es (i+1):=by
   simp_all[Instr.findNow,CA]
  rcases HJ (k:=k) (i+1) B with⟨b,q,F⟩|⟨j,u,v,b,q,g⟩
  ·grind [MT]
  exact .inr ⟨j+1,u,v,by simp[MT,f,b],by grind,g⟩
 |[],_::_,_,h=>h.elim
 |_::_,[],_,h=>h.elim
section
variable{y:Operand}
def S.nS{H:Nat}{vy:Int}{l:List<|Int×X}{es:List<|X×X}{u:X}(Z:E.P.underlying t=some (.map H e))(N:E.P.underlying H=some (.int .i64))(hg:Gd q0 s jn rg)(hd:ca E d=true)
  (J:YO s x (.QS k) r1) (I:YO s y (.int .i64 vy) r2) (hl:look s (1000+k)=some (.omap es)) (D:es=LK l) (i:MT l vy=some u) (C:X4 u=false) (g:Nat.blt k 1000=true:=by rfl):
  Zb E q0 ⟨some d,.lookup t x y false,ty,v9,v4,jn⟩ s (rg++(r1++(r2++[(1000+k,.omap es)]))) [(d,u)] []:=
 Zb.val hg hd rfl (J.looks.app<|I.looks.app ⟨hl,Zo⟩) λc A w _ v=>by
  subst D;rw[rb]at g;obtain⟨b,h1,h0⟩:=JK (J.rep (c:=c) (a:=A) (w:=w) λp B=>v p<|by simp[B]);obtain⟨b',W,G,O,h3,_,h4⟩:=JO (v (1000+k,.omap<|LK l) F) g;rw[h1]at O;cases O;obtain⟨h5,_⟩:=Xq (I.rep (c:=c) (a:=A) (w:=w) λp B=>v p<|by simp[B]);have f:MapKept.IsKey (.int .i64)<|.int .i64 vy:=rfl;rcases HJ (k:=vy) 0 h4 with⟨q,_,_⟩|⟨j,u',m,q,V,T⟩
  ·rw[q]at i;cases i
  rw[q]at i;cases i;refine⟨m.val,?_,ap.WB (T.mono<|Xn rfl) C⟩;simp[execOp,h0,h5,Instr.lookup,run_underlying Z,MapKept.run_getObj_map h3,MapKept.run_checkKey N f,MapKept.run_findKey N V]
def S.O4{V:Nat}{vy:Int}{u:X}{l:List<|Int×X}{es es':List<|X×X}(ht:E.P.underlying t=some (.map V e))(hk:E.P.underlying V=some (.int .i64))(hg:Gd q0 s jn rg)
  (Z:YO s x (.QS k) r1) (C:YO s y (.int .i64 vy) r2) (W:YO s z u r3) (hu:V3 u=true) (hl:look s (1000+k)=some (.omap es)) (O:es=LK l) (hn:MT l vy=none) (B:LK (l++[(vy,u)])=es') (q:Nat.blt k 1000=true:=by rfl):
  Zb E q0 ⟨none,.insert t x y z,ty,v9,v4,jn⟩ s (rg++(r1++(r2++(r3++[(1000+k,.omap es)])))) [(1000+k,.omap es')] []:=
 Zb.rP hg rfl (Z.looks.app<|C.looks.app<|W.looks.app ⟨hl,Zo⟩) λU c a w hb D=>by
  subst O;subst B;rw[rb]at q;obtain⟨b,T,h0⟩:=JK (Z.rep (c:=c) (a:=a) (w:=w) λp i=>D p<|by simp[i]);obtain⟨b',H,g,h2,G,hs,h4⟩:=JO (D (1000+k,.omap<|LK l) F) q;rw[T]at h2;cases h2;have A:=C.rep (c:=c) (a:=a) (w:=w) λp i=>D p (by simp[i])
  obtain⟨h5,_⟩:=Xq A;have N:ZR c.h (.int .i64 vy)<|.int .i64 vy:=h5▸A;have I:=W.rep (c:=c) (a:=a) (w:=w) λp i=>D p (by simp[i])
  have hv:YQ (ZL c.h) u<|a.eval z:=(Yj (ys:=[u]) (vs:=[a.eval z]) ⟨I,Zo⟩<|by simp[hu]).1;have f:MapKept.IsKey (.int .i64)<|.int .i64 vy:=rfl;rcases HJ (k:=vy) 0 h4 with⟨_,q2,q3⟩|⟨j,u',m,q1,_,_⟩
  ·obtain⟨p1,p2⟩:=hb.EP (w':={w with heap:=w.heap.setIfInBounds b (.map (H.push ⟨.int .i64 vy,a.eval z,g⟩)<|g+1)}) T rfl rfl rfl F λj hj=>(MapKept.heap_set G).2 j hj
   refine⟨_,?_,p1,?_,λv y f J C=>p2 v y f (λe=>J _ (pi.2 rfl) e.symm) C⟩
   ·simp[execOp,h0,h5,Instr.mapUpdate,run_underlying ht,MapKept.run_getObj_map G,MapKept.run_checkKey hk f,MapKept.run_findKey hk q2,MapKept.run_setObj_map _ G]
   intro p i;simp only[pi]at i;subst i;refine Holds.mkMap q T (MapKept.heap_set G).1 (MapKept.stamped_push hs q3) ?_;rw[Array.toList_push];simp only[LK,ne,ta,H2];exact h4.append ⟨⟨N,hv⟩,Zo⟩
  rw[q1]at hn;cases hn
end
section
variable[DecidableEq K]{M:HM K}
def OK.eu(U':bc)(s1:St)(t:Nat)(kb:K)(i:look s 3000=some (.res<|Z9 M))(D:look s t=some (.ptr k 0))(g:Nat.blt t 1000=true)(O:look s (1000+k)=some (.box vv))(A:Nat.blt k 1000=true)
  (q:U'.contains k=false) (H:Le s s1) (F:s1.all (VB U')=true) (S:s1.all (λp=>! Nat.beq p.1 3000)=true) (N:Lh vv qs)
  (h:∀b,OK E qf Q U'<|(t,.raw<|.pointer<|some ⟨b,0,none⟩)::(3000,.res<|Z9<|M.set kb<|some (b,.box qs))::s1) (v:E.fs.contains k=false:=by rfl):OK E qf Q U s:=
 OK.nu (J0:=Z9 M) (J:=λb=>Z9<|M.set kb<|some (b,.box qs)) U' s1 t i D g O A v q H F S (λ_=>Z9.ZV _)
  (λb h Y T vs w I hw f G C=>by
   obtain⟨c,rfl,f⟩:=f;have B:=N.rep f;refine I.Ue (Mem.le_refl _) (λ_ _ _ _ _ e=>e) (λ_ _ _=>rfl) (λ_ e=>.inl e) (.inr C) (.inr rfl) ⟨G,T,vs,hw,?_⟩;rw[sg<|by rw[B.length];exact Zq _];exact B) h
end
section
variable{E:Env}{q0:Array Oper}{s r r1 r2 r3 rg:St}{d ty:Nat}{v9:String}{v4:Array Edge}{jn:Option (Nat×Bool)}{x y z:Operand}
theorem S.aq{qp:X}{t t':St}(hf:U_ E.P g fs ys t t' qp)(hT:TM E)
  (hcall:∀vj w,(callFunc g vj).run E.P w=.ok (.enter g vj) w) (hg:Gd q0 s jn rg) (hd:ca E d=true) (ha:V5 s os ys r) (ho:ys.all (λy=>Qv fs t y&&!X4 y)=true)
  (hl:Yw s t) (ht:t.all (WO fs t)=true) (T:t'.all (WO fs t)=true) (q:cover fs t t'=true) (hhas:fs.all (λk=>hasB t k||VU t k)=true) (hdis:fs.all (λk=>!E.fs.contains k)=true) (W:FH fs t qp=true):
  Zb E q0 ⟨some d,.call {callee:=.value<|.func g,args:=os.toArray,argTypes:=xo},ty,v9,v4,jn⟩ s (rg++(r++t)) ((d,qp)::t') []:=by
 simp only[Zw,rb]at hd;refine⟨?_,hg.looks.app<|ha.looks.app hl⟩;intro U c a w I hr _ next Q hn
 have hw:=hg.wanted (o:=⟨some d,.call {callee:=.value<|.func g,args:=os.toArray,argTypes:=xo},ty,v9,v4,jn⟩) λp i=>hr p<|sb _ i;have J:=OW (fs:=fs) (t:=t) (ha.rep (c:=c) (a:=a) (w:=w) λp i=>hr p<|by simp[i]) ho;unfold T_;rw[Zn hw];refine⟨λ_ _=>trivial,?_⟩;rw[Oper.semAt_eq _ _ _ λcl he=>by cases he];have hfo:a.eval (.func g)=.func (.func g) #[] #[]:=rfl;have V:(execOp a.eval ⟨some d,.call {callee:=.value<|.func g,args:=os.toArray,argTypes:=xo},ty,v9,v4,jn⟩).run E.P w=.ok (.enter g (os.map a.eval).toArray) w:=by
  simp_all[execOp,resolve,Deferred.ofValue,invoke]
 rw[V];refine⟨Z,?_⟩;have A:∀p∈t,Holds c a w p.1 p.2:=λp i=>hr p (by simp[i])
 have hto:Df E.P<|(c.Yg fs t).out fs:=λn hn' g' hg' N=>hT.out n hn' g' hg' (by
  have hlt:=hT.tab.lt n hn' g' hg';rcases N with N|⟨k,_,N⟩|⟨k,m,hv,_,N,hX2⟩
  ·exact N.elim
  ·rcases(I.loc k g' (Vn N).2.2).1 with h|h
   ·exact absurd h<|eμ.2 hlt
   exact h.2
  rcases(I.arr k m hv g' (VX N).2.2 hX2).1 with h|h
  ·exact absurd h<|eμ.2 hlt
  exact h.2)
 have hc0:=hf (c.Yg fs t) w (os.map a.eval) (hT.now I) hto (MQ I) (λp i a'=>(A p i).Yg<|bj.1 ht p i) J;have O:CallsIn E.ac (0 - 1) E.P g (os.map a.eval).toArray w _:=(callsIn_wide (n:=0)).2 hc0;refine O.mono ?_;rintro en w' ⟨u,c3,rfl,f⟩;have H:Ext (c.Yg fs t) c3:=by
  refine⟨f.le,λk b e=>?_,λk m hv lv e=>?_⟩
  ·obtain⟨G,hhb,_⟩:=Vn e;obtain⟨O,h2,_⟩:=Xm q G;obtain⟨x0,B,D⟩:=Wj<|h2 hhb;obtain⟨b',q1⟩:=TO (f.wr _ D {tmps:=#[],defers:=[]}) B O;have:=f.loc k b' q1;simp_all
  obtain⟨G,hha,_⟩:=VX e;obtain⟨O,_,h2⟩:=Xm q G;obtain⟨x0,B,D⟩:=Rx<|h2 hha;obtain⟨⟨_,_,_⟩,q1⟩:=Jr (f.wr _ D {tmps:=#[],defers:=[]}) B;obtain⟨m0,hv0,lv0,q2,q3,q4⟩:=f.arr k _ _ _ q1;grind
 have hB:KD E c c3 w w' fs t:=by
  refine⟨λk G=>?_,λk G=>?_,λk G=>⟨λh=>?_,λh=>?_⟩,f.below,f.le,λp v i=>f.new p v i,f.ok,f.out,H⟩
  ·simp_all
  ·simp_all
  ·obtain⟨x0,B,D⟩:=Wj h;exact TO (A _ D) B (Xm q G).1
  grind [Rx,Jr]
 have C:=hB.ext';have hdt:d<a.tmps.size:=by rw[I.nt];exact hd.2
 have tk:∀p∈t',1000<=p.1:=by
  intro p i;have h:=bj.1 T p i;obtain⟨vy,y⟩:=p;unfold WO at h;cases y
  case box vv=>simp_all
  case arr sz vi=>simp only[Zw,ky]at h;omega
  case omap es=>simp_all
  case W8 sz xr mid post=>simp only[Zw,ky]at h;omega
  all_goals cases h
 refine hn (c.back c3 fs t) _ w' ((I.back hB).put _ _) C ?_ ?_
 ·intro p i;rcases sf.1 i with rfl|i
  ·unfold Holds;rw[Zn hd.1,XN hdt];exact f.res.back W
  have h:=Holds.MB (c:=c) (a':=a) (f.wr p i a)<|bj.1 T p i;exact h.put (by grind) u
 intro vy y hk2 hy;have hne:d≠vy:=hk2 (d,qp) F;by_cases O:vy<1000
 ·refine Holds.put ?_ hne u;unfold Holds at hy⊢;rw[Zn O]at hy⊢;exact hy.mono C
 refine(Holds.back I hB O (λk hk3=>⟨λh e=>?_,λh e=>?_⟩) hy).put hne u
 ·obtain⟨x0,_,D⟩:=Wj<|(Xm q hk3).2.1 h;grind
 obtain⟨x0,_,D⟩:=Rx<|(Xm q hk3).2.2 h;grind
