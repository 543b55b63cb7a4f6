import Derived.LaidEql
import Derived.Test.YtpbalelbenmmbaaGreatDoorFw
set_option linter.all false
namespace Go.Ab
open Go.RowKit
inductive HK where
 |box (xs:bi)
 |row (sz cap:Nat) (rows:List bi)
 |gM (sz cap:Nat) (rows:List bi)
 |iter (s:ba) (pos:Nat)
def xF(h:Mem)(w:World)(b:Nat):HK->Prop
 |.box xs=>(∀o,h ⟨b,o,none⟩=none)/\∃T vs,w.heap[b]?=some (.cells vs T (0,0))/\ah (ay h) xs (vs.toList.take xs.length)
 |.row sz cap rows=>(∀o,h ⟨b,o,none⟩=none)/\(rows.length<=cap/\cap<=maxLen/\∀r∈rows,r.length=sz)/\∃T vs,w.heap[b]?=some (.cells vs T (0,0))/\vs.size=cap * sz/\ah (ay h) rows.flatten (vs.toList.take (rows.length * sz))
 |.gM sz cap rows=>(∀i,rows.length * sz<=i->h ⟨b,i,none⟩=none)/\(rows.length<=cap/\cap<=maxLen/\∀r∈rows,r.length=sz)/\∃T vs,w.heap[b]?=some (.cells vs T (0,0))/\vs.size=cap * sz/\ah (ay h) rows.flatten (vs.toList.take (rows.length * sz))/\
  ∀(i:Nat)(v:Value),(vs.toList.take (rows.length * sz))[i]?=some v->h ⟨b,i,none⟩=some v
 |.iter s pos=>(∀o,h ⟨b,o,none⟩=none)/\w.heap[b]?=some (.stringIter ⟨s.toArray⟩ pos)
def xF.grow{h h':Mem}{w w':World}{b:Nat}{x:HK}(hx:xF h w b x)(hle:Mem.le h h')(hn:∀o v,h' ⟨b,o,none⟩=some v->h ⟨b,o,none⟩=some v)(hw:w'.heap[b]?=w.heap[b]?):xF h' w' b x:=by
 have hnone:∀o,h ⟨b,o,none⟩=none->h' ⟨b,o,none⟩=none:=fun o ho=>by
  cases hh:h' ⟨b,o,none⟩<;>grind
 cases x with
 |box xs=>obtain⟨h1,T,vs,h2,h3⟩:=hx;exact⟨fun o=>hnone o (h1 o),T,vs,hw.trans h2,h3.mono fun _ _=>ay.mono hle⟩
 |row sz cap rows=>obtain⟨h1,h0,T,vs,h2,h3,h4⟩:=hx;exact⟨fun o=>hnone o (h1 o),h0,T,vs,hw.trans h2,h3,h4.mono fun _ _=>ay.mono hle⟩
 |gM sz cap rows=>obtain⟨h1,h0,T,vs,h2,h3,h4,h5⟩:=hx;exact⟨fun i hi=>hnone i (h1 i hi),h0,T,vs,hw.trans h2,h3,h4.mono fun _ _=>ay.mono hle,fun i v hv=>hle _ _ (h5 i v hv)⟩
 |iter s pos=>obtain⟨h1,h2⟩:=hx;exact⟨fun o=>hnone o (h1 o),hw.trans h2⟩
abbrev HM(K:Type):=K->Option (Nat×HK)
section
variable{K:Type}
def aa(M:HM K):bm:=fun h Y w=>(∀k b x,M k=some (b,x)->Y b/\xF h w b x)/\∀k1 k2 b x y,M k1=some (b,x)->M k2=some (b,y)->k1=k2
theorem aa.az(M:HM K):aZ (aa M):=by
 rintro h h' Y w w' ⟨h1,h2⟩ hle hnew hw hb hY;exact⟨fun k b x hk=>⟨(h1 k b x hk).1,(h1 k b x hk).2.grow hle (fun o v hv=>(hnew _ v hv).elim id fun e=>absurd (h1 k b x hk).1 e) (hY b (h1 k b x hk).1)⟩,h2⟩
def aa.mono{M:HM K}{h:Mem}{Y Y':Nat->Prop}{w:World}(hj:aa M h Y w)(hY:∀b,Y b->Y' b):aa M h Y' w:=⟨fun k b x hk=>⟨hY b (hj.1 k b x hk).1,(hj.1 k b x hk).2⟩,hj.2⟩
theorem aa.nil{h:Mem}{Y:Nat->Prop}{w:World}:aa (fun _:K=>none) h Y w:=⟨fun k b x e=>by simp at e,fun k1 k2 b x y e=>by simp at e⟩
def aa.less{M M':HM K}{h:Mem}{Y:Nat->Prop}{w:World}(hj:aa M h Y w)(hM:∀k p,M' k=some p->M k=some p):aa M' h Y w:=⟨fun k b x hk=>hj.1 k b x (hM k _ hk),fun k1 k2 b x y e1 e2=>hj.2 k1 k2 b x y (hM _ _ e1) (hM _ _ e2)⟩
variable[DecidableEq K]
def HM.set(M:HM K)(k:K)(p:Option (Nat×HK)):HM K:=fun j=>if j=k then p else M j
def HM.bw(M:HM K)(k:K)(p:Option (Nat×HK)):M.set k p k=p:=Zn rfl
def HM.ai(M:HM K){k j:K}(p:Option (Nat×HK))(h:j≠k):M.set k p j=M j:=Zm h
def aa.Y_{M:HM K}{h h':Mem}{Y Y':Nat->Prop}{w w':World}{k0:K}{b0:Nat}{x':HK}(hj:aa M h Y w)(hle:Mem.le h h')(hn:∀b,b≠b0->Y b->∀o v,h' ⟨b,o,none⟩=some v->h ⟨b,o,none⟩=some v)
  (hw:∀b,b≠b0->Y b->w'.heap[b]?=w.heap[b]?) (hY:∀b,Y b->Y' b) (hb0:(∃x,M k0=some (b0,x))\/¬Y b0) (hY0:Y' b0) (hx:xF h' w' b0 x'):aa (M.set k0 (some (b0,x'))) h' Y' w':=by
 have hne:∀k b x,k≠k0->M k=some (b,x)->b≠b0:=by
  rintro k b x hk e rfl;rcases hb0 with⟨x0,e0⟩|hb0
  ·exact hk (hj.2 _ _ _ _ _ e e0)
  exact hb0 (hj.1 _ _ _ e).1
 refine⟨fun k b x e=>?_,fun k1 k2 b x y e1 e2=>?_⟩
 ·by_cases hk:k=k0
  ·simp_all[HM.bw]
  rw[HM.ai _ _ hk]at e;obtain⟨p1,p2⟩:=hj.1 k b x e;have hb:=hne k b x hk e;exact⟨hY b p1,p2.grow hle (hn b hb p1) (hw b hb p1)⟩
 grind [aa,HM.set]
omit [DecidableEq K]
def fA(M:HM K)(k:K)(hd:Value)(sz:Nat)(rows:List bi):Prop:=(hd=.slice none 0 0/\rows=[]/\M k=none)\/∃b cap,hd=.slice (some ⟨b,0,none⟩) rows.length cap/\M k=some (b,.gM sz cap rows)
def mG(M:HM K)(k:K)(hd:Value)(sz:Nat)(rows:List bi):Prop:=(hd=.slice none 0 0/\rows=[]/\M k=none)\/∃b cap,hd=.slice (some ⟨b,0,none⟩) rows.length cap/\M k=some (b,.row sz cap rows)
def fA.data{M:HM K}{k:K}{hd:Value}{sz:Nat}{rows:List bi}(hg:fA M k hd sz rows){h:Mem}{Y:Nat->Prop}{w:World}(hj:aa M h Y w):ay h (.sl rows) hd:=by
 rcases hg with⟨rfl,rfl,_⟩|⟨b,cap,rfl,hM⟩
 ·exact .rP none 0 (Zr _)
 obtain⟨_,_,⟨h1,h2,h3⟩,T,vs,h4,h5,h6,h7⟩:=hj.1 k b _ hM;exact .sl rows b 0 cap sz (vs.toList.take (rows.length * sz)) h1 h2 h3 h6.length (fun i v e=>by simp_all) fun i x v e1 e2=>h6.get e1 e2
inductive Vw(M:HM K):X->X->Prop
 |same (x:X):Vw M x x
 |sl {k:K} {hd:Value} {sz:Nat} {rows:List bi} (h:fA M k hd sz rows):Vw M (.raw hd) (.sl rows)
def Vw.get{M:HM K}{x u:X}(hv:Vw M x u){h:Mem}{Y:Nat->Prop}{w:World}(hj:aa M h Y w){v:Value}(r:ay h x v):ay h u v:=by
 cases hv with
 |same=>exact r
 |sl hg=>cases r;exact hg.data hj
def aa.dQ{M:HM K}{k:K}{b o:Nat}{xs:bi}{x u:X}(hM:M k=some (b,.box xs))(hx:xs[o]?=some x)(hv:Vw M x u):∀h Y w,aa M h Y w->∃v,w.cell? ⟨b,o,none⟩=some v/\bK (aD h) u v:=by
 intro h Y w hj;obtain⟨_,h1,T,vs,h2,h3⟩:=hj.1 k b _ hM;obtain⟨v,h4,h5⟩:=h3.eD hx;have h6:=hv.get hj h5;simp_all[ay.ef,ma,World.cell?]
def aa.Ej{M:HM K}{k:K}{b o n:Nat}{xs us:bi}(hM:M k=some (b,.box xs))(hx:ah (Vw M) ((xs.drop o).take n) us)(hn:us.length=n):∀h Y w,aa M h Y w->∃vs:List Value,vs.length=n/\(∀(i:Nat)(v:Value),vs[i]?=some v->w.cell? ⟨b,o+i,none⟩=some v)/\ah (aV (aD h)) us vs:=by
 intro h Y w hj;obtain⟨_,h1,T,vs,h2,h3⟩:=hj.1 k b _ hM;have h4:=(h3.drop o).take n;refine⟨((vs.toList.take xs.length).drop o).take n,by rw[←h4.length,hx.length,hn],fun i v hi=>?_,?_⟩
 ·simp_all[ma,World.cell?]
 refine ah.fb (hx.length.symm.trans h4.length) fun i u v hu hv=>?_
 have hi:i<((xs.drop o).take n).length:=by grind
 exact ay.Aa ((hx.get (Zv hi) hu).get hj (h4.get (Zv hi) hv))
end
def vA{α:Type}{l vals:List α}{o n L:Nat}(hn:vals.length=n)(h:o+n<=L)(hL:L<=l.length):(l.take o++(vals++l.drop (o+n))).take L=(l.take L).take o++(vals++(l.take L).drop (o+n)):=by
 obtain⟨A,B,rfl,rfl⟩:∃A B,l=A++B/\A.length=L:=⟨l.take L,l.drop L,(io L l).symm,by simp_all⟩;have e1:(A++B).take o=A.take o:=np I;grind [List.take_left',List.length_take]
def Fv:X->X
 |.bO=>.raw (.slice none 0 0)
 |x=>x
def G7:X->Bool
 |.bO=>true
 |x=>yG x
theorem F0{c:Ctx}{u:X}{v:Value}(h:aV c u v)(hu:G7 u=true):ay c.h (Fv u) v:=by
 cases u<;>first|exact F1 h hu|(have h':_=Value.slice none 0 0:=h;exact ay.qn h' rfl)
def BT{c:Ctx}:∀{us:bi}{vs:List Value},ah (aV c) us vs->us.all G7=true->ah (ay c.h) (us.map Fv) vs
 |[],[],_,_=>trivial
 |_::_,_::_,h,ho=>by simp only[ee,Zw]at ho;exact⟨F0 h.1 ho.1,BT h.2 ho.2⟩
 |[],_::_,h,_=>h.elim
 |_::_,[],h,_=>h.elim
section
variable{E:Env}{all:Array Oper}{s r r1 r2 r3 rg:St}{d ty:Nat}{pos:String}{after:Array Edge}{guard:Option (Nat×Bool)}{x y z:Operand}{K:Type}[DecidableEq K]
def S.dc{T n b o:Nat}{ag:Bool}{u:X}{xs xs':bi}{M:HM K}(k0:K)(ht:eT E.P T ag n)(hg:Gd all s guard rg)(hx:bI s x (.raw (.pointer (some ⟨b,o,none⟩))) r1)(hy:bI s y u r2)(hl:look s 3000=some (.res (aa M)))(hM:M k0=some (b,.box xs))
  (hu:nX u=true) (hu2:(cg u).all G7=true) (hn:(cg u).length=n) (hfit:Nat.ble (o+n) xs.length=true) (hus:xs.take o++((cg u).map Fv++xs.drop (o+n))=xs'):
  aW E all ⟨none,.store T x y,ty,pos,after,guard⟩ s (rg++((r1++r2)++[(3000,.res (aa M))])) [(3000,.res (aa (M.set k0 (some (b,.box xs')))))] []:=
 aW.res hg rfl (hx.looks.app hy.looks) hl fun U c a w hb hr hj=>by
  subst hus;rw[ii]at hfit;have h0:a.eval x=.pointer (some ⟨b,o,none⟩):=hx.rep (c:=c) (a:=a) (w:=w) fun p hp=>hr p (by simp[hp])
  obtain⟨hc,ho⟩:=gq (hy.rep (c:=c) (a:=a) (w:=w) fun p hp=>hr p (by simp[hp])) hu;have hc2:=BT hc hu2;obtain⟨hY,h1,T',vs,h2,h3⟩:=hj.1 k0 b _ hM;have hl3:=h3.length;rw[gn]at hl3;have hcl:=hc.length;have hvl:vs.toList.length=vs.size:=by simp
  have hcs:(a.eval y).cells.size=n:=by rw[←hn,hcl];simp
  have hnn:(a.eval y).cells.toList.length=n:=by rw[←hcl,hn]
  have hst:=run_storeCells_at E.P b o T' (a.eval y).cells.toList 0 vs w h2 (by simp;omega) ho;simp only[po]at hst;refine⟨w.setRow b (vs.toList.take o++(a.eval y).cells.toList++vs.toList.drop (o+(a.eval y).cells.toList.length)).toArray,?_,vB hb hY h1 rfl rfl rfl F fun j hj=>setRow_other w b j _ hj,Holds.iV (aa.az _) ?_⟩
  ·simp[execOp,h0,Instr.storeAt,Instr.sureAddr,storeVar,ht.size,hcs,hst]
  refine hj.Y_ (Mem.le_refl _) (fun _ _ _ _ _ e=>e) (fun j hj _=>setRow_other w b j _ hj) (fun _ e=>e) (.inl ⟨_,hM⟩) hY ⟨h1,T',_,setRow_heap w b vs _ T' _ h2,?_⟩;rw[hnn];have hc2l:=hc2.length;have hlen:(xs.take o++((cg u).map Fv++xs.drop (o+n))).length=xs.length:=by simp only[Zs,gn,mp,Zx,hn];omega
  simp only[lO];rw[hlen,vA hnn hfit I];exact(h3.take o).append (hc2.append (h3.drop (o+n)))
def S.hlen{t e sz n cap:Nat}{ad:Option Addr}(hs:o7 E.P t e sz)(hm:n<=maxLen)(hg:Gd all s guard rg)(hd:cP E d=true)(hx:bI s x (.raw (.slice ad n cap)) r1):
 aW E all ⟨some d,.call {callee:=.builtin .len,args:=#[x],argTypes:=#[t]},ty,pos,after,guard⟩ s (rg++r1) [(d,.int .i64 n)] []:=S.rslen (r:=⟨ad,cap,n⟩) hs hm hg hd hx
end
end Go.Ab
namespace Go.Ab
open Go.RowKit
def vC:∀{L1 L2:List Lab}{D:Nat->Bool}(s:St)(_:L1.length=L2.length)(_:∀j,D j=true->L1[j]?=L2[j]?),mK L1 D s=mK L2 D s/\∀U,uD L1 D U=uD L2 D U
 |[],[],_,_,_,_=>⟨rfl,fun _=>rfl⟩
 |b1::L1,b2::L2,D,s,hl,hj=>by
  have ih:=fun s=>vC (L1:=L1) (L2:=L2) (D:=fun j=>D (j+1)) s (by grind) (fun j hd=>by grind)
  cases hd:D 0 with
  |false=>exact⟨by simp_all[mK],fun U=>by rw[uD,uD,hd];exact(ih s).2 _⟩
  |true=>
   have e:b1=b2:=by grind
   subst e;exact⟨by simp_all[mK],fun U=>by rw[uD,uD];exact(ih s).2 _⟩
 |[],_::_,_,_,hl,_=>by simp at hl
 |_::_,[],_,_,hl,_=>by simp at hl
section
variable{E:Env}{l:List Oper}{U U':bc}{s:St}
def Ek{ι:Type}(q0:ι){x:Nat}{ox:Oper}{rd:St}{wr:ι->St}{al:bc}{Lq:ι->List Lab}{sq:ι->St}(h:∀q,F2 E l.toArray (some x) l U s (Lq q) U' (sq q))(hc:∀q,iC l (Lq q)=true)
  (hind:∀q q' j,j≠x->j<l.length->((Af l []).getD j 0).testBit x=false->(Lq q)[j]?=(Lq q')[j]?) (hx:∀q,(Lq q)[x]?=some ⟨rd,wr q,al⟩) (hox:l[x]?=some ox) (hX:yH E l.toArray ox rd wr al)
  (Q:Exit->Act->World->Prop) (hQ:∀q a w,Good E U' (sq q) a w->Q .normal a w):
  ∀(fuel:Nat)(listed:Array Bool)(a:Act)(w:World),listed.size=l.length->vD listed.toList<=fuel->nY l (fun j=>listed.getD j false)->listed.getD x false=false->
   Good E (uD (Lq q0) (fun j=>listed.getD j false) U) (mK (Lq q0) (fun j=>listed.getD j false) s) a w->wpAnyIn E.ac 0 E.P .any l.toArray Q fuel listed a w:=by
 have hdown:lU 0 l=true:=by
  have:=hc q0;simp_all[iC]
 have hxl:x<l.length:=(dq.1 hox).1;have fin:∀(listed:Array Bool),listed.size=l.length->listed.getD x false=false->Region.ready .any l.toArray listed≠[]:=by
  grind [sI]
 intro fuel
 induction fuel with
 |zero=>
  grind [vE]
 |succ fuel ih=>
  intro listed a w hsz hun hcl hj hg;refine⟨fun hr=>absurd hr (fin listed hsz hj),fun i hi=>?_⟩;obtain⟨h0,o,ho,hedges⟩:=mem_ready.1 hi;have hil:i<l.length:=by grind
  have hio:l[i]?=some o:=by grind
  have hisz:i<listed.size:=by omega
  obtain⟨c,hbase,hholds⟩:=hg;have hsame:∀q,mK (Lq q) (fun j=>listed.getD j false) s=mK (Lq q0) (fun j=>listed.getD j false) s/\uD (Lq q) (fun j=>listed.getD j false) U=uD (Lq q0) (fun j=>listed.getD j false) U:=fun q=>by
   have:=vC (D:=fun j=>listed.getD j false) (L1:=Lq q) (L2:=Lq q0) s (by rw[(h q).length,(h q0).length]) (fun j hjd=>by
    have hjl:j<l.length:=by
     grind
    have hjx:j≠x:=fun e=>by simp_all
    refine hind q q0 j hjx hjl ?_;cases hb:((Af l []).getD j 0).testBit x with
    |false=>rfl
    |true=>
     have hD:=fU hcl l [] [] rfl rfl F j x hb hjl (fun o' ho' e he hb=>hcl j o' ho' hjd e he hb);simp_all)
   simp_all
  by_cases hix:i=x
  ·subst hix;rw[hio]at hox;cases hox;obtain⟨p1,p2,_⟩:=kL (h q0) (hc q0) hsz hcl hbase hholds hi hio (hx q0);refine cW ho (hX _ c a w hbase p1 p2 _ Q ?_);intro q c' a' w' hb' hwr hfr;obtain⟨_,_,p3⟩:=kL (h q) (hc q) hsz hcl (by simp_all) (fun key y hy=>hholds key y (by simp_all)) hi hio (hx q);obtain⟨q1,q2,q3⟩:=p3 c' a' w' (by grind) hwr hfr;refine Ag (h q) (hc q) Q (hQ q) fuel _ a' w' (by grind) I q1 (fun y hy=>?_) q3;cases hy;simp[hisz]
  have hbi:(Lq q0)[i]?=some ((Lq q0)[i]'(by have:=(h q0).length;omega)):=Zv _;obtain⟨o',ho',hstep,_,_⟩:=(h q0).at' i _ hbi;rw[hio]at ho';cases ho';obtain⟨p1,p2,p3⟩:=kL (h q0) (hc q0) hsz hcl hbase hholds hi hio hbi;refine cW ho (hstep (fun e=>hix (by cases e;rfl)) _ c a w hbase p1 p2 _ Q ?_);intro c' a' w' hb' _ hwr hfr;obtain⟨q1,q2,q3⟩:=p3 c' a' w' hb' hwr hfr;refine ih _ a' w' (by grind) I q1 ?_ q3;simp_all
end
inductive LxY(E:Env)(all:Array Oper)(rd wr:St)(al:bc):Option Nat->List Oper->bc->St->List Lab->bc->St->Prop
 |nil {U:bc} {s:St}:LxY E all rd wr al none [] U s [] U s
 |cons {o:Oper} {k:Option Nat} {l:List Oper} {U U':bc} {s s':St} {L:List Lab} {rd2 wr2:St} {al2:bc}:Step E all o rd2 wr2 al2->Looks s rd2->(al2.all fun k=>!U.contains k)=true->
  LxY E all rd wr al k l (al2++U) (wr2++s) L U' s'->LxY E all rd wr al (k.map (· +1)) (o::l) U s (⟨rd2,wr2,al2⟩::L) U' s'
 |Jf {o:Oper} {l:List Oper} {U U':bc} {s s':St} {L:List Lab}:Looks s rd->(al.all fun k=>!U.contains k)=true->
  LxY E all rd wr al none l (al++U) (wr++s) L U' s'->LxY E all rd wr al (some 0) (o::l) U s (⟨rd,wr,al⟩::L) U' s'
section
variable{E:Env}{all:Array Oper}{s0 s' rd wr rd2 wr2:St}{al al2 U U':bc}{o:Oper}{l:List Oper}{L:List Lab}{n:Nat}
def LxY.cs(h:aW E all o s0 rd2 wr2 al2)(hr:LxY E all rd wr al (some n) l (al2++U) (wr2++s0) L U' s')(ha:(al2.all fun k=>!U.contains k)=true:=by rfl):LxY E all rd wr al (some (n+1)) (o::l) U s0 (⟨rd2,wr2,al2⟩::L) U' s':=.cons (k:=some n) h.1 h.2 ha hr
def LxY.cn(h:aW E all o s0 rd2 wr2 al2)(hr:LxY E all rd wr al none l (al2++U) (wr2++s0) L U' s')(ha:(al2.all fun k=>!U.contains k)=true:=by rfl):LxY E all rd wr al none (o::l) U s0 (⟨rd2,wr2,al2⟩::L) U' s':=.cons (k:=none) h.1 h.2 ha hr
def LxY.x(hl:Looks s0 rd)(hr:LxY E all rd wr al none l (al++U) (wr++s0) L U' s')(ha:(al.all fun k=>!U.contains k)=true:=by rfl):LxY E all rd wr al (some 0) (o::l) U s0 (⟨rd,wr,al⟩::L) U' s':=.Jf hl ha hr
def LxY.s{k:Option Nat}(h:LxY E all rd wr al k l U s0 L U' s'):F2 E all k l U s0 L U' s':=by
 induction h with
 |nil=>exact⟨rfl,fun D _=>⟨rfl,rfl⟩,fun i b hb=>by simp at hb⟩
 |cons hs hl hal _ ih=>
  refine ih.cons (fun _=>hs) (fun i e he=>e ?_) hl hal;rw[he];rfl
 |Jf hl hal _ ih=>exact ih.cons (fun e=>absurd rfl e) (fun i _ e=>by cases e) hl hal
def LxY.at{k:Option Nat}(h:LxY E all rd wr al k l U s0 L U' s'):∀x,k=some x->L[x]?=some ⟨rd,wr,al⟩:=by
 induction h with
 |nil=>intro x e;cases e
 | @cons _ k _ _ _ _ _ _ _ _ _ _ _ _ _ ih=>
   intro x e;cases k with
   |none=>cases e
   |some j=>cases e;exact ih j rfl
 |Jf=>intro x e;cases e;rfl
end
def filt(x:Nat):Nat->bc->List Lab->List (Option Lab)
 |_,_,[]=>[]
 |j,[],a::l=>(if Nat.beq j x then none else some a)::filt x (j+1) [] l
 |j,c::cs,a::l=>(if c.testBit x||Nat.beq j x then none else some a)::filt x (j+1) cs l
def filt_at{x:Nat}:∀{L1 L2:List Lab}{cs:bc}{i:Nat},filt x i cs L1=filt x i cs L2->∀j,i+j≠x->(cs.getD j 0).testBit x=false->L1[j]?=L2[j]?
 |[],[],_,_,_,_,_,_=>rfl
 |[],_::_,[],_,h,_,_,_=>by simp[filt]at h
 |[],_::_,_::_,_,h,_,_,_=>by simp[filt]at h
 |_::_,[],[],_,h,_,_,_=>by simp[filt]at h
 |_::_,[],_::_,_,h,_,_,_=>by simp[filt]at h
 |a::L1,b::L2,[],i,h,0,hj,_=>by
  simp only[filt,na]at h;have hb:Nat.beq i x=false:=by cases e:Nat.beq i x with|false=>rfl|true=>exact absurd (Nat.eq_of_beq_eq_true e) (by simpa using hj)
  simpa[hb]using h.1
 |a::L1,b::L2,[],i,h,j+1,hj,hc=>by
  simp only[filt,na]at h;simpa using filt_at h.2 j I (by simpa using hc)
 |a::L1,b::L2,c::cs,i,h,0,hj,hc=>by
  simp only[filt,na]at h;have hb:Nat.beq i x=false:=by cases e:Nat.beq i x with|false=>rfl|true=>exact absurd (Nat.eq_of_beq_eq_true e) (by simpa using hj)
  have hc':c.testBit x=false:=by simpa using hc
  simpa[hb,hc']using h.1
 |a::L1,b::L2,c::cs,i,h,j+1,hj,hc=>by
  simp only[filt,na]at h;simpa using filt_at h.2 j I (by simpa using hc)
def OK.drawY{E:Env}{l:List Oper}{U U':bc}{s:St}{ι:Type}{id:Nat}{Q:bo}(hm:E.P.follows .mixedOrders=true)(q0:ι)(x:Nat){ox:Oper}{rd:St}{wr:ι->St}{al:bc}{Lq:ι->List Lab}{sq:ι->St}(hox:l[x]?=some ox)
  (hX:yH E l.toArray ox rd wr al) (h:∀q,LxY E l.toArray rd (wr q) al (some x) l U s (Lq q) U' (sq q)) (hQ:∀q,Q .normal U' (sq q)) (hc:∀q,iC l (Lq q)=true:=by intro _;kernel_rfl) (hf:∀q q',filt x 0 (Af l []) (Lq q)=filt x 0 (Af l []) (Lq q'):=by intro _ _;kernel_rfl):
  OK E (.region id l.toArray true) Q U s:=by
 intro a w hg;refine wpIn_region_draw fun t=>?_
 simp only[Region.schedule,hm,vx,if_true];refine wpAnyIn_sound _ t _ a _ ?_;refine Ek q0 (fun q=>(h q).s) hc (fun q q' j h1 _ h3=>filt_at (hf q q') j I h3) (fun q=>(h q).at x rfl) hox hX _ (fun q a w hg=>⟨U',sq q,hg,hQ q⟩) l.toArray.size (Array.replicate l.toArray.size false) a w.drew F ?_ ?_ ?_ ?_
 ·have:∀n:Nat,vD (List.replicate n false)=n:=by intro n;simp[vD]
  simp[this]
 ·intro i o _ hd;exfalso;have h0:false=true:=(iW l.toArray.size i).symm.trans hd;cases h0
 ·exact iW _ _
 have:(fun j=>(Array.replicate l.toArray.size false).getD j false)=(fun _:Nat=>false):=by
  funext j;exact iW _ j
 rw[this,iX,j7];exact hg.drew
end Go.Ab
namespace Go.Ab
open Go.RowKit
section
variable{P:Program}(w:World)
def o9(base t u ty e e0:Nat)(du:TypeDesc)(i:TypeInfo)(z:Value)(size bytes:Nat)(ht:P.underlying t=some (.slice e))(hu:P.underlying u=some du)(hdu:xG du)
  (hi:P.info? e=some i) (hz:i.zero=some z) (hsize:i.size=size) (hby:i.bytes=bytes) (hzs:z.cells.size=size)
  (v:Value) (n:Nat) (xs:List Value) (hown:w.ownsRow base e0 size v n xs) (x:Value) (m:Nat) (news:List Value) (hlen:∀w,(Builtin.lenOf x).run P w=.ok m w) (hl:news.length=m * size)
  (hf:∀w':World,(∀p,w'.cell? p=w.cell? p)->(Builtin.firstCells size m x).run P w'=.ok news.toArray w') (h1:∀q∈news,q.oneCell'=true)
  (h63:n+m<=maxLen) (hbytes:(n+m) * bytes<=140737488355328) (hbase:base<=w.heap.size):
  ∃v' w' e1,(Builtin.append_ #[t,u] ty #[v,x]).run P w=.ok v' w'/\w'.ownsRow base e1 size v' (n+m) (xs++news)/\w.grownBy w' v.ownBlock/\(v'.ownBlock=v.ownBlock\/(v'.ownBlock=some w.heap.size/\w.heap.size<w'.heap.size/\∀k,k<w.heap.size->w'.heap[k]?=w.heap[k]?))/\(m=0->v'=v)/\∃a l c,v'=.slice a l c:=by
 subst hsize;subst hby;have hsmall:n+m<=9223372036854775807:=by simp_all[maxLen]
 have hlen2:(xs++news).length=(n+m) * i.size:=by rw[Zs,hown.1,hl,pa]
 have grown:∀(old:Nat),(w.drew.alloc (.cells (xs.toArray++news.toArray++Builtin.zeroCells z.cells (grownCap w (n+m) old e - (n+m))) e)).ownsRow base e i.size
   (.slice (some ⟨w.heap.size,0,none⟩) (n+m) (grownCap w (n+m) old e)) (n+m) (xs++news):=by
  intro old;have hge:=grownCap_ge w (n+m) old e;have hcm:grownCap w (n+m) old e<=maxLen:=grownCap_le_maxLen w (n+m) old e h63;refine⟨hlen2,.inr ⟨w.heap.size,_,_,rfl,hbase,heap_alloc_new w.drew _,hge,hcm,?_,?_⟩⟩
  ·simp only[Array.size_append,xc,size_zeroCells,hzs,hown.1,hl,←pa];simp_all
  grind
 have gby:∀(o:Obj)(row:Option Nat),w.grownBy (w.drew.alloc o) row:=fun o row=>⟨rfl,rfl,rfl,by simp,fun k hk _=>Below.heap_alloc w.drew o k hk⟩
 rcases hown.2 with⟨rfl,rfl⟩|⟨g,cap,cur,rfl,hbg,hg,hnc,hcm,hcs,qo⟩
 ·have hx:xs=[]:=ft (by simp_all);subst hx;by_cases hm:m=0
  ·subst hm;have hn:news=[]:=ft I;subst hn;refine⟨.slice none 0 0,w,e,?_,uf w base e i.size,⟨rfl,rfl,rfl,Zq _,fun _ _ _=>rfl⟩,.inl rfl,fun _=>rfl,none,0,0,rfl⟩;have:=hf w fun _=>rfl
   rcases hdu with⟨e',rfl⟩|rfl<;>simp[Builtin.append_,run_underlying ht,run_underlying hu,sizeOf,typeInfo,hi,hlen,this]
  have h63':¬(9223372036854775807<(m:Int)):=by omega
  have h48':¬(281474976710656<Builtin.nextslicecap m 0 * i.bytes):=by rw[nextslicecap_zero I];grind
  have hgr:=grown 0;simp only[gk,pt,Array.empty_append]at hgr⊢;refine⟨.slice (some ⟨w.heap.size,0,none⟩) m (grownCap w m 0 e),w.drew.alloc (.cells (news.toArray++Builtin.zeroCells z.cells (grownCap w m 0 e - m)) e),e,?_,hgr,gby _ _,.inr ⟨rfl,by simp,fun k hk=>Below.heap_alloc w.drew _ k hk⟩,fun h=>absurd h hm,_,_,_,rfl⟩;have hff:=hf w.drew fun _=>rfl
  rcases hdu with⟨e',rfl⟩|rfl<;>simp[Builtin.append_,run_underlying ht,run_underlying hu,sizeOf,typeInfo,zeroValue,hi,hz,hlen,hm,h63',h48',Question.forced,run_firstCells_none,hff,newRow,grownCap]
 by_cases hroom:n+m<=cap
 ·have hfit:n * i.size+news.length<=cur.size:=by rw[hl,hcs,←pa];exact li _ hroom
  have hff:=hf w fun _=>rfl
  have hst:=run_storeCells_at P g (n * i.size) e0 news 0 cur w hg I h1;simp only[po]at hst;refine⟨.slice (some ⟨g,0,none⟩) (n+m) cap,w.setRow g (cur.toList.take (n * i.size)++news++cur.toList.drop (n * i.size+news.length)).toArray,e0,?_,
   ⟨hlen2,.inr ⟨g,cap,_,rfl,hbg,setRow_heap w g cur _ e0 _ hg,hroom,hcm,?_,?_⟩⟩,⟨rfl,rfl,rfl,by simp,fun k _ hk=>setRow_other w g k _ (fun e=>hk (by simp[Value.ownBlock,e]))⟩,.inl rfl,(fun h=>by subst h;rfl),_,_,_,rfl⟩
  ·rcases hdu with⟨e',rfl⟩|rfl<;>simp[Builtin.append_,run_underlying ht,run_underlying hu,sizeOf,typeInfo,hi,hlen,hroom,hff,Addr.add_lit,hst]
  all_goals grind
 have holds:∀j u,xs[j]?=some u->w.cell? ((⟨g,0,none⟩:Addr).add j)=some u:=hown.cells (g:=g) rfl;have hn:¬(n+m<=cap):=hroom;have h63':¬(9223372036854775807<((n:Int)+(m:Int))):=by omega
 have h48:=growslice_fits (need:=n+m) (old:=cap) (bytes:=i.bytes) I hbytes;have h48':¬(281474976710656<Builtin.nextslicecap (n+m) cap * i.bytes):=by omega
 have hff:=hf w.drew fun _=>rfl
 have hfo:=run_firstCells_some (P:=P) w.drew i.size n ⟨g,0,none⟩ n cap xs hown.1 (by simp_all);refine⟨_,_,e,?_,grown cap,gby _ _,.inr ⟨rfl,by simp,fun k hk=>Below.heap_alloc w.drew _ k hk⟩,(fun h=>by omega),_,_,_,rfl⟩;rcases hdu with⟨e',rfl⟩|rfl<;>(simp[Builtin.append_,run_underlying ht,run_underlying hu,sizeOf,typeInfo,zeroValue,hi,hz,hlen,hn,h63',h48',Question.forced,hff,hfo,newRow,grownCap];grind)
end
section
variable{P:Program}{t u ty e sz bytes m:Nat}{du:TypeDesc}{h:Mem}{Y:Nat->Prop}{w:World}
def yI(hA:lV P t e sz bytes)(hu:P.underlying u=some du)(hdu:xG du){hd:Value}{n:Nat}{T:TypeId}{xs:List Value}(hown:w.ownsRow 0 T sz hd n xs){y:Value}{news:List Value}(h1:∀q∈news,q.oneCell'=true)(hl:news.length=m * sz)(n2:∀w,(Builtin.lenOf y).run P w=.ok m w)
  (n4:∀w':World,(∀p,w'.cell? p=w.cell? p)->(Builtin.firstCells sz m y).run P w'=.ok news.toArray w') (hm0:0<m) (hbd:(n+m) * bytes<=140737488355328) (hbm:n+m<=maxLen):
  ∃b cap cur e1 w',(Builtin.append_ #[t,u] ty #[hd,y]).run P w=.ok (.slice (some ⟨b,0,none⟩) (n+m) cap) w'/\w'.heap[b]?=some (.cells cur e1 (0,0))/\n+m<=cap/\cap<=maxLen/\cur.size=cap * sz/\cur.toList.take ((n+m) * sz)=xs++news/\
   (w'.os=w.os/\w'.tape=w.tape/\w'.output=w.output/\w.heap.size<=w'.heap.size)/\((hd.ownBlock=some b/\∀k,k≠b->k<w.heap.size->w'.heap[k]?=w.heap[k]?)\/(b=w.heap.size/\∀k,k<w.heap.size->w'.heap[k]?=w.heap[k]?)):=by
 obtain⟨i,zv,i1,i2,i3,i4,i5⟩:=hA.ex;obtain⟨v',w',e1,q1,q2,q3,q4,_,_⟩:=o9 (P:=P) w 0 t u ty e T du i zv sz bytes hA.mD hu hdu i1 i2 i3 i4 i5 hd n xs hown y m news n2 hl n4 h1 hbm hbd (Zr _);rcases q2.2 with⟨_,h0⟩|⟨b,cap,cur,rfl,_,f1,f2,f3,f4,f5⟩
 ·omega
 refine⟨b,cap,cur,e1,w',q1,f1,f2,f3,f4,f5,⟨q3.os,q3.tape,q3.output,q3.size⟩,?_⟩;rcases q4 with q4|⟨q4,_,q5⟩
 ·have hb:hd.ownBlock=some b:=q4.symm;exact .inl ⟨hb,fun k hk hlt=>q3.block k hlt (by simp_all)⟩
 have hb:b=w.heap.size:=tn q4;simp_all
def sJ{cur:Array Value}{T:TypeId}{b n:Nat}{xs:List Value}(hg:w.heap[b]?=some (.cells cur T (0,0)))(ht:cur.toList.take n=xs){i:Nat}{v:Value}(hv:xs[i]?=some v):w.cell? ⟨b,i,none⟩=some v:=by
 grind [World.cell?]
def yJ{p:Addr}{b:Nat}(h1:p.block=b)(h2:p.spot=none):p=⟨b,p.off,none⟩:=by cases p;simp_all
variable{K:Type}[DecidableEq K]
def aa.app(hA:lV P t e sz bytes)(hu:P.underlying u=some du)(hdu:xG du){M:HM K}{k0:K}{hd:Value}{rows rows2:List bi}(hj:aa M h Y w)(hw:∀p v,h p=some v->w.cell? p=some v)(hY:∀b,Y b->b<w.heap.size)(hgr:fA M k0 hd sz rows){y:Value}{news:List Value}
  (n1:ah (ay h) rows2.flatten news) (n2:∀w,(Builtin.lenOf y).run P w=.ok m w) (n4:∀w':World,(∀p,w'.cell? p=w.cell? p)->(Builtin.firstCells sz m y).run P w'=.ok news.toArray w') (hr2:∀q∈rows2,q.length=sz) (hm:rows2.length=m) (hm0:0<m) (hbd:(rows.length+m) * bytes<=140737488355328) (hbm:rows.length+m<=maxLen):
  ∃b cap w' h',(Builtin.append_ #[t,u] ty #[hd,y]).run P w=.ok (.slice (some ⟨b,0,none⟩) (rows.length+m) cap) w'/\dW h Y w h' (fun x=>Y x\/x=b) w'/\aa (M.set k0 (some (b,.gM sz cap (rows++rows2)))) h' (fun x=>Y x\/x=b) w':=by
 obtain⟨T,xs,hown,hxs,hwid,hblk⟩:∃T xs,w.ownsRow 0 T sz hd rows.length xs/\ah (ay h) rows.flatten xs/\(∀r∈rows,r.length=sz)/\∀b,hd.ownBlock=some b->Y b/\(∃x,M k0=some (b,x))/\(∀i,rows.length * sz<=i->h ⟨b,i,none⟩=none)/\∀(i:Nat)(v:Value),xs[i]?=some v->h ⟨b,i,none⟩=some v:=by
  rcases hgr with⟨rfl,rfl,_⟩|⟨b,cap,rfl,hM⟩
  ·exact⟨0,[],⟨by simp,.inl ⟨rfl,rfl⟩⟩,Zo,(fun _ h=>by cases h),fun b e=>by cases e⟩
  obtain⟨hYb,g1,⟨g2,g3,g4⟩,T,vs,g5,g6,g7,g8⟩:=hj.1 k0 b _ hM;refine⟨T,vs.toList.take (rows.length * sz),⟨?_,.inr ⟨b,cap,vs,rfl,Zr _,g5,g2,g3,g6,rfl⟩⟩,g7,g4,fun b' e=>?_⟩
  ·simp_all
  cases e;simp_all
 have hfl2:news.length=m * sz:=by rw[←n1.length,bg hr2,hm]
 have hxl:=hown.1;obtain⟨b,cap,cur,e1,w',q1,q2,q3,q4,q5,q6,⟨o1,o2,o3,o4⟩,q7⟩:=yI hA hu hdu hown (gQ n1) hfl2 n2 n4 hm0 hbd hbm;have hcell:∀(i:Nat)(v:Value),(xs++news)[i]?=some v->w'.cell? ⟨b,i,none⟩=some v:=fun i v hv=>sJ q2 q6 hv
 have hnb:∀i,rows.length * sz<=i->h ⟨b,i,none⟩=none:=by
  intro i hi;rcases q7 with⟨f1,_⟩|⟨rfl,_⟩
  ·exact(hblk b f1).2.2.1 i hi
  cases hh:h ⟨w.heap.size,i,none⟩with
  |none=>rfl
  |some v=>have:=block_lt_of_cell (hw _ _ hh);simp at this
 have hpre:∀(i:Nat)(v:Value),h ⟨b,i,none⟩=some v->xs[i]?=some v:=by
  intro i v hv;rcases q7 with⟨f1,_⟩|⟨rfl,_⟩
  ·have hlt:i<xs.length:=by
    rcases mx i xs.length with h1|h1
    ·exact h1
    rw[hnb i I]at hv;cases hv
   have:=(hblk b f1).2.2.2 i _ (Zv hlt);rw[hv]at this;rw[Zv hlt];exact this.symm
  have:=block_lt_of_cell (hw _ _ hv);simp at this
 have hkeep:∀k,k≠b->k<w.heap.size->w'.heap[k]?=w.heap[k]?:=fun k hk hlt=>q7.elim (fun f=>f.2 k hk hlt) fun f=>f.2 k hlt
 obtain⟨h',hh'⟩:∃h':Mem,h'=fun p=>if p.block=b/\p.spot=none/\p.off<(rows.length+m) * sz then w'.cell? p else h p:=⟨_,rfl⟩
 have hin:∀p v,h' p=some v->h p=some v\/(p.block=b/\w'.cell? p=some v):=by
  intro p v hp;rw[hh']at hp;dsimp only at hp;split at hp
  ·rename_i hc;exact .inr ⟨hc.1,hp⟩
  exact .inl hp
 have hle:Mem.le h h':=by
  intro p v hp;rw[hh'];dsimp only;split
  ·rename_i hc;rw[yJ hc.1 hc.2.1]at hp⊢;have h1:=hpre _ _ hp;exact hcell _ _ (by rw[ly (dq.1 h1).1];exact h1)
  exact hp
 have hw':∀p v,h' p=some v->w'.cell? p=some v:=by
  intro p v hp;rcases hin p v hp with h1|h1
  ·have h2:=hw p v h1;by_cases hb:p.block=b
   ·have hsp:=j8 h2;rw[hb]at hsp;rw[hsp]at h1⊢;have h3:=hpre _ _ h1;exact hcell _ _ (by rw[ly (dq.1 h3).1];exact h3)
   rw[ta (hkeep _ hb (block_lt_of_cell h2))];exact h2
  exact h1.2
 have hbb:Y b\/w.heap.size<=b:=q7.elim (fun f=>.inl (hblk b f.1).1) fun f=>.inr I
 refine⟨b,cap,w',h',q1,⟨⟨o1,o2,o3,o4,fun k hk hy=>?_⟩,hle,fun p v hp=>?_,hw',fun k hy=>?_,fun k hy hlt=>?_⟩,?_⟩
 ·grind
 ·grind
 ·grind
 ·grind
 refine hj.Y_ hle (fun k hk hy o v hp=>?_) (fun k hk hy=>hkeep k hk (hY k hy)) (fun _ e=>.inl e) ?_ (.inr rfl) ⟨fun i hi=>?_,⟨by simp_all,q4,fun r hr=>(List.mem_append.1 hr).elim (hwid r) (hr2 r)⟩,e1,cur,q2,q5,?_,?_⟩
 ·simp_all
 ·grind
 ·grind
 ·rw[Zs,hm,q6,pk];exact(hxs.append n1).mono fun _ _=>ay.mono hle
 intro i v hv;rw[Zs,hm,q6]at hv;grind
def aa.IK(hA:lV P t e sz bytes)(hu:P.underlying u=some du)(hdu:xG du){M:HM K}{k0:K}{hd:Value}{rows rows2:List bi}(hj:aa M h Y w)(hw:∀p v,h p=some v->w.cell? p=some v)(hY:∀b,Y b->b<w.heap.size)(hgr:mG M k0 hd sz rows){y:Value}{news:List Value}
  (n1:ah (ay h) rows2.flatten news) (n2:∀w,(Builtin.lenOf y).run P w=.ok m w) (n4:∀w':World,(∀p,w'.cell? p=w.cell? p)->(Builtin.firstCells sz m y).run P w'=.ok news.toArray w') (hr2:∀q∈rows2,q.length=sz) (hm:rows2.length=m) (hm0:0<m) (hbd:(rows.length+m) * bytes<=140737488355328) (hbm:rows.length+m<=maxLen):
  ∃b cap w',(Builtin.append_ #[t,u] ty #[hd,y]).run P w=.ok (.slice (some ⟨b,0,none⟩) (rows.length+m) cap) w'/\dW h Y w h (fun x=>Y x\/x=b) w'/\aa (M.set k0 (some (b,.row sz cap (rows++rows2)))) h (fun x=>Y x\/x=b) w':=by
 obtain⟨T,xs,hown,hxs,hwid,hblk⟩:∃T xs,w.ownsRow 0 T sz hd rows.length xs/\ah (ay h) rows.flatten xs/\(∀r∈rows,r.length=sz)/\∀b,hd.ownBlock=some b->Y b/\(∃x,M k0=some (b,x))/\(∀i,h ⟨b,i,none⟩=none):=by
  rcases hgr with⟨rfl,rfl,_⟩|⟨b,cap,rfl,hM⟩
  ·exact⟨0,[],⟨by simp,.inl ⟨rfl,rfl⟩⟩,Zo,(fun _ h=>by cases h),fun b e=>by cases e⟩
  obtain⟨hYb,g1,⟨g2,g3,g4⟩,T,vs,g5,g6,g7⟩:=hj.1 k0 b _ hM;refine⟨T,vs.toList.take (rows.length * sz),⟨?_,.inr ⟨b,cap,vs,rfl,Zr _,g5,g2,g3,g6,rfl⟩⟩,g7,g4,fun b' e=>?_⟩
  ·simp_all
  cases e;simp_all
 have hfl2:news.length=m * sz:=by rw[←n1.length,bg hr2,hm]
 obtain⟨b,cap,cur,e1,w',q1,q2,q3,q4,q5,q6,⟨o1,o2,o3,o4⟩,q7⟩:=yI hA hu hdu hown (gQ n1) hfl2 n2 n4 hm0 hbd hbm;have hnb:∀i,h ⟨b,i,none⟩=none:=by
  intro i;rcases q7 with⟨f1,_⟩|⟨rfl,_⟩
  ·exact(hblk b f1).2.2 i
  cases hh:h ⟨w.heap.size,i,none⟩with
  |none=>rfl
  |some v=>have:=block_lt_of_cell (hw _ _ hh);simp at this
 have hkeep:∀k,k≠b->k<w.heap.size->w'.heap[k]?=w.heap[k]?:=fun k hk hlt=>q7.elim (fun f=>f.2 k hk hlt) fun f=>f.2 k hlt
 have hbb:Y b\/w.heap.size<=b:=q7.elim (fun f=>.inl (hblk b f.1).1) fun f=>.inr I
 refine⟨b,cap,w',q1,⟨⟨o1,o2,o3,o4,fun k hk hy=>?_⟩,Mem.le_refl _,fun p v hp=>.inl hp,fun p v hp=>?_,fun k hy=>?_,fun k hy hlt=>?_⟩,?_⟩
 ·grind
 ·grind [j8,World.cell?_of_block,block_lt_of_cell]
 ·grind
 ·grind
 refine hj.Y_ (Mem.le_refl _) (fun _ _ _ _ _ e=>e) (fun k hk hy=>hkeep k hk (hY k hy)) (fun _ e=>.inl e) ?_ (.inr rfl) ⟨hnb,⟨by simp_all,q4,fun r hr=>(List.mem_append.1 hr).elim (hwid r) (hr2 r)⟩,e1,cur,q2,q5,?_⟩
 ·grind
 rw[Zs,hm,q6,pk];exact hxs.append n1
end
end Go.Ab
namespace Go.Ab
open Go.RowKit
section
variable{E:Env}{all:Array Oper}{s r r1 r2 r3 rg:St}{d ty:Nat}{pos:String}{after:Array Edge}{guard:Option (Nat×Bool)}{x y z:Operand}
def S.Ex{T k:Nat}{u:X}(hk:Nat.blt k 1000=true)(hg:Gd all s guard rg)(hd:(Nat.blt d 1000&&Nat.blt d E.nt)=true)(hx:bI s x u r)(hu:nX u=true)(hk9:E.fs.contains k=false:=by rfl):
  aW E all ⟨some d,.box T x,ty,pos,after,guard⟩ s (rg++r) ((d,.di k 1 0)::[(2000+k,.cM (cg u).length [] (cg u) [])]) [k]:=
 aW.mk hg hd rfl hx.looks fun U c a w hb hr hal=>by
  rw[db]at hk;have hkU:k∉U:=hal k F;have hv:=(gq (hx.rep (c:=c) (a:=a) (w:=w) hr) hu).1;have hvl:=hv.length;have hB:=cX w (.cells (a.eval x).cells T);obtain⟨g1,g2,g3,g4⟩:=hb.lQ (k:=k) (nQ hk9) hkU (n:=1) (v:=.slice (some ⟨w.heap.size,0,none⟩) 1 1) hB (.inr ⟨rfl,by show w.heap.size<(w.heap.push _).size;rw[Array.size_push];omega⟩);refine⟨.pointer (some ⟨w.heap.size,0,none⟩),_,w.alloc (.cells (a.eval x).cells T),?_,g1,g2,⟨1,_,true,g3,Zq _,fun _=>⟨_,_,_,rfl,rfl⟩⟩,?_,?_⟩
  ·simp[execOp,Instr.box,newVar,newRow]
  ·intro p hp;simp only[df]at hp;subst hp;refine Holds.Dj (n:=1) (e:=T) (vs:=(a.eval x).cells.toList) (v1:=[]) (v2:=(a.eval x).cells.toList) (v3:=[]) I rfl g3 ⟨by rw[hvl];omega,.inr ⟨w.heap.size,1,(a.eval x).cells,rfl,Zr _,heap_alloc_new w _,Zq _,by unfold maxLen;omega,by rw[hvl];simp,?_⟩⟩ ?_ F trivial (hv.mono fun _ _=>aV.mono g2) trivial
   ·rw[hvl,tl];exact eK (Zq _)
   intro q hq;simp at hq;subst hq;rfl
  intro key u hkey _ hu;exact g4 key u hkey hu
structure xX(E:Env)(all:Array Oper)(o:Oper)(s:St){ι:Type}(rd:St)(wr:ι->St)(al:bc):Prop where
 st:yH E all o rd wr al
 lk:Looks s rd
def RK.xs{l:List Oper}{U:bc}{Q:bo}{o:Oper}{ι:Type}{rd:St}{wr:ι->St}{al:bc}(h:xX E all o s rd wr al)(hr:∀q,RK E all l (al++U) (wr q++s) Q)(ha:(al.all fun k=>!U.contains k)=true:=by rfl):RK E all (o::l) U s Q:=by
 intro k hk a w hg;rw[ge,sg,wpOpsIn_cons];refine cW (by simpa using hk 0) ?_;obtain⟨c,hb,hh⟩:=hg;refine h.st U c a w hb (fun p hp=>hh _ _ (h.lk.all p hp)) (fun k hk=>by simp_all) _ _ fun q c' a' w' hb' hwr hfr=>?_
 refine hr q (k+1) (fun j=>?_) a' w' ⟨c',hb',fun key x hx=>?_⟩
 ·have:=hk (j+1);grind
 rw[dA]at hx;cases hk:look (wr q) key with
 |some y=>
  simp_all[cm]
 |none=>
  grind [k7]
def xX.mk'{op:Op}{ι:Type}{J:bm}{res:ι->X}{xr:ι->bm}{ks:bc}(hd:cP E d=true)(hdef:mX op=false)(hl:Looks s r)(hl3:look s 3000=some (.res J))(hS:∀q,aZ (xr q))
  (hks:ks.all (fun k=>!E.fs.contains k&&Nat.blt k 1000)=true)
  (h:∀(U:bc)(c:Ctx)(a:Act)(w:World),aM E U c a w->(∀p∈r,Holds c a w p.1 p.2)->J c.h c.Y w->∃c1,aM E U c1 a w/\Ext c c1/\(∀key x,key≠3000->(∀k∈ks,2000+k≠key)->Holds c a w key x->Holds c1 a w key x)/\
   ∃(q:ι)(v:Value)(w':World)(h':Mem)(Y':Nat->Prop),(execOp a.eval ⟨some d,op,ty,pos,after,none⟩).run E.P w=.ok (.value v) w'/\dW c1.h c1.Y w h' Y' w'/\bK (aD h') (res q) v/\xr q h' Y' w'):
  xX E all ⟨some d,op,ty,pos,after,none⟩ s (r++[(3000,.res J)]) (fun q=>(d,res q)::(3000,.res (xr q))::ks.map fun k=>(2000+k,X.any)) []:=by
 refine⟨?_,hl.app ⟨hl3,Zo⟩⟩;simp only[Zw,db]at hd;intro U c a w hb hr hal next Q hnx
 have hw:Region.wanted (⟨some d,op,ty,pos,after,none⟩:Oper) (yielded all a.tmps)=true:=rfl;obtain⟨c1,hb1,hext1,hfr1,q,v,w',h',Y',hrun,hp,hres,hx⟩:=h U c a w hb (fun p hp=>hr p (by simp[hp])) (dI (hr (3000,.res J) F)).2;unfold gh;rw[Zn hw];refine⟨fun _ _=>trivial,?_⟩;rw[Oper.semAt_eq _ _ _ (fun cl he=>by simp only at he;rw[he]at hdef;cases hdef),hrun];have hext:Ext c ⟨h',c1.loc,c1.arr,Y'⟩:=hext1.trans ⟨hp.le,fun _ _ e=>e,fun _ m hv lv e=>⟨m,hv,lv,e,Zq _,fun _=>rfl⟩⟩;have hdt:d<a.tmps.size:=by rw[hb.nt];exact hd.2
 refine hnx q ⟨h',c1.loc,c1.arr,Y'⟩ _ w' ((hb1.Y_ hp).put _ _) (fun p hp2=>?_) fun key u hk hu=>?_
 ·rcases ed.1 hp2 with rfl|hp2
  ·unfold Holds;rw[Zn hd.1,cE hdt];exact hres.mono (cS (c:=⟨h',c1.loc,c1.arr,Y'⟩) rfl)
  rcases ed.1 hp2 with rfl|hp2
  ·simp_all[Holds.iV]
  grind [Holds]
 have hne:d≠key:=hk (d,res q) F;have hne3:3000≠key:=hk (3000,.res (xr q)) F;have hnk:∀k∈ks,2000+k≠key:=fun k hk2=>hk (2000+k,.any) (dg _ (dg _ (eI.2 ⟨k,hk2,rfl⟩)))
 by_cases h1:key<1000
 ·refine Holds.put ?_ hne _;unfold Holds at hu⊢;rw[Zn h1]at hu⊢;exact hu.mono hext
 exact(Holds.Y_ hb1 hp h1 (fun e=>hne3 e.symm) (hfr1 key u (fun e=>hne3 e.symm) hnk hu)).put hne _
def own_src{c:Ctx}{a:Act}{w:World}{j m sz:Nat}{rows2:List bi}{v0:Value}(h1:bK c (.own j m) v0)(h2:Holds c a w (2000+j) (.arr sz rows2))(hm:rows2.length=m):
  ∃news,ah (ay c.h) rows2.flatten news/\(∀q∈rows2,q.length=sz)/\(∀w,(Builtin.lenOf v0).run E.P w=.ok m w)/\∀w':World,(∀p,w'.cell? p=w.cell? p)->(Builtin.firstCells sz m v0).run E.P w'=.ok news.toArray w':=by
 subst hm;obtain⟨_,m0,hv,lv,e1,e2,e3⟩:=jV h1;obtain⟨v,e',vs,g1,g2,g3,g4⟩:=ei h2;rw[e1]at g1;cases g1;have hev:=e3 rfl;refine⟨vs,g4,g3,?_,?_⟩
 ·intro w2;rw[hev];rcases g2.2 with⟨rfl,h0⟩|⟨g,cap,cur,rfl,_⟩
  all_goals simp_all[Builtin.lenOf]
 intro w' hw';rw[hev];rcases g2.2 with⟨rfl,h0⟩|⟨g,cap,cur,rfl,h1,h2,h3,h4,h5,h6⟩
 ·have:vs=[]:=ft (by rw[g2.1,h0];simp);simp_all[Builtin.firstCells]
 exact run_firstCells_some w' sz rows2.length ⟨g,0,none⟩ rows2.length cap vs g2.1 fun i u hu=>by rw[hw'];exact g2.cells (g:=g) rfl i u hu
variable{K:Type}[DecidableEq K]
def S.Ie{t e sz bytes j m:Nat}{hdr:Value}{M:HM K}{rows rows2:List bi}(k0:K)(hA:lV E.P t e sz bytes)(hd:cP E d=true)(hx:bI s x (.raw hdr) r1)(hgr:fA M k0 hdr sz rows)(hy:bI s y (.own j m) r2)(hl2:look s (2000+j)=some (.arr sz rows2))
  (hl3:look s 3000=some (.res (aa M))) (hm:rows2.length=m) (hm0:0<m) (hbd:(rows.length+m) * bytes<=140737488355328) (hbm:rows.length+m<=maxLen):
  xX E all ⟨some d,.call {callee:=.builtin .append,args:=#[x,y],argTypes:=#[t,t]},ty,pos,after,none⟩ s ((r1++(r2++[(2000+j,.arr sz rows2)]))++[(3000,.res (aa M))])
   (fun q:Nat×Nat=>(d,.raw (.slice (some ⟨q.1,0,none⟩) (rows.length+m) q.2))::(3000,.res (aa (M.set k0 (some (q.1,.gM sz q.2 (rows++rows2))))))::([]:bc).map fun k=>(2000+k,X.any)) []:=
 xX.mk' hd rfl (hx.looks.app (hy.looks.app ⟨hl2,Zo⟩)) hl3 (fun _=>aa.az _) rfl fun U c a w hb hr hj=>by
  have hxv:a.eval x=hdr:=hx.rep (c:=c) (a:=a) (w:=w) fun p hp=>hr p (by simp[hp])
  obtain⟨news,n1,n0,n2,n4⟩:=own_src (E:=E) (hy.rep (c:=c) (a:=a) (w:=w) fun p hp=>hr p (by simp[hp])) (hr (2000+j,.arr sz rows2) F) hm;refine⟨c,hb,Ext.refl c,fun _ _ _ _ h=>h,?_⟩;obtain⟨b,cap,w',h',q1,q2,q3⟩:=hj.app (P:=E.P) (ty:=ty) hA hA.mD kX hb.hw (fun b hy=>(hb.Y b hy).1) hgr n1 n2 n4 n0 hm hm0 hbd hbm;refine⟨(b,cap),_,w',h',_,?_,q2,rfl,q3⟩;simp only[execOp,resolve,invoke,builtin,Sem.run_bind,Sem.run_pure,Result.andThen_ok,sk,fw,rm,hxv,q1]
def S.happR{t e sz bytes j m:Nat}{hdr:Value}{M:HM K}{rows rows2:List bi}(k0:K)(hA:lV E.P t e sz bytes)(hd:cP E d=true)(hx:bI s x (.raw hdr) r1)(hgr:mG M k0 hdr sz rows)(hy:bI s y (.own j m) r2)(hl2:look s (2000+j)=some (.arr sz rows2))
  (hl3:look s 3000=some (.res (aa M))) (hm:rows2.length=m) (hm0:0<m) (hbd:(rows.length+m) * bytes<=140737488355328) (hbm:rows.length+m<=maxLen):
  xX E all ⟨some d,.call {callee:=.builtin .append,args:=#[x,y],argTypes:=#[t,t]},ty,pos,after,none⟩ s ((r1++(r2++[(2000+j,.arr sz rows2)]))++[(3000,.res (aa M))])
   (fun q:Nat×Nat=>(d,.raw (.slice (some ⟨q.1,0,none⟩) (rows.length+m) q.2))::(3000,.res (aa (M.set k0 (some (q.1,.row sz q.2 (rows++rows2))))))::([]:bc).map fun k=>(2000+k,X.any)) []:=
 xX.mk' hd rfl (hx.looks.app (hy.looks.app ⟨hl2,Zo⟩)) hl3 (fun _=>aa.az _) rfl fun U c a w hb hr hj=>by
  have hxv:a.eval x=hdr:=hx.rep (c:=c) (a:=a) (w:=w) fun p hp=>hr p (by simp[hp])
  obtain⟨news,n1,n0,n2,n4⟩:=own_src (E:=E) (hy.rep (c:=c) (a:=a) (w:=w) fun p hp=>hr p (by simp[hp])) (hr (2000+j,.arr sz rows2) F) hm;refine⟨c,hb,Ext.refl c,fun _ _ _ _ h=>h,?_⟩;obtain⟨b,cap,w',q1,q2,q3⟩:=hj.IK (P:=E.P) (ty:=ty) hA hA.mD kX hb.hw (fun b hy=>(hb.Y b hy).1) hgr n1 n2 n4 n0 hm hm0 hbd hbm;refine⟨(b,cap),_,w',c.h,_,?_,q2,rfl,q3⟩;simp only[execOp,resolve,invoke,builtin,Sem.run_bind,Sem.run_pure,Result.andThen_ok,sk,fw,rm,hxv,q1]
end
end Go.Ab
namespace Go.Ab
open Go.RowKit
section
variable{E:Env}{U:bc}{c:Ctx}{a:Act}{w:World}
def Ctx.dead(c:Ctx)(k n:Nat)(hv:Value):Ctx:=⟨c.h,c.loc,fun j=>if j=k then some (n,hv,false)else c.arr j,fun b=>c.Y b\/hv.ownBlock=some b⟩
def Ext.dead{k n:Nat}{hv:Value}(e1:c.arr k=some (n,hv,true)):Ext c (c.dead k n hv):=⟨Mem.le_refl _,fun _ _ e=>e,fun j m u lv e=>by
 grind [Ctx.dead]⟩
def Holds.dead{k n:Nat}{hv:Value}(e1:c.arr k=some (n,hv,true)){key:Nat}{x:X}(hk:2000+k≠key)(h3:key≠3000)(h0:Holds c a w key x):Holds (c.dead k n hv) a w key x:=by
 have hext:=Ext.dead e1;unfold Holds at h0⊢;split at h0
 ·rename_i hlt;rw[Zn hlt];exact h0.mono hext
 rename_i hlt;rw[Zm hlt];refine cD h0 fun h0=>?_
 split at h0
 ·rename_i h2;rw[Zn h2];obtain⟨b,o,f1,f2,f3⟩:=h0;exact⟨b,o,f1,f2,f3.mono hext⟩
 rename_i h2;rw[Zm h2];split at h0
 ·rename_i h6;rw[Zn h6];obtain⟨sz2,rows2,hv2,e2',vs2,f4,f1,f2,f3⟩:=h0;have hj:key - 2000≠k:=by omega
  generalize key - 2000=j at f1 hj;exact⟨sz2,rows2,hv2,e2',vs2,f4.mono hext,(Zm hj).trans f1,f2,f3⟩
 exact absurd h0.1 h3
variable{K:Type}[DecidableEq K]{M:HM K}
def tB(hb:aM E U c a w)(hj:aa M c.h c.Y w)(kb:K){k n:Nat}{b l cp:Nat}{kd:HK}(e1:c.arr k=some (n,.slice (some ⟨b,0,none⟩) l cp,true))(hk:xF c.h w b kd):aa (M.set kb (some (b,kd))) (c.dead k n (.slice (some ⟨b,0,none⟩) l cp)).h (c.dead k n (.slice (some ⟨b,0,none⟩) l cp)).Y w:=
 hj.Y_ (Mem.le_refl _) (fun _ _ _ _ _ e=>e) (fun _ _ _=>rfl) (fun _ e=>.inl e) (.inr fun hy=>(hb.Y b hy).2.2.2 _ _ _ e1 rfl) (.inr rfl) hk
def Dk(hb:aM E U c a w)(hj:aa M c.h c.Y w)(kb:K){k sz:Nat}{rows:List bi}(hk9:k∉E.fs)(hA:Holds c a w (2000+k) (.arr sz rows))(h0:0<rows.length):
  ∃b cp,c.arr k=some (rows.length,.slice (some ⟨b,0,none⟩) rows.length cp,true)/\aM E U (c.dead k rows.length (.slice (some ⟨b,0,none⟩) rows.length cp)) a w/\aa (M.set kb (some (b,.row sz cp rows))) (c.dead k rows.length (.slice (some ⟨b,0,none⟩) rows.length cp)).h (c.dead k rows.length (.slice (some ⟨b,0,none⟩) rows.length cp)).Y w:=by
 obtain⟨hv,e',vs,g1,g2,g3,g4⟩:=ei hA;rcases g2.2 with⟨_,h1⟩|⟨b,cp,cur,rfl,_,f1,f2,f3,f4,f5⟩
 ·omega
 refine⟨b,cp,g1,hb.FN g1 hk9,tB hb hj kb g1 ⟨(hb.arr _ _ _ b g1 rfl).2.2.1,⟨f2,f3,g3⟩,e',cur,f1,f4,?_⟩⟩;simp_all
theorem k8.own{c:Ctx}{k2 n2:Nat}{v0:Value}(e:∃lv,c.arr k2=some (n2,v0,lv)){x:X}(hx:x=.own k2 n2){v:Value}(h:aV c x v)(h1:v0.oneCell'=true):ay c.h (.raw v0) v:=by
 subst hx;obtain⟨lv0,e⟩:=e;obtain⟨_,m,hv,lv,e1,_,e3⟩:=(h:cq c (.own k2 n2) v);rw[e]at e1;cases e1;exact ay.qn (e3 rfl) h1
def k8(k2 n2:Nat)(v0:Value):bi->bi->Prop:=ah fun x x'=>(G7 x=true/\x'=Fv x)\/(x=.own k2 n2/\x'=.raw v0)
def k8.rep{k2 n2:Nat}{v0:Value}(e:∃lv,c.arr k2=some (n2,v0,lv))(h1:v0.oneCell'=true):∀{xs xs':bi},k8 k2 n2 v0 xs xs'->∀{vs:List Value},ah (aV c) xs vs->ah (ay c.h) xs' vs
 |[],[],_,vs,h=>h.bJ▸trivial
 |x::xs,x'::xs',hc,vs,h=>by
  obtain⟨v,vs',rfl,h2,h3⟩:=h.bD;refine⟨?_,k8.rep e h1 hc.2 h3⟩;rcases hc.1 with⟨h4,rfl⟩|⟨h4,rfl⟩
  all_goals grind [F0,k8.own]
 |[],_::_,hc,_,_=>hc.elim
 |_::_,[],hc,_,_=>hc.elim
def rq(hb:aM E U c a w)(hj:aa M c.h c.Y w)(kb:K){k sz:Nat}{cells cells':bi}(hk9:k∉E.fs)(hA:Holds c a w (2000+k) (.cM sz [] cells []))(hc:∀vs,ah (aV c) cells vs->ah (ay c.h) cells' vs):
  ∃b cp,c.arr k=some (1,.slice (some ⟨b,0,none⟩) 1 cp,true)/\aM E U (c.dead k 1 (.slice (some ⟨b,0,none⟩) 1 cp)) a w/\aa (M.set kb (some (b,.box cells'))) (c.dead k 1 (.slice (some ⟨b,0,none⟩) 1 cp)).h (c.dead k 1 (.slice (some ⟨b,0,none⟩) 1 cp)).Y w:=by
 obtain⟨hk,hv,e',vs,g1,g2,g3,v1,v2,v3,g4,g5,g6,g7⟩:=k9 hA;rcases g2.2 with⟨_,h1⟩|⟨b,cp,cur,rfl,_,f1,f2,f3,f4,f5⟩
 ·simp at h1
 have e1:v1=[]:=g5.bJ;have e3:v3=[]:=g7.bJ;subst e1 e3;have h2:=hc _ g6;refine⟨b,cp,g1,hb.FN g1 hk9,tB hb hj kb g1 ⟨(hb.arr _ _ _ b g1 rfl).2.2.1,e',cur,f1,?_⟩⟩;have h3:cells'.length=sz:=by rw[h2.length,←g6.length];simp_all
 simp_all
omit [DecidableEq K]
def fA.other[DecidableEq K]{k kb:K}{hd:Value}{sz:Nat}{rows:List bi}(hg:fA M k hd sz rows)(hk:k≠kb)(p:Option (Nat×HK)):fA (M.set kb p) k hd sz rows:=by
 grind [fA,HM.set]
end
section
variable{E:Env}{all:Array Oper}{s r r1 r2 r3 rg:St}{d ty:Nat}{pos:String}{after:Array Edge}{guard:Option (Nat×Bool)}{x y z:Operand}{K:Type}[DecidableEq K]
def zF{c:Ctx}{a:Act}{w:World}{j k b l cp:Nat}{v0:Value}(h1:bK c (.own j 1) v0)(h2:Holds c a w (2000+j) (.cM 1 [] [.di k 1 0] []))(e:∃lv,c.arr k=some (1,.slice (some ⟨b,0,none⟩) l cp,lv)):
  ah (ay c.h) [[X.raw (.pointer (some ⟨b,0,none⟩))]].flatten [Value.pointer (some ⟨b,0,none⟩)]/\(∀w,(Builtin.lenOf v0).run E.P w=.ok 1 w)/\∀w':World,(∀p,w'.cell? p=w.cell? p)->(Builtin.firstCells 1 1 v0).run E.P w'=.ok [Value.pointer (some ⟨b,0,none⟩)].toArray w':=by
 obtain⟨_,m0,hv,lv,e1,e2,e3⟩:=jV h1;obtain⟨hk,hv',e',vs,g1,g2,g3,v1,v2,v3,g4,g5,g6,g7⟩:=k9 h2;simp only[BE,gk]at g1 g2;rw[e1]at g1;cases g1;have hev:=e3 rfl;have q1:v1=[]:=g5.bJ;have q3:v3=[]:=g7.bJ;subst q1 q3;obtain⟨v,vs',rfl,q4,q5⟩:=g6.bD;have q6:vs'=[]:=q5.bJ;subst q6;obtain⟨lv0,e⟩:=e;obtain⟨m,hv2,lv2,p1,p2,p3⟩:=(q4:cq c (.di k 1 0) v);rw[e]at p1;cases p1;obtain⟨b',l',cp',p4,rfl⟩:=p3 rfl;cases p4;simp only[pt,lw]at g4;subst g4;refine⟨⟨ay.raw _ rfl,Zo⟩,fun w2=>?_,fun w' hw'=>?_⟩
 ·rw[hev];rcases g2.2 with⟨rfl,h0⟩|⟨g,cap,cur,rfl,_⟩
  all_goals simp_all[Builtin.lenOf]
 rw[hev];rcases g2.2 with⟨rfl,h0⟩|⟨g,cap,cur,rfl,h1,h2,h3,h4,h5,h6⟩
 ·omega
 exact run_firstCells_some w' 1 1 ⟨g,0,none⟩ 1 cap _ g2.1 fun i u hu=>by rw[hw'];exact g2.cells (g:=g) rfl i u hu
variable{M:HM K}{t e bytes j k:Nat}{hdr:Value}{rows:List bi}
def S.FM{sz:Nat}{cells cells':bi}(k0 kb:K)(hA:lV E.P t e 1 bytes)(hd:cP E d=true)(hx:bI s x (.raw hdr) r1)(hgr:fA M k0 hdr 1 rows)(hkb:k0≠kb)(hy:bI s y (.own j 1) r2)(hl2:look s (2000+j)=some (.cM 1 [] [.di k 1 0] []))(hl4:look s (2000+k)=some (.cM sz [] cells []))
  (hl3:look s 3000=some (.res (aa M))) (hne:Nat.beq j k=false) (hc:cells.all G7=true) (hc2:cells.map Fv=cells') (hbd:(rows.length+1) * bytes<=140737488355328) (hbm:rows.length+1<=maxLen) (hks:[k].all (fun k=>!E.fs.contains k&&Nat.blt k 1000)=true:=by rfl):
  xX E all ⟨some d,.call {callee:=.builtin .append,args:=#[x,y],argTypes:=#[t,t]},ty,pos,after,none⟩ s ((r1++(r2++[(2000+j,.cM 1 [] [.di k 1 0] []),(2000+k,.cM sz [] cells [])]))++[(3000,.res (aa M))])
   (fun q:Nat×Nat×Nat=>(d,.raw (.slice (some ⟨q.2.1,0,none⟩) (rows.length+1) q.2.2))::(3000,.res (aa ((M.set kb (some (q.1,.box cells'))).set k0 (some (q.2.1,.gM 1 q.2.2 (rows++[[.raw (.pointer (some ⟨q.1,0,none⟩))]]))))))::[k].map fun k=>(2000+k,X.any)) []:=
 xX.mk' hd rfl (hx.looks.app (hy.looks.app ⟨hl2,hl4,Zo⟩)) hl3 (fun _=>aa.az _) hks fun U c a w hb hr hj=>by
  subst hc2;have hk9:k∉E.fs:=by
   simp only[ee,Zw,lA]at hks;exact nQ hks.1.1
  have hjk:2000+k≠2000+j:=fun e=>by have h1:j=k:=by omega
                                    rw[h1,pd]at hne;cases hne
  have hxv:a.eval x=hdr:=hx.rep (c:=c) (a:=a) (w:=w) fun p hp=>hr p (by simp[hp])
  obtain⟨b,cp,e1,hb1,hj1⟩:=rq hb hj kb hk9 (hr (2000+k,.cM sz [] cells []) F) (fun vs h=>BT h hc);have hy1:bK c (.own j 1) (a.eval y):=hy.rep (c:=c) (a:=a) (w:=w) fun p hp=>hr p (by simp[hp])
  obtain⟨n1,n2,n4⟩:=zF (E:=E) (hy1.mono (Ext.dead e1)) (Holds.dead (a:=a) e1 hjk (by have:=k9 (hr (2000+j,.cM 1 [] [.di k 1 0] []) F);omega) (hr (2000+j,.cM 1 [] [.di k 1 0] []) F)) ⟨false,Zn rfl⟩;refine⟨_,hb1,Ext.dead e1,fun key u h3 hk hu=>Holds.dead e1 (hk k F) h3 hu,?_⟩;obtain⟨b2,cap,w',h',q1,q2,q3⟩:=hj1.app (P:=E.P) (ty:=ty) hA hA.mD kX hb1.hw (fun b hy=>(hb1.Y b hy).1) (hgr.other hkb _) n1 n2 n4 (fun q hq=>by simp at hq;subst hq;rfl) rfl I hbd hbm;refine⟨(b,b2,cap),_,w',h',_,?_,q2,rfl,q3⟩;simp only[execOp,resolve,invoke,builtin,Sem.run_bind,Sem.run_pure,Result.andThen_ok,sk,fw,rm,hxv,q1]
def S.GQ{sz sz2 k2 n2:Nat}{cells:bi}{rows2:List bi}(cells':Value->bi)(k0 kb ke:K)(hA:lV E.P t e 1 bytes)(hd:cP E d=true)(hx:bI s x (.raw hdr) r1)(hgr:fA M k0 hdr 1 rows)(hkb:k0≠kb)(hke:k0≠ke)(hy:bI s y (.own j 1) r2)(hl2:look s (2000+j)=some (.cM 1 [] [.di k 1 0] []))(hl4:look s (2000+k)=some (.cM sz [] cells []))
  (hl5:look s (2000+k2)=some (.arr sz2 rows2)) (hn2:rows2.length=n2) (h0:0<n2) (hl3:look s 3000=some (.res (aa M))) (hne:(Nat.beq j k||Nat.beq j k2||Nat.beq k k2)=false) (hc:∀b cap,k8 k2 n2 (.slice (some ⟨b,0,none⟩) n2 cap) cells (cells' (.slice (some ⟨b,0,none⟩) n2 cap))) (hbd:(rows.length+1) * bytes<=140737488355328) (hbm:rows.length+1<=maxLen)
  (hks:[k2,k].all (fun k=>!E.fs.contains k&&Nat.blt k 1000)=true:=by rfl):
  xX E all ⟨some d,.call {callee:=.builtin .append,args:=#[x,y],argTypes:=#[t,t]},ty,pos,after,none⟩ s ((r1++(r2++[(2000+j,.cM 1 [] [.di k 1 0] []),(2000+k,.cM sz [] cells []),(2000+k2,.arr sz2 rows2)]))++[(3000,.res (aa M))])
   (fun q:(Nat×Nat)×Nat×Nat×Nat=>(d,.raw (.slice (some ⟨q.2.2.1,0,none⟩) (rows.length+1) q.2.2.2))::(3000,.res (aa (((M.set ke (some (q.1.1,.row sz2 q.1.2 rows2))).set kb (some (q.2.1,.box (cells' (.slice (some ⟨q.1.1,0,none⟩) n2 q.1.2))))).set k0 (some (q.2.2.1,.gM 1 q.2.2.2 (rows++[[.raw (.pointer (some ⟨q.2.1,0,none⟩))]]))))))::[k2,k].map fun k=>(2000+k,X.any)) []:=
 xX.mk' hd rfl (hx.looks.app (hy.looks.app ⟨hl2,hl4,hl5,Zo⟩)) hl3 (fun _=>aa.az _) hks fun U c a w hb hr hj=>by
  subst hn2;simp only[ee,Zw,lA,rk,yv,ul]at hks hne;have hk9:k∉E.fs:=nQ hks.2.1;have hk29:k2∉E.fs:=nQ hks.1.1;have ne1:j≠k:=fun e=>by rw[e,pd]at hne;cases hne.1.1
  have ne2:j≠k2:=fun e=>by rw[e,pd]at hne;cases hne.1.2
  have ne3:k≠k2:=fun e=>by rw[e,pd]at hne;cases hne.2
  have hxv:a.eval x=hdr:=hx.rep (c:=c) (a:=a) (w:=w) fun p hp=>hr p (by simp[hp])
  have hHj:=hr (2000+j,.cM 1 [] [.di k 1 0] []) F;have hHk:=hr (2000+k,.cM sz [] cells []) F;have jlt:=(k9 hHj).1;have klt:=(k9 hHk).1;obtain⟨b0,cp0,e0,hb0,hj0⟩:=Dk hb hj ke hk29 (hr (2000+k2,.arr sz2 rows2) F) h0;have hHk1:=Holds.dead (a:=a) e0 (show 2000+k2≠2000+k by omega) I hHk;obtain⟨b,cp,e1,hb1,hj1⟩:=rq hb0 hj0 kb hk9 hHk1 (fun vs h=>(hc b0 cp0).rep ⟨false,Zn rfl⟩ rfl h);have hy1:bK c (.own j 1) (a.eval y):=hy.rep (c:=c) (a:=a) (w:=w) fun p hp=>hr p (by simp[hp])
  obtain⟨n1,n2,n4⟩:=zF (E:=E) ((hy1.mono (Ext.dead e0)).mono (Ext.dead e1)) (Holds.dead (a:=a) e1 I I (Holds.dead (a:=a) e0 I I hHj)) ⟨false,Zn rfl⟩;refine⟨_,hb1,(Ext.dead e0).trans (Ext.dead e1),fun key u h3 hk hu=>Holds.dead e1 (hk k F) h3 (Holds.dead e0 (hk k2 F) h3 hu),?_⟩;obtain⟨b2,cap,w',h',q1,q2,q3⟩:=hj1.app (P:=E.P) (ty:=ty) hA hA.mD kX hb1.hw (fun b hy=>(hb1.Y b hy).1) ((hgr.other hke _).other hkb _) n1 n2 n4 (fun q hq=>by simp at hq;subst hq;rfl) rfl I hbd hbm;refine⟨((b0,cp0),b,b2,cap),_,w',h',_,?_,q2,rfl,q3⟩;simp only[execOp,resolve,invoke,builtin,Sem.run_bind,Sem.run_pure,Result.andThen_ok,sk,fw,rm,hxv,q1]
end
end Go.Ab
namespace Go.Ab
open Go.RowKit
section
variable{K:Type}{M:HM K}
def L7{α:Type}{sz:Nat}{rows:List (List α)}(hw:∀r∈rows,r.length=sz){i f:Nat}{row:List α}{x:α}(hr:rows[i]?=some row)(hx:row[f]?=some x):rows.flatten[i * sz+f]?=some x:=by
 have h1:=lT i hw hr;grind
def aa.V2{k:K}{b o sz cap i f:Nat}{rows:List bi}{row:bi}{x u:X}(hM:M k=some (b,.row sz cap rows))(hr:rows[i]?=some row)(hx:row[f]?=some x)(ho:o=i * sz+f)(hv:Vw M x u):∀h Y w,aa M h Y w->∃v,w.cell? ⟨b,o,none⟩=some v/\bK (aD h) u v:=by
 intro h Y w hj;obtain⟨_,h1,⟨g1,g2,g3⟩,T,vs,h2,h3,h4⟩:=hj.1 k b _ hM;obtain⟨v,h5,h6⟩:=h4.eD (L7 g3 hr hx);refine⟨v,?_,ay.ef (c:=aD h) (hv.get hj h6)⟩;subst ho;exact sJ h2 rfl h5
def aa.UE{k:K}{b o n sz cap i f:Nat}{rows:List bi}{row us:bi}(hM:M k=some (b,.row sz cap rows))(hr:rows[i]?=some row)(ho:o=i * sz+f)(hx:ah (Vw M) ((row.drop f).take n) us)(hn:us.length=n):∀h Y w,aa M h Y w->∃vs:List Value,vs.length=n/\(∀(i:Nat)(v:Value),vs[i]?=some v->w.cell? ⟨b,o+i,none⟩=some v)/\ah (aV (aD h)) us vs:=by
 intro h Y w hj;obtain⟨_,h1,⟨g1,g2,g3⟩,T,vs,h2,h3,h4⟩:=hj.1 k b _ hM;have h5:=(h4.drop (i * sz+f)).take n;have e:(rows.flatten.drop (i * sz+f)).take n=(row.drop f).take n:=by
  have h6:=hx.length;rw[hn,gn,mp]at h6;have h7:=lT i g3 hr;grind [List.drop_drop,List.drop_take]
 rw[e]at h5;refine⟨((vs.toList.take (rows.length * sz)).drop (i * sz+f)).take n,by rw[←h5.length,hx.length,hn],fun j v hj2=>?_,?_⟩
 ·rw[ma]at hj2;split at hj2
  ·rw[ll]at hj2;subst ho;exact sJ h2 rfl hj2
  cases hj2
 refine ah.fb (hx.length.symm.trans h5.length) fun j u v hu hv=>?_
 have hjl:j<((row.drop f).take n).length:=by rw[hx.length];grind
 exact ay.Aa ((hx.get (Zv hjl) hu).get hj (h5.get (Zv hjl) hv))
def RQ{α:Type}{sz:Nat}{us:List α}{f:Nat}:∀{rows:List (List α)}(i:Nat){row:List α},(∀r∈rows,r.length=sz)->rows[i]?=some row->f+us.length<=sz->(rows.set i (row.take f++(us++row.drop (f+us.length)))).flatten=rows.flatten.take (i * sz+f)++(us++rows.flatten.drop (i * sz+f+us.length))
 |[],i,row,_,h,_=>by simp at h
 |r::rows,0,row,h,hr,hf=>by
  grind
 |r::rows,i+1,row,h,hr,hf=>by
  have h1:=h r dp;have ih:=RQ (us:=us) (f:=f) i (fun r hr=>h r (dg _ hr)) (by simpa using hr) hf;rw[List.set_cons_succ,mr,mr,ih];have e1:(i+1) * sz+f=r.length+(i * sz+f):=by grind
  have e2:(i+1) * sz+f+us.length=r.length+(i * sz+f+us.length):=by omega
  simp_all[un,xt,eK]
end
section
variable{E:Env}{all:Array Oper}{s r r1 r2 r3 rg:St}{d ty:Nat}{pos:String}{after:Array Edge}{guard:Option (Nat×Bool)}{x y z:Operand}{K:Type}[DecidableEq K]
def S.ZP{T n b o sz cap i f:Nat}{ag:Bool}{u:X}{rows rows':List bi}{row:bi}{M:HM K}(k0:K)(ht:eT E.P T ag n)(hg:Gd all s guard rg)(hx:bI s x (.raw (.pointer (some ⟨b,o,none⟩))) r1)(hy:bI s y u r2)(hl:look s 3000=some (.res (aa M)))(hM:M k0=some (b,.row sz cap rows))
  (hr:rows[i]?=some row) (ho:o=i * sz+f) (hu:nX u=true) (hu2:(cg u).all G7=true) (hn:(cg u).length=n) (hfit:f+n<=sz) (hus:rows.set i (row.take f++((cg u).map Fv++row.drop (f+n)))=rows'):
  aW E all ⟨none,.store T x y,ty,pos,after,guard⟩ s (rg++((r1++r2)++[(3000,.res (aa M))])) [(3000,.res (aa (M.set k0 (some (b,.row sz cap rows')))))] []:=
 aW.res hg rfl (hx.looks.app hy.looks) hl fun U c a w hb hrd hj=>by
  subst hus;subst ho;have h0:a.eval x=.pointer (some ⟨b,i * sz+f,none⟩):=hx.rep (c:=c) (a:=a) (w:=w) fun p hp=>hrd p (by simp[hp])
  obtain⟨hc,ho⟩:=gq (hy.rep (c:=c) (a:=a) (w:=w) fun p hp=>hrd p (by simp[hp])) hu;have hc2:=BT hc hu2;obtain⟨hY,h1,⟨g1,g2,g3⟩,T',vs,h2,h3,h4⟩:=hj.1 k0 b _ hM;have hil:i<rows.length:=(dq.1 hr).1;have hrl:row.length=sz:=g3 row (ce hr);have hcl:=hc.length;have hvl:vs.toList.length=vs.size:=by simp
  have hcs:(a.eval y).cells.size=n:=by rw[←hn,hcl];simp
  have hnn:(a.eval y).cells.toList.length=n:=by rw[←hcl,hn]
  have hlm:((cg u).map Fv).length=n:=by rw[Zx,hn]
  have hle:i * sz+f+n<=rows.length * sz:=by
   have:=li sz (show i+1<=rows.length from hil);rw[sb]at this;omega
  have hle2:rows.length * sz<=cap * sz:=li _ g1;have hst:=run_storeCells_at E.P b (i * sz+f) T' (a.eval y).cells.toList 0 vs w h2 (by simp;omega) ho;simp only[po]at hst;refine⟨w.setRow b (vs.toList.take (i * sz+f)++(a.eval y).cells.toList++vs.toList.drop (i * sz+f+(a.eval y).cells.toList.length)).toArray,?_,vB hb hY h1 rfl rfl rfl F fun j hj=>setRow_other w b j _ hj,Holds.iV (aa.az _) ?_⟩
  ·simp[execOp,h0,Instr.storeAt,Instr.sureAddr,storeVar,ht.size,hcs,hst]
  refine hj.Y_ (Mem.le_refl _) (fun _ _ _ _ _ e=>e) (fun j hj _=>setRow_other w b j _ hj) (fun _ e=>e) (.inl ⟨_,hM⟩) hY ⟨h1,⟨by rw[hK];exact g1,g2,fun q hq=>?_⟩,T',_,setRow_heap w b vs _ T' _ h2,?_,?_⟩
  ·rcases pD hq with hq|rfl
   ·exact g3 q hq
   simp only[Zs,gn,mp,hlm,hrl];omega
  ·simp only[xc,Zs,gn,mp,hnn,hvl];omega
  rw[hnn,hK];simp only[lO];rw[vA hnn hle I];have e:=RQ (us:=(cg u).map Fv) (f:=f) i g3 hr (by rw[hlm];exact hfit);rw[hlm]at e;rw[e];exact(h4.take _).append (hc2.append (h4.drop _))
def S.hidx{t e sz i n cap b:Nat}{z:Int}(hs:o7 E.P t e sz)(hg:Gd all s guard rg)(hd:cP E d=true)(hx:bI s x (.raw (.slice (some ⟨b,0,none⟩) n cap)) r1)(hy:bI s y (.int .i64 z) r2)(hz:z=i)(hi:i<n):
  aW E all ⟨some d,.indexAddr t x y,ty,pos,after,guard⟩ s (rg++(r1++r2)) [(d,.raw (.pointer (some ⟨b,i * sz,none⟩)))] []:=
 aW.val hg hd rfl (hx.looks.app hy.looks) fun c A w hh hr=>by
  have hv:A.eval x=.slice (some ⟨b,0,none⟩) n cap:=hx.rep (c:=c) (a:=A) (w:=w) fun p hp=>hr p (by simp[hp])
  obtain⟨hw,_⟩:=cJ (hy.rep (c:=c) (a:=A) (w:=w) fun p hp=>hr p (by simp[hp]));subst hz;refine⟨.pointer (some ⟨b,i * sz,none⟩),?_,rfl⟩;have hlt2:¬n<=i:=by omega
  simp[execOp,hv,hw,Instr.indexAt,asIntOf,run_underlying hs.mD,hs.size,add_off,hlt2]
def S.uA{t t2 e:Nat}{p:Option Addr}(ht:E.P.underlying t=some (.pointer e))(hg:Gd all s guard rg)(hd:cP E d=true)(hx:bI s x (.raw (.pointer p)) r):
  aW E all ⟨some d,.binOp .eql t x (.const (.pointer none)) t2,ty,pos,after,guard⟩ s (rg++r) [(d,.bool p.isNone)] []:=
 aW.val hg hd rfl hx.looks fun c A w _ hr=>by
  have hv:A.eval x=.pointer p:=hx.rep (c:=c) (a:=A) (w:=w) hr;refine⟨.bool p.isNone,?_,ay.ef (.bool _)⟩;have hc:A.eval (.const (.pointer none))=.pointer none:=rfl;have hq:(eqGuard .eql t x (.const (.pointer none)) (.pointer p) (.pointer none)).run E.P w=.ok () w:=by simp[eqGuard]
  have h3:(Op.equalIn Op.maxDepth t (.pointer p) (.pointer none)).run E.P w=.ok p.isNone w:=by
   rw[show Op.maxDepth=(Op.maxDepth - 1)+1 from rfl];cases p<;>simp[Op.equalIn,run_underlying ht,Sem.run_bind]
  simp only[execOp,hv,hc,Sem.run_bind,hq,Result.andThen_ok,binOp,Op.equal,h3];rfl
def S.ET{t t2 e:Nat}{p:Option Addr}(ht:E.P.underlying t=some (.pointer e))(hg:Gd all s guard rg)(hd:cP E d=true)(hx:bI s x (.raw (.pointer p)) r):
  aW E all ⟨some d,.binOp .neq t x (.const (.pointer none)) t2,ty,pos,after,guard⟩ s (rg++r) [(d,.bool (!p.isNone))] []:=
 aW.val hg hd rfl hx.looks fun c A w _ hr=>by
  have hv:A.eval x=.pointer p:=hx.rep (c:=c) (a:=A) (w:=w) hr;refine⟨.bool (!p.isNone),?_,ay.ef (.bool _)⟩;have hc:A.eval (.const (.pointer none))=.pointer none:=rfl;have hq:(eqGuard .neq t x (.const (.pointer none)) (.pointer p) (.pointer none)).run E.P w=.ok () w:=by simp[eqGuard]
  have h3:(Op.equalIn Op.maxDepth t (.pointer p) (.pointer none)).run E.P w=.ok p.isNone w:=by
   rw[show Op.maxDepth=(Op.maxDepth - 1)+1 from rfl];cases p<;>simp[Op.equalIn,run_underlying ht,Sem.run_bind]
  simp only[execOp,hv,hc,Sem.run_bind,hq,Result.andThen_ok,binOp,Op.equal,h3];rfl
end
end Go.Ab
namespace Go.Ab
open Go.RowKit
inductive Fz{K:Type}(M:HM K):X->X->Prop
 |same (x:X) (h:yG x=true):Fz M x x
 |bO:Fz M .bO (.sl [])
 |nil:Fz M (.raw (.slice none 0 0)) (.sl [])
 |row {k:K} {b cap sz:Nat} {rows rows':List bi} (hM:M k=some (b,.row sz cap rows)) (hl:rows'.length=rows.length) (hw:∀r∈rows',r.length=sz) (hc:∀(i:Nat)(x x':X),rows.flatten[i]?=some x->rows'.flatten[i]?=some x'->Fz M x x'):Fz M (.raw (.slice (some ⟨b,0,none⟩) rows.length cap)) (.sl rows')
 |gM {k:K} {b cap sz:Nat} {rows rows':List bi} (hM:M k=some (b,.gM sz cap rows)) (hl:rows'.length=rows.length) (hw:∀r∈rows',r.length=sz) (hc:∀(i:Nat)(x x':X),rows.flatten[i]?=some x->rows'.flatten[i]?=some x'->Fz M x x'):Fz M (.raw (.slice (some ⟨b,0,none⟩) rows.length cap)) (.sl rows')
section
variable{K:Type}{M:HM K}
def Fz.ofGro{k:K}{hd:Value}{sz:Nat}{rows:List bi}(hg:fA M k hd sz rows)(hD:rows.all (fun r=>r.all yG)=true)(hw:∀r∈rows,r.length=sz):Fz M (.raw hd) (.sl rows):=by
 rcases hg with⟨rfl,rfl,_⟩|⟨b,cap,rfl,hM⟩
 ·exact .nil
 refine .gM hM rfl hw fun i x x' h1 h2=>?_
 rw[h1]at h2;cases h2;obtain⟨r,hr,hx⟩:=List.mem_flatten.1 (ce h1);exact .same x (dj.1 (dj.1 hD r hr) x hx)
def Fz.ofRow{k:K}{hd:Value}{sz:Nat}{rows rows':List bi}(hg:mG M k hd sz rows)(hr:ah (ah (Fz M)) rows rows')(hw:∀r∈rows,r.length=sz):Fz M (.raw hd) (.sl rows'):=by
 rcases hg with⟨rfl,rfl,_⟩|⟨b,cap,rfl,hM⟩
 ·rw[hr.bJ];exact .nil
 have hw':∀r∈rows',r.length=sz:=fun r hr'=>by
  obtain⟨i,hi,rfl⟩:=ip hr';have h1:=hr.get (i:=i) (Zv (by rw[hr.length];exact hi)) (Zv hi);rw[←h1.length];simp_all
 have hf:∀{rows rows':List bi},ah (ah (Fz M)) rows rows'->ah (Fz M) rows.flatten rows'.flatten:=by
  intro rows
  induction rows with
  |nil=>intro rows' h;rw[h.bJ];trivial
  |cons r rows ih=>
   intro rows' h;obtain⟨r',rows2,rfl,h1,h2⟩:=h.bD;rw[mr,mr];exact h1.append (ih h2)
 exact .row hM hr.length.symm hw' fun i x x' h1 h2=>(hf hr).get h1 h2
open Classical in
noncomputable def hfz(M:HM K)(h:Mem)(w:World):Mem:=fun p=>if p.spot=none/\∃k sz cap rows,M k=some (p.block,.row sz cap rows)/\p.off<rows.length * sz then w.cell? p else h p
def Dl{h:Mem}{w:World}{p:Addr}{v:Value}(e:hfz M h w p=some v):h p=some v\/((∃k sz cap rows,M k=some (p.block,.row sz cap rows))/\w.cell? p=some v):=by
 unfold hfz at e;split at e
 all_goals grind
def u6{h:Mem}{Y:Nat->Prop}{w:World}(hj:aa M h Y w):Mem.le h (hfz M h w):=by
 intro p v e;unfold hfz;split
 ·rename_i hc;obtain⟨h1,k,sz,cap,rows,h2,_⟩:=hc;have h3:=(hj.1 k _ _ h2).2.1 p.off;rw[←yJ rfl h1,e]at h3;cases h3
 exact e
def Fz.Ig{h:Mem}{Y:Nat->Prop}{w:World}(hj:aa M h Y w){x x':X}(hf:Fz M x x'):∀{v:Value},ay h x v->ay (hfz M h w) x' v:=by
 induction hf with
 |same x hx=>intro v r;exact r.mono (u6 hj)
 |bO=>intro v r;cases r
 |nil=>intro v r;cases r;exact .rP none 0 (Zr _)
 | @row k b cap sz rows rows' hM hl hw hc ih=>
   intro v r;cases r;obtain⟨_,h1,⟨g1,g2,g3⟩,T,vs,h2,h3,h4⟩:=hj.1 k b _ hM;rw[←hl];have hfl:rows'.flatten.length=(vs.toList.take (rows.length * sz)).length:=by rw[←h4.length,bg g3,bg hw,hl]
   refine .sl rows' b 0 cap sz (vs.toList.take (rows.length * sz)) I g2 hw hfl (fun i v e=>?_) fun i x' v e1 e2=>?_
   ·have h9:=(dq.1 e).1;rw[gn]at h9;have h10:0+i<rows.length * sz:=by omega
    unfold hfz;rw[Zn ⟨rfl,k,sz,cap,rows,hM,h10⟩,gk];exact sJ h2 rfl e
   obtain⟨x,e3⟩:∃x,rows.flatten[i]?=some x:=⟨_,Zv (by rw[h4.length,←hfl];grind)⟩;exact ih i x x' e3 e1 (h4.get e3 e2)
 | @gM k b cap sz rows rows' hM hl hw hc ih=>
   intro v r;cases r;obtain⟨_,h1,⟨g1,g2,g3⟩,T,vs,h2,h3,h4,h5⟩:=hj.1 k b _ hM;rw[←hl];have hfl:rows'.flatten.length=(vs.toList.take (rows.length * sz)).length:=by rw[←h4.length,bg g3,bg hw,hl]
   refine .sl rows' b 0 cap sz (vs.toList.take (rows.length * sz)) I g2 hw hfl (fun i v e=>?_) fun i x' v e1 e2=>?_
   ·rw[gk];exact u6 hj _ _ (h5 i v e)
   obtain⟨x,e3⟩:∃x,rows.flatten[i]?=some x:=⟨_,Zv (by rw[h4.length,←hfl];grind)⟩;exact ih i x x' e3 e1 (h4.get e3 e2)
def Fz.Ih{c:Ctx}{w:World}(hj:aa M c.h c.Y w){x x':X}(hf:Fz M x x'){v:Value}(r:aV c x v):ay (hfz M c.h w) x' v:=by
 cases hf with
 |same _ hx=>exact(F1 r hx).mono (u6 hj)
 |bO=>have h:v=.slice none 0 0:=r;subst h;exact .rP none 0 (Zr _)
 |nil=>have h:v=.slice none 0 0:=r;subst h;exact .rP none 0 (Zr _)
 |row hM hl hw hc=>exact(Fz.row hM hl hw hc).Ig hj (ay.qn r rfl)
 |gM hM hl hw hc=>exact(Fz.gM hM hl hw hc).Ig hj (ay.qn r rfl)
def Gj(M:HM K):X->X->Prop
 |.agg xs,y=>∃ys,y=.agg ys/\ah (Fz M) xs ys
 |x,y=>Fz M x y
def Gj.rep{c c':Ctx}{w:World}(hc:c'.h=hfz M c.h w)(hj:aa M c.h c.Y w){x x':X}(hf:Gj M x x'){v:Value}(r:bK c x v):bK c' x' v:=by
 have h1:∀{x x':X}{v:Value},Fz M x x'->aV c x v->bK c' x' v:=fun hf r=>ay.ef (c:=c') (by rw[hc];exact hf.Ih hj r)
 cases x with
 |agg xs=>
  obtain⟨ys,rfl,h2⟩:=hf;obtain⟨vs,rfl,h3⟩:=r;refine⟨vs,rfl,?_⟩;have h4:∀{xs ys:bi}{vs:List Value},ah (Fz M) xs ys->ah (aV c) xs vs->ah (aV c') ys vs:=by
   intro xs
   induction xs with
   |nil=>intro ys vs h5 h6;rw[h5.bJ,h6.bJ];trivial
   |cons x xs ih=>
    intro ys vs h5 h6;obtain⟨y,ys',rfl,h7,h8⟩:=h5.bD;obtain⟨v,vs',rfl,h9,h10⟩:=h6.bD;exact⟨ay.Aa (by rw[hc];exact h7.Ih hj h9),ih h8 h10⟩
  grind
 |cf xs=>cases hf;rename_i h;cases h
 |_=>exact h1 hf r
end
section
variable{E:Env}{U:bc}{s:St}{code:Code}{Q:bo}{K:Type}{M:HM K}
def Good.pT{a:Act}{w:World}(L:List (Nat×X))(hl3:look s 3000=some (.res (aa M)))(hL:∀p∈L,p.1<1000/\∃x,look s p.1=some x/\Gj M x p.2)(hg:Good E U s a w):Good E U (L++(3000,.any)::s) a w:=by
 obtain⟨c,hb,hh⟩:=hg;have hj:=(dI (hh _ _ hl3)).2;have hp:dW c.h c.Y w (hfz M c.h w) c.Y w:=by
  refine⟨da.refl _ _ _,u6 hj,fun p v e=>?_,fun p v e=>?_,fun b hy=>(hb.Y b hy).1,fun _ hy _=>hy⟩
  ·grind [aa,hfz]
  rcases Dl e with h1|⟨_,h1⟩
  ·exact hb.hw p v h1
  exact h1
 refine⟨_,hb.Y_ hp,fun key x hx=>?_⟩;have hext:Ext c ⟨hfz M c.h w,c.loc,c.arr,c.Y⟩:=⟨hp.le,fun _ _ e=>e,fun _ m hv lv e=>⟨m,hv,lv,e,Zq _,fun _=>rfl⟩⟩;rw[dA]at hx;cases hk:look L key with
 |some y=>
  rw[hk]at hx;cases hx;obtain⟨h1,x0,h2,h3⟩:=hL _ (cm hk);have h4:=hh _ _ h2;unfold Holds at h4⊢;rw[Zn h1]at h4⊢;exact h3.rep (c':=⟨hfz M c.h w,c.loc,c.arr,c.Y⟩) rfl hj h4
 |none=>
  rw[hk]at hx;simp only[Option.or,look]at hx;split at hx
  ·rename_i e;have:=Nat.eq_of_beq_eq_true e;cases hx;subst this;unfold Holds;simp
  rename_i hk3;have h0:=hh key x hx;by_cases h1:key<1000
  ·unfold Holds at h0⊢;rw[Zn h1]at h0⊢;exact h0.mono hext
  grind [Holds.Y_,Nat.beq_refl]
def OK.pT(L:List (Nat×X))(hl3:look s 3000=some (.res (aa M)))(hL:∀p∈L,p.1<1000/\∃x,look s p.1=some x/\Gj M x p.2)(h:OK E code Q U (L++(3000,.any)::s)):OK E code Q U s:=fun a w hg=>h a w (hg.pT L hl3 hL)
end
end Go.Ab
namespace Go.Ab
open Go.RowKit
def uC(P:Program)(Y:Nat->Prop):Prop:=∀n,pU n->∀g,P.globalNamed n=some g->¬Y g
def dU(P:Program)(f:Nat)(fs:bc)(args:bi)(rd wr:St)(res:X):Prop:=
 ∀(c:Ctx)(w:World)(vs:List Value),jv P w->uC P (c.out fs)->j6 fs c w->(∀p∈rd,∀a,Holds c a w p.1 p.2)->ah (bt c) args vs->
  Calls P f vs.toArray w fun e w'=>∃v c',e=.returned v/\iS fs c w wr res v c' w'
def dF.ef{P:Program}{f:Nat}{fs:bc}{args:bi}{rd wr:St}{res:X}(h:dF P f fs args rd wr res):dU P f fs args rd wr res:=fun c w vs _ _=>h c w vs
def dU.intro{P:Program}{f nt:Nat}{fn:Func}{code:Code}{rs:List ResultVar}{fs:bc}{args:bi}{rd wr:St}{res:X}(hf:P.funcs[f]?=some fn)(hb:fn.body=some code)(hn:fn.ntmps=nt)(hr:fn.results=rs.toArray)
  (hl:Nat.ble args.length nt=true) (ht:args.all (fun x=>!cO x)=true) (hl2:Nat.ble args.length 1000=true) (hwr:wr.all (iQ fs)=true)
  (h:∀w c,gO (jK P nt fs w c)->OK (jK P nt fs w c) code (den (jK P nt fs w c) (Gl (jK P nt fs w c) rs wr res) []) fs (hU 0 args++rd)):dU P f fs args rd wr res:=fun c w vs h1 h2 hc0 hrd hargs=>
 dF.at hf hb hn hr hl ht hl2 hwr w c (h w c ⟨h1,fun n hn g hg hX=>by
  rcases hX with hX|⟨p,hp,_⟩
  ·exact h2 n hn g hg hX
  cases hp⟩) vs hc0 hrd hargs
def FC(E:Env)(f:Nat)(args:bi)(res:X)(J0 J1:bm):Prop:=
 ∀(h:Mem)(Y:Nat->Prop)(w:World)(vs:List Value),(∃U c a,aM E U c a w/\c.Y=Y)->(∀p v,h p=some v->w.cell? p=some v)->(∀b,Y b->b<w.heap.size)->J0 h Y w->ah (bt (aD h)) args vs->
  Calls E.P f vs.toArray w fun e w'=>∃v h' Y',e=.returned v/\dW h Y w h' Y' w'/\J1 h' Y' w'/\bK (aD h') res v
def dU.IW{E:Env}{f:Nat}{args:bi}{res:X}{J0 J1:bm}(hf:dU E.P f [] args [(3000,.res J0)] [(3000,.res J1)] res)(hS0:aZ J0){h:Mem}{Y:Nat->Prop}{w:World}{vs:List Value}(ht:jv E.P w)(ho:uC E.P Y)
  (hw:∀p v,h p=some v->w.cell? p=some v) (hY:∀b,Y b->b<w.heap.size) (hJ0:J0 h Y w) (hargs:ah (bt (aD h)) args vs):Calls E.P f vs.toArray w fun e w'=>∃v h' Y',e=.returned v/\dW h Y w h' Y' w'/\J1 h' Y' w'/\bK (aD h') res v:=by
 have out0:∀b,(Ctx.mk h (fun _=>none) (fun _=>none) Y).out [] b->Y b:=by
  rintro b (hy|⟨k,q,_⟩|⟨k,m,hv,q,_⟩)
  all_goals simp_all
 have hc0:=hf ⟨h,fun _=>none,fun _=>none,Y⟩ w vs ht (fun n hn g hg hX=>ho n hn g hg (out0 g hX))
  ⟨hw,(fun k b e=>by cases e),(fun k m hv b e=>by cases e),(fun _ _=>⟨rfl,rfl⟩),(fun b hy=>⟨hY b hy,(fun k e=>by cases e),(fun k m hv e=>by cases e)⟩)⟩
  (fun p hp a'=>by
   simp_all[Holds.iV])
  (hargs.mono fun _ _=>bt.mono (cS (c:=Ctx.mk h (fun _=>none) (fun _=>none) Y) rfl))
 refine Calls.mono hc0 ?_;rintro en w' ⟨u,c2,rfl,hpg⟩;obtain⟨_,hJ1⟩:=dI (hpg.wr (3000,.res J1) F {tmps:=#[],defers:=[]});refine⟨u,c2.h,c2.Y,rfl,⟨hpg.below.mono (Zq _) fun k _ hk=>out0 k hk,hpg.le,fun p v hp=>(hpg.new p v hp).imp id fun q=>q.imp id (out0 _),hpg.ok.hw,fun b hy=>(hpg.ok.Y b hy).1,fun b hy hlt=>out0 b (hpg.out b (.inl hy) hlt)⟩,hJ1,?_⟩;refine bK.mono (c:=c2) (c':=aD c2.h) ⟨Mem.le_refl c2.h,fun k b e=>?_,fun k m hv lv e=>?_⟩ hpg.res
 ·have e2:=hpg.loc k b e;cases e2
 obtain⟨_,_,_,e2,_⟩:=hpg.arr k m hv lv e;cases e2
def dU.jR{E:Env}{f:Nat}{args:bi}{res:X}{J0 J1:bm}(hf:dU E.P f [] args [(3000,.res J0)] [(3000,.res J1)] res)(hT:gO E)(hS0:aZ J0):FC E f args res J0 J1:=fun h Y w vs hb hw hY hJ0 hargs=>by
 obtain⟨U,c,a,hb,rfl⟩:=hb;exact hf.IW hS0 (hT.now hb) (fun n hn g hg hy=>hT.out n hn g hg ((hb.Y g hy).2.1 (hT.FX.lt n hn g hg))) hw hY hJ0 hargs
def dF.jR{E:Env}{f:Nat}{args:bi}{res:X}{J0 J1:bm}(hf:dF E.P f [] args [(3000,.res J0)] [(3000,.res J1)] res)(hS0:aZ J0):FC E f args res J0 J1:=fun h Y w vs hb hw hY hJ0 hargs=>by
 have out0:∀b,(Ctx.mk h (fun _=>none) (fun _=>none) Y).out [] b->Y b:=by
  rintro b (hy|⟨k,q,_⟩|⟨k,m,hv,q,_⟩)
  ·exact hy
  ·cases q
  cases q
 have hc0:=hf ⟨h,fun _=>none,fun _=>none,Y⟩ w vs
  ⟨hw,(fun k b e=>by cases e),(fun k m hv b e=>by cases e),(fun _ _=>⟨rfl,rfl⟩),(fun b hy=>⟨hY b hy,(fun k e=>by cases e),(fun k m hv e=>by cases e)⟩)⟩
  (fun p hp a'=>by
   simp only[df]at hp;subst hp;exact Holds.iV hS0 hJ0)
  (hargs.mono fun _ _=>bt.mono (cS (c:=Ctx.mk h (fun _=>none) (fun _=>none) Y) rfl))
 refine Calls.mono hc0 ?_;rintro en w' ⟨u,c2,rfl,hpg⟩;obtain⟨_,hJ1⟩:=dI (hpg.wr (3000,.res J1) F {tmps:=#[],defers:=[]});refine⟨u,c2.h,c2.Y,rfl,⟨hpg.below.mono (Zq _) fun k _ hk=>out0 k hk,hpg.le,fun p v hp=>(hpg.new p v hp).imp id fun q=>q.imp id (out0 _),hpg.ok.hw,fun b hy=>(hpg.ok.Y b hy).1,fun b hy hlt=>out0 b (hpg.out b (.inl hy) hlt)⟩,hJ1,?_⟩;refine bK.mono (c:=c2) (c':=aD c2.h) ⟨Mem.le_refl c2.h,fun k b e=>?_,fun k m hv lv e=>?_⟩ hpg.res
 ·have e2:=hpg.loc k b e;cases e2
 obtain⟨_,_,_,e2,_⟩:=hpg.arr k m hv lv e;cases e2
section
variable{E:Env}{all:Array Oper}{s r r1 r2 r3 rg:St}{d ty:Nat}{pos:String}{after:Array Edge}{guard:Option (Nat×Bool)}{x y z:Operand}
def qL{f:Nat}{fo:Operand}{os:List Operand}{at_:Array TypeId}{ys caps:bi}{res:X}{J0 J1:bm}(hg:Gd all s guard rg)(hd:cP E d=true)(hl:Looks s r)(hcall:∀args w,(callFunc f args).run E.P w=.ok (.enter f args) w)
  (hf:FC E f (ys++caps) res J0 J1) (hS:aZ J1) (hl3:look s 3000=some (.res J0))
  (h:∀(c:Ctx)(a:Act)(w:World),(∀p∈r,Holds c a w p.1 p.2)->ah (bt (aD c.h)) ys (os.map a.eval)/\∃cvs:List Value,a.eval fo=.func (.func f) #[] cvs.toArray/\ah (bt (aD c.h)) caps cvs):
  aW E all ⟨some d,.call {callee:=.value fo,args:=os.toArray,argTypes:=at_},ty,pos,after,guard⟩ s (rg++(r++[(3000,.res J0)])) ((d,res)::[(3000,.res J1)]) []:=by
 simp only[Zw,db]at hd;refine⟨?_,hg.looks.app (hl.app ⟨hl3,Zo⟩)⟩;intro U c a w hb hr _ next Q hn
 have hw:=hg.wanted (o:=⟨some d,.call {callee:=.value fo,args:=os.toArray,argTypes:=at_},ty,pos,after,guard⟩) (fun p hp=>hr p (dv _ hp));obtain⟨hys,cvs,hfo,hcs⟩:=h c a w fun p hp=>hr p (by simp[hp])
 unfold gh;rw[Zn hw];refine⟨fun _ _=>trivial,?_⟩;rw[Oper.semAt_eq _ _ _ fun cl he=>by cases he];have hrun:(execOp a.eval ⟨some d,.call {callee:=.value fo,args:=os.toArray,argTypes:=at_},ty,pos,after,guard⟩).run E.P w=.ok (.enter f (os.map a.eval++cvs).toArray) w:=by
  simp_all[execOp,resolve,Deferred.ofValue,invoke]
 rw[hrun];refine⟨Z,?_⟩;obtain⟨hS0,hJ0⟩:=dI (hr (3000,.res J0) F);have h1:CallsIn E.ac (0 - 1) E.P f (os.map a.eval++cvs).toArray w _:=(callsIn_wide (n:=0)).2 (hf c.h c.Y w _ ⟨U,c,a,hb,rfl⟩ hb.hw (fun b hy=>(hb.Y b hy).1) hJ0 (hys.append hcs));refine h1.mono ?_;rintro en w' ⟨u,h',Y',rfl,hp,hJ1,hres⟩;have hext:Ext c ⟨h',c.loc,c.arr,Y'⟩:=⟨hp.le,fun _ _ e=>e,fun _ m hv lv e=>⟨m,hv,lv,e,Zq _,fun _=>rfl⟩⟩;have hdt:d<a.tmps.size:=by rw[hb.nt];exact hd.2
 refine hn ⟨h',c.loc,c.arr,Y'⟩ _ w' ((hb.Y_ hp).put _ _) hext ?_ ?_
 ·intro p hp2;simp only[ed,ml,or_false]at hp2;rcases hp2 with rfl|rfl
  ·unfold Holds;rw[Zn hd.1,cE hdt];exact hres.mono (cS (c:=⟨h',c.loc,c.arr,Y'⟩) rfl)
  simp_all[Holds.iV]
 intro key y hk hy;have hne:d≠key:=hk (d,res) F;have hne2:3000≠key:=hk (3000,.res J1) F;by_cases h1:key<1000
 ·refine Holds.put ?_ hne u;unfold Holds at hy⊢;rw[Zn h1]at hy⊢;exact hy.mono hext
 exact(Holds.Y_ hb hp h1 (fun e=>hne2 e.symm) hy).put hne u
def S.ik{f:Nat}{os:List Operand}{at_:Array TypeId}{ys:bi}{res:X}{J0 J1:bm}(hf:FC E f ys res J0 J1)(hS:aZ J1)(hcall:∀args w,(callFunc f args).run E.P w=.ok (.enter f args) w)(hg:Gd all s guard rg)(hd:cP E d=true)
  (ha:fE s os ys r) (ho:ys.all fm=true) (hl3:look s 3000=some (.res J0)):
  aW E all ⟨some d,.call {callee:=.value (.func f),args:=os.toArray,argTypes:=at_},ty,pos,after,guard⟩ s (rg++(r++[(3000,.res J0)])) ((d,res)::[(3000,.res J1)]) []:=
 qL (caps:=[]) hg hd ha.looks hcall (by simpa using hf) hS hl3 fun _ _ _ hr=>⟨bY (ha.rep hr) ho,[],rfl,Zo⟩
def S.uy{f:Nat}{os:List Operand}{at_:Array TypeId}{ys caps:bi}{res:X}{J0 J1:bm}(hf:FC E f (ys++caps) res J0 J1)(hS:aZ J1)(hcall:∀args w,(callFunc f args).run E.P w=.ok (.enter f args) w)(hg:Gd all s guard rg)(hd:cP E d=true)
  (hx:bI s x (.fn f caps) r1) (ha:fE s os ys r) (ho:ys.all fm=true) (hl3:look s 3000=some (.res J0)) (ho2:caps.all (mE [])=true) (ho3:caps.all (fun u=>!bR u)=true):
  aW E all ⟨some d,.call {callee:=.value x,args:=os.toArray,argTypes:=at_},ty,pos,after,guard⟩ s (rg++((r1++r)++[(3000,.res J0)])) ((d,res)::[(3000,.res J1)]) []:=
 qL hg hd (hx.looks.app ha.looks) hcall hf hS hl3 fun c a w hr=>by
  refine⟨bY (ha.rep fun p hp=>hr p (fv _ hp)) ho,?_⟩;obtain⟨cvs,h1,h2⟩:=hx.rep (c:=c) (a:=a) (w:=w) fun p hp=>hr p (dv _ hp)
  refine⟨cvs,h1,?_⟩;have:∀{us:bi}{vs:List Value},ah (cq c) us vs->us.all (mE [])=true->us.all (fun u=>!bR u)=true->ah (bt (aD c.h)) us vs:=by
   intro us
   induction us with
   |nil=>intro vs h _ _;exact(ah.bJ h)▸trivial
   |cons u us ih=>
    intro vs h h1 h2;obtain⟨v,vs',rfl,hv,hvs⟩:=h.bD;simp only[ee,Zw,lA]at h1 h2;refine⟨?_,ih hvs h1.2 (by simpa using h2.2)⟩;have hp:=(hv.cut h1.1).mono (fx (Mem.le_refl c.h));have hn:=h2.1;cases u<;>first|exact hp|cases hn
  exact this h2 ho2 ho3
end
def vS(P:Program)(f:Nat)(args:bi){ι:Type}(res:ι->X)(J:ι->bm):Prop:=
 ∀(h:Mem)(w:World)(vs:List Value),jv P w->(∀p v,h p=some v->w.cell? p=some v)->ah (bt (aD h)) args vs->
  Calls P f vs.toArray w fun en w'=>∃q v h' Y',en=.returned v/\dW h (fun _=>False) w h' Y' w'/\bK (aD h') (res q) v/\J q h' Y' w'
def yY(E:Env)(f:Nat)(args:bi){ι:Type}(res:ι->X)(J:ι->bm):Prop:=
 ∀(h:Mem)(w:World)(vs:List Value),(∃U c a,aM E U c a w)->(∀p v,h p=some v->w.cell? p=some v)->ah (bt (aD h)) args vs->
  Calls E.P f vs.toArray w fun en w'=>∃q v h' Y',en=.returned v/\dW h (fun _=>False) w h' Y' w'/\bK (aD h') (res q) v/\J q h' Y' w'
def vS.at{E:Env}{f:Nat}{args:bi}{ι:Type}{res:ι->X}{J:ι->bm}(h:vS E.P f args res J)(hT:gO E):yY E f args res J:=fun m w vs hb hw ha=>by
 obtain⟨U,c,a,hb⟩:=hb;exact h m w vs (hT.now hb) hw ha
def vS.intro{P:Program}{f nt:Nat}{fn:Func}{code:Code}{rs:List ResultVar}{args:bi}{ι:Type}{res:ι->X}{J:ι->bm}(hf:P.funcs[f]?=some fn)(hb:fn.body=some code)(hn:fn.ntmps=nt)(hr:fn.results=rs.toArray)
  (hl:Nat.ble args.length nt=true) (ht:args.all (fun x=>!cO x)=true) (hl2:Nat.ble args.length 1000=true)
  (h:∀w c,gO (jK P nt [] w c)->OK (jK P nt [] w c) code (den (jK P nt [] w c) (HI (jK P nt [] w c) rs res J) []) [] (hU 0 args)):vS P f args res J:=by
 intro h0 w vs htab hw hargs;refine(callsIn_wide (n:=0)).1 (callsIn_of_wp_marks hf hb trivial ?_ rfl);have hlen:=hargs.length;rw[ii]at hl hl2;have hno:∀b,¬(aD h0).out [] b:=by
  rintro b (hy|⟨k,_,e⟩|⟨k,m,hv,_,e,_⟩)
  all_goals simp_all
 refine wpIn_mono (h w (aD h0) ⟨htab,fun n _ g _ hX=>by
  rcases hX with hX|⟨p,hp,_⟩
  all_goals simp_all⟩ {tmps:=vs.toArray++Array.replicate (fn.ntmps - vs.toArray.size) undef,defers:=[]} w ?_) ?_
 ·refine⟨aD h0,⟨da.refl _ _ _,Zq _,?_,⟨.nil,fun d hd=>by cases hd⟩,(fun p hp=>by cases hp),hw,Mem.le_refl _,fun p v e=>.inl e,(fun k b e=>by cases e),(fun k m hv b e=>by cases e),(fun _ _=>⟨rfl,rfl⟩),(fun b e=>e.elim),(fun k b _ e=>by cases e),(fun k m hv lv _ e=>by cases e)⟩,fun key x hx=>gl hargs ht hl2 key x hx⟩;simp_all
 rintro e a' w' ⟨U',s',⟨c,hbase,hh⟩,q,⟨he,ys,hys,hres⟩,hl3⟩;have hE:(jK P nt [] w (aD h0)).B=w.heap.size:=rfl;have post:LeavesInM Fence.wide 0 P fn a'.tmps (fun en w'=>∃q v h' Y',en=.returned v/\dW h0 (fun _=>False) w h' Y' w'/\bK (aD h') (res q) v/\J q h' Y' w') a'.defers .returning w':=by
  refine eF (B:=w.heap.size) (aw:=c.all) a'.defers w' hbase.iP.1 ?_ ?_
  ·intro d hd;obtain⟨D,h1,h2,h3,h4⟩:=hbase.iP.2 d hd;simp_all
  intro w2 e1 e2 e3 e4 e5 e6;obtain⟨hbase,hh⟩:=hbase.calm hh e1 e2 e3 e4 rfl e5 e6;obtain⟨vs',h1,h2,h3⟩:=iw hbase hh hys;have hrun:(results fn a'.tmps).run P w2=.ok (if h:vs'.toArray.size=1 then vs'.toArray[0]else .tuple vs'.toArray) w2:=by
   have he:results fn a'.tmps=(fn.results.mapM (fF a'.tmps)>>=fun vs=>pure (if h:vs.size=1 then vs[0]else .tuple vs)):=by
    rfl
   simp_all
  have hpg:=iS.uE (s:=s') (wr:=[(3000,.res (J q))]) (res:=res q) (v:=if h:vs'.toArray.size=1 then vs'.toArray[0]else .tuple vs'.toArray) hbase hE hh ⟨hl3,Zo⟩ rfl (by
   rw[←hres];have hl:=h2.length
   match ys,vs',h2,h3,hl with
   |[y],[v],h2,h3,_=>exact ap.ef h2.1 (h3 y F)
   |[],[],h2,_,_=>exact⟨[],rfl,Zo⟩
   |y1::y2::ys,v1::v2::vs,h2,_,_=>exact⟨v1::v2::vs,by simp,h2⟩
   |[_],[],h2,_,_=>grind
   |[],_::_,h2,_,_=>grind
   |[_],_::_::_,h2,_,_=>grind
   |_::_::_,[],h2,_,_=>grind
   |_::_::_,[_],h2,_,_=>grind) (fun b h=>h.elim id fun⟨p,hp,_⟩=>by cases hp)
  obtain⟨_,hJ1⟩:=dI (hpg.wr (3000,.res (J q)) F {tmps:=#[],defers:=[]});refine⟨_,hrun,q,_,(c.gi [] ((jK P nt [] w (aD h0)).fin c w2)).h,(c.gi [] ((jK P nt [] w (aD h0)).fin c w2)).Y,rfl,⟨hpg.below.mono (Zq _) fun k _ hk=>(hno k hk).elim,hpg.le,fun p v hp=>(hpg.new p v hp).imp id fun q=>q.imp id fun q=>(hno _ q).elim,hpg.ok.hw,fun b hy=>(hpg.ok.Y b hy).1,fun b hy hlt=>hno b (hpg.out b (.inl hy) hlt)⟩,?_,hJ1⟩;refine hpg.res.mono ⟨Mem.le_refl _,fun k b e=>?_,fun k m hv lv e=>?_⟩
  all_goals grind
 rcases he with rfl|rfl
 ·exact post
 exact post
section
variable{E:Env}{all:Array Oper}{s r r1 r2 r3 rg:St}{d ty:Nat}{pos:String}{after:Array Edge}{U:bc}{Q:bo}{x y z:Operand}
def RK.qz{l:List Oper}{U:bc}{Q:bo}{g:Nat}{os:List Operand}{at_:Array TypeId}{ys:bi}{ι:Type}{res:ι->X}{J:ι->bm}(hf:yY E g ys res J)(hS:∀q,aZ (J q))(hm:∀q h Y Y' w,J q h Y w->(∀b,Y b->Y' b)->J q h Y' w)
  (hcall:∀args w,(callFunc g args).run E.P w=.ok (.enter g args) w) (hd:cP E d=true) (ha:fE s os ys r) (ho:ys.all fm=true)
  (h:∀q,RK E all l U ((d,res q)::(3000,.res (J q))::s) Q):RK E all (⟨some d,.call {callee:=.value (.func g),args:=os.toArray,argTypes:=at_},ty,pos,after,none⟩::l) U s Q:=by
 simp only[Zw,db]at hd;intro k hk a w hg;rw[ge,sg,wpOpsIn_cons];refine cW (by simpa using hk 0) ?_;obtain⟨c,hb,hh⟩:=hg;have hw:Region.wanted (⟨some d,.call {callee:=.value (.func g),args:=os.toArray,argTypes:=at_},ty,pos,after,none⟩:Oper) (yielded all a.tmps)=true:=rfl;have hargs:=bY (ha.rep (c:=c) (a:=a) (w:=w) fun p hp=>hh p.1 p.2 (ha.looks.all p hp)) ho;unfold gh;rw[Zn hw];refine⟨fun _ _=>trivial,?_⟩;rw[Oper.semAt_eq _ _ _ fun cl he=>by cases he];have hfo:a.eval (.func g)=.func (.func g) #[] #[]:=rfl;have hrun:(execOp a.eval ⟨some d,.call {callee:=.value (.func g),args:=os.toArray,argTypes:=at_},ty,pos,after,none⟩).run E.P w=.ok (.enter g (os.map a.eval).toArray) w:=by
  simp_all[execOp,resolve,Deferred.ofValue,invoke]
 rw[hrun];refine⟨Z,?_⟩;have h1:CallsIn E.ac (0 - 1) E.P g (os.map a.eval).toArray w _:=(callsIn_wide (n:=0)).2 (hf c.h w _ ⟨_,_,_,hb⟩ hb.hw hargs);refine h1.mono ?_;rintro en w' ⟨q,v,h',Y',rfl,hp,hres,hJ⟩;have hfr:∀b,Y' b->w.heap.size<=b:=fun b hy=>yk fun hlt=>hp.out b hy hlt
 have hp2:dW c.h c.Y w h' (fun b=>c.Y b\/Y' b) w':=by
  refine⟨hp.below.mono (Zq _) fun _ _ e=>e.elim,hp.le,fun p v hv=>(hp.new p v hv).imp id fun e=>e.imp id fun e=>e.elim,hp.hw,fun b hy=>?_,fun b hy hlt=>?_⟩
  ·rcases hy with hy|hy
   ·have:=(hb.Y b hy).1;have:=hp.below.size;omega
   exact hp.lt b hy
  grind
 have hext:Ext c ⟨h',c.loc,c.arr,fun b=>c.Y b\/Y' b⟩:=⟨hp.le,fun _ _ e=>e,fun _ m hv lv e=>⟨m,hv,lv,e,Zq _,fun _=>rfl⟩⟩;have hdt:d<a.tmps.size:=by rw[hb.nt];exact hd.2
 refine h q (k+1) (fun j=>?_) _ _ ⟨⟨h',c.loc,c.arr,fun b=>c.Y b\/Y' b⟩,(hb.Y_ hp2).put _ _,fun key u hu=>?_⟩
 ·have:=hk (j+1);grind
 simp only[look]at hu;split at hu
 ·rename_i e;have:=Nat.eq_of_beq_eq_true e;cases hu;subst this;unfold Holds;rw[Zn hd.1,cE hdt];exact hres.mono (cS (c:=⟨h',c.loc,c.arr,fun b=>c.Y b\/Y' b⟩) rfl)
 rename_i hne;have hne':d≠key:=fun e=>hne (by simp_all)
 split at hu
 ·grind [Nat.eq_of_beq_eq_true,Holds.iV]
 rename_i hne3;have hne3':key≠3000:=fun e=>hne3 (by simp_all)
 have h0:=hh key u hu;by_cases h1:key<1000
 ·refine Holds.put ?_ hne' _;unfold Holds at h0⊢;rw[Zn h1]at h0⊢;exact h0.mono hext
 exact(Holds.Y_ hb hp2 h1 hne3' h0).put hne' _
end
end Go.Ab
namespace Go.Ab
open Go.RowKit
def oQ{P:Program}{w:World}{b p:Nat}{l:ByteArray}(h:w.heap[b]?=some (.stringIter l p)):(getObj b).run P w=.ok (.stringIter l p) w:=by
 grind [getObj,Sem.run]
def wz{P:Program}{w:World}{b p:Nat}{l:ByteArray}{o:Obj}(h:w.heap[b]?=some (.stringIter l p)):(setObj b o).run P w=.ok () {w with heap:=w.heap.setIfInBounds b o}:=by
 grind [setObj,Sem.run]
section
variable{E:Env}{all:Array Oper}{s r r1 r2 r3 rg:St}{d ty:Nat}{pos:String}{after:Array Edge}{guard:Option (Nat×Bool)}{x y z:Operand}{K:Type}[DecidableEq K]{M:HM K}
def xW{U:bc}{c:Ctx}{a:Act}{w:World}(hb:aM E U c a w)(hj:aa M c.h c.Y w)(k0:K)(o:Obj)(kd:HK)(hk:∀h w',(∀o,h ⟨w.heap.size,o,none⟩=none)->w'.heap[w.heap.size]?=some o->xF h w' w.heap.size kd):
  dW c.h c.Y w c.h (fun b=>c.Y b\/b=w.heap.size) (w.alloc o)/\aa (M.set k0 (some (w.heap.size,kd))) c.h (fun b=>c.Y b\/b=w.heap.size) (w.alloc o):=by
 have hB:=cX w o;have hnone:∀o,c.h ⟨w.heap.size,o,none⟩=none:=fun o=>by
  cases hh:c.h ⟨w.heap.size,o,none⟩with
  |none=>rfl
  |some v=>have:=block_lt_of_cell (hb.hw _ _ hh);simp at this
 have hs:(w.alloc o).heap.size=w.heap.size+1:=by simp
 refine⟨⟨⟨hB.os,hB.tape,hB.output,hB.size,fun k hk _=>hB.block k hk⟩,Mem.le_refl _,fun _ _ e=>.inl e,fun p v e=>?_,fun b hy=>?_,fun b hy hlt=>?_⟩,?_⟩
 ·have h1:=hb.hw p v e;rw[hB.cell (block_lt_of_cell h1)];exact h1
 ·rcases hy with hy|rfl
  ·have:=(hb.Y b hy).1;omega
  omega
 ·grind
 refine hj.Y_ (Mem.le_refl _) (fun _ _ _ _ _ e=>e) (fun b hne hy=>hB.block b (hb.Y b hy).1) (fun _ e=>.inl e) (.inr fun hy=>by have:=(hb.Y _ hy).1;omega) (.inr rfl) (hk _ _ hnone ?_);exact heap_alloc_new w o
def S.CB{t:TypeId}{l:ba}(k0:K)(ht:E.P.underlying t=some .string)(hd:cP E d=true)(hx:bI s x (.str l) r)(hl3:look s 3000=some (.res (aa M))):
  xX E all ⟨some d,.range t x,ty,pos,after,none⟩ s (r++[(3000,.res (aa M))]) (fun q:Nat=>(d,.raw (.pointer (some ⟨q,0,none⟩)))::(3000,.res (aa (M.set k0 (some (q,.iter l 0)))))::([]:bc).map fun k=>(2000+k,X.any)) []:=
 xX.mk' hd rfl hx.looks hl3 (fun _=>aa.az _) rfl fun U c a w hb hr hj=>by
  obtain⟨hv,_⟩:=fS (hx.rep (c:=c) (a:=a) (w:=w) fun p hp=>hr p (by simp[hp]));obtain⟨q1,q2⟩:=xW hb hj k0 (.stringIter ⟨l.toArray⟩ 0) (.iter l 0) (fun h w' h1 h2=>⟨h1,h2⟩);refine⟨c,hb,Ext.refl c,fun _ _ _ _ h=>h,w.heap.size,_,w.alloc (.stringIter ⟨l.toArray⟩ 0),c.h,_,?_,q1,rfl,q2⟩;simp[execOp,hv,Instr.range,run_underlying ht]
def S.xY{b p cp wd:Nat}{l:ba}(k0:K)(hd:cP E d=true)(hx:bI s x (.raw (.pointer (some ⟨b,0,none⟩))) r)(hl3:look s 3000=some (.res (aa M)))(hM:M k0=some (b,.iter l p))(hp:p<l.length)(hm:p<=maxLen)(hdec:Utf8.decode ⟨l.toArray⟩ p=(cp,wd))(hc:cp<2147483648):
  xX E all ⟨some d,.next x true,ty,pos,after,none⟩ s (r++[(3000,.res (aa M))]) (fun _:Unit=>(d,.cf [.bool true,.int .i64 p,.int .i32 cp])::(3000,.res (aa (M.set k0 (some (b,.iter l (p+wd))))))::([]:bc).map fun k=>(2000+k,X.any)) []:=
 xX.mk' (res:=fun _=>_) hd rfl hx.looks hl3 (fun _=>aa.az _) rfl fun U c a w hb hr hj=>by
  have hv:a.eval x=.pointer (some ⟨b,0,none⟩):=hx.rep (c:=c) (a:=a) (w:=w) fun p hp=>hr p (by simp[hp])
  obtain⟨hY,h1,h2⟩:=hj.1 k0 b _ hM;have hlt:b<w.heap.size:=(hb.Y b hY).1;have hset:({w with heap:=w.heap.setIfInBounds b (.stringIter ⟨l.toArray⟩ (p+wd))}:World).heap[b]?=some (.stringIter ⟨l.toArray⟩ (p+wd)):=by simp[Array.getElem?_setIfInBounds_self_of_lt hlt]
  have hoth:∀j,j≠b->({w with heap:=w.heap.setIfInBounds b (.stringIter ⟨l.toArray⟩ (p+wd))}:World).heap[j]?=w.heap[j]?:=fun j hj=>by simp[Array.getElem?_setIfInBounds,JN hj]
  refine⟨c,hb,Ext.refl c,fun _ _ _ _ h=>h,(),.tuple #[.bool true,.int .i64 p,.int .i32 cp],{w with heap:=w.heap.setIfInBounds b (.stringIter ⟨l.toArray⟩ (p+wd))},c.h,c.Y,?_,vB hb hY h1 rfl rfl rfl F hoth,?_,?_⟩
  ·have hsz:(⟨l.toArray⟩:ByteArray).size=l.length:=rfl;have hg:(getObj b).run E.P w=.ok (.stringIter ⟨l.toArray⟩ p) w:=oQ h2;have hs:(setObj b (.stringIter ⟨l.toArray⟩ (p+wd))).run E.P w=.ok () {w with heap:=w.heap.setIfInBounds b (.stringIter ⟨l.toArray⟩ (p+wd))}:=wz h2;simp[execOp,hv,Instr.next,hg,hsz,hp,hdec,hs,goInt]
  ·exact⟨_,rfl,ay.bool true,ay.ef (c:=aD c.h) (.int (mY hm)),ay.int (by show IntKind.i32.wrap _=_;unfold IntKind.wrap;simp[IntKind.bits,IntKind.signed];omega),Zo⟩
  exact hj.Y_ (Mem.le_refl _) (fun _ _ _ _ _ e=>e) (fun j hne _=>hoth j hne) (fun _ e=>e) (.inl ⟨_,hM⟩) hY ⟨h1,hset⟩
def S.CC{b p:Nat}{l:ba}(k0:K)(hg:Gd all s guard rg)(hd:cP E d=true)(hx:bI s x (.raw (.pointer (some ⟨b,0,none⟩))) r)(hl3:look s 3000=some (.res (aa M)))(hM:M k0=some (b,.iter l p))(hp:l.length<=p):
  aW E all ⟨some d,.next x true,ty,pos,after,guard⟩ s (rg++(r++[(3000,.res (aa M))])) [(d,.cf [.bool false])] []:=
 aW.val hg hd rfl (hx.looks.app ⟨hl3,Zo⟩) fun c A w _ hr=>by
  have _:=(inferInstance:DecidableEq K);have hv:A.eval x=.pointer (some ⟨b,0,none⟩):=hx.rep (c:=c) (a:=A) (w:=w) fun p hp=>hr p (by simp[hp])
  obtain⟨hY,h1,h2⟩:=(dI (hr (3000,.res (aa M)) F)).2.1 k0 b _ hM;refine⟨.tuple #[.bool false],?_,_,rfl,ay.bool false,Zo⟩;have hsz:(⟨l.toArray⟩:ByteArray).size=l.length:=rfl;have hg:(getObj b).run E.P w=.ok (.stringIter ⟨l.toArray⟩ p) w:=oQ h2;simp[execOp,hv,Instr.next,hg,hsz,show¬p<l.length by omega]
end
def CD{l:ba}{i:Nat}{c:UInt8}(hi:l[i]?=some c)(hc:c.toNat<128):Utf8.decode ⟨l.toArray⟩ i=(c.toNat,1):=by
 obtain⟨hlt,rfl⟩:=dq.1 hi;simp_all[ByteArray.get!,Utf8.decode]
def Gm{l:ba}{i:Nat}{c:UInt8}(hi:l[i]?=some c)(hc:128<=c.toNat):128<=(Utf8.decode ⟨l.toArray⟩ i).1/\(Utf8.decode ⟨l.toArray⟩ i).1<2147483648:=by
 obtain⟨hlt,rfl⟩:=dq.1 hi;have h0:((⟨l.toArray⟩:ByteArray).get! (i+0)).toNat=l[i].toNat:=by simp[ByteArray.get!,hlt]
 rw[Utf8.decode];simp only[h0];rw[Zm I];have e:Utf8.runeError=65533:=rfl
 repeat' split
 all_goals grind
end Go.Ab
namespace Go.Ab
open Go.RowKit
section
variable{E:Env}{U:bc}{s:St}{code:Code}{Q:bo}
def OK.Bw{ι:Type}{p:ι->Prop}{J:ι->bm}(hl:look s 3000=some (.res fun h Y w=>∃q,p q/\J q h Y w))(hS:∀q,aZ (J q))(h:∀q,p q->OK E code Q U ((3000,.res (J q))::s)):OK E code Q U s:=fun a w hg=>by
 obtain⟨c,hb,hh⟩:=hg;obtain⟨q,hp,hj⟩:=(dI (hh _ _ hl)).2;refine h q hp a w ⟨c,hb,fun key x hx=>?_⟩;simp only[look]at hx;split at hx
 ·rename_i e;have:=Nat.eq_of_beq_eq_true e;cases hx;subst this;exact Holds.iV (hS q) hj
 exact hh key x hx
def aZ.ex{ι:Type}{p:ι->Prop}{J:ι->bm}(hS:∀q,aZ (J q)):aZ fun h Y w=>∃q,p q/\J q h Y w:=by
 rintro h h' Y w w' ⟨q,h1,h2⟩ a b c d e;exact⟨q,h1,hS q _ _ _ _ _ h2 a b c d e⟩
end
section
variable{E:Env}{all:Array Oper}{s r r1 r2 r3 rg:St}{d ty:Nat}{pos:String}{after:Array Edge}{guard:Option (Nat×Bool)}{x y z:Operand}{K:Type}[DecidableEq K]
def S.I4{t t2 e n b1 b2:Nat}{ag:Bool}{xs1 xs2:bi}{M:HM K}{J:bm}(hJ:∀h Y w,J h Y w->aa M h Y w)(k1 k2:K)(hsz:eT E.P e ag n)(ht:E.P.underlying t=some (.pointer e))(hn:n≠0)(hg:Gd all s guard rg)(hd:cP E d=true)(hx:bI s x (.raw (.pointer (some ⟨b1,0,none⟩))) r1)(hy:bI s y (.raw (.pointer (some ⟨b2,0,none⟩))) r2)
  (hl:look s 3000=some (.res J)) (hM1:M k1=some (b1,.box xs1)) (hM2:M k2=some (b2,.box xs2)):
  aW E all ⟨some d,.binOp .eql t x y t2,ty,pos,after,guard⟩ s (rg++((r1++r2)++[(3000,.res J)])) [(d,.bool (decide (b1=b2)))] []:=
 aW.val hg hd rfl ((hx.looks.app hy.looks).app ⟨hl,Zo⟩) fun c A w _ hr=>by
  have _:=(inferInstance:DecidableEq K);have hv1:A.eval x=.pointer (some ⟨b1,0,none⟩):=hx.rep (c:=c) (a:=A) (w:=w) fun p hp=>hr p (by simp[hp])
  have hv2:A.eval y=.pointer (some ⟨b2,0,none⟩):=hy.rep (c:=c) (a:=A) (w:=w) fun p hp=>hr p (by simp[hp])
  have hj:aa M c.h c.Y w:=hJ _ _ _ (dI (hr (3000,.res J) F)).2;obtain⟨_,_,T1,vs1,q1,_⟩:=hj.1 k1 b1 _ hM1;obtain⟨_,_,T2,vs2,q2,_⟩:=hj.1 k2 b2 _ hM2;refine⟨.bool (decide (b1=b2)),?_,ay.ef (.bool _)⟩;have hq:(eqGuard .eql t x y (.pointer (some ⟨b1,0,none⟩)) (.pointer (some ⟨b2,0,none⟩))).run E.P w=.ok () w:=by simp[eqGuard]
  have hs:(sameAddr ⟨b1,0,none⟩ ⟨b2,0,none⟩).run E.P w=.ok (decide (b1=b2)) w:=by
   by_cases hb:b1=b2
   ·subst hb;rw[run_sameAddr_same w,Zz rfl]
   rw[run_sameAddr_other w (fun e=>hb (eQ Addr.block e)) q1 q2,Zy hb]
  have h3:(Op.equalIn Op.maxDepth t (.pointer (some ⟨b1,0,none⟩)) (.pointer (some ⟨b2,0,none⟩))).run E.P w=.ok (decide (b1=b2)) w:=by
   rw[show Op.maxDepth=(Op.maxDepth - 1)+1 from rfl];simp only[Op.equalIn,run_underlying ht,Sem.run_bind,Result.andThen_ok,hsz.size,Zn hn,hs]
  simp only[execOp,hv1,hv2,Sem.run_bind,hq,Result.andThen_ok,binOp,Op.equal,h3];rfl
end
section
variable{E:Env}{all:Array Oper}{s r rg:St}{d ty:Nat}{pos:String}{after:Array Edge}{guard:Option (Nat×Bool)}{x:Operand}
def S.GA{T f o Tf n:Nat}{us:bi}{u:X}(hf:Ji E.P T f o Tf)(ht:eT E.P Tf false n)(hg:Gd all s guard rg)(hd:cP E d=true)(hx:bI s x (.agg us) r)(hu:us[o]?=some u)(hnt:mU u=false):
  aW E all ⟨some d,.field T x f,ty,pos,after,guard⟩ s (rg++r) [(d,u)] []:=
 aW.val hg hd rfl hx.looks fun c A w hh hr=>by
  obtain⟨vs,h1,h2⟩:=hx.rep (c:=c) (a:=A) (w:=w) hr;obtain⟨fields,fl,e1,e2,e3,e4⟩:=hf.ex;obtain⟨v,hvv,hvr⟩:=h2.eD hu;refine⟨v,?_,ab.ef hvr hnt⟩;simp only[execOp,h1,Instr.field];rw[Sem.run_bind,Sem.run_bind,run_underlying e1];simp[e2,part,asAgg,e3,e4,ht.agg,hvv]
end
def Ii{h:Mem}{v:Value}(e:v=.slice none 0 0):ay h (.sl []) v:=by subst e;exact .rP none 0 (Zr _)
def oz:bi->bi->Prop:=ah fun x x'=>(G7 x=true/\x'=Fv x)\/(x=.bO/\x'=.sl [])
def oz.rep:∀{xs xs':bi},oz xs xs'->∀{c:Ctx}{vs:List Value},ah (aV c) xs vs->ah (ay c.h) xs' vs
 |[],[],_,_,[],_=>trivial
 |x::xs,x'::xs',h,c,v::vs,hv=>by
  refine⟨?_,oz.rep h.2 hv.2⟩;rcases h.1 with⟨q1,q2⟩|⟨q1,q2⟩
  ·rw[q2];exact F0 hv.1 q1
  subst q1;subst q2;exact Ii hv.1
 |[],_::_,h,_,_,_=>h.elim
 |_::_,[],h,_,_,_=>h.elim
 |[],[],_,_,_::_,hv=>hv.elim
 |_::_,_::_,_,_,[],hv=>hv.elim
section
variable{E:Env}{U:bc}{s:St}{code:Code}{Q:bo}{K:Type}[DecidableEq K]{M:HM K}
def OK.Hs(t:Nat)(kb:K){k sz:Nat}{cells cells':bi}(ht:Nat.blt t 1000=true)(hl:look s t=some (.di k 1 0))(hl2:look s (2000+k)=some (.cM sz [] cells []))(hc:oz cells cells')(hl3:look s 3000=some (.res (aa M)))
  (h:∀b,OK E code Q U ((t,.raw (.pointer (some ⟨b,0,none⟩)))::(2000+k,.any)::(3000,.res (aa (M.set kb (some (b,.box cells')))))::s)) (hk9:E.fs.contains k=false:=by rfl):OK E code Q U s:=fun a w hg=>by
 obtain⟨c,hb,hh⟩:=hg;obtain⟨b,cp,e1,hb1,hj1⟩:=rq hb (dI (hh _ _ hl3)).2 kb (nQ hk9) (hh _ _ hl2) (fun vs h=>hc.rep h);obtain⟨m,hv,lv,p1,p2,p3⟩:=(show cq c (.di k 1 0) _ from(hh _ _ hl).slot ht);rw[e1]at p1;cases p1;obtain⟨b',l',cp',p4,p5⟩:=p3 rfl;cases p4;refine h b a w ⟨_,hb1,fun key x hx=>?_⟩;simp only[look]at hx;split at hx
 ·rename_i e;have:=Nat.eq_of_beq_eq_true e;cases hx;subst this;rw[db]at ht;unfold Holds;rw[Zn ht];exact p5
 split at hx
 ·rename_i e;have:=Nat.eq_of_beq_eq_true e;cases hx;subst this;unfold Holds;rw[Zm I];exact .inl rfl
 rename_i hk2;split at hx
 ·rename_i e;have:=Nat.eq_of_beq_eq_true e;cases hx;subst this;exact Holds.iV (aa.az _) hj1
 rename_i hk3;exact Holds.dead e1 (fun e=>hk2 (by rw[e];exact pd _)) (fun e=>hk3 (by rw[e];exact pd _)) (hh key x hx)
end
def qx(ks:List ba):List (ba×X):=ks.map fun s=>(s,X.bool true)
section
variable{E:Env}{all:Array Oper}{s r1 r2 r3 rg:St}{d ty:Nat}{pos:String}{after:Array Edge}{guard:Option (Nat×Bool)}{x y z:Operand}
def S.Ev{t kt e k:Nat}{key:ba}{ks:List ba}{es:List (X×X)}{zv:Value}(ht:E.P.underlying t=some (.map kt e))(hk:E.P.underlying kt=some .string)(hz:∀w,(zeroValue e).run E.P w=.ok zv w)(hzx:zv=.bool false)(hg:Gd all s guard rg)(hd:cP E d=true)
  (hx:bI s x (.jt k) r1) (hy:bI s y (.str key) r2) (hl:look s (1000+k)=some (.omap es)) (hes:es=jz (qx ks)) (hk1:Nat.blt k 1000=true:=by rfl):
  aW E all ⟨some d,.lookup t x y false,ty,pos,after,guard⟩ s (rg++(r1++(r2++[(1000+k,.omap es)]))) [(d,.bool (decide (key∈ks)))] []:=by
 subst hzx;have e:(kF (qx ks) key).getD (.bool false)=.bool (decide (key∈ks)):=by
  unfold qx;rw[tC];grind
 have h:=S.Dm (d:=d) (ty:=ty) (pos:=pos) (after:=after) (l:=qx ks) (zx:=.bool false) ht hk hz (fun c=>ay.bool false) hg hd hx hy hl hes (by rw[e];rfl) hk1;simp_all
def S.Ew{t kt e k:Nat}{key:List UInt8}{ks:List (List UInt8)}{es:List (X×X)}(ht:E.P.underlying t=some (.map kt e))(hk:E.P.underlying kt=some .string)(hg:Gd all s guard rg)(hx:bI s x (.jt k) r1)(hy:bI s y (.str key) r2)(hz:bI s z (.bool true) r3)(hl:look s (1000+k)=some (.omap es))(hes:es=jz (qx ks))(hn:key∉ks)(hk1:Nat.blt k 1000=true:=by rfl):
  aW E all ⟨none,.mapUpdate t x y z,ty,pos,after,guard⟩ s (rg++(r1++(r2++(r3++[(1000+k,.omap es)])))) [(1000+k,.omap (jz (qx (ks++[key]))))] []:=
 S.EZ (l:=qx ks) ht hk hg hx hy hz rfl hl hes (by unfold qx;rw[wW _ _ _ hn]) hk1
end
section
variable{E:Env}{all:Array Oper}{s r rg:St}{d ty:Nat}{pos:String}{after:Array Edge}{guard:Option (Nat×Bool)}
def S.A7 {T g : Nat} (hT : gO E) (hn : E.P.globalNamed "martensite/recipe.names" = some g) (ht : eT E.P T true 6) (hg : Gd all s guard rg) (hd : (Nat.blt d 1000 && Nat.blt d E.nt) = true) :
  aW E all ⟨some d,.load T (.global g),ty,pos,after,guard⟩ s (rg++[]) [(d,.agg (b7.map X.str))] []:=
 aW.mk hg hd rfl trivial fun U c a w hb hr _=>by
  obtain⟨T',dd,e⟩:=(hT.now hb).Jd g hn;refine⟨.agg (b7.map fun l=>Value.string ⟨l.toArray⟩).toArray,c,w,?_,hb,Ext.refl c,⟨b7.map fun l=>Value.string ⟨l.toArray⟩,rfl,?_⟩,(fun p hp=>by cases hp),fun key y _ _ hy=>hy⟩
  ·have h0:a.eval (.global g)=.pointer (some ⟨g,0,none⟩):=rfl;simp only[execOp,h0];rw[Sem.run_bind,jd ht (vs:=b7.map fun l=>Value.string ⟨l.toArray⟩) (by rfl) fun i v hv=>?_]
   ·rfl
   unfold World.cell?;simp only[gk,e];simpa using hv
  refine ah.fb F fun i u v hu hv=>?_
  rw[lh]at hu hv;cases hi:b7[i]? with
  |none=>rw[hi]at hu;cases hu
  |some t=>
   rw[hi]at hu hv;cases hu;cases hv;exact ay.str _ (by have:=ce hi;simp[b7]at this;rcases this with rfl|rfl|rfl|rfl|rfl|rfl<;>decide)
end
def td{J J0:bm}{p:bm}(hJ:∀h Y w,J h Y w->J0 h Y w)(hv:∀h Y w,J0 h Y w->p h Y w):∀h Y w,J h Y w->p h Y w:=by simp_all
def Jg(E:Env)(f:Nat)(args:bi)(res:X)(J0:bm):Prop:=
 ∀J,aZ J->(∀h Y w,J h Y w->J0 h Y w)->FC E f args res J J
section
variable{E:Env}{all:Array Oper}{s r r1 r2 r3 rg:St}{d ty:Nat}{pos:String}{after:Array Edge}{guard:Option (Nat×Bool)}{x y z:Operand}
def yd{f:Nat}{fo:Operand}{os:List Operand}{at_:Array TypeId}{ys caps:bi}{res:X}{J0:bm}(hg:Gd all s guard rg)(hd:cP E d=true)(hl:Looks s r)(hcall:∀args w,(callFunc f args).run E.P w=.ok (.enter f args) w)
  (hf:Jg E f (ys++caps) res J0) (hl3:look s 3000=some (.res J0))
  (h:∀(c:Ctx)(a:Act)(w:World),(∀p∈r,Holds c a w p.1 p.2)->ah (bt (aD c.h)) ys (os.map a.eval)/\∃cvs:List Value,a.eval fo=.func (.func f) #[] cvs.toArray/\ah (bt (aD c.h)) caps cvs):
  aW E all ⟨some d,.call {callee:=.value fo,args:=os.toArray,argTypes:=at_},ty,pos,after,guard⟩ s (rg++(r++[(3000,.res J0)])) [(d,res)] []:=by
 simp only[Zw,db]at hd;refine⟨?_,hg.looks.app (hl.app ⟨hl3,Zo⟩)⟩;intro U c a w hb hr _ next Q hn
 have hw:=hg.wanted (o:=⟨some d,.call {callee:=.value fo,args:=os.toArray,argTypes:=at_},ty,pos,after,guard⟩) (fun p hp=>hr p (dv _ hp));obtain⟨hys,cvs,hfo,hcs⟩:=h c a w fun p hp=>hr p (by simp[hp])
 unfold gh;rw[Zn hw];refine⟨fun _ _=>trivial,?_⟩;rw[Oper.semAt_eq _ _ _ fun cl he=>by cases he];have hrun:(execOp a.eval ⟨some d,.call {callee:=.value fo,args:=os.toArray,argTypes:=at_},ty,pos,after,guard⟩).run E.P w=.ok (.enter f (os.map a.eval++cvs).toArray) w:=by
  simp_all[execOp,resolve,Deferred.ofValue,invoke]
 rw[hrun];refine⟨Z,?_⟩;obtain⟨hS0,hJ0⟩:=dI (hr (3000,.res J0) F);have hSJ:aZ (fun h Y v=>J0 h Y v/\(∀b,c.Y b->v.heap[b]?=w.heap[b]?)/\(∀p u,c.Y p.block->h p=some u->c.h p=some u)/\∀b,c.Y b->Y b):=by
  grind [aZ]
 have h1:CallsIn E.ac (0 - 1) E.P f (os.map a.eval++cvs).toArray w _:=(callsIn_wide (n:=0)).2 (hf _ hSJ (fun _ _ _ h=>h.1) c.h c.Y w _ ⟨U,c,a,hb,rfl⟩ hb.hw (fun b hy=>(hb.Y b hy).1) ⟨hJ0,fun _ _=>rfl,fun _ _ _ h=>h,fun _ h=>h⟩ (hys.append hcs));refine h1.mono ?_;rintro en w' ⟨u,h',Y',rfl,hp,⟨_,j1,j2,_⟩,hres⟩;have hB:Below w.heap.size w w':=⟨hp.below.os,hp.below.tape,hp.below.output,hp.below.size,fun k hk=>by
  by_cases hy:c.Y k
  ·grind
  exact hp.below.block k hk hy⟩
 have hnew:∀p v,h' p=some v->c.h p=some v\/w.heap.size<=p.block:=fun p v hv=>(hp.new p v hv).elim .inl fun h=>h.elim .inr fun hy=>.inl (j2 p v hy hv)
 have hdt:d<a.tmps.size:=by rw[hb.nt];exact hd.2
 have hext:Ext c ⟨h',c.loc,c.arr,c.Y⟩:=⟨hp.le,fun _ _ e=>e,fun _ m hv lv e=>⟨m,hv,lv,e,Zq _,fun _=>rfl⟩⟩;refine hn ⟨h',c.loc,c.arr,c.Y⟩ _ w' ((hb.below_grow hB hp.le hnew hp.hw).put _ _) hext ?_ ?_
 ·intro p hp2;simp only[df]at hp2;subst hp2;unfold Holds;rw[Zn hd.1,cE hdt];exact hres.mono (cS (c:=⟨h',c.loc,c.arr,c.Y⟩) rfl)
 intro key y hk hy;have hne:d≠key:=hk (d,res) F;by_cases h1:key<1000
 ·refine Holds.put ?_ hne u;unfold Holds at hy⊢;rw[Zn h1]at hy⊢;exact hy.mono hext
 exact(Holds.below hb hB hext (fun _ _ _ e=>e) rfl hnew hp.hw h1 hy).put hne u
def S.fI{f:Nat}{os:List Operand}{at_:Array TypeId}{ys:bi}{res:X}{J0:bm}(hf:Jg E f ys res J0)(hcall:∀args w,(callFunc f args).run E.P w=.ok (.enter f args) w)(hg:Gd all s guard rg)(hd:cP E d=true)
  (ha:fE s os ys r) (ho:ys.all fm=true) (hl3:look s 3000=some (.res J0)):
  aW E all ⟨some d,.call {callee:=.value (.func f),args:=os.toArray,argTypes:=at_},ty,pos,after,guard⟩ s (rg++(r++[(3000,.res J0)])) [(d,res)] []:=
 yd (caps:=[]) hg hd ha.looks hcall (by simpa using hf) hl3 fun _ _ _ hr=>⟨bY (ha.rep hr) ho,[],rfl,Zo⟩
end
end Go.Ab
namespace Go.Ab
open Go.RowKit
def A8{w w':World}{p:Addr}(h:w'.heap[p.block]?=w.heap[p.block]?):w'.cell? p=w.cell? p:=by
 grind [World.cell?]
def Gk{E:Env}{f:Nat}(hf:tP E.P f){K:Type}[DecidableEq K]{M:HM K}{kb:K}{b cap n:Nat}{zs:List Int}(hM:M kb=some (b,.row 1 cap (zs.map fun n=>[X.int .i64 n])))(hn:zs.length=n)(hbig:n<4611686018427387904):
  FC E f [.raw (.slice (some ⟨b,0,none⟩) n cap)] (.cf []) (aa M) (aa (M.set kb (some (b,.row 1 cap ((zs.mergeSort fun x y=>decide (x<=y)).map fun n=>[X.int .i64 n]))))):=by
 intro h Y w vs _ hw hY hj hargs;subst hn;obtain⟨v,vs',rfl,hv,hvs⟩:=hargs.bD;have hnil:=ah.bJ hvs;subst hnil;have hv':v=.slice (some ⟨b,0,none⟩) zs.length cap:=hv;subst hv';obtain⟨hYb,q1,⟨q2,q3,q4⟩,T,cs,q5,q6,q7⟩:=hj.1 kb b _ hM;rw[fC,Zx,Nat.mul_one]at q7;rw[Zx]at q2;have hvs2:=nO q7;have hH:=holds_of_blockI q5 (ss:=zs) hvs2;have hlt:=hY b hYb;have hperm:=rp zs (fun x y=>decide (x<=y));refine(hf.some b 0 cap zs w hH hlt hbig).mono ?_;rintro en w' ⟨rfl,q,os,rfl⟩;obtain⟨g1,g2,g3,g4,g5⟩:=grownBy_sortedI (w:=w) (g:=b) (n:=q) (os:=os) (zs.mergeSort fun x y=>decide (x<=y)).toArray;have hown:=ownsRow_sortedI (w:=w) (base:=0) (g:=b) (cap:=cap) (n:=q) (e:=T) (os:=os) (cur:=cs) (ss:=zs) (ts:=zs.mergeSort fun x y=>decide (x<=y)) hperm.length_eq (Zr _) q5 q2 q3 q6;have hoth:∀k,k<w.heap.size->k≠b->(Go.Sort.grow (Go.Sort.putRow (Value.int .i64) (Go.Sort.ahead w q) b 0 (zs.mergeSort fun x y=>decide (x<=y)).toArray) os).heap[k]?=w.heap[k]?:=fun k hk hne=>g5 k hk fun e=>hne (tn e)
 refine⟨_,h,Y,rfl,⟨⟨g1,g2,g3,g4,fun k hk hy=>hoth k hk fun e=>hy (e▸hYb)⟩,Mem.le_refl _,fun p v e=>.inl e,fun p v hp=>?_,fun b' hy=>dl (hY b' hy) g4,fun _ hy _=>hy⟩,?_,⟨[],rfl,Zo⟩⟩
 ·grind [j8,World.cell?]
 refine hj.Y_ (Mem.le_refl _) (fun _ _ _ _ _ e=>e) (fun b' hne hy=>hoth b' (hY b' hy) hne) (fun _ e=>e) (.inl ⟨_,hM⟩) hYb ⟨q1,?_⟩;rcases hown.2 with⟨h0,_⟩|⟨g,cap',cur,h1,_,h2,h3,h4,h6,h8⟩
 ·cases h0
 cases h1;refine⟨⟨by simp_all,h4,fun r hr=>by grind⟩,_,_,h2,h6,?_⟩;grind [fC,Zx,sC]
end Go.Ab
namespace Go.Ab
open Go.RowKit
section
variable{E:Env}{all:Array Oper}{s r r1 r2 r3 rg:St}{d ty:Nat}{pos:String}{after:Array Edge}{guard:Option (Nat×Bool)}{x y z:Operand}
def S.q9{t e bytes k k1 sz1:Nat}{cells1:bi}(hA:lV E.P t e 1 bytes)(hg:Gd all s guard rg)(hd:cP E d=true)
  (hx:bI s x (.di k1 1 0) r) (hl:look s (2000+k1)=some (.cM sz1 [] cells1 [])) (hk9:E.fs.contains k=false:=by rfl) (hk1:Nat.blt k 1000=true:=by rfl):
  aW E all ⟨some d,.buildSlice t 1 #[(0,x)],ty,pos,after,guard⟩ s (rg++(r++[(2000+k1,.cM sz1 [] cells1 [])])) ((d,.own k 1)::[(2000+k,.cM 1 [] [.di k1 1 0] [])]) [k]:=
 aW.mk hg hd rfl (hx.looks.app ⟨hl,Zo⟩) fun U c a w hb hrr hal=>by
  rw[db]at hk1;have hkU:k∉U:=hal k F;obtain⟨hsz,zv,hz,hzs⟩:=hA.run;have hxr:bK c (.di k1 1 0) (a.eval x):=hx.rep (c:=c) (a:=a) (w:=w) fun p hp=>hrr p (by simp[hp])
  obtain⟨m,hv,lv,e1,e2,e3⟩:=kK hxr;obtain⟨_,hv',_,_,e4,_⟩:=k9 (hrr (2000+k1,.cM sz1 [] cells1 []) F);rw[e4]at e1;cases e1;obtain⟨b,l,cp,_,e5⟩:=e3 rfl;have hcells:(a.eval x).cells= #[a.eval x]:=by rw[e5];rfl
  have hbase:∀(q:Array Value),q.size=1->ah (aV c) [.any] q.toList:=fun q hq=>by
   obtain⟨v,hv⟩:∃v,q= #[v]:=by
    refine⟨q[0]' I,?_⟩;apply Array.ext
    ·simp[hq]
    intro i h1 h2;simp at h2;subst h2;rfl
   subst hv;exact⟨Zo,Zo⟩
  obtain⟨cells,h1,h2⟩:=jh (c:=c) (fun i=>some (i * 1,1)) [(0,.di k1 1 0)] [(0,a.eval x)] [.any] (((Array.range (1 * 1)).map fun i=>(if 1 * 1=0 then #[]else zv.cells)[i % (if 1 * 1=0 then #[]else zv.cells).size]!)) [.di k1 1 0] (hbase _ F) ⟨⟨rfl,by rw[hcells];exact⟨hxr,Zo⟩⟩,Zo⟩ rfl;have hcs:cells.size=1:=by have:=h2.length;simpa using this.symm
  have hB:=cX w (.cells cells e);obtain⟨g1,g2,g3,g4⟩:=hb.lQ (nQ hk9) hkU (n:=1) (v:=.slice (some ⟨w.heap.size,0,none⟩) 1 1) hB (.inr ⟨rfl,by simp⟩);have hp:=hA.pos;refine⟨.slice (some ⟨w.heap.size,0,none⟩) 1 1,_,w.alloc (.cells cells e),?_,g1,g2,⟨⟨_,_,_,rfl⟩,1,_,_,g3,Zq _,fun _=>rfl⟩,?_,fun key u hkey _ hu=>g4 key u hkey hu⟩
  ·simp only[execOp,Instr.buildSlice,Sem.run_bind,run_underlying hA.mD,Result.andThen_ok,hsz];simp at h1;simp[hz,h1,newRow]
  intro p hp2;simp only[df]at hp2;subst hp2;refine Holds.Dj (e:=e) (n:=1) (vs:=cells.toList) (v1:=[]) (v2:=cells.toList) (v3:=[]) (pre:=[]) (post:=[]) I rfl g3 ⟨by simp[hcs],.inr ⟨w.heap.size,1,cells,rfl,Zr _,heap_alloc_new w _,Zq _,by unfold maxLen;omega,by rw[hcs],?_⟩⟩ ?_ F trivial (h2.mono fun _ _=>aV.mono g2) trivial
  ·rw[eK (by simp[hcs])]
  intro q hq;simp only[pt,df]at hq;subst hq;rfl
end
end Go.Ab
namespace Go.Ab
open Go.RowKit
def nx:List (Int×X)->Int->Option X
 |[],_=>none
 |p::l,k=>if p.1=k then some p.2 else nx l k
def oo(l:List (Int×X)):List (X×X):=l.map fun p=>(.int .i64 p.1,p.2)
def E0{h:Mem}{n:Int}{v:Value}(r:ay h (.int .i64 n) v):v=.int .i64 n:=by cases r;rfl
def wX(a b:Int):Instr.sameNow (.int .i64) (.int .i64 a) (.int .i64 b)=some (decide (b=a)):=by
 have h:(a==b)=decide (b=a):=by
  grind
 simp only[Instr.sameNow,if_true,h]
def ru{h:Mem}{k:Int}:∀{l:List (Int×X)}{es:List MapEntry}(i:Nat),ah (ye h) (oo l) es->
  (nx l k=none/\Instr.findNow (.int .i64) (.int .i64 k) es i=some none/\(∀m∈es,m.key≠.int .i64 k))\/
  ∃(j:Nat)(u:X)(m:MapEntry),nx l k=some u/\Instr.findNow (.int .i64) (.int .i64 k) es i=some (some (i+j,m.val))/\bt (aD h) u m.val
 |[],[],i,_=>.inl ⟨rfl,rfl,(fun m hm=>by cases hm)⟩
 |p::l,m::es,i,hr=>by
  obtain⟨⟨h1,h2⟩,h3⟩:=hr;have hk:=E0 h1;by_cases hp:p.1=k
  ·refine .inr ⟨0,p.2,m,by simp[nx,hp],?_,h2⟩;simp_all[Instr.findNow,wX]
  have hf:∀i,Instr.findNow (.int .i64) (.int .i64 k) (m::es) i=Instr.findNow (.int .i64) (.int .i64 k) es (i+1):=by
   simp_all[Instr.findNow,wX]
  rcases ru (k:=k) (i+1) h3 with⟨q1,q2,q3⟩|⟨j,u,m',q1,q2,q5⟩
  ·grind [nx]
  exact .inr ⟨j+1,u,m',by simp[nx,hp,q1],by grind,q5⟩
 |[],_::_,_,h=>h.elim
 |_::_,[],_,h=>h.elim
section
variable{E:Env}{all:Array Oper}{s r1 r2 r3 rg:St}{d ty:Nat}{pos:String}{after:Array Edge}{guard:Option (Nat×Bool)}{x y z:Operand}
def S.CO{t kt e k:Nat}{key:Int}{l:List (Int×X)}{es:List (X×X)}{u:X}(ht:E.P.underlying t=some (.map kt e))(hk:E.P.underlying kt=some (.int .i64))(hg:Gd all s guard rg)(hd:cP E d=true)
  (hx:bI s x (.jt k) r1) (hy:bI s y (.int .i64 key) r2) (hl:look s (1000+k)=some (.omap es)) (hes:es=oo l) (hu:nx l key=some u) (hnt:cO u=false) (hk1:Nat.blt k 1000=true:=by rfl):
  aW E all ⟨some d,.lookup t x y false,ty,pos,after,guard⟩ s (rg++(r1++(r2++[(1000+k,.omap es)]))) [(d,u)] []:=
 aW.val hg hd rfl (hx.looks.app (hy.looks.app ⟨hl,Zo⟩)) fun c A w _ hr=>by
  subst hes;rw[db]at hk1;obtain⟨b,h1,h0⟩:=p9 (hx.rep (c:=c) (a:=A) (w:=w) fun p hp=>hr p (by simp[hp]));obtain⟨b',mes,clock,h2,h3,_,h4⟩:=qa (hr (1000+k,.omap (oo l)) F) hk1;rw[h1]at h2;cases h2;obtain⟨h5,_⟩:=cJ (hy.rep (c:=c) (a:=A) (w:=w) fun p hp=>hr p (by simp[hp]));have hkey:MapKept.IsKey (.int .i64) (.int .i64 key):=rfl;rcases ru (k:=key) 0 h4 with⟨q1,_,_⟩|⟨j,u',m,q1,q2,q5⟩
  ·rw[q1]at hu;cases hu
  rw[q1]at hu;cases hu;refine⟨m.val,?_,ap.ef (q5.mono (cS rfl)) hnt⟩;simp[execOp,h0,h5,Instr.lookup,run_underlying ht,MapKept.run_getObj_map h3,MapKept.run_checkKey hk hkey,MapKept.run_findKey hk q2]
def S.kZ{t kt e k:Nat}{key:Int}{u:X}{l:List (Int×X)}{es es':List (X×X)}(ht:E.P.underlying t=some (.map kt e))(hk:E.P.underlying kt=some (.int .i64))(hg:Gd all s guard rg)
  (hx:bI s x (.jt k) r1) (hy:bI s y (.int .i64 key) r2) (hz:bI s z u r3) (hu:fm u=true) (hl:look s (1000+k)=some (.omap es)) (hes:es=oo l) (hn:nx l key=none) (hes':oo (l++[(key,u)])=es') (hk1:Nat.blt k 1000=true:=by rfl):
  aW E all ⟨none,.insert t x y z,ty,pos,after,guard⟩ s (rg++(r1++(r2++(r3++[(1000+k,.omap es)])))) [(1000+k,.omap es')] []:=
 aW.IZ hg rfl (hx.looks.app (hy.looks.app (hz.looks.app ⟨hl,Zo⟩))) fun U c a w hb hr=>by
  subst hes;subst hes';rw[db]at hk1;obtain⟨b,h1,h0⟩:=p9 (hx.rep (c:=c) (a:=a) (w:=w) fun p hp=>hr p (by simp[hp]));obtain⟨b',mes,clock,h2,h3,hs,h4⟩:=qa (hr (1000+k,.omap (oo l)) F) hk1;rw[h1]at h2;cases h2;have hyr:=hy.rep (c:=c) (a:=a) (w:=w) fun p hp=>hr p (by simp[hp])
  obtain⟨h5,_⟩:=cJ hyr;have hkD:ay c.h (.int .i64 key) (.int .i64 key):=h5▸hyr;have hzr:=hz.rep (c:=c) (a:=a) (w:=w) fun p hp=>hr p (by simp[hp])
  have hv:bt (aD c.h) u (a.eval z):=(bY (ys:=[u]) (vs:=[a.eval z]) ⟨hzr,Zo⟩ (by simp[hu])).1;have hkey:MapKept.IsKey (.int .i64) (.int .i64 key):=rfl;rcases ru (k:=key) 0 h4 with⟨_,q2,q3⟩|⟨j,u',m,q1,_,_⟩
  ·obtain⟨p1,p2⟩:=hb.u7 (w':={w with heap:=w.heap.setIfInBounds b (.map (mes.push ⟨.int .i64 key,a.eval z,clock⟩) (clock+1))}) h1 rfl rfl rfl F fun j hj=>(MapKept.heap_set h3).2 j hj
   refine⟨_,?_,p1,?_,fun key' y hkey hne hy=>p2 key' y hkey (fun e=>hne _ (df.2 rfl) e.symm) hy⟩
   ·simp[execOp,h0,h5,Instr.mapUpdate,run_underlying ht,MapKept.run_getObj_map h3,MapKept.run_checkKey hk hkey,MapKept.run_findKey hk q2,MapKept.run_setObj_map _ h3]
   intro p hp;simp only[df]at hp;subst hp;refine Holds.mkMap hk1 h1 (MapKept.heap_set h3).1 (MapKept.stamped_push hs q3) ?_;rw[Array.toList_push];simp only[oo,dE,fw,rm];exact h4.append ⟨⟨hkD,hv⟩,Zo⟩
  rw[q1]at hn;cases hn
end
section
variable{E:Env}{U:bc}{s:St}{code:Code}{Q:bo}{K:Type}[DecidableEq K]{M:HM K}
def OK.HR(U':bc)(s1:St)(t:Nat)(kb:K){k:Nat}{cells cells':bi}(hl3:look s 3000=some (.res (aa M)))(ht:look s t=some (.ptr k 0))(ht1:Nat.blt t 1000=true)(hb:look s (1000+k)=some (.box cells))(hk1:Nat.blt k 1000=true)
  (hkU:U'.contains k=false) (hl:Le s s1) (ho:s1.all (eP U')=true) (h3:s1.all (fun p=>! Nat.beq p.1 3000)=true) (hc:oz cells cells')
  (h:∀b,OK E code Q U' ((t,.raw (.pointer (some ⟨b,0,none⟩)))::(3000,.res (aa (M.set kb (some (b,.box cells')))))::s1)) (hk9:E.fs.contains k=false:=by rfl):OK E code Q U s:=
 OK.Ij (J0:=aa M) (J:=fun b=>aa (M.set kb (some (b,.box cells')))) U' s1 t hl3 ht ht1 hb hk1 hk9 hkU hl ho h3 (fun _=>aa.az _)
  (fun b h Y T vs w hj hw hv hn hy=>by
   obtain⟨c,rfl,hv⟩:=hv;have hr:=hc.rep hv;refine hj.Y_ (Mem.le_refl _) (fun _ _ _ _ _ e=>e) (fun _ _ _=>rfl) (fun _ e=>.inl e) (.inr hy) (.inr rfl) ⟨hn,T,vs,hw,?_⟩;rw[eK (by rw[hr.length];exact Zq _)];exact hr) h
end
end Go.Ab
namespace Go.Ab
open Go.RowKit
section
variable{E:Env}{all:Array Oper}{s r r1 r2 r3 rg:St}{d ty:Nat}{pos:String}{after:Array Edge}{guard:Option (Nat×Bool)}{x y z:Operand}
def S.GP{g:Nat}{fs:bc}{os:List Operand}{at_:Array TypeId}{ys:bi}{res:X}{t t':St}(hf:dU E.P g fs ys t t' res)(hT:gO E)
  (hcall:∀args w,(callFunc g args).run E.P w=.ok (.enter g args) w) (hg:Gd all s guard rg) (hd:cP E d=true) (ha:fE s os ys r) (ho:ys.all (fun y=>kG fs t y&&!cO y)=true)
  (hl:Looks s t) (ht:t.all (dn fs t)=true) (ht2:t'.all (dn fs t)=true) (hcov:cover fs t t'=true) (hhas:fs.all (fun k=>hasB t k||hasA t k)=true) (hdis:fs.all (fun k=>!E.fs.contains k)=true) (hres:wY fs t res=true):
  aW E all ⟨some d,.call {callee:=.value (.func g),args:=os.toArray,argTypes:=at_},ty,pos,after,guard⟩ s (rg++(r++t)) ((d,res)::t') []:=by
 simp only[Zw,db]at hd;refine⟨?_,hg.looks.app (ha.looks.app hl)⟩;intro U c a w hb hr _ next Q hn
 have hw:=hg.wanted (o:=⟨some d,.call {callee:=.value (.func g),args:=os.toArray,argTypes:=at_},ty,pos,after,guard⟩) (fun p hp=>hr p (dv _ hp));have hargs:=ld (fs:=fs) (t:=t) (ha.rep (c:=c) (a:=a) (w:=w) fun p hp=>hr p (by simp[hp])) ho;unfold gh;rw[Zn hw];refine⟨fun _ _=>trivial,?_⟩;rw[Oper.semAt_eq _ _ _ fun cl he=>by cases he];have hfo:a.eval (.func g)=.func (.func g) #[] #[]:=rfl;have hrun:(execOp a.eval ⟨some d,.call {callee:=.value (.func g),args:=os.toArray,argTypes:=at_},ty,pos,after,guard⟩).run E.P w=.ok (.enter g (os.map a.eval).toArray) w:=by
  simp_all[execOp,resolve,Deferred.ofValue,invoke]
 rw[hrun];refine⟨Z,?_⟩;have hholds:∀p∈t,Holds c a w p.1 p.2:=fun p hp=>hr p (by simp[hp])
 have hto:uC E.P ((c.bV fs t).out fs):=fun n hn' g' hg' hX=>hT.out n hn' g' hg' (by
  have hlt:=hT.FX.lt n hn' g' hg';rcases hX with hX|⟨k,_,hX⟩|⟨k,m,hv,_,hX,hX2⟩
  ·exact hX.elim
  ·rcases(hb.loc k g' (eV hX).2.2).1 with h|h
   ·exact absurd h (Hc.2 hlt)
   exact h.2
  rcases(hb.arr k m hv g' (ek hX).2.2 hX2).1 with h|h
  ·exact absurd h (Hc.2 hlt)
  exact h.2)
 have hc0:=hf (c.bV fs t) w (os.map a.eval) (hT.now hb) hto (mI hb) (fun p hp a'=>(hholds p hp).bV (dj.1 ht p hp)) hargs;have h1:CallsIn E.ac (0 - 1) E.P g (os.map a.eval).toArray w _:=(callsIn_wide (n:=0)).2 hc0;refine h1.mono ?_;rintro en w' ⟨u,c3,rfl,hpg⟩;have hext0:Ext (c.bV fs t) c3:=by
  refine⟨hpg.le,fun k b e=>?_,fun k m hv lv e=>?_⟩
  ·obtain⟨hk,hhb,_⟩:=eV e;obtain⟨h1,h2,_⟩:=bZ hcov hk;obtain⟨x0,hx0,hm⟩:=dM (h2 hhb);obtain⟨b',q1⟩:=gm (hpg.wr _ hm {tmps:=#[],defers:=[]}) hx0 h1;have:=hpg.loc k b' q1;simp_all
  obtain⟨hk,hha,_⟩:=ek e;obtain⟨h1,_,h2⟩:=bZ hcov hk;obtain⟨x0,hx0,hm⟩:=dN (h2 hha);obtain⟨⟨_,_,_⟩,q1⟩:=ia (hpg.wr _ hm {tmps:=#[],defers:=[]}) hx0;obtain⟨m0,hv0,lv0,q2,q3,q4⟩:=hpg.arr k _ _ _ q1;grind
 have hB:oH E c c3 w w' fs t:=by
  refine⟨fun k hk=>?_,fun k hk=>?_,fun k hk=>⟨fun h=>?_,fun h=>?_⟩,hpg.below,hpg.le,fun p v hp=>hpg.new p v hp,hpg.ok,hpg.out,hext0⟩
  ·simp_all
  ·simp_all
  ·obtain⟨x0,hx0,hm⟩:=dM h;exact gm (hholds _ hm) hx0 (bZ hcov hk).1
  grind [dN,ia]
 have hext:=hB.ext';have hdt:d<a.tmps.size:=by rw[hb.nt];exact hd.2
 have tk:∀p∈t',1000<=p.1:=by
  intro p hp;have h:=dj.1 ht2 p hp;obtain⟨key,y⟩:=p;unfold dn at h;cases y
  case box cells=>simp_all
  case arr sz rows=>simp only[Zw,ii]at h;omega
  case omap es=>simp_all
  case cM sz pre mid post=>simp only[Zw,ii]at h;omega
  all_goals cases h
 refine hn (c.back c3 fs t) _ w' ((hb.back hB).put _ _) hext ?_ ?_
 ·intro p hp;rcases ed.1 hp with rfl|hp
  ·unfold Holds;rw[Zn hd.1,cE hdt];exact hpg.res.back hres
  have h:=Holds.mJ (c:=c) (a':=a) (hpg.wr p hp a) (dj.1 ht2 p hp);exact h.put (by grind) u
 intro key y hk2 hy;have hne:d≠key:=hk2 (d,res) F;by_cases h1:key<1000
 ·refine Holds.put ?_ hne u;unfold Holds at hy⊢;rw[Zn h1]at hy⊢;exact hy.mono hext
 refine(Holds.back hb hB h1 (fun k hk3=>⟨fun h e=>?_,fun h e=>?_⟩) hy).put hne u
 ·obtain⟨x0,_,hm⟩:=dM ((bZ hcov hk3).2.1 h);grind
 obtain⟨x0,_,hm⟩:=dN ((bZ hcov hk3).2.2 h);grind
