import Derived.Test.YtpbalelbenmmbaaGreatDoorHo
set_option linter.all false
namespace Go.Ab
open Go.RowKit
section
variable{E:Env}{all:Array Oper}{s r rg:St}{d ty:Nat}{pos:String}{after:Array Edge}{guard:Option (Nat×Bool)}{x:Operand}
def S.neerr{t t2:Nat}{ok:Bool}{ms:Array (String×TypeId)}(ht0:E.P.underlying t=some (.interface ms))(hg:Gd all s guard rg)(hd:cP E d=true)(hx:bI s x (.cb (CZ ok)) r):
  aW E all ⟨some d,.binOp .neq t x (.const .nilIface) t2,ty,pos,after,guard⟩ s (rg++r) [(d,.bool (!ok))] []:=
 aW.val hg hd rfl hx.looks fun c A w _ hr=>by
  have ht:E.P.underlying t=some (.interface (E.P.methodsAt t)):=by
   have:E.P.methodsAt t=ms:=by unfold Program.methodsAt;rw[ht0]
   rw[this];exact ht0
  have h0:CZ ok (A.eval x):=hx.rep (c:=c) (a:=A) (w:=w) hr;have hc:A.eval (.const .nilIface)=.nilIface:=rfl;refine⟨.bool (!ok),?_,ay.ef (.bool _)⟩;rcases h0 with⟨rfl,hv⟩|⟨rfl,te,pe,hv⟩
  ·have h1:=run_equal_nil_nil (P:=E.P) w t ht;have hq:(eqGuard .neq t x (.const .nilIface) .nilIface .nilIface).run E.P w=.ok () w:=by rw[eqGuard_nil_constR];rfl
   simp[execOp,hv,hc,hq,binOp,h1]
  have h1:=run_equal_held_nil (P:=E.P) w t te pe ht;have hq:(eqGuard .neq t x (.const .nilIface) (.iface te pe) .nilIface).run E.P w=.ok () w:=by simp[eqGuard]
  simp[execOp,hv,hc,hq,binOp,h1]
end
end Go.Ab
namespace Go.Ab
open Go.RowKit
section
variable{E:Env}{all:Array Oper}{s r rg:St}{d ty:Nat}{pos:String}{after:Array Edge}{guard:Option (Nat×Bool)}
def Fz.Gq{K:Type}{M:HM K}{x y:X}(h:Fz M x y):cO y=false:=by
 cases h with
 |same _ h=>cases x<;>first|rfl|cases h
 |_=>rfl
def Gj.Gq{K:Type}{M:HM K}{x y:X}(h:Gj M x y):cO y=false:=by
 cases x
 case agg xs=>obtain⟨ys,rfl,_⟩:=h;rfl
 all_goals exact Fz.Gq h
def S.YT{K:Type}{M:HM K}{f:Nat}{os:List Operand}{at_:Array TypeId}{xs ys:bi}{res:X}(hf:Ct E.P f ys res)(hs:Ae res=true)(hcall:∀args w,(callFunc f args).run E.P w=.ok (.enter f args) w)(hg:Gd all s guard rg)(hd:cP E d=true)
  (ha:fE s os xs r) (hz:ah (Gj M) xs ys) (hl3:look s 3000=some (.res (aa M))):
  aW E all ⟨some d,.call {callee:=.value (.func f),args:=os.toArray,argTypes:=at_},ty,pos,after,guard⟩ s (rg++(r++[(3000,.res (aa M))])) [(d,res)] []:=
 qM (caps:=[]) hg hd (ha.looks.app ⟨hl3,Zo⟩) hcall (by simpa using hf.at) hs fun U c a w hb hr=>by
  refine⟨?_,[],rfl,Zo⟩;have hj:aa M c.h c.Y w:=(dI (hr (3000,.res (aa M)) F)).2;have hr1:=ha.rep (c:=c) (a:=a) (w:=w) fun p hp=>hr p (by simp[hp])
  have hle:Mem.le (hfz M c.h w) (eU w):=by
   intro p v e;rcases Dl e with h1|⟨_,h1⟩
   ·exact hb.hw p v h1
   exact h1
  have key:∀{xs ys:bi}{vs:List Value},ah (Gj M) xs ys->ah (bK c) xs vs->ah (bt (aD (eU w))) ys vs:=by
   intro xs
   induction xs with
   |nil=>intro ys vs h1 h2;rw[h1.bJ,h2.bJ];trivial
   |cons x xs ih=>
    intro ys vs h1 h2;obtain⟨y,ys',rfl,h3,h4⟩:=h1.bD;obtain⟨v,vs',rfl,h5,h6⟩:=h2.bD;have h7:bK (aD (hfz M c.h w)) y v:=Gj.rep (c:=c) rfl hj h3 h5;exact⟨T.Ad (h7.mono ⟨hle,(fun _ _ e=>by cases e),(fun _ _ _ _ e=>by cases e)⟩) h3.Gq,ih h4 h6⟩
  exact key hz hr1
end
section
variable{E:Env}{U:bc}{s:St}{code:Code}{Q:bo}{K:Type}[DecidableEq K]{M:HM K}
def Good.Uj{a:Act}{w:World}(B j:Nat)(kb:K){k n sz:Nat}{cells:bi}{rows:List bi}(hB:Nat.blt B 1000=true)(hl:look s (1000+B)=some (.box cells))(hj:cells[j]?=some (.own k n))(hl2:look s (2000+k)=some (.arr sz rows))(hn:rows.length=n)(hM0:M kb=none)(hl3:look s 3000=some (.res (aa M)))(hk9:E.fs.contains k=false)(hg:Good E U s a w):
  ∃hd M',mG M' kb hd sz rows/\(∀k',k'≠kb->M' k'=M k')/\Good E U ((1000+B,.box (cells.set j (.raw hd)))::(2000+k,.any)::(3000,.res (aa M'))::s) a w:=by
 subst hn;obtain⟨c,hb,hh⟩:=hg;rw[db]at hB;obtain⟨hv,e',vs,g1,g2,g3,g4⟩:=ei (hh _ _ hl2);obtain⟨b0,T0,us,p1,p2,p3⟩:=fD (hh _ _ hl) hB;have cell:∀{c':Ctx},Ext c c'->ah (aV c') (cells.set j (.raw hv)) us.toList:=by
  intro c' he;refine ah.fb (by rw[hK];exact p3.length) fun i x v hx hv'=>?_
  rw[pj]at hx;split at hx
  ·rename_i e;subst e;split at hx
   ·cases hx;obtain⟨_,m,hv2,lv,q1,q2,q3⟩:=jV (c:=c) (v:=v) (p3.get hj hv');rw[g1]at q1;cases q1;exact q3 rfl
   cases hx
  exact(p3.get hx hv').mono he
 have slots:∀{c':Ctx}{M':HM K},Ext c c'->aa M' c'.h c'.Y w->(∀key x,key≠2000+k->key≠3000->look s key=some x->Holds c' a w key x)->∀key x,look ((1000+B,.box (cells.set j (.raw hv)))::(2000+k,.any)::(3000,.res (aa M'))::s) key=some x->Holds c' a w key x:=by
  intro c' M' he hj ho key x hx;simp only[look]at hx;split at hx
  ·rename_i e;have:=Nat.eq_of_beq_eq_true e;cases hx;subst this;exact(Holds.sD hB (he.loc _ _ p1) p2 (cell he)).2
  split at hx
  ·rename_i e;have:=Nat.eq_of_beq_eq_true e;cases hx;subst this;unfold Holds;grind
  grind [Nat.eq_of_beq_eq_true,Holds.iV,aa.az,Nat.beq_refl]
 have hjj:=(dI (hh _ _ hl3)).2;rcases g2.2 with⟨rfl,h1⟩|⟨b,cp,cur,rfl,_,f1,f2,f3,f4,f5⟩
 ·exact⟨_,M,.inl ⟨rfl,ft h1,hM0⟩,fun _ _=>rfl,c,hb,slots (Ext.refl c) hjj fun key x _ _ hx=>hh key x hx⟩
 exact⟨_,M.set kb (some (b,.row sz cp rows)),.inr ⟨b,cp,rfl,HM.bw _ _ _⟩,fun k' hk'=>HM.ai _ _ hk',_,hb.FN g1 (nQ hk9),slots (Ext.dead g1) (tB hb hjj kb g1 ⟨(hb.arr _ _ _ b g1 rfl).2.2.1,⟨f2,f3,g3⟩,e',cur,f1,f4,by simp_all⟩) fun key x h2 h3 hx=>Holds.dead g1 (fun e=>h2 e.symm) h3 (hh key x hx)⟩
def OK.Uj(B j:Nat)(kb:K){k n sz:Nat}{cells:bi}{rows:List bi}(hB:Nat.blt B 1000=true)(hl:look s (1000+B)=some (.box cells))(hj:cells[j]?=some (.own k n))(hl2:look s (2000+k)=some (.arr sz rows))(hn:rows.length=n)(hM0:M kb=none)(hl3:look s 3000=some (.res (aa M)))
  (h:∀hd M',mG M' kb hd sz rows->(∀k',k'≠kb->M' k'=M k')->OK E code Q U ((1000+B,.box (cells.set j (.raw hd)))::(2000+k,.any)::(3000,.res (aa M'))::s)) (hk9:E.fs.contains k=false:=by rfl):OK E code Q U s:=fun a w hg=>by
 obtain⟨hd,M',h1,h2,h3⟩:=hg.Uj B j kb hB hl hj hl2 hn hM0 hl3 hk9;exact h hd M' h1 h2 a w h3
end
end Go.Ab
namespace Go.Ab
open Go.RowKit
def aa.join{K:Type}{M ao:HM K}{h:Mem}{Y Y':Nat->Prop}{w:World}(hM:aa M h Y w)(hN:aa ao h Y' w)(hd:∀b,Y b->¬Y' b):aa (fun k=>(M k).or (ao k)) h (fun b=>Y b\/Y' b) w:=by
 have key:∀k b x,(M k).or (ao k)=some (b,x)->M k=some (b,x)\/ao k=some (b,x):=by
  intro k b x e;cases hm:M k<;>grind
 grind [aa]
section
variable{E:Env}{all:Array Oper}{s r r1 r2 r3 rg rd:St}{d ty:Nat}{pos:String}{after:Array Edge}{K:Type}
def S.JG{M:HM K}{g:Nat}{os:List Operand}{at_:Array TypeId}{ys:List X}{ι:Type}{res:ι→X}{ao:ι→HM K}(hf:IC E.P g ys res fun q=>aa (ao q))
  (hcall:∀args w,(callFunc g args).run E.P w=.ok (.enter g args) w) (hd:cP E d=true) (ha:fE s os ys r) (ho:ys.all fm=true):
  yH E all ⟨some d,.call {callee:=.value (.func g),args:=os.toArray,argTypes:=at_},ty,pos,after,none⟩ (r++[(3000,.res (aa M))]) (fun q=>[(d,res q),(3000,.res (aa fun k=>(M k).or (ao q k)))]) []:=by
 simp only[Zw,db]at hd;intro U c a w hb hr _ next Q hnx
 have hw:Region.wanted (⟨some d,.call {callee:=.value (.func g),args:=os.toArray,argTypes:=at_},ty,pos,after,none⟩:Oper) (yielded all a.tmps)=true:=rfl;have hargs:=bY (ha.rep (c:=c) (a:=a) (w:=w) fun p hp=>hr p (dv _ hp)) ho;have hj:=(dI (hr _ (fv _ dp))).2;unfold gh;rw[Zn hw];refine⟨fun _ _=>trivial,?_⟩;rw[Oper.semAt_eq _ _ _ fun cl he=>by cases he];have hfo:a.eval (.func g)=.func (.func g) #[] #[]:=rfl;have hrun:(execOp a.eval ⟨some d,.call {callee:=.value (.func g),args:=os.toArray,argTypes:=at_},ty,pos,after,none⟩).run E.P w=.ok (.enter g (os.map a.eval).toArray) w:=by
  simp_all[execOp,resolve,Deferred.ofValue,invoke]
 rw[hrun];refine⟨Z,?_⟩;have h1:CallsIn E.ac (0 - 1) E.P g (os.map a.eval).toArray w _:=(callsIn_wide (n:=0)).2 (hf c.h w _ hb.hw hargs);refine h1.mono ?_;rintro en w' ⟨q,v,h',Y',rfl,hp,hres,hJ⟩;have hfr:∀b,Y' b->w.heap.size<=b:=fun b hy=>yk fun hlt=>hp.out b hy hlt
 have hp2:dW c.h c.Y w h' (fun b=>c.Y b\/Y' b) w':=by
  refine⟨hp.below.mono (Zq _) fun _ _ e=>e.elim,hp.le,fun p v hv=>(hp.new p v hv).imp id fun e=>e.imp id fun e=>e.elim,hp.hw,fun b hy=>?_,fun b hy hlt=>?_⟩
  ·rcases hy with hy|hy
   ·have:=(hb.Y b hy).1;have:=hp.below.size;omega
   exact hp.lt b hy
  grind
 have hj2:aa M h' c.Y w':=aa.az M _ _ _ _ _ hj hp.le (fun p v hv=>(hp.new p v hv).imp id fun e=>e.elim (fun e hy=>by have:=(hb.Y _ hy).1;omega) fun e=>e.elim) hp.hw (hp.below.mono (Zr _) fun _ _ e=>e) fun b hy=>hp.below.block b (hb.Y b hy).1 id
 have hj3:=hj2.join hJ fun b hy hy'=>by have:=(hb.Y b hy).1;grind
 have hext:Ext c ⟨h',c.loc,c.arr,fun b=>c.Y b\/Y' b⟩:=⟨hp.le,fun _ _ e=>e,fun _ m hv lv e=>⟨m,hv,lv,e,Zq _,fun _=>rfl⟩⟩;have hdt:d<a.tmps.size:=by rw[hb.nt];exact hd.2
 refine hnx q ⟨h',c.loc,c.arr,fun b=>c.Y b\/Y' b⟩ _ _ ((hb.Y_ hp2).put _ _) ?_ ?_
 ·intro p hp';simp only[ed,ml,or_false]at hp';rcases hp' with rfl|rfl
  ·unfold Holds;rw[Zn hd.1,cE hdt];exact hres.mono (cS (c:=⟨h',c.loc,c.arr,fun b=>c.Y b\/Y' b⟩) rfl)
  simp_all[Holds.iV,aa.az]
 intro key u hk h0;have hne':d≠key:=hk (d,res q) F;have hne3':key≠3000:=fun e=>hk (3000,.res (aa fun k=>(M k).or (ao q k))) F e.symm
 by_cases h1:key<1000
 ·refine Holds.put ?_ hne' _;unfold Holds at h0⊢;rw[Zn h1]at h0⊢;exact h0.mono hext
 exact(Holds.Y_ hb hp2 h1 hne3' h0).put hne' _
def RK.pT{M:HM K}{l:List Oper}{U:bc}{Q:bo}(L:List (Nat×X))(hl3:look s 3000=some (.res (aa M)))(hL:∀p∈L,p.1<1000/\∃x,look s p.1=some x/\Gj M x p.2)(h:RK E all l U (L++(3000,.any)::s) Q):RK E all l U s Q:=fun k hk a w hg=>h k hk a w (hg.pT L hl3 hL)
def JT:bm:=fun _ _ _=>True
def RK.addT{l:List Oper}{U:bc}{Q:bo}(h:RK E all l U ((3000,.res JT)::s) Q):RK E all l U s Q:=fun k hk a w hg=>by
 obtain⟨c,hb,hh⟩:=hg;refine h k hk a w ⟨c,hb,fun key x hx=>?_⟩;simp only[look]at hx;split at hx
 ·rename_i e;have:=Nat.eq_of_beq_eq_true e;cases hx;subst this;exact Holds.iV (fun _ _ _ _ _ _ _ _ _ _ _=>trivial) trivial
 exact hh key x hx
def RK.cF{M:HM K}{o:Oper}{l:List Oper}{U:bc}{Q:bo}{x y:X}(h:aW E all o s rd [(d,x)] [])(hf:Gj M x y)(hl3:look ((d,x)::s) 3000=some (.res (aa M)))(hd:Nat.blt d 1000=true)(hr:RK E all l U ((3000,.res JT)::(d,y)::(3000,.any)::(d,x)::s) Q):RK E all (o::l) U s Q:=by
 refine RK.c h (RK.pT (s:=(d,x)::s) [(d,y)] hl3 (fun p hp=>?_) (RK.addT hr));simp_all[look]
def RK.nilH{l:List Oper}{U:bc}{Q:bo}{xs:bi}(hl:look s d=some (.agg xs))(hd:Nat.blt d 1000=true)(h:RK E all l U ((d,.agg (xs.map Fv))::s) Q):RK E all l U s Q:=fun k hk a w hg=>by
 obtain⟨c,hb,hh⟩:=hg;refine h k hk a w ⟨c,hb,fun key x hx=>?_⟩;simp only[look]at hx;split at hx
 ·rename_i e;have:=Nat.eq_of_beq_eq_true e;cases hx;subst this;obtain⟨vs,hv,hr⟩:=(hh _ _ hl).slot hd;rw[db]at hd;unfold Holds;rw[Zn hd];refine⟨vs,hv,?_⟩;have key:∀{xs:bi}{vs:List Value},ah (aV c) xs vs->ah (aV c) (xs.map Ab.Fv) vs:=by
   intro xs
   induction xs with
   |nil=>intro vs h;exact h
   |cons x xs ih=>
    intro vs h
    match vs,h with
    |v::vs,h=>exact⟨by cases x<;>exact h.1,ih h.2⟩
  exact key hr
 exact hh key x hx
