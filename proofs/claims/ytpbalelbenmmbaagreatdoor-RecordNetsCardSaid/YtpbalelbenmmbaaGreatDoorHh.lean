import Derived.Test.YtpbalelbenmmbaaGreatDoorHd
namespace Go.Ab
open Go.RowKit
def TabOut(P:Program)(Y:Nat→Prop):Prop:=∀n,TabName n→∀g,P.globalNamed n=some g→¬Y g
def CtGT(P:Program)(f:Nat)(fs:List Nat)(args:List X)(rd wr:St)(res:X):Prop:=
 ∀(c:Ctx)(w:World)(vs:List Value),Tabs P w→TabOut P (c.out fs)→CtxOk fs c w→(∀p∈rd,∀a,Holds c a w p.1 p.2)→All2 (RepV c) args vs→
  Calls P f vs.toArray w fun e w'=>∃v c',e=.returned v∧PostG fs c w wr res v c' w'
theorem CtG.toT{P:Program}{f:Nat}{fs:List Nat}{args:List X}{rd wr:St}{res:X}(h:CtG P f fs args rd wr res):CtGT P f fs args rd wr res:=fun c w vs _ _=>h c w vs
theorem CtGT.intro{P:Program}{f nt:Nat}{fn:Func}{code:Code}{rs:List ResultVar}{fs:List Nat}{args:List X}{rd wr:St}{res:X}(hf:P.funcs[f]?=some fn)(hb:fn.body=some code)(hn:fn.ntmps=nt)(hr:fn.results=rs.toArray)
  (hl:Nat.ble args.length nt=true) (ht:args.all (fun x=>!isTup x)=true) (hl2:Nat.ble args.length 1000=true) (hwr:wr.all (hiKey fs)=true)
  (h:∀w c,TabOk (mkE P nt fs w c)→OK (mkE P nt fs w c) code (den (mkE P nt fs w c) (RetG (mkE P nt fs w c) rs wr res) []) fs (argSt 0 args++rd)):CtGT P f fs args rd wr res:=fun c w vs h1 h2 hc0 hrd hargs=>
 CtG.at hf hb hn hr hl ht hl2 hwr w c (h w c ⟨h1,fun n hn g hg hX=>by
  rcases hX with hX|⟨p,hp,_⟩
  ·exact h2 n hn g hg hX
  ·cases hp⟩) vs hc0 hrd hargs
def CtJ(E:Env)(f:Nat)(args:List X)(res:X)(J0 J1:Mem→(Nat→Prop)→World→Prop):Prop:=
 ∀(h:Mem)(Y:Nat→Prop)(w:World)(vs:List Value),(∃U c a,Base E U c a w∧c.Y=Y)→(∀p v,h p=some v→w.cell? p=some v)→(∀b,Y b→b<w.heap.size)→J0 h Y w→All2 (RepV (pureC h)) args vs→
  Calls E.P f vs.toArray w fun e w'=>∃v h' Y',e=.returned v∧PostJ h Y w h' Y' w'∧J1 h' Y' w'∧RepT (pureC h') res v
theorem CtGT.atJ'{E:Env}{f:Nat}{args:List X}{res:X}{J0 J1:Mem→(Nat→Prop)→World→Prop}(hf:CtGT E.P f [] args [(3000,.res J0)] [(3000,.res J1)] res)(hS0:Stable J0){h:Mem}{Y:Nat→Prop}{w:World}{vs:List Value}(ht:Tabs E.P w)(ho:TabOut E.P Y)
  (hw:∀p v,h p=some v→w.cell? p=some v) (hY:∀b,Y b→b<w.heap.size) (hJ0:J0 h Y w) (hargs:All2 (RepV (pureC h)) args vs):Calls E.P f vs.toArray w fun e w'=>∃v h' Y',e=.returned v∧PostJ h Y w h' Y' w'∧J1 h' Y' w'∧RepT (pureC h') res v:=by
 have out0:∀b,(Ctx.mk h (fun _=>none) (fun _=>none) Y).out [] b→Y b:=by
  rintro b (hy|⟨k,q,_⟩|⟨k,m,hv,q,_⟩)
  ·exact hy
  ·cases q
  ·cases q
 have hc0:=hf ⟨h,fun _=>none,fun _=>none,Y⟩ w vs ht (fun n hn g hg hX=>ho n hn g hg (out0 g hX))
  ⟨hw,(fun k b e=>by cases e),(fun k m hv b e=>by cases e),(fun _ _=>⟨rfl,rfl⟩),(fun b hy=>⟨hY b hy,(fun k e=>by cases e),(fun k m hv e=>by cases e)⟩)⟩
  (fun p hp a'=>by
   simp only[List.mem_singleton]at hp
   subst hp
   exact Holds.mkRes hS0 hJ0)
  (hargs.mono fun _ _=>RepV.mono (pure_ext (c:=Ctx.mk h (fun _=>none) (fun _=>none) Y) rfl))
 refine Calls.mono hc0 ?_
 rintro en w' ⟨u,c2,rfl,hpg⟩
 obtain⟨_,hJ1⟩:=res_of (hpg.wr (3000,.res J1) (by simp) {tmps:=#[],defers:=[]})
 refine⟨u,c2.h,c2.Y,rfl,⟨hpg.below.mono (Nat.le_refl _) fun k _ hk=>out0 k hk,hpg.le,fun p v hp=>(hpg.new p v hp).imp id fun q=>q.imp id (out0 _),hpg.ok.hw,fun b hy=>(hpg.ok.Y b hy).1,fun b hy hlt=>out0 b (hpg.out b (.inl hy) hlt)⟩,hJ1,?_⟩
 refine RepT.mono (c:=c2) (c':=pureC c2.h) ⟨Mem.le_refl c2.h,fun k b e=>?_,fun k m hv lv e=>?_⟩ hpg.res
 ·have e2:=hpg.loc k b e;cases e2
 ·obtain⟨_,_,_,e2,_⟩:=hpg.arr k m hv lv e;cases e2
theorem CtGT.atJ{E:Env}{f:Nat}{args:List X}{res:X}{J0 J1:Mem→(Nat→Prop)→World→Prop}(hf:CtGT E.P f [] args [(3000,.res J0)] [(3000,.res J1)] res)(hT:TabOk E)(hS0:Stable J0):CtJ E f args res J0 J1:=fun h Y w vs hb hw hY hJ0 hargs=>by
 obtain⟨U,c,a,hb,rfl⟩:=hb
 exact hf.atJ' hS0 (hT.now hb) (fun n hn g hg hy=>hT.out n hn g hg ((hb.Y g hy).2.1 (hT.tab.lt n hn g hg))) hw hY hJ0 hargs
theorem CtG.atJ{E:Env}{f:Nat}{args:List X}{res:X}{J0 J1:Mem→(Nat→Prop)→World→Prop}(hf:CtG E.P f [] args [(3000,.res J0)] [(3000,.res J1)] res)(hS0:Stable J0):CtJ E f args res J0 J1:=fun h Y w vs hb hw hY hJ0 hargs=>by
 have out0:∀b,(Ctx.mk h (fun _=>none) (fun _=>none) Y).out [] b→Y b:=by
  rintro b (hy|⟨k,q,_⟩|⟨k,m,hv,q,_⟩)
  ·exact hy
  ·cases q
  ·cases q
 have hc0:=hf ⟨h,fun _=>none,fun _=>none,Y⟩ w vs
  ⟨hw,(fun k b e=>by cases e),(fun k m hv b e=>by cases e),(fun _ _=>⟨rfl,rfl⟩),(fun b hy=>⟨hY b hy,(fun k e=>by cases e),(fun k m hv e=>by cases e)⟩)⟩
  (fun p hp a'=>by
   simp only[List.mem_singleton]at hp
   subst hp
   exact Holds.mkRes hS0 hJ0)
  (hargs.mono fun _ _=>RepV.mono (pure_ext (c:=Ctx.mk h (fun _=>none) (fun _=>none) Y) rfl))
 refine Calls.mono hc0 ?_
 rintro en w' ⟨u,c2,rfl,hpg⟩
 obtain⟨_,hJ1⟩:=res_of (hpg.wr (3000,.res J1) (by simp) {tmps:=#[],defers:=[]})
 refine⟨u,c2.h,c2.Y,rfl,⟨hpg.below.mono (Nat.le_refl _) fun k _ hk=>out0 k hk,hpg.le,fun p v hp=>(hpg.new p v hp).imp id fun q=>q.imp id (out0 _),hpg.ok.hw,fun b hy=>(hpg.ok.Y b hy).1,fun b hy hlt=>out0 b (hpg.out b (.inl hy) hlt)⟩,hJ1,?_⟩
 refine RepT.mono (c:=c2) (c':=pureC c2.h) ⟨Mem.le_refl c2.h,fun k b e=>?_,fun k m hv lv e=>?_⟩ hpg.res
 ·have e2:=hpg.loc k b e;cases e2
 ·obtain⟨_,_,_,e2,_⟩:=hpg.arr k m hv lv e;cases e2
section
variable{E:Env}{all:Array Oper}{s r r1 r2 r3 rg:St}{d ty:Nat}{pos:String}{after:Array Edge}{guard:Option (Nat×Bool)}{x y z:Operand}
theorem step_callJ{f:Nat}{fo:Operand}{os:List Operand}{at_:Array TypeId}{ys caps:List X}{res:X}{J0 J1:Mem→(Nat→Prop)→World→Prop}(hg:Gd all s guard rg)(hd:(Nat.blt d 1000&&Nat.blt d E.nt)=true)(hl:Looks s r)(hcall:∀args w,(callFunc f args).run E.P w=.ok (.enter f args) w)
  (hf:CtJ E f (ys++caps) res J0 J1) (hS:Stable J1) (hl3:look s 3000=some (.res J0))
  (h:∀(c:Ctx)(a:Act)(w:World),(∀p∈r,Holds c a w p.1 p.2)→All2 (RepV (pureC c.h)) ys (os.map a.eval)∧∃cvs:List Value,a.eval fo=.func (.func f) #[] cvs.toArray∧All2 (RepV (pureC c.h)) caps cvs):
  St1 E all ⟨some d,.call {callee:=.value fo,args:=os.toArray,argTypes:=at_},ty,pos,after,guard⟩ s (rg++(r++[(3000,.res J0)])) ((d,res)::[(3000,.res J1)]) []:=by
 simp only[Bool.and_eq_true,Nat.blt_eq]at hd
 refine⟨?_,hg.looks.app (hl.app ⟨hl3,trivial⟩)⟩
 intro U c a w hb hr _ next Q hn
 have hw:=hg.wanted (o:=⟨some d,.call {callee:=.value fo,args:=os.toArray,argTypes:=at_},ty,pos,after,guard⟩) (fun p hp=>hr p (List.mem_append_left _ hp))
 obtain⟨hys,cvs,hfo,hcs⟩:=h c a w fun p hp=>hr p (by simp[hp])
 unfold opIn
 rw[if_pos hw]
 refine⟨fun _ _=>trivial,?_⟩
 rw[Oper.semAt_eq _ _ _ fun cl he=>by cases he]
 have hrun:(execOp a.eval ⟨some d,.call {callee:=.value fo,args:=os.toArray,argTypes:=at_},ty,pos,after,guard⟩).run E.P w=.ok (.enter f (os.map a.eval++cvs).toArray) w:=by
  simp[execOp,resolve,hfo,Deferred.ofValue,invoke,hcall]
 rw[hrun]
 refine⟨(fun h=>by cases h),?_⟩
 obtain⟨hS0,hJ0⟩:=res_of (hr (3000,.res J0) (by simp))
 have h1:CallsIn E.F (0 - 1) E.P f (os.map a.eval++cvs).toArray w _:=(callsIn_wide (n:=0)).2 (hf c.h c.Y w _ ⟨U,c,a,hb,rfl⟩ hb.hw (fun b hy=>(hb.Y b hy).1) hJ0 (hys.append hcs))
 refine h1.mono ?_
 rintro en w' ⟨u,h',Y',rfl,hp,hJ1,hres⟩
 have hext:Ext c ⟨h',c.loc,c.arr,Y'⟩:=⟨hp.le,fun _ _ e=>e,fun _ m hv lv e=>⟨m,hv,lv,e,Nat.le_refl _,fun _=>rfl⟩⟩
 have hdt:d<a.tmps.size:=by rw[hb.nt];exact hd.2
 refine hn ⟨h',c.loc,c.arr,Y'⟩ _ w' ((hb.turn hp).put _ _) hext ?_ ?_
 ·intro p hp2
  simp only[List.mem_cons,List.not_mem_nil,or_false]at hp2
  rcases hp2 with rfl|rfl
  ·unfold Holds
   rw[if_pos hd.1,getD_put hdt]
   exact hres.mono (pure_ext (c:=⟨h',c.loc,c.arr,Y'⟩) rfl)
  ·exact(Holds.mkRes (c:=⟨h',c.loc,c.arr,Y'⟩) (a:=a) hS hJ1).put (by show d≠3000;omega) u
 ·intro key y hk hy
  have hne:d≠key:=hk (d,res) (by simp)
  have hne2:3000≠key:=hk (3000,.res J1) (by simp)
  by_cases h1:key<1000
  ·refine Holds.put ?_ hne u
   unfold Holds at hy⊢
   rw[if_pos h1]at hy⊢
   exact hy.mono hext
  ·exact(Holds.turn hb hp h1 (fun e=>hne2 e.symm) hy).put hne u
theorem S.callJ{f:Nat}{os:List Operand}{at_:Array TypeId}{ys:List X}{res:X}{J0 J1:Mem→(Nat→Prop)→World→Prop}(hf:CtJ E f ys res J0 J1)(hS:Stable J1)(hcall:∀args w,(callFunc f args).run E.P w=.ok (.enter f args) w)(hg:Gd all s guard rg)(hd:(Nat.blt d 1000&&Nat.blt d E.nt)=true)
  (ha:OpsS s os ys r) (ho:ys.all okArg=true) (hl3:look s 3000=some (.res J0)):
  St1 E all ⟨some d,.call {callee:=.value (.func f),args:=os.toArray,argTypes:=at_},ty,pos,after,guard⟩ s (rg++(r++[(3000,.res J0)])) ((d,res)::[(3000,.res J1)]) []:=
 step_callJ (caps:=[]) hg hd ha.looks hcall (by simpa using hf) hS hl3 fun _ _ _ hr=>⟨args_clean (ha.rep hr) ho,[],rfl,trivial⟩
theorem S.callvJ{f:Nat}{os:List Operand}{at_:Array TypeId}{ys caps:List X}{res:X}{J0 J1:Mem→(Nat→Prop)→World→Prop}(hf:CtJ E f (ys++caps) res J0 J1)(hS:Stable J1)(hcall:∀args w,(callFunc f args).run E.P w=.ok (.enter f args) w)(hg:Gd all s guard rg)(hd:(Nat.blt d 1000&&Nat.blt d E.nt)=true)
  (hx:OpS s x (.fn f caps) r1) (ha:OpsS s os ys r) (ho:ys.all okArg=true) (hl3:look s 3000=some (.res J0)) (ho2:caps.all (okP [])=true) (ho3:caps.all (fun u=>!notCell u)=true):
  St1 E all ⟨some d,.call {callee:=.value x,args:=os.toArray,argTypes:=at_},ty,pos,after,guard⟩ s (rg++((r1++r)++[(3000,.res J0)])) ((d,res)::[(3000,.res J1)]) []:=
 step_callJ hg hd (hx.looks.app ha.looks) hcall hf hS hl3 fun c a w hr=>by
  refine⟨args_clean (ha.rep fun p hp=>hr p (List.mem_append_right _ hp)) ho,?_⟩
  obtain⟨cvs,h1,h2⟩:=hx.rep (c:=c) (a:=a) (w:=w) fun p hp=>hr p (List.mem_append_left _ hp)
  refine⟨cvs,h1,?_⟩
  have:∀{us:List X}{vs:List Value},All2 (RepP c) us vs→us.all (okP [])=true→us.all (fun u=>!notCell u)=true→All2 (RepV (pureC c.h)) us vs:=by
   intro us
   induction us with
   |nil=>intro vs h _ _;exact(All2.nil_left h)▸trivial
   |cons u us ih=>
    intro vs h h1 h2
    obtain⟨v,vs',rfl,hv,hvs⟩:=h.cons_left
    simp only[List.all_cons,Bool.and_eq_true,Bool.not_eq_true']at h1 h2
    refine⟨?_,ih hvs h1.2 (by simpa using h2.2)⟩
    have hp:=(hv.cut h1.1).mono (ctx_cut_ext (Mem.le_refl c.h))
    have hn:=h2.1
    cases u<;>first|exact hp|cases hn
  exact this h2 ho2 ho3
end
def CtXT(P:Program)(f:Nat)(args:List X){ι:Type}(res:ι→X)(J:ι→Mem→(Nat→Prop)→World→Prop):Prop:=
 ∀(h:Mem)(w:World)(vs:List Value),Tabs P w→(∀p v,h p=some v→w.cell? p=some v)→All2 (RepV (pureC h)) args vs→
  Calls P f vs.toArray w fun en w'=>∃q v h' Y',en=.returned v∧PostJ h (fun _=>False) w h' Y' w'∧RepT (pureC h') (res q) v∧J q h' Y' w'
def CtXAt(E:Env)(f:Nat)(args:List X){ι:Type}(res:ι→X)(J:ι→Mem→(Nat→Prop)→World→Prop):Prop:=
 ∀(h:Mem)(w:World)(vs:List Value),(∃U c a,Base E U c a w)→(∀p v,h p=some v→w.cell? p=some v)→All2 (RepV (pureC h)) args vs→
  Calls E.P f vs.toArray w fun en w'=>∃q v h' Y',en=.returned v∧PostJ h (fun _=>False) w h' Y' w'∧RepT (pureC h') (res q) v∧J q h' Y' w'
theorem CtX.at{E:Env}{f:Nat}{args:List X}{ι:Type}{res:ι→X}{J:ι→Mem→(Nat→Prop)→World→Prop}(h:CtX E.P f args res J):CtXAt E f args res J:=fun m w vs _ hw ha=>h m w vs hw ha
theorem CtXT.at{E:Env}{f:Nat}{args:List X}{ι:Type}{res:ι→X}{J:ι→Mem→(Nat→Prop)→World→Prop}(h:CtXT E.P f args res J)(hT:TabOk E):CtXAt E f args res J:=fun m w vs hb hw ha=>by
 obtain⟨U,c,a,hb⟩:=hb
 exact h m w vs (hT.now hb) hw ha
theorem CtXT.intro{P:Program}{f nt:Nat}{fn:Func}{code:Code}{rs:List ResultVar}{args:List X}{ι:Type}{res:ι→X}{J:ι→Mem→(Nat→Prop)→World→Prop}(hf:P.funcs[f]?=some fn)(hb:fn.body=some code)(hn:fn.ntmps=nt)(hr:fn.results=rs.toArray)
  (hl:Nat.ble args.length nt=true) (ht:args.all (fun x=>!isTup x)=true) (hl2:Nat.ble args.length 1000=true)
  (h:∀w c,TabOk (mkE P nt [] w c)→OK (mkE P nt [] w c) code (den (mkE P nt [] w c) (RetX (mkE P nt [] w c) rs res J) []) [] (argSt 0 args)):CtXT P f args res J:=by
 intro h0 w vs htab hw hargs
 refine(callsIn_wide (n:=0)).1 (callsIn_of_wp_marks hf hb trivial ?_ rfl)
 have hlen:=hargs.length
 rw[Nat.ble_eq]at hl hl2
 have hno:∀b,¬(pureC h0).out [] b:=by
  rintro b (hy|⟨k,_,e⟩|⟨k,m,hv,_,e,_⟩)
  ·exact hy
  ·cases e
  ·cases e
 refine wpIn_mono (h w (pureC h0) ⟨htab,fun n _ g _ hX=>by
  rcases hX with hX|⟨p,hp,_⟩
  ·exact hno g hX
  ·cases hp⟩ {tmps:=vs.toArray++Array.replicate (fn.ntmps - vs.toArray.size) undef,defers:=[]} w ?_) ?_
 ·refine⟨pureC h0,⟨BelX.refl _ _ _,Nat.le_refl _,?_,⟨.nil,fun d hd=>by cases hd⟩,(fun p hp=>by cases hp),hw,Mem.le_refl _,fun p v e=>.inl e,(fun k b e=>by cases e),(fun k m hv b e=>by cases e),(fun _ _=>⟨rfl,rfl⟩),(fun b e=>e.elim),(fun k b _ e=>by cases e),(fun k m hv lv _ e=>by cases e)⟩,fun key x hx=>slots_start hargs ht hl2 key x hx⟩
  simp[hn];omega
 ·rintro e a' w' ⟨U',s',⟨c,hbase,hh⟩,q,⟨he,ys,hys,hres⟩,hl3⟩
  have hE:(mkE P nt [] w (pureC h0)).B=w.heap.size:=rfl
  have post:LeavesInM Fence.wide 0 P fn a'.tmps (fun en w'=>∃q v h' Y',en=.returned v∧PostJ h0 (fun _=>False) w h' Y' w'∧RepT (pureC h') (res q) v∧J q h' Y' w') a'.defers .returning w':=by
   refine leaves_marks (B:=w.heap.size) (Z:=c.all) a'.defers w' hbase.dfr.1 ?_ ?_
   ·intro d hd
    obtain⟨D,h1,h2,h3,h4⟩:=hbase.dfr.2 d hd
    exact⟨D,h1,h2,h3,h4⟩
   ·intro w2 e1 e2 e3 e4 e5 e6
    obtain⟨hbase,hh⟩:=hbase.calm hh e1 e2 e3 e4 rfl e5 e6
    obtain⟨vs',h1,h2,h3⟩:=run_resSems hbase hh hys
    have hrun:(results fn a'.tmps).run P w2=.ok (if h:vs'.toArray.size=1 then vs'.toArray[0]else .tuple vs'.toArray) w2:=by
     have he:results fn a'.tmps=(fn.results.mapM (resSem a'.tmps)>>=fun vs=>pure (if h:vs.size=1 then vs[0]else .tuple vs)):=by
      unfold results
      congr 1
     have h1':(rs.mapM (resSem a'.tmps)).run P w2=.ok vs' w2:=h1
     rw[he,hr,Array.mapM_eq_mapM_toList]
     simp[h1']
    have hpg:=PostG.of_base (s:=s') (wr:=[(3000,.res (J q))]) (res:=res q) (v:=if h:vs'.toArray.size=1 then vs'.toArray[0]else .tuple vs'.toArray) hbase hE hh ⟨hl3,trivial⟩ rfl (by
     rw[←hres]
     have hl:=h2.length
     match ys,vs',h2,h3,hl with
     |[y],[v],h2,h3,_=>exact V.toT h2.1 (h3 y (by simp))
     |[],[],h2,_,_=>exact⟨[],rfl,trivial⟩
     |y1::y2::ys,v1::v2::vs,h2,_,_=>exact⟨v1::v2::vs,by simp,h2⟩
     |[_],[],h2,_,_=>exact h2.elim
     |[],_::_,h2,_,_=>exact h2.elim
     |[_],_::_::_,h2,_,_=>exact h2.2.elim
     |_::_::_,[],h2,_,_=>exact h2.elim
     |_::_::_,[_],h2,_,_=>exact h2.2.elim) (fun b h=>h.elim id fun⟨p,hp,_⟩=>by cases hp)
    obtain⟨_,hJ1⟩:=res_of (hpg.wr (3000,.res (J q)) (by simp) {tmps:=#[],defers:=[]})
    refine⟨_,hrun,q,_,(c.pub [] ((mkE P nt [] w (pureC h0)).fin c w2)).h,(c.pub [] ((mkE P nt [] w (pureC h0)).fin c w2)).Y,rfl,⟨hpg.below.mono (Nat.le_refl _) fun k _ hk=>(hno k hk).elim,hpg.le,fun p v hp=>(hpg.new p v hp).imp id fun q=>q.imp id fun q=>(hno _ q).elim,hpg.ok.hw,fun b hy=>(hpg.ok.Y b hy).1,fun b hy hlt=>hno b (hpg.out b (.inl hy) hlt)⟩,?_,hJ1⟩
    refine hpg.res.mono ⟨Mem.le_refl _,fun k b e=>?_,fun k m hv lv e=>?_⟩
    ·have e2:=hpg.loc k b e;cases e2
    ·obtain⟨_,_,_,e2,_⟩:=hpg.arr k m hv lv e;cases e2
  rcases he with rfl|rfl
  ·exact post
  ·exact post
section
variable{E:Env}{all:Array Oper}{s r r1 r2 r3 rg:St}{d ty:Nat}{pos:String}{after:Array Edge}{U:List Nat}{Q:Exit→List Nat→St→Prop}{x y z:Operand}
theorem RK.callXA{l:List Oper}{U:List Nat}{Q:Exit→List Nat→St→Prop}{g:Nat}{os:List Operand}{at_:Array TypeId}{ys:List X}{ι:Type}{res:ι→X}{J:ι→Mem→(Nat→Prop)→World→Prop}(hf:CtXAt E g ys res J)(hS:∀q,Stable (J q))(hm:∀q h Y Y' w,J q h Y w→(∀b,Y b→Y' b)→J q h Y' w)
  (hcall:∀args w,(callFunc g args).run E.P w=.ok (.enter g args) w) (hd:(Nat.blt d 1000&&Nat.blt d E.nt)=true) (ha:OpsS s os ys r) (ho:ys.all okArg=true)
  (h:∀q,RK E all l U ((d,res q)::(3000,.res (J q))::s) Q):RK E all (⟨some d,.call {callee:=.value (.func g),args:=os.toArray,argTypes:=at_},ty,pos,after,none⟩::l) U s Q:=by
 simp only[Bool.and_eq_true,Nat.blt_eq]at hd
 intro k hk a w hg
 rw[List.length_cons,List.range'_succ,wpOpsIn_cons]
 refine opIn_wpOpIn (by simpa using hk 0) ?_
 obtain⟨c,hb,hh⟩:=hg
 have hw:Region.wanted (⟨some d,.call {callee:=.value (.func g),args:=os.toArray,argTypes:=at_},ty,pos,after,none⟩:Oper) (yielded all a.tmps)=true:=rfl
 have hargs:=args_clean (ha.rep (c:=c) (a:=a) (w:=w) fun p hp=>hh p.1 p.2 (ha.looks.all p hp)) ho
 unfold opIn
 rw[if_pos hw]
 refine⟨fun _ _=>trivial,?_⟩
 rw[Oper.semAt_eq _ _ _ fun cl he=>by cases he]
 have hfo:a.eval (.func g)=.func (.func g) #[] #[]:=rfl
 have hrun:(execOp a.eval ⟨some d,.call {callee:=.value (.func g),args:=os.toArray,argTypes:=at_},ty,pos,after,none⟩).run E.P w=.ok (.enter g (os.map a.eval).toArray) w:=by
  simp[execOp,resolve,hfo,Deferred.ofValue,invoke,hcall]
 rw[hrun]
 refine⟨(fun h=>by cases h),?_⟩
 have h1:CallsIn E.F (0 - 1) E.P g (os.map a.eval).toArray w _:=(callsIn_wide (n:=0)).2 (hf c.h w _ ⟨_,_,_,hb⟩ hb.hw hargs)
 refine h1.mono ?_
 rintro en w' ⟨q,v,h',Y',rfl,hp,hres,hJ⟩
 have hfr:∀b,Y' b→w.heap.size≤b:=fun b hy=>Nat.le_of_not_lt fun hlt=>hp.out b hy hlt
 have hp2:PostJ c.h c.Y w h' (fun b=>c.Y b∨Y' b) w':=by
  refine⟨hp.below.mono (Nat.le_refl _) fun _ _ e=>e.elim,hp.le,fun p v hv=>(hp.new p v hv).imp id fun e=>e.imp id fun e=>e.elim,hp.hw,fun b hy=>?_,fun b hy hlt=>?_⟩
  ·rcases hy with hy|hy
   ·have:=(hb.Y b hy).1;have:=hp.below.size;omega
   ·exact hp.lt b hy
  ·rcases hy with hy|hy
   ·exact hy
   ·have:=hfr b hy;omega
 have hext:Ext c ⟨h',c.loc,c.arr,fun b=>c.Y b∨Y' b⟩:=⟨hp.le,fun _ _ e=>e,fun _ m hv lv e=>⟨m,hv,lv,e,Nat.le_refl _,fun _=>rfl⟩⟩
 have hdt:d<a.tmps.size:=by rw[hb.nt];exact hd.2
 refine h q (k+1) (fun j=>?_) _ _ ⟨⟨h',c.loc,c.arr,fun b=>c.Y b∨Y' b⟩,(hb.turn hp2).put _ _,fun key u hu=>?_⟩
 ·have:=hk (j+1)
  simp only[List.getElem?_cons_succ]at this
  rw[←this]
  congr 1
  omega
 ·simp only[look]at hu
  split at hu
  ·rename_i e
   have:=Nat.eq_of_beq_eq_true e
   cases hu
   subst this
   unfold Holds
   rw[if_pos hd.1,getD_put hdt]
   exact hres.mono (pure_ext (c:=⟨h',c.loc,c.arr,fun b=>c.Y b∨Y' b⟩) rfl)
  ·rename_i hne
   have hne':d≠key:=fun e=>hne (by rw[e];exact Nat.beq_refl _)
   split at hu
   ·rename_i e
    have:=Nat.eq_of_beq_eq_true e
    cases hu
    subst this
    exact(Holds.mkRes (c:=⟨h',c.loc,c.arr,fun b=>c.Y b∨Y' b⟩) (a:=a) (hS q) (hm q _ _ _ _ hJ fun b hy=>.inr hy)).put (by show d≠3000;omega) v
   ·rename_i hne3
    have hne3':key≠3000:=fun e=>hne3 (by rw[e];exact Nat.beq_refl _)
    have h0:=hh key u hu
    by_cases h1:key<1000
    ·refine Holds.put ?_ hne' _
     unfold Holds at h0⊢
     rw[if_pos h1]at h0⊢
     exact h0.mono hext
    ·exact(Holds.turn hb hp2 h1 hne3' h0).put hne' _
theorem S.callXA{g:Nat}{os:List Operand}{at_:Array TypeId}{ys:List X}{ι:Type}{res:ι→X}{J:ι→Mem→(Nat→Prop)→World→Prop}(hf:CtXAt E g ys res J)(hS:∀q,Stable (J q))(hm:∀q h Y Y' w,J q h Y w→(∀b,Y b→Y' b)→J q h Y' w)
  (hcall:∀args w,(callFunc g args).run E.P w=.ok (.enter g args) w) (hd:(Nat.blt d 1000&&Nat.blt d E.nt)=true) (ha:OpsS s os ys r) (ho:ys.all okArg=true):
  StepX E all ⟨some d,.call {callee:=.value (.func g),args:=os.toArray,argTypes:=at_},ty,pos,after,none⟩ r (fun q=>[(d,res q),(3000,.res (J q))]) []:=by
 simp only[Bool.and_eq_true,Nat.blt_eq]at hd
 intro U c a w hb hr _ next Q hnx
 have hw:Region.wanted (⟨some d,.call {callee:=.value (.func g),args:=os.toArray,argTypes:=at_},ty,pos,after,none⟩:Oper) (yielded all a.tmps)=true:=rfl
 have hargs:=args_clean (ha.rep (c:=c) (a:=a) (w:=w) hr) ho
 unfold opIn
 rw[if_pos hw]
 refine⟨fun _ _=>trivial,?_⟩
 rw[Oper.semAt_eq _ _ _ fun cl he=>by cases he]
 have hfo:a.eval (.func g)=.func (.func g) #[] #[]:=rfl
 have hrun:(execOp a.eval ⟨some d,.call {callee:=.value (.func g),args:=os.toArray,argTypes:=at_},ty,pos,after,none⟩).run E.P w=.ok (.enter g (os.map a.eval).toArray) w:=by
  simp[execOp,resolve,hfo,Deferred.ofValue,invoke,hcall]
 rw[hrun]
 refine⟨(fun h=>by cases h),?_⟩
 have h1:CallsIn E.F (0 - 1) E.P g (os.map a.eval).toArray w _:=(callsIn_wide (n:=0)).2 (hf c.h w _ ⟨_,_,_,hb⟩ hb.hw hargs)
 refine h1.mono ?_
 rintro en w' ⟨q,v,h',Y',rfl,hp,hres,hJ⟩
 have hfr:∀b,Y' b→w.heap.size≤b:=fun b hy=>Nat.le_of_not_lt fun hlt=>hp.out b hy hlt
 have hp2:PostJ c.h c.Y w h' (fun b=>c.Y b∨Y' b) w':=by
  refine⟨hp.below.mono (Nat.le_refl _) fun _ _ e=>e.elim,hp.le,fun p v hv=>(hp.new p v hv).imp id fun e=>e.imp id fun e=>e.elim,hp.hw,fun b hy=>?_,fun b hy hlt=>?_⟩
  ·rcases hy with hy|hy
   ·have:=(hb.Y b hy).1;have:=hp.below.size;omega
   ·exact hp.lt b hy
  ·rcases hy with hy|hy
   ·exact hy
   ·have:=hfr b hy;omega
 have hext:Ext c ⟨h',c.loc,c.arr,fun b=>c.Y b∨Y' b⟩:=⟨hp.le,fun _ _ e=>e,fun _ m hv lv e=>⟨m,hv,lv,e,Nat.le_refl _,fun _=>rfl⟩⟩
 have hdt:d<a.tmps.size:=by rw[hb.nt];exact hd.2
 refine hnx q ⟨h',c.loc,c.arr,fun b=>c.Y b∨Y' b⟩ _ _ ((hb.turn hp2).put _ _) ?_ ?_
 ·intro p hp'
  simp only[List.mem_cons,List.not_mem_nil,or_false]at hp'
  rcases hp' with rfl|rfl
  ·unfold Holds
   rw[if_pos hd.1,getD_put hdt]
   exact hres.mono (pure_ext (c:=⟨h',c.loc,c.arr,fun b=>c.Y b∨Y' b⟩) rfl)
  ·exact(Holds.mkRes (c:=⟨h',c.loc,c.arr,fun b=>c.Y b∨Y' b⟩) (a:=a) (hS q) (hm q _ _ _ _ hJ fun b hy=>.inr hy)).put (by show d≠3000;omega) v
 ·intro key u hk h0
  have hne':d≠key:=hk (d,res q) (by simp)
  have hne3':key≠3000:=fun e=>hk (3000,.res (J q)) (by simp) e.symm
  by_cases h1:key<1000
  ·refine Holds.put ?_ hne' _
   unfold Holds at h0⊢
   rw[if_pos h1]at h0⊢
   exact h0.mono hext
  ·exact(Holds.turn hb hp2 h1 hne3' h0).put hne' _
end
end Go.Ab
namespace Go.Ab
open Go.RowKit
theorem run_getIter{P:Program}{w:World}{b p:Nat}{l:ByteArray}(h:w.heap[b]?=some (.stringIter l p)):(getObj b).run P w=.ok (.stringIter l p) w:=by
 unfold getObj
 simp[Sem.run,h]
theorem run_setIter{P:Program}{w:World}{b p:Nat}{l:ByteArray}{o:Obj}(h:w.heap[b]?=some (.stringIter l p)):(setObj b o).run P w=.ok () {w with heap:=w.heap.setIfInBounds b o}:=by
 unfold setObj
 simp[Sem.run,h]
section
variable{E:Env}{all:Array Oper}{s r r1 r2 r3 rg:St}{d ty:Nat}{pos:String}{after:Array Edge}{guard:Option (Nat×Bool)}{x y z:Operand}{K:Type}[DecidableEq K]{M:HM K}
theorem alloc_turn{U:List Nat}{c:Ctx}{a:Act}{w:World}(hb:Base E U c a w)(hj:HeapJ M c.h c.Y w)(k0:K)(o:Obj)(kd:HK)(hk:∀h w',(∀o,h ⟨w.heap.size,o,none⟩=none)→w'.heap[w.heap.size]?=some o→HKIs h w' w.heap.size kd):
  PostJ c.h c.Y w c.h (fun b=>c.Y b∨b=w.heap.size) (w.alloc o)∧HeapJ (M.set k0 (some (w.heap.size,kd))) c.h (fun b=>c.Y b∨b=w.heap.size) (w.alloc o):=by
 have hB:=below_alloc w o
 have hnone:∀o,c.h ⟨w.heap.size,o,none⟩=none:=fun o=>by
  cases hh:c.h ⟨w.heap.size,o,none⟩with
  |none=>rfl
  |some v=>have:=block_lt_of_cell (hb.hw _ _ hh);simp at this
 have hs:(w.alloc o).heap.size=w.heap.size+1:=by show(w.heap.push _).size=_;rw[Array.size_push]
 refine⟨⟨⟨hB.os,hB.tape,hB.output,hB.size,fun k hk _=>hB.block k hk⟩,Mem.le_refl _,fun _ _ e=>.inl e,fun p v e=>?_,fun b hy=>?_,fun b hy hlt=>?_⟩,?_⟩
 ·have h1:=hb.hw p v e
  rw[hB.cell (block_lt_of_cell h1)];exact h1
 ·rcases hy with hy|rfl
  ·have:=(hb.Y b hy).1;omega
  ·omega
 ·rcases hy with hy|rfl
  ·exact hy
  ·omega
 ·refine hj.turn (Mem.le_refl _) (fun _ _ _ _ _ e=>e) (fun b hne hy=>hB.block b (hb.Y b hy).1) (fun _ e=>.inl e) (.inr fun hy=>by have:=(hb.Y _ hy).1;omega) (.inr rfl) (hk _ _ hnone ?_)
  exact heap_alloc_new w o
theorem S.srange{t:TypeId}{l:List UInt8}(k0:K)(ht:E.P.underlying t=some .string)(hd:(Nat.blt d 1000&&Nat.blt d E.nt)=true)(hx:OpS s x (.str l) r)(hl3:look s 3000=some (.res (HeapJ M))):
  StX E all ⟨some d,.range t x,ty,pos,after,none⟩ s (r++[(3000,.res (HeapJ M))]) (fun q:Nat=>(d,.raw (.pointer (some ⟨q,0,none⟩)))::(3000,.res (HeapJ (M.set k0 (some (q,.iter l 0)))))::([]:List Nat).map fun k=>(2000+k,X.any)) []:=
 StX.mk' hd rfl hx.looks hl3 (fun _=>HeapJ.stable _) rfl fun U c a w hb hr hj=>by
  obtain⟨hv,_⟩:=str_of (hx.rep (c:=c) (a:=a) (w:=w) fun p hp=>hr p (by simp[hp]))
  obtain⟨q1,q2⟩:=alloc_turn hb hj k0 (.stringIter ⟨l.toArray⟩ 0) (.iter l 0) (fun h w' h1 h2=>⟨h1,h2⟩)
  refine⟨c,hb,Ext.refl c,fun _ _ _ _ h=>h,w.heap.size,_,w.alloc (.stringIter ⟨l.toArray⟩ 0),c.h,_,?_,q1,rfl,q2⟩
  simp[execOp,hv,Instr.range,run_underlying ht]
theorem S.snextT{b p cp wd:Nat}{l:List UInt8}(k0:K)(hd:(Nat.blt d 1000&&Nat.blt d E.nt)=true)(hx:OpS s x (.raw (.pointer (some ⟨b,0,none⟩))) r)(hl3:look s 3000=some (.res (HeapJ M)))(hM:M k0=some (b,.iter l p))(hp:p<l.length)(hm:p≤maxLen)(hdec:Utf8.decode ⟨l.toArray⟩ p=(cp,wd))(hc:cp<2147483648):
  StX E all ⟨some d,.next x true,ty,pos,after,none⟩ s (r++[(3000,.res (HeapJ M))]) (fun _:Unit=>(d,.tup [.bool true,.int .i64 p,.int .i32 cp])::(3000,.res (HeapJ (M.set k0 (some (b,.iter l (p+wd))))))::([]:List Nat).map fun k=>(2000+k,X.any)) []:=
 StX.mk' (res:=fun _=>_) hd rfl hx.looks hl3 (fun _=>HeapJ.stable _) rfl fun U c a w hb hr hj=>by
  have hv:a.eval x=.pointer (some ⟨b,0,none⟩):=hx.rep (c:=c) (a:=a) (w:=w) fun p hp=>hr p (by simp[hp])
  obtain⟨hY,h1,h2⟩:=hj.1 k0 b _ hM
  have hlt:b<w.heap.size:=(hb.Y b hY).1
  have hset:({w with heap:=w.heap.setIfInBounds b (.stringIter ⟨l.toArray⟩ (p+wd))}:World).heap[b]?=some (.stringIter ⟨l.toArray⟩ (p+wd)):=by simp[Array.getElem?_setIfInBounds_self_of_lt hlt]
  have hoth:∀j,j≠b→({w with heap:=w.heap.setIfInBounds b (.stringIter ⟨l.toArray⟩ (p+wd))}:World).heap[j]?=w.heap[j]?:=fun j hj=>by simp[Array.getElem?_setIfInBounds,Ne.symm hj]
  refine⟨c,hb,Ext.refl c,fun _ _ _ _ h=>h,(),.tuple #[.bool true,.int .i64 p,.int .i32 cp],{w with heap:=w.heap.setIfInBounds b (.stringIter ⟨l.toArray⟩ (p+wd))},c.h,c.Y,?_,post_set hb hY h1 rfl rfl rfl (by simp) hoth,?_,?_⟩
  ·have hsz:(⟨l.toArray⟩:ByteArray).size=l.length:=rfl
   have hg:(getObj b).run E.P w=.ok (.stringIter ⟨l.toArray⟩ p) w:=run_getIter h2
   have hs:(setObj b (.stringIter ⟨l.toArray⟩ (p+wd))).run E.P w=.ok () {w with heap:=w.heap.setIfInBounds b (.stringIter ⟨l.toArray⟩ (p+wd))}:=run_setIter h2
   simp[execOp,hv,Instr.next,hg,hsz,hp,hdec,hs,goInt]
  ·exact⟨_,rfl,RepD.bool true,RepD.toT (c:=pureC c.h) (.int (wrap_len hm)),RepD.int (by show IntKind.i32.wrap _=_;unfold IntKind.wrap;simp[IntKind.bits,IntKind.signed];omega),trivial⟩
  ·exact hj.turn (Mem.le_refl _) (fun _ _ _ _ _ e=>e) (fun j hne _=>hoth j hne) (fun _ e=>e) (.inl ⟨_,hM⟩) hY ⟨h1,hset⟩
theorem S.snextF{b p:Nat}{l:List UInt8}(k0:K)(hg:Gd all s guard rg)(hd:(Nat.blt d 1000&&Nat.blt d E.nt)=true)(hx:OpS s x (.raw (.pointer (some ⟨b,0,none⟩))) r)(hl3:look s 3000=some (.res (HeapJ M)))(hM:M k0=some (b,.iter l p))(hp:l.length≤p):
  St1 E all ⟨some d,.next x true,ty,pos,after,guard⟩ s (rg++(r++[(3000,.res (HeapJ M))])) [(d,.tup [.bool false])] []:=
 St1.val hg hd rfl (hx.looks.app ⟨hl3,trivial⟩) fun c A w _ hr=>by
  have _:=(inferInstance:DecidableEq K)
  have hv:A.eval x=.pointer (some ⟨b,0,none⟩):=hx.rep (c:=c) (a:=A) (w:=w) fun p hp=>hr p (by simp[hp])
  obtain⟨hY,h1,h2⟩:=(res_of (hr (3000,.res (HeapJ M)) (by simp))).2.1 k0 b _ hM
  refine⟨.tuple #[.bool false],?_,_,rfl,RepD.bool false,trivial⟩
  have hsz:(⟨l.toArray⟩:ByteArray).size=l.length:=rfl
  have hg:(getObj b).run E.P w=.ok (.stringIter ⟨l.toArray⟩ p) w:=run_getIter h2
  simp[execOp,hv,Instr.next,hg,hsz,show¬p<l.length by omega]
end
theorem dec_lo{l:List UInt8}{i:Nat}{c:UInt8}(hi:l[i]?=some c)(hc:c.toNat<128):Utf8.decode ⟨l.toArray⟩ i=(c.toNat,1):=by
 obtain⟨hlt,rfl⟩:=List.getElem?_eq_some_iff.1 hi
 have h0:((⟨l.toArray⟩:ByteArray).get! (i+0)).toNat=l[i].toNat:=by simp[ByteArray.get!,hlt]
 rw[Utf8.decode]
 simp only[h0]
 rw[if_pos hc]
theorem dec_hi{l:List UInt8}{i:Nat}{c:UInt8}(hi:l[i]?=some c)(hc:128≤c.toNat):128≤(Utf8.decode ⟨l.toArray⟩ i).1∧(Utf8.decode ⟨l.toArray⟩ i).1<2147483648:=by
 obtain⟨hlt,rfl⟩:=List.getElem?_eq_some_iff.1 hi
 have h0:((⟨l.toArray⟩:ByteArray).get! (i+0)).toNat=l[i].toNat:=by simp[ByteArray.get!,hlt]
 rw[Utf8.decode]
 simp only[h0]
 rw[if_neg (by omega)]
 have e:Utf8.runeError=65533:=rfl
 repeat' split
 all_goals first
  |(dsimp only;omega)
  |(exact⟨by rw[e];omega,by rw[e];omega⟩)
  |(rename_i h;simp only[Bool.and_eq_true,decide_eq_true_eq]at h;dsimp only;omega)
end Go.Ab
