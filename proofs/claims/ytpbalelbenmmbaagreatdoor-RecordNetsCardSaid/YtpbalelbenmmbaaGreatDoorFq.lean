import Derived.RangeFuncNested
import Derived.Test.YtpbalelbenmmbaaGreatDoorFm
namespace Go.Ab
open Go.RowKit
section
variable{E:Env}{u:List Nat}{a:Act}{W:World}{B1 l:Nat}{Z:Nat→Prop}{h:Mem}{Y:Nat→Prop}{σ:Type}
theorem round_ok(hpins:∀p∈E.pins,p.1≠l)(r:Rg){slots:St}{boxes:σ→St}{s0 s1:σ}{j:Option Code}{ps:List Nat}{xs:List X}{vs:List Value}(hEl:E.B≤l)(hl1:l<B1∧¬Z l)(hDX:E.B≤r.D∨E.X r.D)
  (hDl:r.D≠l) (htm:r.tmps=a.tmps) (hps:r.ps=ps.toArray) (hpl:ps.length=xs.length) (hpw:ps.Pairwise (· ≠ ·)) (hpt:∀p∈ps,p<E.nt) (hp1:∀p∈ps,p<1000) (htup:xs.all (fun x=>!isTup x)=true)
  (hYlt:∀b,Y b→b<W.heap.size) (hwW:∀p v,h p=some v→W.cell? p=some v) (hJ:JR E u a B1 Z l r (slots++boxes s0) none h Y W) (hargs:All2 (RepV (pureC h)) xs vs)
  (hhi:(boxes s1).all (hiKey u)=true) (hslots:slots.all (slotOk (boxes s1))=true)
  (hwalk:∀(c0:Ctx)(w0:World)(p1 p2:List (Nat×Obj)),RndOk E (rE E u c0 w0 l p1) l→RndOk E (rE E u c0 w0 l p2) l→OK (rE E u c0 w0 l p1) r.assign (fun e U s'=>e=.normal∧OK (rE E u c0 w0 l p2) r.body (den (rE E u c0 w0 l p2) (RoundQ boxes (s1,j)) []) U s') u (psSt ps xs++(slots++boxes s0))):
  YieldAt Fence.wide 0 E.P l vs.toArray W fun e W'=>∃v h' Y',e=.returned v∧PostJ h Y W h' Y' W'∧JR E u a B1 Z l r (slots++boxes s1) j h' Y' W'∧RepT (pureC h') (.bool j.isNone) v:=by
 obtain⟨c,hb,hle,hnw,hlow,hall,hrec,hnl,⟨d4,d3⟩,hh⟩:=hJ
 have hvl:=hargs.length
 have hrec':W.heap[l]?=some (.loop {state:=.ready,pending:=none,fn:=r.fn,tmps:=r.tmps,params:=r.ps,assign:=r.assign,body:=r.body,defers:=r.D}):=hrec
 refine⟨r.fn,_,r.assign,r.body,run_yield hrec' (by rw[hps];simp;omega),roundIn_of_wpIn trivial ?_⟩
 have hfold:(r.ps.zip vs.toArray).foldl (fun tmps (x:Nat×Value)=>match x with|(t,a)=>tmps.setIfInBounds t a) r.tmps=(ps.zip vs).foldl (fun t (p:Nat×Value)=>t.setIfInBounds p.1 p.2) a.tmps:=by
  rw[hps,htm,←Array.foldl_toList]
  simp
 rw[hfold]
 obtain⟨t1,ht1⟩:∃t1,t1=(ps.zip vs).foldl (fun t (p:Nat×Value)=>t.setIfInBounds p.1 p.2) a.tmps:=⟨_,rfl⟩
 rw[←ht1]
 have hsz:t1.size=a.tmps.size:=by rw[ht1];exact foldl_size _ _
 have hlW:=(Array.getElem?_eq_some_iff.1 hrec).1
 have hnoneOf:∀b,c.all b→∀o,c.h ⟨b,o,none⟩=none→h ⟨b,o,none⟩=none:=by
  intro b hb2 o hn
  cases hq:h ⟨b,o,none⟩with
  |none=>rfl
  |some v=>
   rcases hnw _ _ hq with h1|h1
   ·rw[hn]at h1;cases h1
   ·exact absurd hb2 h1.2
 have good:Good (rE E u ⟨h,c.loc,c.arr,c.Y⟩ W l [(l,r.obj .ready none),(r.D,.deferred (some []))]) u (psSt ps xs++(slots++boxes s0)) {tmps:=t1,defers:=[]} W:=by
  refine⟨⟨h,c.loc,c.arr,c.Y⟩,⟨BelX.refl _ _ _,Nat.le_refl _,by show t1.size=E.nt;rw[hsz,hb.nt],⟨.nil,fun d hd=>by cases hd⟩,?_,hwW,Mem.le_refl _,fun p v e=>.inl e,?_,?_,hb.used,?_,fun k b _ e=>e,fun k m hv lv _ e=>⟨m,hv,lv,e,Nat.le_refl _,fun _=>rfl,id,fun _ h=>.inl h⟩⟩,?_⟩
  ·intro p hp
   simp only[rE,List.mem_cons,List.not_mem_nil,or_false]at hp
   rcases hp with rfl|rfl
   ·exact⟨hnl,rfl,hrec⟩
   ·exact⟨d3,rfl,d4⟩
  ·intro k b hk
   obtain⟨f1,f2,f3,f4⟩:=hb.loc k b hk
   exact⟨.inr ⟨used_mem hb hk,.inl (.inr (.inl ⟨k,used_mem hb hk,hk⟩))⟩,f2,fun o=>hnoneOf b (.inr (.inl ⟨k,hk⟩)) o (f3 o),f4⟩
  ·intro k m hv b hk hbk
   obtain⟨f1,f2,f3,f4⟩:=hb.arr k m hv b hk hbk
   exact⟨.inr ⟨used_mem2 hb hk,.inl (.inr (.inr ⟨k,m,hv,used_mem2 hb hk,hk,hbk⟩))⟩,f2,fun o=>hnoneOf b (.inr (.inr ⟨k,m,hv,hk,hbk⟩)) o (f3 o),f4⟩
  ·intro b hy
   obtain⟨f1,f2,f3⟩:=hb.Y b hy
   exact⟨f1,fun _=>.inl (.inl hy),f3⟩
  ·intro key x hx
   rw[look_append]at hx
   cases hk:look (psSt ps xs) key with
   |some y=>
    rw[hk]at hx
    have hxy:y=x:=by simpa using hx
    subst hxy
    have hkp:=psSt_look ps xs hk
    unfold Holds
    rw[if_pos (hp1 key hkp)]
    simp only[ht1]
    exact(ps_holds ps xs vs a.tmps hpl hargs hpw (fun p hp=>by rw[hb.nt];exact hpt p hp) htup key y hk).mono (pure_ext (c:=⟨h,c.loc,c.arr,c.Y⟩) rfl)
   |none=>
    rw[hk]at hx
    have h0:=hh key x hx
    by_cases hlt:key<1000
    ·unfold Holds at h0⊢
     rw[if_pos hlt]at h0⊢
     have hg:t1.getD key undef=a.tmps.getD key undef:=by
      rw[ht1]
      exact foldl_other key _ _ fun q hq e=>psSt_none ps xs hpl hk (e▸(List.of_mem_zip hq).1)
     show RepT _ x (t1.getD key undef)
     rw[hg]
     exact h0.mono (show Ext c ⟨h,c.loc,c.arr,c.Y⟩from⟨hle,fun _ _ e=>e,fun _ m hv lv e=>⟨m,hv,lv,e,Nat.le_refl _,fun _=>rfl⟩⟩)
    ·exact grow_holds hle (fun p v e=>(hnw p v e).imp id fun h hy=>h.2 (.inl hy)) hwW hlt h0
 have hF:∀p,(rE E u ⟨h,c.loc,c.arr,c.Y⟩ W l p).F=Fence.wide.inRound l:=fun _=>rfl
 have hwalk1:=hwalk ⟨h,c.loc,c.arr,c.Y⟩ W [(l,r.obj .ready none),(r.D,.deferred (some []))] [(l,r.obj .busy none),(r.D,.deferred (some []))] (RndOk.of hb hEl hDX rfl) (RndOk.of hb hEl hDX rfl) _ _ good
 rw[hF]at hwalk1
 refine wpIn_mono hwalk1 ?_
 rintro e a1 w1 ⟨U',s',hg1,rfl,hbody⟩
 have hrec1:w1.heap[l]?=some (r.obj .ready none):=by
  obtain⟨c',hb',_⟩:=hg1
  exact(hb'.pin (l,r.obj .ready none) (by simp[rE])).2.2
 have hg2:=repin (o2:=r.obj .busy none) hg1 rfl rfl (by intro e;cases e) hDl
 refine⟨_,run_beginRound (r:={state:=.ready,pending:=none,fn:=r.fn,tmps:=r.tmps,params:=r.ps,assign:=r.assign,body:=r.body,defers:=r.D}) hrec1 rfl,?_⟩
 have hbody1:=hbody a1 _ hg2
 rw[hF]at hbody1
 refine wpIn_mono hbody1 ?_
 rintro e3 a3 w3 ⟨U3,s3,⟨c3,hb3,hh3⟩,hj,hl3⟩
 have hrec3:w3.heap[l]?=some (.loop {state:=.busy,pending:=none,fn:=r.fn,tmps:=r.tmps,params:=r.ps,assign:=r.assign,body:=r.body,defers:=r.D}):=(hb3.pin (l,r.obj .busy none) (by simp[rE])).2.2
 obtain⟨h',Y',f1,f2⟩:=round_fin hpins r (slots:=slots) (bx:=boxes s0) (j:=j) hb hEl d4 hDl hle hnw hlow hall hYlt hrec hnl hwW hb3 hh3 hl3 hhi hslots hh (hlow l hl1.1 hl1.2)
 have hend:=run_endRound (P:=E.P) j hrec3
 have fin:∃v w',(Instr.endRound l j).run E.P w3=.ok v w'∧∃v' h' Y',Ending.returned v=.returned v'∧PostJ h Y W h' Y' w'∧JR E u a B1 Z l r (slots++boxes s1) j h' Y' w'∧RepT (pureC h') (.bool j.isNone) v':=
  ⟨_,_,hend,.bool j.isNone,h',Y',rfl,f1,f2,RepD.bool _⟩
 cases e3 with
 |normal=>cases hj;exact fin
 |ret=>cases hj;exact fin
 |exit id=>cases hj;exact fin
 |goto t=>cases hj
 |panic ch=>cases hj
 |outgrown=>cases hj
end
section
variable{E:Env}{Q:Exit→List Nat→St→Prop}{k:List Kn}{U:List Nat}{s:St}
def stepG{σ α:Type}(step:σ→α→σ×Option Code)(p:σ×Option Code)(x:α):(σ×Option Code)×Bool:=(step p.1 x,(step p.1 x).2.isNone)
theorem iter_none{σ α:Type}(step:σ→α→σ×Option Code)(s0:σ):∀(l:List α)(p:σ×Option Code),p.2=none→((iterG (stepG step) p l).2=true↔(iterG (stepG step) p l).1.2=none)
 |[],p,h=>by simp[iterG,h]
 |x::l,p,h=>by
  simp only[iterG]
  split
  ·rename_i h1;exact iter_none step s0 l _ (by simpa[stepG]using h1)
  ·rename_i h1
   constructor
   ·intro h;cases h
   ·intro h2;exact absurd (show(stepG step p x).2=true by simp only[stepG]at h2⊢;rw[h2];rfl) h1
def boxSt(kb:List (Nat×List X)):St:=kb.map fun p=>(1000+p.1,.box p.2)
def SeqOkB{α:Type}(P:Program)(gf:Nat)(kb:List (Nat×List X))(caps:List X)(encs:α→List X)(l:List α):Prop:=
 ∀{σ:Type}(J:σ→Mem→(Nat→Prop)→World→Prop)(g:σ→α→σ×Bool)(s0:σ)(Φ:Value→Prop),(∀s,Stable (J s))→
  (∀v,Φ v→∀(i:Nat)(x:α),l[i]?=some x→(iterG g s0 (l.take i)).2=true→CbOk P v (encs x) (.bool (g (iterG g s0 (l.take i)).1 x).2) (J (iterG g s0 (l.take i)).1) (J (g (iterG g s0 (l.take i)).1 x).1))→
  CtG P gf (kb.map (·.1)) (.cb Φ::caps) ((3000,.res (J s0))::boxSt kb) [(3000,.res (J (iterG g s0 l).1))] (.tup [])
def okCapB(kb:List (Nat×List X)):X→Bool
 |.ptr k _=>(kb.map (·.1)).contains k
 |x=>okP [] x&&!notCell x
theorem OK.rangeFuncB{σ α:Type}{go:Operand}{ps:List Nat}{assign body:Code}{gf:Nat}{caps:List X}{encs:α→List X}{L:List α}{r:St}(u:List Nat)(slots:St)(boxes:σ→St)(s0:σ)(step:σ→α→σ×Option Code)
  (kb:List (Nat×List X)) (hseq:SeqOkB E.P gf kb caps encs L) (hkb:Looks s (boxSt kb)) (hkd:kb.all (fun p=>p.2.all okD&&Nat.blt p.1 1000&&!u.contains p.1&&!E.fs.contains p.1)=true) (hcall:∀args w,(callFunc gf args).run E.P w=.ok (.enter gf args) w) (hro:E.round=none∨∃l0,E.round=some l0∧PinOk l0 E.pins) (hg:OpS s go (.fn gf caps) r) (hc1:caps.all (okCapB kb)=true)
  (hle:Le s (slots++boxes s0)) (ho:∀q,(slots++boxes q).all (okKey u)=true) (hhi:∀q,(boxes q).all (hiKey u)=true) (hslots:∀q,slots.all (slotOk (boxes q))=true)
  (hpl:∀x,(encs x).length=ps.length) (htup:∀x,(encs x).all (fun x=>!isTup x)=true) (hpw:ps.Pairwise (· ≠ ·)) (hpt:ps.all (fun p=>Nat.blt p E.nt&&Nat.blt p 1000)=true)
  (hround:∀(i:Nat)(x:α)(q:σ),L[i]?=some x→iterG (stepG step) (s0,none) (L.take i)=((q,none),true)→∀(l:Nat)(c0:Ctx)(w0:World)(p1 p2:List (Nat×Obj)),RndOk E (rE E u c0 w0 l p1) l→RndOk E (rE E u c0 w0 l p2) l→
   OK (rE E u c0 w0 l p1) assign (fun e U s'=>e=.normal∧OK (rE E u c0 w0 l p2) body (den (rE E u c0 w0 l p2) (RoundQ boxes (step q x)) []) U s') u (psSt ps (encs x)++(slots++boxes q)))
  (hend:∀q,iterG (stepG step) (s0,none) L=((q,none),true)→den E Q k .normal u (slots++boxes q))
  (hjump:∀q cd,(iterG (stepG step) (s0,none) L).1=(q,some cd)→OK E cd (den E Q k) u (slots++boxes q)):OK E (.rangeFunc go ps.toArray assign body) (den E Q k) U s:=by
 intro a w hg0
 obtain⟨c,hb,hh⟩:=hg0
 obtain⟨cvs,hev,hcv0⟩:=hg.rep (c:=c) (a:=a) (w:=w) fun p hp=>hh _ _ (hg.looks.all p hp)
 obtain⟨lo,hlo⟩:∃lo:Nat→Option Nat,lo=fun k=>if(kb.map (·.1)).contains k then c.loc k else none:=⟨_,rfl⟩
 obtain⟨Z,hZ⟩:∃Z:Nat→Prop,Z=fun b=>∃k,lo k=some b:=⟨_,rfl⟩
 have hloc:∀k b,lo k=some b→(kb.map (·.1)).contains k=true∧c.loc k=some b:=by
  intro k b e
  rw[hlo]at e
  dsimp only at e
  split at e
  ·exact⟨‹_›,e⟩
  ·cases e
 have hkk:∀k,(kb.map (·.1)).contains k=true→¬k∈u∧¬k∈E.fs:=by
  intro k hk
  obtain⟨p,hp,rfl⟩:=List.mem_map.1 (List.contains_iff_mem.1 hk)
  have:=List.all_eq_true.1 hkd p hp
  simp only[Bool.and_eq_true,Bool.not_eq_true']at this
  exact⟨nfs this.1.2,nfs this.2⟩
 have hZf:∀b,Z b→E.B≤b∧b<w.heap.size∧(∀o,c.h ⟨b,o,none⟩=none)∧¬(c.cut u).all b∧(∀p∈E.pins,p.1≠b)∧∀D,({target:=.collected D,args:=#[]}:Deferred)∈a.defers→D≠b:=by
  intro b hz
  rw[hZ]at hz
  obtain⟨k,hk⟩:=hz
  obtain⟨h1,h2⟩:=hloc k b hk
  obtain⟨q1,q2,q3,q4,q5⟩:=hb.loc k b h2
  have hca:c.all b:=.inr (.inl ⟨k,h2⟩)
  refine⟨Env.ok_own q1 (hkk k h1).2,q2,q3,?_,fun p hp e=>(hb.pin p hp).1 (e▸hca),fun D hD e=>?_⟩
  ·rintro(hy|⟨j,hj⟩|⟨j,m,hv,hj,hjb⟩)
   ·exact(hb.Y b hy).2.2.1 k h2
   ·simp only[Ctx.cut]at hj
    split at hj
    ·rename_i hju
     have:=q4 j hj
     subst this
     exact(hkk _ h1).1 (List.contains_iff_mem.1 hju)
    ·cases hj
   ·simp only[Ctx.cut]at hj
    split at hj
    ·exact q5 j m hv hj hjb
    ·cases hj
  ·obtain⟨D',f1,f2,f3,f4⟩:=hb.dfr.2 _ hD
   have h2:D=D':=by have:=congrArg Deferred.target f1;simpa using this
   subst h2
   exact f3 (e▸hca)
 have hcv:All2 (RepV ⟨c.h,lo,fun _=>none,fun _=>False⟩) caps cvs:=by
  have:∀{us:List X}{vs:List Value},All2 (RepP c) us vs→us.all (okCapB kb)=true→All2 (RepV ⟨c.h,lo,fun _=>none,fun _=>False⟩) us vs:=by
   intro us
   induction us with
   |nil=>intro vs h _;exact(All2.nil_left h)▸trivial
   |cons u us ih=>
    intro vs h h1
    obtain⟨v,vs',rfl,hv,hvs⟩:=h.cons_left
    simp only[List.all_cons,Bool.and_eq_true]at h1
    refine⟨?_,ih hvs h1.2⟩
    have h3:=h1.1
    cases u with
    |ptr k off=>
     obtain⟨b,e1,e2⟩:=hv
     have hk:(kb.map (·.1)).contains k=true:=h3
     exact⟨b,by rw[hlo];dsimp only;rw[if_pos hk];exact e1,e2⟩
    |_=>
     simp only[okCapB,Bool.and_eq_true,Bool.not_eq_true']at h3
     have hp:=(hv.cut h3.1).mono (show Ext (c.cut []) ⟨c.h,lo,fun _=>none,fun _=>False⟩from⟨Mem.le_refl _,(fun k b e=>by simp[Ctx.cut]at e),(fun k m hv lv e=>by simp[Ctx.cut]at e)⟩)
     have hn:=h3.2
     first|exact hp|cases hn
  exact this hcv0 hc1
 clear hcv0
 have hbx:∀p∈kb,HoldsBox ⟨c.h,lo,fun _=>none,fun _=>False⟩ w p.1 (.box p.2):=by
  intro p hp
  have h1:=hkb.all (1000+p.1,.box p.2) (List.mem_map.2 ⟨p,hp,rfl⟩)
  have h2:=List.all_eq_true.1 hkd p hp
  simp only[Bool.and_eq_true,Nat.blt_eq]at h2
  obtain⟨b',T,vs,f1,f2,f3⟩:=box_of (hh _ _ h1) h2.1.1.2
  refine⟨b',_,?_,f2,T,vs,rfl,?_⟩
  ·rw[hlo]
   dsimp only
   rw[if_pos (List.contains_iff_mem.2 (List.mem_map.2 ⟨p,hp,rfl⟩))]
   exact f1
  ·exact(Ds_of f3 h2.1.1.1).mono fun _ _ h=>RepD.toC (c:=⟨c.h,lo,fun _=>none,fun _=>False⟩) h
 have hb5:=hb.cut u
 have hh5:∀key x,look (slots++boxes s0) key=some x→Holds (c.cut u) a w key x:=fun key x hx=>Holds.cut (hh key x (hle.mem hx)) (List.all_eq_true.1 (ho s0) _ (look_mem hx))
 have hch:(c.cut u).h=c.h:=rfl
 have hlu:∀k b,lo k=some b→(∀k',lo k'=some b→k'=k)∧(kb.map (·.1)).contains k=true:=fun k b e=>by
  obtain⟨h1,h2⟩:=hloc k b e
  exact⟨fun k' e'=>(hb.loc k b h2).2.2.2.1 k' (hloc k' b e').2,h1⟩
 have hln:∀k,¬k∈kb.map (·.1)→lo k=none:=fun k hk=>by rw[hlo];exact if_neg fun e=>hk (List.contains_iff_mem.1 e)
 generalize c.cut u=c5 at hb5 hh5 hch hZf
 rw[←hch]at hcv hbx hZf
 clear hb hh hle hg hch
 refine wpIn_rangeFunc fun fn hfn=>?_
 have hall6:∀b,c5.all b→b<w.heap.size:=by
  rintro b (h|⟨k,h⟩|⟨k,m,hv,h,h2⟩)
  ·exact(hb5.Y b h).1
  ·exact(hb5.loc k b h).2.1
  ·exact(hb5.arr k m hv b h h2).2.1
 have hEB:E.B≤w.heap.size:=hb5.hB
 obtain⟨r,l,ds,W1,a1,hrun,hrt,hrp,hra,hrb,hrf,ha1,hEl,hlW,hrD,hDl,hDZ,hDX,hL1,hK1,hnD,hBW,hw1,hb7,hdef⟩:∃(r:Rg)(l:Nat)(ds:List Deferred)(W1:World)(a1:Act),(Instr.enterLoop fn a.tmps ps.toArray assign body E.F.round).run E.P w=.ok (l,ds) W1∧r.tmps=a.tmps∧r.ps=ps.toArray∧r.assign=assign∧r.body=body∧r.fn=fn∧
   a1={a with defers:=ds++a.defers}∧w.heap.size≤l∧l<W1.heap.size∧r.D<W1.heap.size∧r.D≠l∧¬Z r.D∧(E.B≤r.D∨E.X r.D)∧W1.heap[l]?=some (r.obj .ready none)∧W1.heap[r.D]?=some (.deferred (some []))∧¬c5.all r.D∧Below w.heap.size w W1∧(∀p v,c5.h p=some v→W1.cell? p=some v)∧Base E u c5 a1 W1∧
   ∀D,({target:=.collected D,args:=#[]}:Deferred)∈a1.defers→D<W1.heap.size∧¬Z D:=by
  have hold:∀D,({target:=.collected D,args:=#[]}:Deferred)∈a.defers→D<w.heap.size:=fun D hD=>by
   obtain⟨D',f1,f2,f3,f4⟩:=hb5.dfr.2 _ hD
   have h2:D=D':=by have:=congrArg Deferred.target f1;simpa using this
   rw[h2]
   exact(Array.getElem?_eq_some_iff.1 f4).1
  rcases hro with hro|⟨l0,hro,r0,hp1,hp2⟩
  ·obtain⟨r,hr⟩:∃r:Rg,r={fn:=fn,tmps:=a.tmps,ps:=ps.toArray,assign:=assign,body:=body,D:=w.heap.size}:=⟨_,rfl⟩
   obtain⟨W1,hW1⟩:∃W1,(w.alloc (.deferred (some []))).alloc (r.obj .ready none)=W1:=⟨_,rfl⟩
   have sz1:W1.heap.size=w.heap.size+2:=by rw[←hW1];simp
   have hL1:W1.heap[w.heap.size+1]?=some (r.obj .ready none):=by
    rw[←hW1];have:=World.alloc_heap_new (w.alloc (.deferred (some []))) (r.obj .ready none);rwa [World.size_alloc]at this
   have hK1:W1.heap[w.heap.size]?=some (.deferred (some [])):=by
    rw[←hW1];exact(Below.heap_alloc _ _ _ (by simp)).trans (World.alloc_heap_new w _)
   have hBW:Below w.heap.size w W1:=by rw[←hW1];exact(((Below.refl _ w).alloc (Nat.le_refl _) _).alloc (by simp) _)
   have hw1:∀p v,c5.h p=some v→W1.cell? p=some v:=fun p v e=>by
    have h1:=hb5.hw p v e
    rw[hBW.cell (block_lt_of_cell h1)];exact h1
   have hb6:Base E u c5 a W1:=hb5.below_grow hBW (Mem.le_refl _) (fun p v e=>.inl e) hw1
   have hrD:r.D=w.heap.size:=by rw[hr]
   refine⟨r,w.heap.size+1,[{target:=.collected w.heap.size,args:=#[]}],W1,{a with defers:={target:=.collected w.heap.size,args:=#[]}::a.defers},?_,by rw[hr],by rw[hr],by rw[hr],by rw[hr],by rw[hr],rfl,by omega,by omega,by omega,by omega,fun hz=>by have:=(hZf _ hz).2.1;omega,.inl (by omega),hL1,by rw[hrD];exact hK1,?_,hBW,hw1,?_,?_⟩
   ·rw[show E.F.round=none from hro,←hW1,hr];exact run_enterLoop_outer _ _ _ _ _
   ·intro h
    have:=hall6 _ h
    omega
   ·refine⟨hb6.below,hb6.hB,hb6.nt,⟨?_,?_⟩,hb6.pin,hb6.hw,hb6.hle,hb6.hnew,hb6.loc,hb6.arr,hb6.used,hb6.Y,hb6.loc0,hb6.arr0⟩
    ·refine List.pairwise_cons.2 ⟨fun d hd e=>?_,hb6.dfr.1⟩
     obtain⟨D,f1,f2,f3,f4⟩:=hb5.dfr.2 d hd
     subst f1
     have:=(Array.getElem?_eq_some_iff.1 f4).1
     have h2:w.heap.size=D:=by have:=congrArg Deferred.target e;simpa using this
     omega
    ·intro d hd
     rcases List.mem_cons.1 hd with rfl|hd
     ·exact⟨w.heap.size,rfl,hb5.hB,fun h=>by have:=hall6 _ h;omega,hK1⟩
     ·exact hb6.dfr.2 d hd
   ·intro D hD
    rcases List.mem_cons.1 hD with e|hD
    ·have h2:D=w.heap.size:=by have:=congrArg Deferred.target e;simpa using this
     exact⟨by omega,fun hz=>by have:=(hZf _ hz).2.1;omega⟩
    ·have:=hold D hD
     exact⟨by omega,fun hz=>(hZf _ hz).2.2.2.2.2 D hD rfl⟩
  ·obtain⟨g1,_,g3⟩:=hb5.pin _ hp1
   obtain⟨q1,_,q3⟩:=hb5.pin _ hp2
   simp only at g1 g3 q1 q3
   have hDlt:=(Array.getElem?_eq_some_iff.1 q3).1
   obtain⟨r,hr⟩:∃r:Rg,r={fn:=fn,tmps:=a.tmps,ps:=ps.toArray,assign:=assign,body:=body,D:=r0.defers}:=⟨_,rfl⟩
   obtain⟨W1,hW1⟩:∃W1,w.alloc (r.obj .ready none)=W1:=⟨_,rfl⟩
   have sz1:W1.heap.size=w.heap.size+1:=by rw[←hW1];simp
   have hL1:W1.heap[w.heap.size]?=some (r.obj .ready none):=by rw[←hW1];exact World.alloc_heap_new w _
   have hBW:Below w.heap.size w W1:=by rw[←hW1];exact(Below.refl _ w).alloc (Nat.le_refl _) _
   have hw1:∀p v,c5.h p=some v→W1.cell? p=some v:=fun p v e=>by
    have h1:=hb5.hw p v e
    rw[hBW.cell (block_lt_of_cell h1)];exact h1
   have hrD:r.D=r0.defers:=by rw[hr]
   refine⟨r,w.heap.size,[],W1,a,?_,by rw[hr],by rw[hr],by rw[hr],by rw[hr],by rw[hr],by simp,by omega,by omega,by omega,by omega,fun hz=>(hZf _ hz).2.2.2.2.1 _ hp2 (by rw[hrD]),.inr (.inr ⟨_,hp2,by rw[hrD]⟩),hL1,by rw[hrD];exact(hBW.block _ hDlt).trans q3,by rw[hrD];exact q1,hBW,hw1,hb5.below_grow hBW (Mem.le_refl _) (fun p v e=>.inl e) hw1,fun D hD=>by have:=hold D hD;exact⟨by omega,fun hz=>(hZf _ hz).2.2.2.2.2 D hD rfl⟩⟩
   rw[show E.F.round=some l0 from hro,←hW1,hr]
   exact run_enterLoop_inner g3 _ _ _ _ _
 have hlow1:∀k,k<w.heap.size→W1.heap[k]?=w.heap[k]?:=fun k hk=>hBW.block k hk
 have hsW:=hBW.size
 have hpinl:∀p∈E.pins,p.1≠l:=fun p hp=>by
  have:=(Array.getElem?_eq_some_iff.1 (hb5.pin p hp).2.2).1
  omega
 have hpinB:∀p∈E.pins,p.1<W1.heap.size∧¬Z p.1:=fun p hp=>by
  have:=(Array.getElem?_eq_some_iff.1 (hb5.pin p hp).2.2).1
  exact⟨by omega,fun hz=>(hZf _ hz).2.2.2.2.1 p hp rfl⟩
 have hlZ:l<W1.heap.size∧¬Z l:=⟨hlW,fun hz=>by have:=(hZf _ hz).2.1;omega⟩
 have hh7:∀key x,look (slots++boxes s0) key=some x→Holds c5 a1 W1 key x:=fun key x hx=>keep_holds (fun b hb'=>hlow1 b (hall6 b hb')) hw1 (BelX.of (hBW.mono (Nat.zero_le _))) (by rw[ha1]) (hh5 key x hx)
 obtain⟨J,hJ⟩:∃J:σ×Option Code→Mem→(Nat→Prop)→World→Prop,J=fun q=>JR E u a1 W1.heap.size Z l r (slots++boxes q.1) q.2:=⟨_,rfl⟩
 have hst:∀q,Stable (J q):=fun q=>by
  rw[hJ]
  exact JR.stable hpinB (by omega) (fun b hz=>(hZf b hz).1) hlZ ⟨hrD,hDZ⟩ hdef
 have hnow:∀i x,L[i]?=some x→(iterG (stepG step) (s0,none) (L.take i)).2=true→∃q,iterG (stepG step) (s0,none) (L.take i)=((q,none),true):=by
  intro i x _ h
  have h2:=(iter_none step s0 (L.take i) (s0,none) rfl).1 h
  refine⟨(iterG (stepG step) (s0,none) (L.take i)).1.1,?_⟩
  refine Prod.ext (Prod.ext rfl h2) h
 have hcb:∀v,v=Value.func (.yield l) #[] #[]→∀(i:Nat)(x:α),L[i]?=some x→(iterG (stepG step) (s0,none) (L.take i)).2=true→
   CbOk E.P v (encs x) (.bool (stepG step (iterG (stepG step) (s0,none) (L.take i)).1 x).2) (J (iterG (stepG step) (s0,none) (L.take i)).1) (J (stepG step (iterG (stepG step) (s0,none) (L.take i)).1 x).1):=by
  rintro v rfl i x hx hrun
  obtain⟨q,hq⟩:=hnow i x hx hrun
  rw[hq]
  intro h Y W vs hwW hYlt hJ0 hargs
  refine .inr ⟨l,rfl,?_⟩
  have hJ0':JR E u a1 W1.heap.size Z l r (slots++boxes q) none h Y W:=by rw[hJ]at hJ0;exact hJ0
  have:=round_ok (s1:=(step q x).1) (j:=(step q x).2) hpinl r (ps:=ps) (xs:=encs x) (vs:=vs) (B1:=W1.heap.size) (by omega) hlZ hDX hDl (by rw[hrt,ha1]) hrp (hpl x).symm hpw
   (fun p hp=>by have:=List.all_eq_true.1 hpt p hp;simp only[Bool.and_eq_true,Nat.blt_eq]at this;exact this.1) (fun p hp=>by have:=List.all_eq_true.1 hpt p hp;simp only[Bool.and_eq_true,Nat.blt_eq]at this;exact this.2) (htup x) hYlt hwW hJ0' hargs (hhi _) (hslots _)
   (fun c0 w0 p1 p2 k1 k2=>by rw[hra,hrb];exact hround i x q hx hq _ c0 w0 p1 p2 k1 k2)
  rw[hJ]
  exact this
 have hG:=hseq J (stepG step) (s0,none) (fun v=>v=.func (.yield l) #[] #[]) hst hcb
 obtain⟨cL,hcL⟩:∃cL:Ctx,cL=⟨c5.h,lo,fun _=>none,fun b=>b<W1.heap.size∧¬Z b⟩:=⟨_,rfl⟩
 have hCtx:CtxOk (kb.map (·.1)) cL W1:=by
  rw[hcL]
  refine⟨hw1,fun k b e=>?_,(fun k m hv b e=>by cases e),fun k hk=>⟨hln k hk,rfl⟩,fun b hy=>⟨hy.1,fun k e=>hy.2 (by rw[hZ];exact⟨k,e⟩),(fun k m hv e=>by cases e)⟩⟩
  have hz:Z b:=by rw[hZ];exact⟨k,e⟩
  obtain⟨f1,f2,f3,_⟩:=hZf b hz
  exact⟨List.contains_iff_mem.1 (hlu k b e).2,by omega,f3,(hlu k b e).1,(fun k' m hv e=>by cases e)⟩
 have hrd:∀p∈(3000,X.res (J (s0,none)))::boxSt kb,∀b:Act,Holds cL b W1 p.1 p.2:=by
  intro p hp b
  rcases List.mem_cons.1 hp with rfl|hp
  ·unfold Holds
   rw[if_neg (by omega),if_neg (by omega),if_neg (by omega)]
   refine .inr ⟨rfl,_,rfl,hst _,?_⟩
   rw[hJ,hcL]
   refine⟨c5,hb7,Mem.le_refl _,fun p v e=>.inl e,fun b hb' hz=>⟨hb',hz⟩,fun b hb'=>⟨by have:=hall6 b hb';show b<_;omega,fun hz=>(hZf b hz).2.2.2.1 hb'⟩,hL1,(fun h=>by have:=hall6 _ h;omega),⟨hK1,hnD⟩,hh7⟩
  ·obtain⟨q,hq,rfl⟩:=List.mem_map.1 hp
   have h2:=List.all_eq_true.1 hkd q hq
   simp only[Bool.and_eq_true,Nat.blt_eq]at h2
   obtain⟨b',o,f1,f2,f3⟩:=hbx q hq
   unfold Holds
   rw[if_neg (by omega),if_pos (by have:=h2.1.1.2;omega)]
   rw[hcL]
   refine .inr ⟨b',o,?_,?_,f3.mono ⟨Mem.le_refl _,fun _ _ e=>e,(fun _ _ _ _ e=>by cases e)⟩⟩
   ·show lo (1000+q.1 - 1000)=some b'
    rw[show 1000+q.1 - 1000=q.1 by omega]
    exact f1
   ·exact(hlow1 b' (Array.getElem?_eq_some_iff.1 f2).1).trans f2
 have hcalls:=hG cL W1 (.func (.yield l) #[] #[]::cvs) hCtx hrd ⟨rfl,hcv.mono fun _ _ h=>h.mono (by rw[hcL];exact⟨Mem.le_refl _,fun _ _ e=>e,(fun _ _ _ _ e=>by cases e)⟩)⟩
 have harr:(Value.func (.yield l) #[] #[]::cvs).toArray= #[Value.func (.yield l) #[] #[]]++cvs.toArray:=by simp
 refine⟨l,ds,W1,{target:=.fn (.func gf) cvs.toArray,args:=#[.func (.yield l) #[] #[]]},W1,gf,#[.func (.yield l) #[] #[]]++cvs.toArray,W1,?_,?_,?_,?_,(fun h=>by cases h),?_⟩
 ·exact hrun
 ·simp only[resolve,hev]
  simp[go_sem]
 ·intro f' hf';trivial
 ·simp[invoke,go_sem,hcall]
 ·have h1:CallsIn E.F (0 - 1) E.P gf (#[.func (.yield l) #[] #[]]++cvs.toArray) W1 _:=(callsIn_wide (n:=0)).2 (harr▸hcalls)
  refine h1.mono ?_
  rintro e W2 ⟨v,c',rfl,hp⟩
  have hJ1:=hp.wr (3000,.res (J (iterG (stepG step) (s0,none) L).1)) (by simp) a1
  unfold Holds at hJ1
  rw[if_neg (by omega),if_neg (by omega),if_neg (by omega)]at hJ1
  rcases hJ1 with h|⟨_,J',e1,_,hJ2⟩
  ·cases h
  cases e1
  rw[hJ]at hJ2
  obtain⟨q,hq⟩:∃q,q=(iterG (stepG step) (s0,none) L).1:=⟨_,rfl⟩
  rw[←hq]at hJ2
  obtain⟨c8,hb8,_,_,_,hall8,hrec8,hnl8,_,hh8⟩:=hJ2
  have hend8:=run_endLoop (P:=E.P) (l:=l) (w:=W2) (r:={state:=rst q.2,pending:=q.2,fn:=r.fn,tmps:=r.tmps,params:=r.ps,assign:=r.assign,body:=r.body,defers:=r.D}) hrec8 (by show rst q.2≠.busy;unfold rst;split<;>(intro h;cases h))
  refine⟨q.2,_,hend8,?_⟩
  obtain⟨W3,hW3⟩:∃W3,W3=W2.putObj l (.loop {state:=.exhausted,pending:=q.2,fn:=r.fn,tmps:=r.tmps,params:=r.ps,assign:=r.assign,body:=r.body,defers:=r.D}):=⟨_,rfl⟩
  have ho3:∀k,k≠l→W3.heap[k]?=W2.heap[k]?:=fun k hk=>by rw[hW3];exact World.putObj_heap_other hk
  have hc3:∀p,W3.cell? p=W2.cell? p:=fun p=>by rw[hW3];exact cell_putObj hrec8 rfl rfl p
  have hB3:BelX 0 (fun _=>False) W2 W3:=by rw[hW3];exact⟨rfl,rfl,rfl,by simp,fun k hk=>by omega⟩
  have good:Good E u (slots++boxes q.1) a1 W3:=by
   refine⟨c8,hb8.keep (fun p hp=>ho3 _ (hpinl p hp)) hB3 (fun b hb'=>ho3 b (by omega)) (fun p v e=>by rw[hc3];exact hb8.hw p v e) ?_,fun key x hx=>keep_holds (fun b hb'=>ho3 b fun e=>hnl8 (e▸hb')) (fun p v e=>by rw[hc3];exact hb8.hw p v e) hB3 rfl (hh8 key x hx)⟩
   intro D f1 _
   refine(ho3 D ?_).trans f1
   rintro rfl
   rw[hrec8]at f1;cases f1
  show(match q.2 with|none=>_|some c=>_)
  have ha1':({tmps:=a.tmps,defers:=ds++a.defers}:Act)=a1:=by rw[ha1]
  rw[←hW3]
  cases hq2:q.2 with
  |none=>
   refine⟨u,slots++boxes q.1,by rw[ha1'];exact good,hend q.1 ?_⟩
   refine Prod.ext (hq.symm.trans (Prod.ext rfl hq2)) ((iter_none step s0 L (s0,none) rfl).2 (by rw[←hq];exact hq2))
  |some cd=>
   have:=hjump q.1 cd (hq.symm.trans (Prod.ext rfl hq2)) a1 W3 good
   rw[ha1']
   exact this
theorem SeqOk.toB{α:Type}{P:Program}{gf:Nat}{caps:List X}{encs:α→List X}{l:List α}(h:SeqOk P gf caps encs l):SeqOkB P gf [] caps encs l:=fun J g s0 Φ hst hcb=>h J g s0 Φ hst hcb
theorem OK.rangeFunc{σ α:Type}{go:Operand}{ps:List Nat}{assign body:Code}{gf:Nat}{caps:List X}{encs:α→List X}{L:List α}{r:St}(u:List Nat)(slots:St)(boxes:σ→St)(s0:σ)(step:σ→α→σ×Option Code)
  (hseq:SeqOk E.P gf caps encs L) (hcall:∀args w,(callFunc gf args).run E.P w=.ok (.enter gf args) w) (hro:E.round=none∨∃l0,E.round=some l0∧PinOk l0 E.pins) (hg:OpS s go (.fn gf caps) r) (hc1:caps.all (okP [])=true) (hc2:caps.all (fun u=>!notCell u)=true)
  (hle:Le s (slots++boxes s0)) (ho:∀q,(slots++boxes q).all (okKey u)=true) (hhi:∀q,(boxes q).all (hiKey u)=true) (hslots:∀q,slots.all (slotOk (boxes q))=true)
  (hpl:∀x,(encs x).length=ps.length) (htup:∀x,(encs x).all (fun x=>!isTup x)=true) (hpw:ps.Pairwise (· ≠ ·)) (hpt:ps.all (fun p=>Nat.blt p E.nt&&Nat.blt p 1000)=true)
  (hround:∀(i:Nat)(x:α)(q:σ),L[i]?=some x→iterG (stepG step) (s0,none) (L.take i)=((q,none),true)→∀(l:Nat)(c0:Ctx)(w0:World)(p1 p2:List (Nat×Obj)),RndOk E (rE E u c0 w0 l p1) l→RndOk E (rE E u c0 w0 l p2) l→
   OK (rE E u c0 w0 l p1) assign (fun e U s'=>e=.normal∧OK (rE E u c0 w0 l p2) body (den (rE E u c0 w0 l p2) (RoundQ boxes (step q x)) []) U s') u (psSt ps (encs x)++(slots++boxes q)))
  (hend:∀q,iterG (stepG step) (s0,none) L=((q,none),true)→den E Q k .normal u (slots++boxes q))
  (hjump:∀q cd,(iterG (stepG step) (s0,none) L).1=(q,some cd)→OK E cd (den E Q k) u (slots++boxes q)):OK E (.rangeFunc go ps.toArray assign body) (den E Q k) U s:=
 OK.rangeFuncB u slots boxes s0 step [] hseq.toB trivial rfl hcall hro hg (by
  rw[List.all_eq_true]at hc1 hc2⊢
  intro x hx
  have h1:=hc1 x hx
  have h2:=hc2 x hx
  cases x<;>first|(cases h1;done)|(simp only[okCapB,Bool.and_eq_true];exact⟨h1,h2⟩)) hle ho hhi hslots hpl htup hpw hpt hround hend hjump
end
end Go.Ab
namespace Go.Ab
open Go.RowKit
section
variable{E:Env}{all:Array Oper}{s r r1 r2 r3 rg:St}{d ty:Nat}{pos:String}{after:Array Edge}{guard:Option (Nat×Bool)}{x y z:Operand}
theorem S.mkData{t e sz bytes n:Nat}{ps:List (Nat×Operand)}{us:List X}{rows:List (List X)}(hA:ApI E.P t e sz bytes)(hg:Gd all s guard rg)(hd:(Nat.blt d 1000&&Nat.blt d E.nt)=true)
  (hx:OpsS s (ps.map (·.2)) us r) (hu:us.all okSt=true) (_hrows:us.map cellsX=rows) (hf:fillX (fun i=>some (i * sz,sz)) (List.replicate (n * sz) .any) ((ps.map (·.1)).zip us)=some rows.flatten)
  (hr:rows.all (fun q=>Nat.beq q.length sz)=true) (hn:rows.length=n) (hD:rows.flatten.all okD=true) (hbig:Nat.ble (n * sz) 16777216=true):
  St1 E all ⟨some d,.buildSlice t n ps.toArray,ty,pos,after,guard⟩ s (rg++r) [(d,.sl rows)] []:=
 St1.mk hg hd rfl hx.looks fun U c a w hb hrr hal=>by
  clear _hrows hal
  rw[Nat.ble_eq]at hbig
  have hrow:∀q∈rows,q.length=sz:=fun q hq=>Nat.eq_of_beq_eq_true ((List.all_eq_true.1 hr) q hq)
  have hfl:rows.flatten.length=n * sz:=by rw[flatten_length hrow,hn]
  obtain⟨hsz,zv,hz,hzs⟩:=hA.run
  have hbase:∀(q:Array Value),q.size=n * sz→All2 (RepC c) (List.replicate (n * sz) .any) q.toList:=fun q hq=>All2.of_get (by simp[hq]) fun i u v hu _=>by
   simp only[List.getElem?_replicate]at hu
   split at hu
   ·cases hu;exact trivial
   ·cases hu
  obtain⟨cells,h1,h2⟩:=fill_rep (c:=c) (fun i=>some (i * sz,sz)) _ _ _ (((Array.range (n * sz)).map fun i=>(if n * sz=0 then #[]else zv.cells)[i % (if n * sz=0 then #[]else zv.cells).size]!)) rows.flatten (hbase _ (by simp)) (parts_rep (hx.rep (c:=c) (a:=a) (w:=w) hrr) hu) hf
  have hcs:cells.size=n * sz:=by have:=h2.length;rw[hfl]at this;simpa using this.symm
  have hB:=below_alloc w (.cells cells e)
  have hnewb:(w.alloc (.cells cells e)).heap[w.heap.size]?=some (.cells cells e (0,0)):=heap_alloc_new w _
  have hds:=Ds_of h2 hD
  obtain⟨h',hh'⟩:∃h':Mem,h'=fun p=>if p.block=w.heap.size then(w.alloc (.cells cells e)).cell? p else c.h p:=⟨_,rfl⟩
  have hle:Mem.le c.h h':=by
   intro p u hp
   rw[hh']
   dsimp only
   rw[if_neg (by have:=block_lt_of_cell (hb.hw p u hp);omega)]
   exact hp
  have hnw:∀p u,h' p=some u→c.h p=some u∨w.heap.size≤p.block:=fun p u hp=>by
   rw[hh']at hp
   dsimp only at hp
   split at hp
   ·exact .inr (by omega)
   ·exact .inl hp
  have hbase2:=hb.below_grow hB hle hnw (fun p u hp=>by
   rw[hh']at hp
   dsimp only at hp
   split at hp
   ·exact hp
   ·rw[hB.cell (block_lt_of_cell (hb.hw p u hp))];exact hb.hw p u hp)
  have hext:Ext c ⟨h',c.loc,c.arr,c.Y⟩:=⟨hle,fun _ _ e=>e,fun _ m hv lv e=>⟨m,hv,lv,e,Nat.le_refl _,fun _=>rfl⟩⟩
  refine⟨.slice (some ⟨w.heap.size,0,none⟩) n n,⟨h',c.loc,c.arr,c.Y⟩,w.alloc (.cells cells e),?_,hbase2,hext,?_,(fun p hp=>by cases hp),fun key u hkey _ hu=>Holds.below hb hB hext (fun _ _ _ e=>e) rfl hnw hbase2.hw hkey hu⟩
  ·have hnb:¬(n * sz>2 ^ 24):=by omega
   simp only[execOp,Instr.buildSlice,Sem.run_bind,run_underlying hA.und,Result.andThen_ok,hsz,hnb,if_false]
   by_cases h0:n * sz=0
   ·simp only[h0,if_true]at h1
    simp at h1
    simp[h0,h1,newRow]
   ·simp only[h0,if_false]at h1
    simp[h0,hz,h1,newRow]
  ·have hpos:=hA.pos
   have hnn:n≤n * sz:=Nat.le_mul_of_pos_right n hpos
   have:RepD h' (.sl rows) (.slice (some ⟨w.heap.size,0,none⟩) rows.length n):=by
    refine .sl rows w.heap.size 0 n sz cells.toList (by omega) (by unfold maxLen;omega) hrow (by rw[hfl];simp[hcs]) ?_ ?_
    ·intro i v hv
     rw[hh']
     dsimp only
     rw[if_pos rfl,cell_of_row _ w.heap.size (0+i) cells e (0,0) hnewb,Nat.zero_add]
     simpa using hv
    ·intro i u v hu hv
     exact(hds.get hu hv).mono hle
   rw[hn]at this
   exact RepD.toT (c:=⟨h',c.loc,c.arr,c.Y⟩) this
end
section
variable{E:Env}{all:Array Oper}{l:List Oper}{U:List Nat}{s:St}{Q:Exit→List Nat→St→Prop}
theorem RK.freeze(t:Nat){k n sz:Nat}{rows:List (List X)}(ht:Nat.blt t 1000=true)(hl:look s t=some (.own k n))(hl2:look s (2000+k)=some (.arr sz rows))(hn:rows.length=n)
  (h:RK E all l U ((t,.sl rows)::(2000+k,.any)::s) Q) (hk9:E.fs.contains k=false:=by rfl):RK E all l U s Q:=
 fun k0 hk a w hg=>h k0 hk a w (hg.freeze ht hl hl2 hn (nfs hk9))
end
end Go.Ab
