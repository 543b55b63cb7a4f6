import Derived.Test.YtlmhpcghgjdjjaaGreatDoorRq
set_option linter.all false
set_option maxHeartbeats 4000000
open List renaming length->R
namespace Go.Proofs.Z9
open Go.Ab Tryz
set_option maxRecDepth 9999
def Qp(n:Net)(l:List Entry)(num:Int):Option Part:=(((bl n l).1.vr num).bind fun i=>(bl n l).1.parts[i]?).map (·.1)
def Part.zero:Part:=⟨0,[],0,[],[],0,false,0,false,Span.zero⟩
def UI(n:Net)(l:List Entry)(num:Int):Part:=if fV n l num≠0 then Part.zero else(Qp n l num).getD Part.zero
def Ti(n:Net)(l:List Entry)(num:Int):Bool:=if fV n l num≠0 then false else Ac ((Qp n l num).getD Part.zero)
def g_(r:ba)(k:Int)(p:Part):Bool:=decide (p.oF=r/\p.iN=k)
def b_(r:ba)(k:Int)(p:Rec):Bool:=decide (p.name=r/\p.iN=k)
def ofV_eq{r:ba}{k:Int}{p:Part}:Ap [.s p.oF,.i p.iN] [.s r,.i k]=g_ r k p:=by simp[Ap,Pl.eq,g_]
def isV_eq{r:ba}{k:Int}{p:Rec}:Ap [.s p.name,.i p.iN] [.s r,.i k]=b_ r k p:=by simp[Ap,Pl.eq,b_]
def ax.Lk(H:ax)(r:ba)(k:Int):Bool:=H.aU.any fun q=>b_ r k q.1
def LB(n:Net)(l:List Entry)(r:ba)(k:Int):Int:=if(bl n l).2.2≠0 then(bl n l).2.2 else if(bl n l).1.Lk r k then 0 else 6
def x_(n:Net)(l:List Entry)(r:ba)(k:Int):bd:=if LB n l r k≠0 then []else(bl n l).1.numbers (g_ r k)
def d_(A:HA)(r:ba)(k:Int):A.plain.Lk r k=A.aU.any fun v=>b_ r k v.r:=by
 show((A.aU.map fun v=>(v.r,v.entry)).any fun q=>b_ r k q.1)=_;rw[List.any_map];rfl
def State.Lk(s:State)(r:ba)(k:Int):Bool:=s.yB.any (b_ r k)
def State.Qk(s:State)(r:ba)(k:Int):bd:=(s.parts.filter (g_ r k)).map (·.num)
def st_hasV(H:ax)(r:ba)(k:Int):H.st.Lk r k=H.Lk r k:=by
 show(H.aU.map (·.1)).any (b_ r k)=_;rw[List.any_map];rfl
def st_partsV(H:ax)(r:ba)(k:Int):H.st.Qk r k=H.numbers (g_ r k):=by
 show((H.parts.map (·.1)).filter (g_ r k)).map (·.num)=_;rw[pA,x3];rfl
def PK{r:ba}{k:Int}:(!Ap [.s r,.i k] [.s r,.i k])=false:=by simp[Ap,Pl.eq]
def numE_find(H:ax)(num:Int):(if¬(0<=num/\num<=1000000)then 2 else if bq (fun p:Part=>decide (p.num=num)) 0 H.st.parts<0 then 6 else 0)=sU num (H.vr num).isSome:=by
 have e:H.vr num=ix (fun p:Part=>decide (p.num=num)) H.st.parts:=(j4 (fun q:Part×bd=>q.1) (fun p:Part=>decide (p.num=num)) H.parts 0).symm;rw[e];unfold sU;by_cases h:0<=num/\num<=1000000
 ·rw[Zm (Zp h),Zz h];by_cases a:bq (fun p:Part=>decide (p.num=num)) 0 H.st.parts<0
  ·rw[Zn a,X1 a];rfl
  obtain⟨j,b⟩:=X2 a;rw[Zm a,b];rfl
 rw[Zn h,Zy h];rfl
def found_at{n:Net}{l:List Entry}{num:Int}(h:fV n l num=0):∃(i:Nat)(hi:i<R (RJ n l).parts),bq (fun p:Part=>decide (p.num=num)) 0 (RJ n l).parts=i/\Qp n l num=some (RJ n l).parts[i]:=by
 have h0:=wm h;have b:RJ n l=(bl n l).1.st:=Zm (Zp h0);obtain⟨i,hi⟩:=Cy h;have e:(bl n l).1.vr num=ix (fun p:Part=>decide (p.num=num)) (RJ n l).parts:=by rw[b];exact(j4 (fun q:Part×bd=>q.1) (fun p:Part=>decide (p.num=num)) _ 0).symm
 obtain⟨a,_⟩:=eE (e▸hi);refine⟨i,a,ZC (e▸hi),?_⟩;unfold Qp;rw[hi,bφ,←i7,←Zv a,b];rfl
def Pd(P:ax->Prop)(a:∀H x,P H->(bX H x).2=0->P (bX H x).1):∀(l:List Entry)(H:ax)(i:Nat),(runT H i l).2.2=0->P H->P (runT H i l).1
 |[],_,_,_,h=>h
 |x::l,H,i,h0,h=>by
  rw[runT]at h0⊢;by_cases e:(bX H x).2=0
  ·rw[Zm (Zp e)]at h0⊢;exact Pd P a l _ _ h0 (a H x h e)
  rw[Zn e]at h0;exact absurd h0 e
def To{n:Net}{l:List Entry}(P:ax->Prop)(hi:∀n p,bA p=0->P (ax.init n p))(a:∀H x,P H->(bX H x).2=0->P (bX H x).1)(h:(bl n l).2.2=0):P (bl n l).1:=by
 obtain⟨b,_,e⟩:=Sv h;rw[e]at h⊢;exact Pd P a l _ _ h (hi _ _ (vP (B6 b).2))
def LZ{n:Net}{l:List Entry}(h:(bl n l).2.2=0):HS (bl n l).1:=To HS (fun _ _ h=>HS.init h) (fun _ x h _=>h.enter x) h
def h_{n:Net}{l:List Entry}{num:Int}(s:R n.aS<=1000)(u:sS l):gz prog 13 [.agg n.cs,.sl (l.map Entry.cs),bv num] (.cf [.agg (UI n l num).cs,bv (fV n l num)]):=by
 refine cT func13 O fun t=>?_
 refine ro 12 O ?_;refine RK.qz (((Am s u).at t)) (fun _=>pP.az _ _ _) (fun _=>pP.mono) call62 O (zc O (zc O (zc O .nil))) O fun A=>?_
 refine rr 14 O (kB O (fun d=>?_) (fun d=>?_))
 ·have r:UI n l num=Part.zero:=Zn d;refine kr (kc (zU oy O O) (rr 5 O (OK.ret (aA.r2 (.bG O O O O T7 O (.k (.same O) (.k (.same O) (.k (.same O) (.k (.same O) (.k .bO (zw O))))))) (zo O O) ?_))));rw[r];rfl
 have a:fV n l num=0:=Zu.1 d;have g:(bl n l).2.2=0:=wm a;refine OK.ud g O fun m e=>?_
 have j:A.plain.vr num=ix (fun v=>decide (v.p.num=num)) A.parts:=HA.gG A num;obtain⟨i,f⟩:=Cy a;have c:ix (fun v=>decide (v.p.num=num)) A.parts=some i:=by rw[←j,e];exact f
 obtain⟨v,h⟩:=at_of_lt (eE c).1;have q:qy n l num A=pV v.b:=by unfold qy;rw[Zn g];exact gd c (HA.Bt h)
 rw[q];have o:Qp n l num=some v.p:=by unfold Qp;rw[f,bφ,←e,HA.dh h];rfl
 have r:UI n l num=v.p:=by unfold UI;rw[Zm (by rw[a];decide),o];rfl
 refine ro 7 O ?_;refine kc (zJ (us:=v.p.cs) T7 O (aa.Ej (k:=.p i) (xs:=v.cs) (HA.dm h) ⟨.same _,.same _,.same _,.same _,.sl (m.IE h),.same _,.same _,.same _,.same _,.same _,.same _,.same _,.same _,Zo⟩ O)) ?_;refine rr 4 O (kT O O T7 O O O ?_);rw[r,a];try rfl
def KY{n:Net}{l:List Entry}{num:Int}(r:R n.aS<=1000)(x:sS l):gz prog 16 [.agg n.cs,.sl (l.map Entry.cs),bv num] (.cf [.bool (Ti n l num),bv (fV n l num)]):=by
 refine cT func16 O fun u=>?_
 refine ro 12 O ?_;refine RK.qz (((Am r x).at u)) (fun _=>pP.az _ _ _) (fun _=>pP.mono) call62 O (zc O (zc O (zc O .nil))) O fun A=>?_
 refine rr 8 O ?_;by_cases a:fV n l num=0
 ·have g:(bl n l).2.2=0:=wm a;refine OK.ud g O fun s e=>?_
  have j:A.plain.vr num=ix (fun v=>decide (v.p.num=num)) A.parts:=HA.gG A num;obtain⟨i,f⟩:=Cy a;have d:ix (fun v=>decide (v.p.num=num)) A.parts=some i:=by rw[←j,e];exact f
  obtain⟨v,h⟩:=at_of_lt (eE d).1;have m:qy n l num A=pV v.b:=by unfold qy;rw[Zn g];exact gd d (HA.Bt h)
  rw[m];have k:Qp n l num=some v.p:=by unfold Qp;rw[f,bφ,←e,HA.dh h];rfl
  have o:Ti n l num=Ac v.p:=by unfold Ti;rw[Zm (by rw[a];decide),k];rfl
  refine ro 4 O (RK.bh (t:=19) O (fun c=>?_) (fun c=>?_))
  ·refine kc (S.move (zg O O) O (zt O)) (kc (S.fI ((fun J q w=>(uS h q w).jR q)) call63 (zg O O) O (zc O .nil) O O) ?_);refine rr 6 O (kS O O O O ?_);rw[o];try rfl
  exact absurd a c
 have o:Ti n l num=false:=Zn a;refine ro 4 O (RK.bh (t:=19) O (fun c=>?_) (fun c=>?_))
 ·exact absurd c a
 refine rr 8 O (kS O O O O ?_);rw[o];try rfl
def KZ{A:HA}{i:Nat}{v:jT}(a:A.aU[i]?=some v){r:ba}{k:Int}{J:bm}(e:aZ J)(d:∀h Y w,J h Y w->aa A.mem h Y w):dF prog 66 [] [.raw (pV v.b),.b5 [.str r,.int .i64 k]] [(3000,.res J)] [(3000,.res J)] (.bool (b_ r k v.r)):=by
 refine cG func66 O (ro 6 O ?_);refine kV (.c (zm O) (.c (zn O O) (.c (zr Vg O) (.c (zr WW O) (.c (zJ (us:=[.str v.r.name,bv v.r.iN]) MO O (td d (aa.Ej (k:=.v i) (xs:=v.cs) (HA.Cz a) ⟨.same _,.same _,Zo⟩ O))) (.c (S.fG MO .none O (zt O) O O) (.c (S.Mp (b:=b_ r k v.r) [.s [],.i 0] [.s v.r.name,.i v.r.iN] [.s r,.i k] Td .none O (zt O) (zt O) O O O O isV_eq) (.c (za O) .nil)))))))) (Ab.D.code (OK.ret ⟨aA.r1 (zo O O) ?_,O,Zo⟩));rfl
def K1{A:HA}{i:Nat}{v:aB}(a:A.parts[i]?=some v){r:ba}{k:Int}{J:bm}(e:aZ J)(d:∀h Y w,J h Y w->aa A.mem h Y w):dF prog 68 [] [.raw (pV v.b),.b5 [.str r,.int .i64 k]] [(3000,.res J)] [(3000,.res J)] (.bool (g_ r k v.p)):=by
 refine cG func68 O (ro 6 O ?_);refine kV (.c (zm O) (.c (zn O O) (.c (zr YP O) (.c (zr Yt O) (.c (zJ (us:=[.str v.p.oF,bv v.p.iN]) MO O (td d (aa.Ej (k:=.p i) (xs:=v.cs) (HA.dm a) ⟨.same _,.same _,Zo⟩ O))) (.c (S.fG MO .none O (zt O) O O) (.c (S.Mp (b:=g_ r k v.p) [.s [],.i 0] [.s v.p.oF,.i v.p.iN] [.s r,.i k] Td .none O (zt O) (zt O) O O O O ofV_eq) (.c (za O) .nil)))))))) (Ab.D.code (OK.ret ⟨aA.r1 (zo O O) ?_,O,Zo⟩));rfl
def rec_ixV{A:HA}{m:Int}(d:A.Ok m){J:bm}(o:aZ J)(y:∀h Y w,J h Y w->aa A.mem h Y w){f:Nat}{caps:bi}(a:∀args w,(callFunc f args).run prog w=.ok (.enter f args) w)(e:caps.all (mE [])=true)(l:caps.all (fun u=>!bR u)=true){g:Rec->Bool}(t:∀(i:Nat)(v:jT),A.aU[i]?=some v->dF prog f [] (.raw (pV v.b)::caps) [(3000,.res J)] [(3000,.res J)] (.bool (g v.r))):dF prog 102 [] [.sl (A.aU.map jU),.fn f caps] [(3000,.res J)] [(3000,.res J)] (.int .i64 (bq (fun v=>g v.r) 0 A.aU)):=by
 refine cG func102 O fun{_ _}=>?_
 have s:=d.lv;have q:=d.m0;refine ro 9 O (kc (zk Qh O) (rr 4 O ?_));refine OK.loop (G:=Nat) [] (fun i=>[(0,.sl (A.aU.map jU)),(1,.fn f caps),(6,.sl (A.aU.map jU)),(7,bv (R A.aU)),(8,bv i),(3000,.res J)]) (fun i=>i<=R A.aU/\bq (fun v=>g v.r) 0 A.aU=bq (fun v=>g v.r) i (A.aU.drop i)) (fun i=>R A.aU - i) 0 ⟨Zr _,O⟩ ⟨O,O,O,O,O,O,Zo⟩ (fun _=>rn (fun b=>b&&true) (CV (U:=[]) e)) ?_;rintro i ⟨hi,k⟩;refine ro 6 O (kB O (fun x=>?_) (fun x=>?_))
 ·have j:i<R A.aU:=by omega
  have p:A.aU[i]?=some A.aU[i]:=Zv j;refine ro 15 O (kc (zI Qh O I O) (kc (zV RM O O) ?_));refine RK.c (S.uy (((t i _ p).jR o)) o a .none O (zt O) (zc O .nil) O O e l) ?_;refine kD (OK.cond O O (fun n=>?_) (fun n=>?_))
  ·refine ro 6 O (OK.ret ⟨aA.r1 (zo O O) ?_,O,Zo⟩);refine cy ?_;rw[k,bT _ I];simp_all
  refine Ro 7 O I (Ab.D.lp ⟨i+1,⟨by omega,?_⟩,I,O,O,O,O,O,O,Zo⟩);rw[k,bT _ I];simp_all
 refine ro 7 O (OK.ret ⟨aA.r1 (zo O O) ?_,O,Zo⟩);refine cy ?_;rw[k,show i=R A.aU by omega,no];rfl
def rec_ctV{A:HA}{m:Int}(e:A.Ok m){J:bm}(k:aZ J)(n:∀h Y w,J h Y w->aa A.mem h Y w){f:Nat}{caps:bi}(a:∀args w,(callFunc f args).run prog w=.ok (.enter f args) w)(d:caps.all (mE [])=true)(j:caps.all (fun u=>!bR u)=true){g:Rec->Bool}(l:∀(i:Nat)(v:jT),A.aU[i]?=some v->dF prog f [] (.raw (pV v.b)::caps) [(3000,.res J)] [(3000,.res J)] (.bool (g v.r))):dF prog 65 [] [.sl (A.aU.map jU),.fn f caps] [(3000,.res J)] [(3000,.res J)] (.bool (A.aU.any (fun v=>g v.r))):=by
 refine cG func65 O (ro 9 O ?_);refine RK.c (S.ik (((rec_ixV e k n a d j l).jR k)) k call102 .none O (zc O (zc O .nil)) (by simp[fm,Nn,vt,mE,cO,d]) O) ?_;refine rr 4 O (OK.ret ⟨aA.r1 (zo O O) ?_,O,Zo⟩);exact ew (oB _ A.aU 0)
def y_{n:Net}{l:List Entry}{r:ba}{k:Int}(w:R n.aS<=1000)(y:sS l):gz prog 17 [.agg n.cs,.sl (l.map Entry.cs),.agg [.str r,bv k]] (.cf [ints (x_ n l r k),bv (LB n l r k)]):=by
 refine cT func17 O fun x=>?_
 refine ro 4 O (kc (S.assign .none O .fW) (rr 7 O ?_));refine RK.qz (((lY w y).at x)) (fun _=>pP.az _ _ _) (fun _=>pP.mono) call64 O (zc O (zc O .nil)) O fun A=>?_
 refine rr 16 O (kB O (fun d=>?_) (fun d=>?_))
 ·have a:LB n l r k=(bl n l).2.2:=Zn d;have c:x_ n l r k=[]:=Zn (by rw[a];exact d);refine ro 3 O (kc (S.assign .none O .fW) (rr 3 O (kS O O O O ?_)));rw[a,c];try rfl
 have o:(bl n l).2.2=0:=Zu.1 d;have q:LB n l r k=if(bl n l).1.Lk r k then 0 else 6:=Zm d
 refine ro 4 O (OK.ud o O fun h m=>?_);rw[uc o];have e:=d_ A r k;rw[m]at e;refine OK.freezeP [] [(8,.raw (pV A.b)),(3000,.res (aa A.mem))] 5 O O O O O O ⟨O,O,Zo⟩ O (ro 4 O (kc (zH (u:=.sl (A.aU.map jU)) RH O (aa.dQ (k:=.bn) O O (.sl h.vs))) (kc (S.dx .none O (zt O) O) (kc (S.fI ((fun J j p=>(rec_ctV h j p (f:=66) (caps:=[.b5 [.str r,bv k]]) call66 O O (g:=b_ r k) (fun i v s=>KZ s j p)).jR j)) call65 .none O (zc O (zc O .nil)) O O) ?_))));refine kc (S.not .none O (zt O)) (kD (OK.cond O O (fun t=>?_) (fun t=>?_)))
 ·have a:LB n l r k=6:=by rw[q,e];simp_all
  have c:x_ n l r k=[]:=Zn (by rw[a];decide);refine kr (kc (S.assign .none O .fW) (rr 3 O (kS O O O O ?_)));rw[a,c];try rfl
 have a:LB n l r k=0:=by rw[q,e];simp_all
 have c:x_ n l r k=oc (g_ r k) A.parts:=by unfold x_;rw[Zm (by rw[a];decide),←m,HA.cB]
 refine ro 5 O (kc (S.dx .none O (zt O) O) (kc (S.fI ((fun J j p=>(wv h j p (f:=68) (caps:=[.b5 [.str r,bv k]]) call68 O O (g:=g_ r k) (fun i v s=>K1 s j p)).jR j)) call67 .none O (zc O (zc O .nil)) O O) ?_));refine rr 4 O (kS O O O O ?_);rw[a,c];try rfl
def M8{s:State}{r:ba}{k:Int}:Ct prog 21 [.agg s.cs,.agg [.str r,bv k]] (.bool (s.Lk r k)):=by
 refine cI func21 O (OK.Xq 0 0 (s.yB.map Rec.cs) O O O fun hlen=>?_);rw[Zx]at hlen;unfold maxLen at hlen;refine ro 14 O ?_;refine OK.loop (G:=Nat) [2,3] (fun i=>[(2,.ptr 2 0),(1002,.box s.cs),(3,.ptr 3 0),(1003,.box [.str r,bv k]),(5,bv i)]) (fun i=>i<=R s.yB/\s.Lk r k=(s.yB.drop i).any (b_ r k)) (fun i=>R s.yB - i) 0 ⟨Zr _,O⟩ ⟨O,O,O,O,O,Zo⟩ (fun _=>O) ?_;rintro i ⟨hi,d⟩;refine ro 6 O (kc (zk VB O) (rr 3 O (kB O (fun f=>?_) (fun f=>?_))))
 ·have a:i<R s.yB:=by omega
  refine ro 5 O (kV (.c (zf YS O) (.c (zl VL O O O O) (.c (zm O) (.c (zI VB O I O) (.c (S.field WW .none O (zt O) O) (.c (S.fG MO .none O (zt O) O O) (.c (zL MO O O O O) (.c (S.Mp (b:=b_ r k s.yB[i]) [.s [],.i 0] [.s s.yB[i].name,.i s.yB[i].iN] [.s r,.i k] Td .none O (zt O) (zt O) O O O O isV_eq) .nil)))))))) (Ab.D.code (kB O (fun e=>?_) (fun e=>?_))))
  ·refine ro 5 O (kR O O ?_);refine ew ?_;rw[d,np a,nz];simp_all[b_]
  refine Ro 8 O I (Ab.D.lp ⟨i+1,⟨by omega,?_⟩,I,O,O,O,O,O,Zo⟩);rw[d,np a,nz];simp_all[b_]
 refine ro 7 O (kR O O ?_);refine ew ?_;rw[d,show i=R s.yB by omega,no];rfl
def z_{s:State}{r:ba}{k:Int}(l:R s.parts<=100):Ct prog 23 [.agg s.cs,.agg [.str r,bv k]] (ints (s.Qk r k)):=by
 refine cI func23 O fun{_ _}=>?_
 obtain⟨T,d⟩:∃T:Nat->bd,T=fun i=>((s.parts.take i).filter (g_ r k)).map (·.num):=⟨_,rfl⟩
 refine ro 4 O (kc (S.assign .none O .fW) (rr 4 O (RK.c (S.iI (k:=5) (sz:=1) .none O) (rr 9 O ?_))));refine OK.loop (G:=Nat) [2,3,5] (fun i=>[(2,.ptr 2 0),(1002,.box s.cs),(3,.ptr 3 0),(1003,.box [.str r,bv k]),(5,.own 5 (R (T i))),(2005,.arr 1 (bM (T i))),(6,bv i)]) (fun i=>i<=R s.parts/\R (T i)<=i) (fun i=>R s.parts - i) 0 ⟨Zr _,by rw[d];simp⟩ ⟨O,O,O,O,(cw (by rw[d];rfl)),(bH (by rw[d];rfl)),O,Zo⟩ (fun _=>O) ?_;rintro i ⟨hi,j⟩;refine ro 6 O (kc (zk ZH O) (rr 3 O (kB O (fun h=>?_) (fun h=>?_))))
 ·have f:i<R s.parts:=by omega
  refine ro 5 O (kV (.c (zf ZZ O) (.c (zl ZA O O O O) (.c (zm O) (.c (zI ZH O I O) (.c (S.field Yt .none O (zt O) O) (.c (S.fG MO .none O (zt O) O O) (.c (zL MO O O O O) (.c (S.Mp (b:=g_ r k s.parts[i]) [.s [],.i 0] [.s s.parts[i].oF,.i s.parts[i].iN] [.s r,.i k] Td .none O (zt O) (zt O) O O O O ofV_eq) .nil)))))))) (Ab.D.code (kB O (fun e=>?_) (fun e=>?_))))
  ·have a:T (i+1)=T i++[s.parts[i].num]:=by rw[d];dsimp only;rw[mv f,List.filter_append,ne,List.filter_cons_of_pos (by unfold g_;simpa using e)];rfl
   refine ro 5 O (kc (zI ZH O I O) ?_);refine rr 2 O ?_;refine RK.c (zM [[_]] ZM O O O O) ?_;refine kc (zP ZM O O (by simp[bM]) N I (by simp only[maxLen];omega)) ?_;refine Rr 9 O I ?_;refine Ab.D.lp ⟨i+1,⟨by omega,by rw[a];first|(rw[Zs];simp;omega)|omega⟩,I,O,O,O,O,(cw (by first|(rw[a];simp;done)|rw[a])),(bH (by first|(rw[a];simp[bM];done)|rw[a])),O,Zo⟩
  have a:T (i+1)=T i:=by rw[d];dsimp only;rw[mv f,List.filter_append,List.filter_cons_of_neg (by unfold g_;simpa using e),List.filter_nil,i8]
  refine Ro 8 O I ?_;refine Ab.D.lp ⟨i+1,⟨by omega,by rw[a];first|(rw[Zs];simp;omega)|omega⟩,I,O,O,O,O,(cw (by first|(rw[a];simp;done)|rw[a])),(bH (by first|(rw[a];simp[bM];done)|rw[a])),O,Zo⟩
 refine ro 3 O ?_;have g:T i=s.Qk r k:=by rw[d,show i=R s.parts by omega];dsimp only;rw[List.take_length];rfl
 rw[g];refine ro 5 O ?_;refine OK.ret (aA.r1 (.tmp O O (.c (.own O O N) O) O) ?_);rfl
def v_:Hf prog 39 4:=Hf.AS (T:=37) (am:=3) V underlying39 V V underlying37 V V isAgg37 sizeOf37 underlying3 isAgg3
def Tm{a:Part}:Ct prog 19 [.agg a.cs,.agg a.cs] (.bool true):=by
 refine cI func19 O (OK.Xq 0 4 (a.frames.map Frame.cs) O O O fun hlen=>?_);rw[Zx]at hlen;unfold maxLen at hlen;refine ro 16 O (RK.bh (t:=11) O (fun l=>?_) (fun l=>?_))
 ·exact absurd rfl l
 refine rr 4 O (kc (S.A_ (b:=false) [.s [],.i 0] [.s a.oF,.i a.iN] [.s a.oF,.i a.iN] Td (zg O O) O (zt O) (zt O) O O O O PK) (rr 9 O (RK.bh (t:=25) O (fun k=>?_) (fun k=>?_))))
 ·exact absurd rfl k
 refine rr 7 O (RK.bh (t:=32) O (fun j=>?_) (fun j=>?_))
 ·exact absurd rfl j
 refine rr 4 O (kc (S.u_ underlying4 (zg O O) O (zt O) (zt O)) (rr 2 O (RK.bh (t:=39) O (fun h=>?_) (fun h=>?_))))
 ·simp at h
 refine rr 7 O (RK.bh (t:=46) O (fun g=>?_) (fun g=>?_))
 ·exact absurd rfl g
 refine rr 4 O (kc (S.u_ underlying4 (zg O O) O (zt O) (zt O)) (rr 2 O (RK.bh (t:=53) O (fun f=>?_) (fun f=>?_))))
 ·simp at f
 refine rr 4 O (kc (S.t_ [a.depth.lo.num,a.depth.lo.den,a.depth.hi.num,a.depth.hi.den] [a.depth.lo.num,a.depth.lo.den,a.depth.hi.num,a.depth.hi.den] v_ (zg O O) O (zt O) (zt O) O O O O) (rr 2 O (RK.bh (t:=60) O (fun e=>?_) (fun e=>?_))))
 ·exact absurd rfl e
 refine rr 2 O (kc (S.Hp Y8 (zg O O) O (zt O)) (rr 2 O (kc (S.Hp Y8 (zg O O) O (zt O)) (rr 4 O (kB O (fun m=>?_) (fun m=>?_))))))
 ·exact absurd rfl m
 refine ro 9 O ?_;refine OK.loop (G:=Nat) [2,3] (fun i=>[(2,.ptr 2 0),(1002,.box a.cs),(3,.ptr 3 0),(1003,.box a.cs),(5,bv i)]) (fun i=>i<=R a.frames) (fun i=>R a.frames - i) 0 (Zr _) ⟨O,O,O,O,O,Zo⟩ (fun _=>O) ?_;rintro i hi;refine ro 6 O (kc (zk Y8 O) (rr 3 O (kB O (fun o=>?_) (fun o=>?_))))
 ·have p:i<R a.frames:=by omega
  refine ro 5 O ?_;refine kV (.c (zf Zf O) (.c (zl XO O O O O) (.c (zm O) (.c (zI Y8 O I O) (.c (S.field Th .none O (zt O) O) (.c (zV Z8 O O) (.c (zf Zf O) (.c (zl XO O O O O) (.c (zm O) (.c (zI Y8 O I O) (.c (S.field Th .none O (zt O) O) (.c (zV Z8 O O) (.c (S.neq .none O (zt O) (zt O)) (.c (zm O) (.c (S.dH Zf (.yes O O O F) O (zt O)) (.c (S.fc XO (.yes O O O F) O (zt O) O O O O) (.c (S.move (.yes O O O F) O (zt O)) (.c (S.aP (n:=i) Y8 (.yes O O O F) O (zt O) (zt O) O I O) (.c (S.field Wx (.yes O O O F) O (zt O) O) (.c (S.Hz Zd (.yes O O O F) O (zt O) O) (.c (S.dH Zf (.yes O O O F) O (zt O)) (.c (S.fc XO (.yes O O O F) O (zt O) O O O O) (.c (S.move (.yes O O O F) O (zt O)) (.c (S.aP (n:=i) Y8 (.yes O O O F) O (zt O) (zt O) O I O) (.c (S.field Wx (.yes O O O F) O (zt O) O) (.c (S.Hz Zd (.yes O O O F) O (zt O) O) (.c (S.call (AM (a:=a.frames[i].values) (b:=a.frames[i].values)) call22 (.yes O O O F) O (zc O (zc O .nil)) O) (.c (S.jP (.yes O O O F) O (zt O)) (.c (S.aO .none O (zt O) (zt O) F) .nil))))))))))))))))))))))))))))) ?_;refine Ab.D.code (kB O (fun d=>?_) (fun d=>?_))
  ·simp at d
  refine Ro 8 O I (Ab.D.lp ⟨i+1,I,I,O,O,O,O,O,Zo⟩)
 refine ro 7 O (kR O O ?_);rfl
def L5{n:Net}{l:List Entry}{num k:Int}{r:ba}:gz prog 3 [.agg n.cs,.sl (l.map Entry.cs),.agg [bv num,.str r,bv k]] (.bool true):=by
 refine cT func3 O fun M=>?_
 refine ro 10 O (kc (S.dB (wR) M call10 .none O .nil O) (kc (S.not .none O (zt O)) (rr 9 O (kc (zK (AX (n:=n)) call11 O) (kc (S.not .none O (zt O)) (jm O (RK.split (t:=22) O (fun w=>?_) (fun w=>?_))))))))
 ·refine rr 19 O (kR O O ?_);simp_all
 refine kc (S.move (zg O O) O (zt O)) (kc (S.call (Wc (l:=l)) call12 (zg O O) O (zc O .nil) O) (kc (S.not (zg O O) O (zt O)) (rr 2 O (RK.split (t:=27) O (fun v=>?_) (fun v=>?_)))))
 ·refine rr 14 O (kR O O ?_);simp_all
 refine rr 8 O (kB O (fun c33=>?_) (fun c33=>?_))
 ·refine ro 5 O (kR O O ?_);simp_all
 have U:mo n=true:=by simpa using w
 have N:Z1 l=true:=by simpa using v
 obtain⟨hl1,hl2⟩:=C9 U;obtain⟨hll,P⟩:=OL N;have g:∀y∈l,R y.text<=100000:=fun y hy=>by have:=P y hy;omega
 refine ro 3 O (kV (.c (zL XB O O O O) (.c (zK (se (n:=n) I) call14 O) (.c (zm O) (.c (zK (XE (l:=l) I) call15 O) (.c (zf JV O) (.c (zl Z8 O O O O) (.c (S.dB (h_ (n:=n) (l:=l) (num:=num) I (Ni g)) M call13 .none O (zc O (zc O (zc O .nil))) O) (.c (zm O) (.c (zX O O O) (.c (zX O O O) (.c (zA (c:=7) ze41 O) (.c (zS T7 O O O O O O) (.c (za O) .nil))))))))))))) (Ab.D.code (kO (kV (.c (zL XB O O O O) (.c (zK (se (n:=n) I) call14 O) (.c (zm O) (.c (zK (XE (l:=l) I) call15 O) (.c (zf JV O) (.c (zl Z8 O O O O) (.c (S.dB (KY (n:=n) (l:=l) (num:=num) I (Ni g)) M call16 .none O (zc O (zc O (zc O .nil))) O) (.c (zm O) (.c (zX O O O) (.c (zX O O O) (.c (za O) (.c (za O) .nil)))))))))))) (Ab.D.code (kO (kV (.c (zL XB O O O O) (.c (zK (se (n:=n) I) call14 O) (.c (zm O) (.c (zK (XE (l:=l) I) call15 O) (.c (zf fi31_1 O) (.c (zL MO O O O O) (.c (S.dB (y_ (n:=n) (l:=l) (r:=r) (k:=k) I (Ni g)) M call17 .none O (zc O (zc O (zc O .nil))) O) (.c (zm O) (.c (zX O O O) (.c (zX O O O) (.c (za O) (.c (za O) .nil)))))))))))) ?_)))))));refine rd 6 O (kc (zK (TG (n:=n) (l:=l) I g) call18 O) ?_);refine rr 9 O (kB O (fun d=>?_) (fun d=>?_))
 ·have j:fV n l num=(bl n l).2.2:=Zn d;have f:LB n l r k=(bl n l).2.2:=Zn d;have m:x_ n l r k=[]:=Zn (by rw[f];exact d);have q:UI n l num=Part.zero:=Zn (by rw[j];exact d);have hM:Ti n l num=false:=Zn (by rw[j];exact d);rw[q];refine ro 6 O (RK.bh (t:=72) O (fun g72=>?_) (fun g72=>?_))
  ·refine kc (S.xK T7 (zg O O) O (zt O) O O O O) (kc (S.build oy O (zg O O) O .nil O O) (kc (S.callL (Tm (a:=Part.zero)) call19 (zg O O) O (zc O (zc O .nil)) (.cons (.same O) (.cons (.agg (.cons (.same O) (.cons (.same O) (.cons (.same O) (.cons (.same O) (.cons .bO (.cons (.same O) (.cons (.same O) (.cons (.same O) (.cons (.same O) (.cons (.same O) (.cons (.same O) (.cons (.same O) (.cons (.same O) .nil))))))))))))) O) .nil)) O) (rr 2 O (RK.split (t:=77) O (fun g77=>?_) (fun g77=>?_)))))
   ·refine rr 5 O (RK.bh (t:=82) O (fun Z=>?_) (fun Z=>?_))
    ·refine kc (S.move (zg O O) O (zt O)) (kc (S.not (zg O O) O (zt O)) (rr 2 O (RK.split (t:=86) O (fun Y=>?_) (fun Y=>?_))))
     ·refine rr 5 O (RK.bh (t:=91) O (fun X=>?_) (fun X=>?_))
      ·refine kc (S.move (zg O O) O (zt O)) (kc (S.Hp Z4 (zg O O) O (zt O)) (rr 5 O (kR O O ?_)));simp_all
      refine rr 7 O (kR O O ?_);simp_all
     refine rr 12 O (kR O O ?_);simp_all
    refine rr 16 O (kR O O ?_);simp_all
   refine rr 21 O (kR O O ?_);simp_all
  refine rr 26 O (kR O O ?_);simp_all
 have h0:=Zu.1 d;have L:RJ n l=(bl n l).1.st:=Zm d;have W:(RJ n l).Sm:=L▸(LZ h0).good.sm;have hV:(RJ n l).Lk r k=(bl n l).1.Lk r k:=by rw[L];exact st_hasV _ _ _
 have hW:(RJ n l).Qk r k=(bl n l).1.numbers (g_ r k):=by rw[L];exact st_partsV _ _ _
 refine ro 6 O (kc (zK (Xj (n:=n) (l:=l) I (Sv h0).1 g) call20 O) ?_);refine rr 4 O ?_;refine OK.join (G:=Unit) [5,7,14] (fun _=>[(5,.ptr 5 0),(1005,.box [bv num,.str r,bv k]),(7,.ptr 7 0),(1007,.box (UI n l num).cs),(8,bv (fV n l num)),(9,.bool (Ti n l num)),(10,bv (fV n l num)),(14,.ptr 14 0),(1014,.box (RJ n l).cs)]) (fun _=>True) (fun _=>O) ?_ ?_
 ·refine ro 5 O (kc (zK (M8 (s:=RJ n l) (r:=r) (k:=k)) call21 O) (kD (OK.cond O O (fun h=>?_) (fun h=>?_))))
  ·have f:LB n l r k=0:=by unfold LB;rw[Zm d,Zn (hV▸h)]
   have m:x_ n l r k=(RJ n l).Qk r k:=by rw[hW];exact Zm (by rw[f];decide)
   rw[m];refine ro 5 O (RK.bh (t:=105) O (fun H=>?_) (fun H=>?_))
   ·refine rr 16 O (kR O O ?_);simp_all
   refine rr 4 O (kc (S.call (z_ (s:=RJ n l) (r:=r) (k:=k) W.lp) call23 (zg O O) O (zc O (zc O .nil)) O) (kc (S.call (AM (a:=(RJ n l).Qk r k) (b:=(RJ n l).Qk r k)) call22 (zg O O) O (zc O (zc O .nil)) O) (kc (S.jP (zg O O) O (zt O)) (rr 3 O (kB O (fun K=>?_) (fun K=>?_))))))
   ·refine ro 5 O (kR O O ?_);simp_all
   refine OK.skip (Ab.D.lp ⟨(),Zo,O,O,O,O,O,O,O,O,O,Zo⟩)
  have f:LB n l r k=6:=by unfold LB;rw[Zm d,Zm (by rw[←hV,h];decide)]
  have m:x_ n l r k=[]:=Zn (by rw[f];decide);refine ro 5 O (RK.bh (t:=116) O (fun F=>?_) (fun F=>?_))
  ·refine rr 12 O (kR O O ?_);simp_all
  refine kc (S.move (zg O O) O (zt O)) (kc (S.Hp Z4 (zg O O) O (zt O)) (rr 4 O (kB O (fun J=>?_) (fun J=>?_))))
  ·refine ro 5 O (kR O O ?_);simp_all
  refine OK.skip (Ab.D.lp ⟨(),Zo,O,O,O,O,O,O,O,O,O,Zo⟩)
 rintro _ _;refine kO (kO ?_);have u:=numE_find (bl n l).1 num;rw[←L]at u;have j:fV n l num=sU num ((bl n l).1.vr num).isSome:=Zm d;refine ro 4 O (kc (zK (L6 (s:=RJ n l) (n:=num)) call24 O) (rr 4 O ?_));rw[u,←j];refine ro 5 O (kB O (fun e=>?_) (fun e=>?_))
 ·have q:UI n l num=Part.zero:=Zn e;have hM:Ti n l num=false:=Zn e;rw[q];refine ro 6 O (RK.bh (t:=130) O (fun E=>?_) (fun E=>?_))
  ·refine kc (S.xK T7 (zg O O) O (zt O) O O O O) (kc (S.build oy O (zg O O) O .nil O O) (kc (S.callL (Tm (a:=Part.zero)) call19 (zg O O) O (zc O (zc O .nil)) (.cons (.same O) (.cons (.agg (.cons (.same O) (.cons (.same O) (.cons (.same O) (.cons (.same O) (.cons .bO (.cons (.same O) (.cons (.same O) (.cons (.same O) (.cons (.same O) (.cons (.same O) (.cons (.same O) (.cons (.same O) (.cons (.same O) .nil))))))))))))) O) .nil)) O) (rr 2 O (RK.split (t:=135) O (fun C=>?_) (fun C=>?_)))))
   ·refine rr 5 O (RK.bh (t:=140) O (fun B=>?_) (fun B=>?_))
    ·refine kc (S.move (zg O O) O (zt O)) (kc (S.not (zg O O) O (zt O)) (rr 4 O (kR O O ?_)));simp_all
    refine rr 6 O (kR O O ?_);simp_all
   refine rr 11 O (kR O O ?_);simp_all
  refine rr 16 O (kR O O ?_);simp_all
 have V:=Zu.1 e;obtain⟨i,T,Q,o⟩:=found_at V;have q:UI n l num=(RJ n l).parts[i]:=by unfold UI;rw[Zm e,o];rfl
 have hM:Ti n l num=Ac (RJ n l).parts[i]:=by unfold Ti;rw[Zm e,o];rfl
 rw[q];refine ro 3 O (kV (.c (zf ZZ O) (.c (zl ZA O O O O) (.c (zL Z_ O O O O) (.c (zf JV O) (.c (zl Z8 O O O O) (.c (zK (Vf (s:=RJ n l) (n:=num)) call25 O) (.c (S.aP (n:=i) ZH .none O (zt O) (zt O) Q T O) (.c (S.fG T7 .none O (zt O) O O) (.c (zA (c:=16) ze41 O) (.c (zS T7 O O O O O O) .nil)))))))))) (rd 6 O (RK.bh (t:=154) O (fun A=>?_) (fun A=>?_))))
 ·refine rr 2 O (kc (S.call (Tm (a:=(RJ n l).parts[i])) call19 (zg O O) O (zc O (zc O .nil)) O) (rr 2 O (RK.split (t:=159) O (fun z=>?_) (fun z=>?_))))
  ·refine rr 4 O (RK.bh (t:=163) O (fun x=>?_) (fun x=>?_))
   ·refine rr 2 O (kc (S.call (PC (p:=(RJ n l).parts[i])) call26 (zg O O) O (zc O .nil) O) (kc (S.HJ underlying4 (zg O O) O (zt O) (zt O)) (rr 4 O (kR O O ?_))));simp_all
   refine rr 8 O (kR O O ?_);simp_all
  refine rr 12 O (kR O O ?_);simp_all
 refine rr 17 O (kR O O ?_);simp_all
end Go.Proofs.Z9
namespace Go.Proofs.Z9
open Go.Ab Tryz
def AO{xs:bi}(h:Shape (.st (.cons .str (.cons (.int .i64) .nil))) xs):∃p:bf,xs=p.cs:=by
 obtain⟨a,b,rfl,⟨s,rfl⟩,c,d,rfl,⟨n,rfl⟩,rfl⟩:=h;exact⟨⟨s,n⟩,rfl⟩
def Gg{xs:bi}(h:Shape (.cons (.sl (.st (.cons .str (.cons (.int .i64) .nil)))) (.cons .str (.cons (.int .i64) (.cons (.st (.cons (.int .i64) (.cons (.int .i64) .nil))) .nil)))) xs):∃p:Net,xs=p.cs:=by
 obtain⟨a,b,rfl,⟨rows,rfl,i⟩,c,d,rfl,⟨s,rfl⟩,e,f,rfl,⟨n,rfl⟩,g,k,rfl,⟨u,v,rfl,⟨lo,rfl⟩,y,z,rfl,⟨hi,rfl⟩,rfl⟩,rfl⟩:=h;obtain⟨l,rfl⟩:=yD (f:=bf.cs) (fun r h=>AO (i r h));exact⟨⟨l,s,n,lo,hi⟩,rfl⟩
end Go.Proofs.Z9
namespace Go.Proofs.Z9
open Go.Ab Tryz
def SD{xs:bi}(h:Shape (.cons (.int .i64) (.cons .str (.cons .str .nil))) xs):∃p:Entry,xs=p.cs:=by
 obtain⟨a,b,rfl,⟨n,rfl⟩,c,d,rfl,⟨s,rfl⟩,e,f,rfl,⟨t,rfl⟩,rfl⟩:=h;exact⟨⟨n,s,t⟩,rfl⟩
def RE{x:X}(h:Shape (.sl (.st (.cons (.int .i64) (.cons .str (.cons .str .nil))))) [x]):∃l:List Entry,x=.sl (l.map Entry.cs):=by
 obtain⟨rows,b,a⟩:=h;cases b;obtain⟨l,rfl⟩:=yD (f:=Entry.cs) (fun r h=>SD (a r h));grind
end Go.Proofs.Z9
namespace Go.Proofs.Z9
open Go.Ab Tryz
def sh_quest{xs:bi}(h:Shape (.cons (.int .i64) (.cons (.st (.cons .str (.cons (.int .i64) .nil))) .nil)) xs):∃q:Int×ba×Int,xs=[bv q.1,.str q.2.1,bv q.2.2]:=by
 obtain⟨a,b,rfl,⟨n,rfl⟩,c,d,rfl,⟨u,v,rfl,⟨s,rfl⟩,y,z,rfl,⟨m,rfl⟩,rfl⟩,rfl⟩:=h;exact⟨(n,s,m),rfl⟩
