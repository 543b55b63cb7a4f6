import Derived.Test.YtlmhpcghgjdjjaaGreatDoorRq
set_option linter.all false
set_option maxHeartbeats 4000000
open List renaming length->R
namespace Go.Proofs.Z_
open Go.Ab Tryz
set_option maxRecDepth 9999
def rW(n:Net)(l:List Entry)(num:Int):Option Part:=(((Z2 n l).1.U1 num).bind fun i=>(Z2 n l).1.parts[i]?).map (·.1)
def Part.zero:Part:=⟨0,[],0,[],[],0,false,0,false,Span.zero⟩
def G1(n:Net)(l:List Entry)(num:Int):Part:=if Wm n l num≠0 then Part.zero else(rW n l num).getD Part.zero
def fX(n:Net)(l:List Entry)(num:Int):Bool:=if Wm n l num≠0 then false else Pm ((rW n l num).getD Part.zero)
def ofV(r:ba)(k:Int)(p:Part):Bool:=decide (p.Yr=r/\p.YD=k)
def isV(r:ba)(k:Int)(p:Rec):Bool:=decide (p.name=r/\p.YD=k)
def ofV_eq{r:ba}{k:Int}{p:Part}:Nq [.s p.Yr,.i p.YD] [.s r,.i k]=ofV r k p:=by simp[Nq,Pl.eq,ofV]
def isV_eq{r:ba}{k:Int}{p:Rec}:Nq [.s p.name,.i p.YD] [.s r,.i k]=isV r k p:=by simp[Nq,Pl.eq,isV]
def Z6.hasV(H:Z6)(r:ba)(k:Int):Bool:=H.ZF.any fun q=>isV r k q.1
def pofE(n:Net)(l:List Entry)(r:ba)(k:Int):Int:=if(Z2 n l).2.2≠0 then(Z2 n l).2.2 else if(Z2 n l).1.hasV r k then 0 else 6
def pofT(n:Net)(l:List Entry)(r:ba)(k:Int):bd:=if pofE n l r k≠0 then []else(Z2 n l).1.numbers (ofV r k)
def hasV_plain(A:HA)(r:ba)(k:Int):A.plain.hasV r k=A.ZF.any fun v=>isV r k v.r:=by
 show((A.ZF.map fun v=>(v.r,v.entry)).any fun q=>isV r k q.1)=_;rw[List.any_map];rfl
def State.hasV(s:State)(r:ba)(k:Int):Bool:=s.ZJ.any (isV r k)
def State.partsV(s:State)(r:ba)(k:Int):bd:=(s.parts.filter (ofV r k)).map (·.num)
def st_hasV(H:Z6)(r:ba)(k:Int):H.st.hasV r k=H.hasV r k:=by
 show(H.ZF.map (·.1)).any (isV r k)=_;rw[List.any_map];rfl
def st_partsV(H:Z6)(r:ba)(k:Int):H.st.partsV r k=H.numbers (ofV r k):=by
 show((H.parts.map (·.1)).filter (ofV r k)).map (·.num)=_;rw[pA,ae];rfl
def ver_pne{r:ba}{k:Int}:(!Nq [.s r,.i k] [.s r,.i k])=false:=by simp[Nq,Pl.eq]
def numE_find(H:Z6)(num:Int):(if¬(0<=num/\num<=1000000)then 2 else if ZC (fun p:Part=>decide (p.num=num)) 0 H.st.parts<0 then 6 else 0)=J9 num (H.U1 num).isSome:=by
 have e:H.U1 num=ix (fun p:Part=>decide (p.num=num)) H.st.parts:=(Ui (fun q:Part×bd=>q.1) (fun p:Part=>decide (p.num=num)) H.parts 0).symm;rw[e];unfold J9;by_cases h:0<=num/\num<=1000000
 ·rw[Zm (Zp h),Zz h];by_cases a:ZC (fun p:Part=>decide (p.num=num)) 0 H.st.parts<0
  ·rw[Zn a,P9 a];rfl
  obtain⟨j,b⟩:=P_ a;rw[Zm a,b];rfl
 rw[Zn h,Zy h];rfl
def found_at{n:Net}{l:List Entry}{num:Int}(h:Wm n l num=0):∃(i:Nat)(hi:i<R (Xi n l).parts),ZC (fun p:Part=>decide (p.num=num)) 0 (Xi n l).parts=i/\rW n l num=some (Xi n l).parts[i]:=by
 have h0:=HO h;have b:Xi n l=(Z2 n l).1.st:=Zm (Zp h0);obtain⟨i,hi⟩:=Ba h;have e:(Z2 n l).1.U1 num=ix (fun p:Part=>decide (p.num=num)) (Xi n l).parts:=by rw[b];exact(Ui (fun q:Part×bd=>q.1) (fun p:Part=>decide (p.num=num)) _ 0).symm
 obtain⟨a,_⟩:=Y8 (e▸hi);refine⟨i,a,Vs (e▸hi),?_⟩;unfold rW;rw[hi,bφ,←dp,←Zv a,b];rfl
def kg(P:Z6->Prop)(a:∀H x,P H->(Za H x).2=0->P (Za H x).1):∀(l:List Entry)(H:Z6)(i:Nat),(runT H i l).2.2=0->P H->P (runT H i l).1
 |[],_,_,_,h=>h
 |x::l,H,i,h0,h=>by
  rw[runT]at h0⊢;by_cases e:(Za H x).2=0
  ·rw[Zm (Zp e)]at h0⊢;exact kg P a l _ _ h0 (a H x h e)
  rw[Zn e]at h0;exact absurd h0 e
def CT{n:Net}{l:List Entry}(P:Z6->Prop)(hi:∀n p,Y_ p=0->P (Z6.init n p))(a:∀H x,P H->(Za H x).2=0->P (Za H x).1)(h:(Z2 n l).2.2=0):P (Z2 n l).1:=by
 obtain⟨b,_,e⟩:=Ur h;rw[e]at h⊢;exact kg P a l _ _ h (hi _ _ (Sx (J6 b).2))
def F5{n:Net}{l:List Entry}(h:(Z2 n l).2.2=0):HS (Z2 n l).1:=CT HS (fun _ _ h=>HS.init h) (fun _ x h _=>h.enter x) h
def cC{n:Net}{l:List Entry}{num:Int}(s:R n.plan<=1000)(u:N6 l):Q7 prog 13 [.agg n.cs,.sl (l.map Entry.cs),bv num] (.Yy [.agg (G1 n l num).cs,bv (Wm n l num)]):=by
 refine cT func13 O fun t=>?_
 refine ro 12 O ?_;refine RK.Ng (((CZ s u).at t)) (fun _=>Mf.ZV _ _ _) (fun _=>Mf.mono) call62 O (zc O (zc O (zc O .nil))) O fun A=>?_
 refine rr 14 O (kB O (fun d=>?_) (fun d=>?_))
 ·have r:G1 n l num=Part.zero:=Zn d;refine kr (kc (zU bu41 O O) (rr 5 O (OK.ret (Y3.r2 (.XU O O O O L5 O (.k (.same O) (.k (.same O) (.k (.same O) (.k (.same O) (.k .ZM (zw O))))))) (zo O O) ?_))));rw[r];rfl
 have a:Wm n l num=0:=Zu.1 d;have g:(Z2 n l).2.2=0:=HO a;refine OK.Ld g O fun m e=>?_
 have j:A.plain.U1 num=ix (fun v=>decide (v.p.num=num)) A.parts:=HA.TR A num;obtain⟨i,f⟩:=Ba a;have c:ix (fun v=>decide (v.p.num=num)) A.parts=some i:=by rw[←j,e];exact f
 obtain⟨v,h⟩:=Yh (Y8 c).1;have q:Mg n l num A=pV v.b:=by unfold Mg;rw[Zn g];exact Vx c (HA.CS h)
 rw[q];have o:rW n l num=some v.p:=by unfold rW;rw[f,bφ,←e,HA.Yi h];rfl
 have r:G1 n l num=v.p:=by unfold G1;rw[Zm (by rw[a];decide),o];rfl
 refine ro 7 O ?_;refine kc (zJ (us:=v.p.cs) L5 O (Z9.KL (k:=.p i) (xs:=v.cs) (HA.XW h) ⟨.same _,.same _,.same _,.same _,.sl (m.fs? h),.same _,.same _,.same _,.same _,.same _,.same _,.same _,.same _,Zo⟩ O)) ?_;refine rr 4 O (kT O O L5 O O O ?_);rw[r,a];try rfl
def rec_MayLeave{n:Net}{l:List Entry}{num:Int}(r:R n.plan<=1000)(x:N6 l):Q7 prog 16 [.agg n.cs,.sl (l.map Entry.cs),bv num] (.Yy [.bool (fX n l num),bv (Wm n l num)]):=by
 refine cT func16 O fun u=>?_
 refine ro 12 O ?_;refine RK.Ng (((CZ r x).at u)) (fun _=>Mf.ZV _ _ _) (fun _=>Mf.mono) call62 O (zc O (zc O (zc O .nil))) O fun A=>?_
 refine rr 8 O ?_;by_cases a:Wm n l num=0
 ·have g:(Z2 n l).2.2=0:=HO a;refine OK.Ld g O fun s e=>?_
  have j:A.plain.U1 num=ix (fun v=>decide (v.p.num=num)) A.parts:=HA.TR A num;obtain⟨i,f⟩:=Ba a;have d:ix (fun v=>decide (v.p.num=num)) A.parts=some i:=by rw[←j,e];exact f
  obtain⟨v,h⟩:=Yh (Y8 d).1;have m:Mg n l num A=pV v.b:=by unfold Mg;rw[Zn g];exact Vx d (HA.CS h)
  rw[m];have k:rW n l num=some v.p:=by unfold rW;rw[f,bφ,←e,HA.Yi h];rfl
  have o:fX n l num=Pm v.p:=by unfold fX;rw[Zm (by rw[a];decide),k];rfl
  refine ro 4 O (RK.ZS (t:=19) O (fun c=>?_) (fun c=>?_))
  ·refine kc (S.move (zg O O) O (zt O)) (kc (S.Wc ((fun J q w=>(G8 h q w).Tq q)) call63 (zg O O) O (zc O .nil) O O) ?_);refine rr 6 O (kS O O O O ?_);rw[o];try rfl
  exact absurd a c
 have o:fX n l num=false:=Zn a;refine ro 4 O (RK.ZS (t:=19) O (fun c=>?_) (fun c=>?_))
 ·exact absurd c a
 refine rr 8 O (kS O O O O ?_);rw[o];try rfl
def rec_PartsOf1{A:HA}{i:Nat}{v:Qc}(a:A.ZF[i]?=some v){r:ba}{k:Int}{J:bm}(e:Y2 J)(d:∀h Y w,J h Y w->Z9 A.mem h Y w):Vi prog 66 [] [.raw (pV v.b),.Yt [.str r,.int .i64 k]] [(3000,.res J)] [(3000,.res J)] (.bool (isV r k v.r)):=by
 refine cG func66 O (ro 6 O ?_);refine kV (.c (zm O) (.c (zn O O) (.c (zr L8 O) (.c (zr OH O) (.c (zJ (us:=[.str v.r.name,bv v.r.YD]) Ni O (J_ d (Z9.KL (k:=.v i) (xs:=v.cs) (HA.sv a) ⟨.same _,.same _,Zo⟩ O))) (.c (S.Vj Ni .none O (zt O) O O) (.c (S.rY (b:=isV r k v.r) [.s [],.i 0] [.s v.r.name,.i v.r.YD] [.s r,.i k] ET .none O (zt O) (zt O) O O O O isV_eq) (.c (za O) .nil)))))))) (Ab.D.code (OK.ret ⟨Y3.r1 (zo O O) ?_,O,Zo⟩));rfl
def rec_PartsOf2{A:HA}{i:Nat}{v:ZN}(a:A.parts[i]?=some v){r:ba}{k:Int}{J:bm}(e:Y2 J)(d:∀h Y w,J h Y w->Z9 A.mem h Y w):Vi prog 68 [] [.raw (pV v.b),.Yt [.str r,.int .i64 k]] [(3000,.res J)] [(3000,.res J)] (.bool (ofV r k v.p)):=by
 refine cG func68 O (ro 6 O ?_);refine kV (.c (zm O) (.c (zn O O) (.c (zr Xu O) (.c (zr TK O) (.c (zJ (us:=[.str v.p.Yr,bv v.p.YD]) Ni O (J_ d (Z9.KL (k:=.p i) (xs:=v.cs) (HA.XW a) ⟨.same _,.same _,Zo⟩ O))) (.c (S.Vj Ni .none O (zt O) O O) (.c (S.rY (b:=ofV r k v.p) [.s [],.i 0] [.s v.p.Yr,.i v.p.YD] [.s r,.i k] ET .none O (zt O) (zt O) O O O O ofV_eq) (.c (za O) .nil)))))))) (Ab.D.code (OK.ret ⟨Y3.r1 (zo O O) ?_,O,Zo⟩));rfl
def rec_ixV{A:HA}{m:Int}(d:A.Ok m){J:bm}(o:Y2 J)(y:∀h Y w,J h Y w->Z9 A.mem h Y w){f:Nat}{caps:bi}(a:∀args w,(callFunc f args).run prog w=.ok (.enter f args) w)(e:caps.all (Np [])=true)(l:caps.all (fun u=>!Yx u)=true){g:Rec->Bool}(t:∀(i:Nat)(v:Qc),A.ZF[i]?=some v->Vi prog f [] (.raw (pV v.b)::caps) [(3000,.res J)] [(3000,.res J)] (.bool (g v.r))):Vi prog 102 [] [.sl (A.ZF.map P6),.fn f caps] [(3000,.res J)] [(3000,.res J)] (.int .i64 (ZC (fun v=>g v.r) 0 A.ZF)):=by
 refine cG func102 O fun{_ _}=>?_
 have s:=d.lv;have q:=d.m0;refine ro 9 O (kc (zk Ai O) (rr 4 O ?_));refine OK.loop (G:=Nat) [] (fun i=>[(0,.sl (A.ZF.map P6)),(1,.fn f caps),(6,.sl (A.ZF.map P6)),(7,bv (R A.ZF)),(8,bv i),(3000,.res J)]) (fun i=>i<=R A.ZF/\ZC (fun v=>g v.r) 0 A.ZF=ZC (fun v=>g v.r) i (A.ZF.drop i)) (fun i=>R A.ZF - i) 0 ⟨Zr _,O⟩ ⟨O,O,O,O,O,O,Zo⟩ (fun _=>rn (fun b=>b&&true) (sy (U:=[]) e)) ?_;rintro i ⟨hi,k⟩;refine ro 6 O (kB O (fun x=>?_) (fun x=>?_))
 ·have j:i<R A.ZF:=by omega
  have p:A.ZF[i]?=some A.ZF[i]:=Zv j;refine ro 15 O (kc (zI Ai O I O) (kc (zV CW O O) ?_));refine RK.c (S.Gs (((t i _ p).Tq o)) o a .none O (zt O) (zc O .nil) O O e l) ?_;refine kD (OK.cond O O (fun n=>?_) (fun n=>?_))
  ·refine ro 6 O (OK.ret ⟨Y3.r1 (zo O O) ?_,O,Zo⟩);refine YL ?_;rw[k,Y0 _ I];simp_all
  refine Ro 7 O I (Ab.D.lp ⟨i+1,⟨by omega,?_⟩,I,O,O,O,O,O,O,Zo⟩);rw[k,Y0 _ I];simp_all
 refine ro 7 O (OK.ret ⟨Y3.r1 (zo O O) ?_,O,Zo⟩);refine YL ?_;rw[k,show i=R A.ZF by omega,da];rfl
def rec_ctV{A:HA}{m:Int}(e:A.Ok m){J:bm}(k:Y2 J)(n:∀h Y w,J h Y w->Z9 A.mem h Y w){f:Nat}{caps:bi}(a:∀args w,(callFunc f args).run prog w=.ok (.enter f args) w)(d:caps.all (Np [])=true)(j:caps.all (fun u=>!Yx u)=true){g:Rec->Bool}(l:∀(i:Nat)(v:Qc),A.ZF[i]?=some v->Vi prog f [] (.raw (pV v.b)::caps) [(3000,.res J)] [(3000,.res J)] (.bool (g v.r))):Vi prog 65 [] [.sl (A.ZF.map P6),.fn f caps] [(3000,.res J)] [(3000,.res J)] (.bool (A.ZF.any (fun v=>g v.r))):=by
 refine cG func65 O (ro 9 O ?_);refine RK.c (S.VO (((rec_ixV e k n a d j l).Tq k)) k call102 .none O (zc O (zc O .nil)) (by simp[V3,vc,Ky,Np,X4,d]) O) ?_;refine rr 4 O (OK.ret ⟨Y3.r1 (zo O O) ?_,O,Zo⟩);exact Xj (MJ _ A.ZF 0)
def rec_PartsOf{n:Net}{l:List Entry}{r:ba}{k:Int}(w:R n.plan<=1000)(y:N6 l):Q7 prog 17 [.agg n.cs,.sl (l.map Entry.cs),.agg [.str r,bv k]] (.Yy [ints (pofT n l r k),bv (pofE n l r k)]):=by
 refine cT func17 O fun x=>?_
 refine ro 4 O (kc (S.assign .none O .Ya) (rr 7 O ?_));refine RK.Ng (((R2 w y).at x)) (fun _=>Mf.ZV _ _ _) (fun _=>Mf.mono) call64 O (zc O (zc O .nil)) O fun A=>?_
 refine rr 16 O (kB O (fun d=>?_) (fun d=>?_))
 ·have a:pofE n l r k=(Z2 n l).2.2:=Zn d;have c:pofT n l r k=[]:=Zn (by rw[a];exact d);refine ro 3 O (kc (S.assign .none O .Ya) (rr 3 O (kS O O O O ?_)));rw[a,c];try rfl
 have o:(Z2 n l).2.2=0:=Zu.1 d;have q:pofE n l r k=if(Z2 n l).1.hasV r k then 0 else 6:=Zm d
 refine ro 4 O (OK.Ld o O fun h m=>?_);rw[Jm o];have e:=hasV_plain A r k;rw[m]at e;refine OK.Tr [] [(8,.raw (pV A.b)),(3000,.res (Z9 A.mem))] 5 O O O O O O ⟨O,O,Zo⟩ O (ro 4 O (kc (zH (u:=.sl (A.ZF.map P6)) EU O (Z9.Xh (k:=.Y1) O O (.sl h.vs))) (kc (S.Xd .none O (zt O) O) (kc (S.Wc ((fun J j p=>(rec_ctV h j p (f:=66) (caps:=[.Yt [.str r,bv k]]) call66 O O (g:=isV r k) (fun i v s=>rec_PartsOf1 s j p)).Tq j)) call65 .none O (zc O (zc O .nil)) O O) ?_))));refine kc (S.not .none O (zt O)) (kD (OK.cond O O (fun t=>?_) (fun t=>?_)))
 ·have a:pofE n l r k=6:=by rw[q,e];simp_all
  have c:pofT n l r k=[]:=Zn (by rw[a];decide);refine kr (kc (S.assign .none O .Ya) (rr 3 O (kS O O O O ?_)));rw[a,c];try rfl
 have a:pofE n l r k=0:=by rw[q,e];simp_all
 have c:pofT n l r k=R1 (ofV r k) A.parts:=by unfold pofT;rw[Zm (by rw[a];decide),←m,HA.XK]
 refine ro 5 O (kc (S.Xd .none O (zt O) O) (kc (S.Wc ((fun J j p=>(E1 h j p (f:=68) (caps:=[.Yt [.str r,bv k]]) call68 O O (g:=ofV r k) (fun i v s=>rec_PartsOf2 s j p)).Tq j)) call67 .none O (zc O (zc O .nil)) O O) ?_));refine rr 4 O (kS O O O O ?_);rw[a,c];try rfl
def ref10_HasVersion{s:State}{r:ba}{k:Int}:Ct prog 21 [.agg s.cs,.agg [.str r,bv k]] (.bool (s.hasV r k)):=by
 refine cI func21 O (OK.Qd 0 0 (s.ZJ.map Rec.cs) O O O fun hlen=>?_);rw[Zx]at hlen;unfold maxLen at hlen;refine ro 14 O ?_;refine OK.loop (G:=Nat) [2,3] (fun i=>[(2,.ptr 2 0),(1002,.box s.cs),(3,.ptr 3 0),(1003,.box [.str r,bv k]),(5,bv i)]) (fun i=>i<=R s.ZJ/\s.hasV r k=(s.ZJ.drop i).any (isV r k)) (fun i=>R s.ZJ - i) 0 ⟨Zr _,O⟩ ⟨O,O,O,O,O,Zo⟩ (fun _=>O) ?_;rintro i ⟨hi,d⟩;refine ro 6 O (kc (zk Ap O) (rr 3 O (kB O (fun f=>?_) (fun f=>?_))))
 ·have a:i<R s.ZJ:=by omega
  refine ro 5 O (kV (.c (zf Qn O) (.c (zl C1 O O O O) (.c (zm O) (.c (zI Ap O I O) (.c (S.field OH .none O (zt O) O) (.c (S.Vj Ni .none O (zt O) O O) (.c (zL Ni O O O O) (.c (S.rY (b:=isV r k s.ZJ[i]) [.s [],.i 0] [.s s.ZJ[i].name,.i s.ZJ[i].YD] [.s r,.i k] ET .none O (zt O) (zt O) O O O O isV_eq) .nil)))))))) (Ab.D.code (kB O (fun e=>?_) (fun e=>?_))))
  ·refine ro 5 O (kR O O ?_);refine Xj ?_;rw[d,np a,nz];simp_all[isV]
  refine Ro 8 O I (Ab.D.lp ⟨i+1,⟨by omega,?_⟩,I,O,O,O,O,O,Zo⟩);rw[d,np a,nz];simp_all[isV]
 refine ro 7 O (kR O O ?_);refine Xj ?_;rw[d,show i=R s.ZJ by omega,da];rfl
def ref10_Parts{s:State}{r:ba}{k:Int}(l:R s.parts<=100):Ct prog 23 [.agg s.cs,.agg [.str r,bv k]] (ints (s.partsV r k)):=by
 refine cI func23 O fun{_ _}=>?_
 obtain⟨T,d⟩:∃T:Nat->bd,T=fun i=>((s.parts.take i).filter (ofV r k)).map (·.num):=⟨_,rfl⟩
 refine ro 4 O (kc (S.assign .none O .Ya) (rr 4 O (RK.c (S.XG (k:=5) (sz:=1) .none O) (rr 9 O ?_))));refine OK.loop (G:=Nat) [2,3,5] (fun i=>[(2,.ptr 2 0),(1002,.box s.cs),(3,.ptr 3 0),(1003,.box [.str r,bv k]),(5,.own 5 (R (T i))),(2005,.arr 1 (Ye (T i))),(6,bv i)]) (fun i=>i<=R s.parts/\R (T i)<=i) (fun i=>R s.parts - i) 0 ⟨Zr _,by rw[d];simp⟩ ⟨O,O,O,O,(ZH (by rw[d];rfl)),(ZX (by rw[d];rfl)),O,Zo⟩ (fun _=>O) ?_;rintro i ⟨hi,j⟩;refine ro 6 O (kc (zk V6 O) (rr 3 O (kB O (fun h=>?_) (fun h=>?_))))
 ·have f:i<R s.parts:=by omega
  refine ro 5 O (kV (.c (zf WC O) (.c (zl Vg O O O O) (.c (zm O) (.c (zI V6 O I O) (.c (S.field TK .none O (zt O) O) (.c (S.Vj Ni .none O (zt O) O O) (.c (zL Ni O O O O) (.c (S.rY (b:=ofV r k s.parts[i]) [.s [],.i 0] [.s s.parts[i].Yr,.i s.parts[i].YD] [.s r,.i k] ET .none O (zt O) (zt O) O O O O ofV_eq) .nil)))))))) (Ab.D.code (kB O (fun e=>?_) (fun e=>?_))))
  ·have a:T (i+1)=T i++[s.parts[i].num]:=by rw[d];dsimp only;rw[mv f,List.filter_append,ne,List.filter_cons_of_pos (by unfold ofV;simpa using e)];rfl
   refine ro 5 O (kc (zI V6 O I O) ?_);refine rr 2 O ?_;refine RK.c (zM [[_]] Xr O O O O) ?_;refine kc (zP Xr O O (by simp[Ye]) N I (by simp only[maxLen];omega)) ?_;refine Rr 9 O I ?_;refine Ab.D.lp ⟨i+1,⟨by omega,by rw[a];first|(rw[Zs];simp;omega)|omega⟩,I,O,O,O,O,(ZH (by first|(rw[a];simp;done)|rw[a])),(ZX (by first|(rw[a];simp[Ye];done)|rw[a])),O,Zo⟩
  have a:T (i+1)=T i:=by rw[d];dsimp only;rw[mv f,List.filter_append,List.filter_cons_of_neg (by unfold ofV;simpa using e),List.filter_nil,i8]
  refine Ro 8 O I ?_;refine Ab.D.lp ⟨i+1,⟨by omega,by rw[a];first|(rw[Zs];simp;omega)|omega⟩,I,O,O,O,O,(ZH (by first|(rw[a];simp;done)|rw[a])),(ZX (by first|(rw[a];simp[Ye];done)|rw[a])),O,Zo⟩
 refine ro 3 O ?_;have g:T i=s.partsV r k:=by rw[d,show i=R s.parts by omega];dsimp only;rw[List.take_length];rfl
 rw[g];refine ro 5 O ?_;refine OK.ret (Y3.r1 (.tmp O O (.c (.own O O N) O) O) ?_);rfl
def eqSpan:dw prog 39 4:=dw.mk_two (T:=37) (am:=3) V underlying39 V V underlying37 V V isAgg37 sizeOf37 underlying3 isAgg3
def sF{a:Part}:Ct prog 19 [.agg a.cs,.agg a.cs] (.bool true):=by
 refine cI func19 O (OK.Qd 0 4 (a.frames.map Frame.cs) O O O fun hlen=>?_);rw[Zx]at hlen;unfold maxLen at hlen;refine ro 16 O (RK.ZS (t:=11) O (fun l=>?_) (fun l=>?_))
 ·exact absurd rfl l
 refine rr 4 O (kc (S.pneq (b:=false) [.s [],.i 0] [.s a.Yr,.i a.YD] [.s a.Yr,.i a.YD] ET (zg O O) O (zt O) (zt O) O O O O ver_pne) (rr 9 O (RK.ZS (t:=25) O (fun k=>?_) (fun k=>?_))))
 ·exact absurd rfl k
 refine rr 7 O (RK.ZS (t:=32) O (fun j=>?_) (fun j=>?_))
 ·exact absurd rfl j
 refine rr 4 O (kc (S.bneq underlying4 (zg O O) O (zt O) (zt O)) (rr 2 O (RK.ZS (t:=39) O (fun h=>?_) (fun h=>?_))))
 ·simp at h
 refine rr 7 O (RK.ZS (t:=46) O (fun g=>?_) (fun g=>?_))
 ·exact absurd rfl g
 refine rr 4 O (kc (S.bneq underlying4 (zg O O) O (zt O) (zt O)) (rr 2 O (RK.ZS (t:=53) O (fun f=>?_) (fun f=>?_))))
 ·simp at f
 refine rr 4 O (kc (S.aneq [a.depth.lo.num,a.depth.lo.den,a.depth.hi.num,a.depth.hi.den] [a.depth.lo.num,a.depth.lo.den,a.depth.hi.num,a.depth.hi.den] eqSpan (zg O O) O (zt O) (zt O) O O O O) (rr 2 O (RK.ZS (t:=60) O (fun e=>?_) (fun e=>?_))))
 ·exact absurd rfl e
 refine rr 2 O (kc (S.OF Rh (zg O O) O (zt O)) (rr 2 O (kc (S.OF Rh (zg O O) O (zt O)) (rr 4 O (kB O (fun m=>?_) (fun m=>?_))))))
 ·exact absurd rfl m
 refine ro 9 O ?_;refine OK.loop (G:=Nat) [2,3] (fun i=>[(2,.ptr 2 0),(1002,.box a.cs),(3,.ptr 3 0),(1003,.box a.cs),(5,bv i)]) (fun i=>i<=R a.frames) (fun i=>R a.frames - i) 0 (Zr _) ⟨O,O,O,O,O,Zo⟩ (fun _=>O) ?_;rintro i hi;refine ro 6 O (kc (zk Rh O) (rr 3 O (kB O (fun o=>?_) (fun o=>?_))))
 ·have p:i<R a.frames:=by omega
  refine ro 5 O ?_;refine kV (.c (zf VC O) (.c (zl Qq O O O O) (.c (zm O) (.c (zI Rh O I O) (.c (S.field G7 .none O (zt O) O) (.c (zV YK O O) (.c (zf VC O) (.c (zl Qq O O O O) (.c (zm O) (.c (zI Rh O I O) (.c (S.field G7 .none O (zt O) O) (.c (zV YK O O) (.c (S.neq .none O (zt O) (zt O)) (.c (zm O) (.c (S.VN VC (.yes O O O F) O (zt O)) (.c (S.YH Qq (.yes O O O F) O (zt O) O O O O) (.c (S.move (.yes O O O F) O (zt O)) (.c (S.Zi (n:=i) Rh (.yes O O O F) O (zt O) (zt O) O I O) (.c (S.field OI (.yes O O O F) O (zt O) O) (.c (S.Q_ Vr (.yes O O O F) O (zt O) O) (.c (S.VN VC (.yes O O O F) O (zt O)) (.c (S.YH Qq (.yes O O O F) O (zt O) O O O O) (.c (S.move (.yes O O O F) O (zt O)) (.c (S.Zi (n:=i) Rh (.yes O O O F) O (zt O) (zt O) O I O) (.c (S.field OI (.yes O O O F) O (zt O) O) (.c (S.Q_ Vr (.yes O O O F) O (zt O) O) (.c (S.call (Me (a:=a.frames[i].values) (b:=a.frames[i].values)) call22 (.yes O O O F) O (zc O (zc O .nil)) O) (.c (S.Xb (.yes O O O F) O (zt O)) (.c (S.Ug .none O (zt O) (zt O) F) .nil))))))))))))))))))))))))))))) ?_;refine Ab.D.code (kB O (fun d=>?_) (fun d=>?_))
  ·simp at d
  refine Ro 8 O I (Ab.D.lp ⟨i+1,I,I,O,O,O,O,O,Zo⟩)
 refine ro 7 O (kR O O ?_);rfl
def law_RecordParts{n:Net}{l:List Entry}{num k:Int}{r:ba}:Q7 prog 3 [.agg n.cs,.sl (l.map Entry.cs),.agg [bv num,.str r,bv k]] (.bool true):=by
 refine cT func3 O fun M=>?_
 refine ro 10 O (kc (S.Xo (Bp) M call10 .none O .nil O) (kc (S.not .none O (zt O)) (rr 9 O (kc (zK (tK (n:=n)) call11 O) (kc (S.not .none O (zt O)) (jm O (RK.split (t:=22) O (fun w=>?_) (fun w=>?_))))))))
 ·refine rr 19 O (kR O O ?_);simp_all
 refine kc (S.move (zg O O) O (zt O)) (kc (S.call (C2 (l:=l)) call12 (zg O O) O (zc O .nil) O) (kc (S.not (zg O O) O (zt O)) (rr 2 O (RK.split (t:=27) O (fun v=>?_) (fun v=>?_)))))
 ·refine rr 14 O (kR O O ?_);simp_all
 refine rr 8 O (kB O (fun c33=>?_) (fun c33=>?_))
 ·refine ro 5 O (kR O O ?_);simp_all
 have U:NK n=true:=by simpa using w
 have N:Xv l=true:=by simpa using v
 obtain⟨hl1,hl2⟩:=mN U;obtain⟨hll,P⟩:=dz N;have g:∀y∈l,R y.text<=100000:=fun y hy=>by have:=P y hy;omega
 refine ro 3 O (kV (.c (zL Pn O O O O) (.c (zK (Tj (n:=n) I) call14 O) (.c (zm O) (.c (zK (S8 (l:=l) I) call15 O) (.c (zf fi31_0 O) (.c (zl YK O O O O) (.c (S.Xo (cC (n:=n) (l:=l) (num:=num) I (An g)) M call13 .none O (zc O (zc O (zc O .nil))) O) (.c (zm O) (.c (zX O O O) (.c (zX O O O) (.c (zA (c:=7) ze41 O) (.c (zS L5 O O O O O O) (.c (za O) .nil))))))))))))) (Ab.D.code (kO (kV (.c (zL Pn O O O O) (.c (zK (Tj (n:=n) I) call14 O) (.c (zm O) (.c (zK (S8 (l:=l) I) call15 O) (.c (zf fi31_0 O) (.c (zl YK O O O O) (.c (S.Xo (rec_MayLeave (n:=n) (l:=l) (num:=num) I (An g)) M call16 .none O (zc O (zc O (zc O .nil))) O) (.c (zm O) (.c (zX O O O) (.c (zX O O O) (.c (za O) (.c (za O) .nil)))))))))))) (Ab.D.code (kO (kV (.c (zL Pn O O O O) (.c (zK (Tj (n:=n) I) call14 O) (.c (zm O) (.c (zK (S8 (l:=l) I) call15 O) (.c (zf fi31_1 O) (.c (zL Ni O O O O) (.c (S.Xo (rec_PartsOf (n:=n) (l:=l) (r:=r) (k:=k) I (An g)) M call17 .none O (zc O (zc O (zc O .nil))) O) (.c (zm O) (.c (zX O O O) (.c (zX O O O) (.c (za O) (.c (za O) .nil)))))))))))) ?_)))))));refine rd 6 O (kc (zK (G9 (n:=n) (l:=l) I g) call18 O) ?_);refine rr 9 O (kB O (fun d=>?_) (fun d=>?_))
 ·have j:Wm n l num=(Z2 n l).2.2:=Zn d;have f:pofE n l r k=(Z2 n l).2.2:=Zn d;have m:pofT n l r k=[]:=Zn (by rw[f];exact d);have q:G1 n l num=Part.zero:=Zn (by rw[j];exact d);have hM:fX n l num=false:=Zn (by rw[j];exact d);rw[q];refine ro 6 O (RK.ZS (t:=72) O (fun g72=>?_) (fun g72=>?_))
  ·refine kc (S.Hl L5 (zg O O) O (zt O) O O O O) (kc (S.build bu41 O (zg O O) O .nil O O) (kc (S.XY (sF (a:=Part.zero)) call19 (zg O O) O (zc O (zc O .nil)) (.cons (.same O) (.cons (.agg (.cons (.same O) (.cons (.same O) (.cons (.same O) (.cons (.same O) (.cons .ZM (.cons (.same O) (.cons (.same O) (.cons (.same O) (.cons (.same O) (.cons (.same O) (.cons (.same O) (.cons (.same O) (.cons (.same O) .nil))))))))))))) O) .nil)) O) (rr 2 O (RK.split (t:=77) O (fun g77=>?_) (fun g77=>?_)))))
   ·refine rr 5 O (RK.ZS (t:=82) O (fun Z=>?_) (fun Z=>?_))
    ·refine kc (S.move (zg O O) O (zt O)) (kc (S.not (zg O O) O (zt O)) (rr 2 O (RK.split (t:=86) O (fun Y=>?_) (fun Y=>?_))))
     ·refine rr 5 O (RK.ZS (t:=91) O (fun X=>?_) (fun X=>?_))
      ·refine kc (S.move (zg O O) O (zt O)) (kc (S.OF Ym (zg O O) O (zt O)) (rr 5 O (kR O O ?_)));simp_all
      refine rr 7 O (kR O O ?_);simp_all
     refine rr 12 O (kR O O ?_);simp_all
    refine rr 16 O (kR O O ?_);simp_all
   refine rr 21 O (kR O O ?_);simp_all
  refine rr 26 O (kR O O ?_);simp_all
 have h0:=Zu.1 d;have L:Xi n l=(Z2 n l).1.st:=Zm d;have W:(Xi n l).Sm:=L▸(F5 h0).good.sm;have hV:(Xi n l).hasV r k=(Z2 n l).1.hasV r k:=by rw[L];exact st_hasV _ _ _
 have hW:(Xi n l).partsV r k=(Z2 n l).1.numbers (ofV r k):=by rw[L];exact st_partsV _ _ _
 refine ro 6 O (kc (zK (kG (n:=n) (l:=l) I (Ur h0).1 g) call20 O) ?_);refine rr 4 O ?_;refine OK.join (G:=Unit) [5,7,14] (fun _=>[(5,.ptr 5 0),(1005,.box [bv num,.str r,bv k]),(7,.ptr 7 0),(1007,.box (G1 n l num).cs),(8,bv (Wm n l num)),(9,.bool (fX n l num)),(10,bv (Wm n l num)),(14,.ptr 14 0),(1014,.box (Xi n l).cs)]) (fun _=>True) (fun _=>O) ?_ ?_
 ·refine ro 5 O (kc (zK (ref10_HasVersion (s:=Xi n l) (r:=r) (k:=k)) call21 O) (kD (OK.cond O O (fun h=>?_) (fun h=>?_))))
  ·have f:pofE n l r k=0:=by unfold pofE;rw[Zm d,Zn (hV▸h)]
   have m:pofT n l r k=(Xi n l).partsV r k:=by rw[hW];exact Zm (by rw[f];decide)
   rw[m];refine ro 5 O (RK.ZS (t:=105) O (fun H=>?_) (fun H=>?_))
   ·refine rr 16 O (kR O O ?_);simp_all
   refine rr 4 O (kc (S.call (ref10_Parts (s:=Xi n l) (r:=r) (k:=k) W.lp) call23 (zg O O) O (zc O (zc O .nil)) O) (kc (S.call (Me (a:=(Xi n l).partsV r k) (b:=(Xi n l).partsV r k)) call22 (zg O O) O (zc O (zc O .nil)) O) (kc (S.Xb (zg O O) O (zt O)) (rr 3 O (kB O (fun K=>?_) (fun K=>?_))))))
   ·refine ro 5 O (kR O O ?_);simp_all
   refine OK.skip (Ab.D.lp ⟨(),Zo,O,O,O,O,O,O,O,O,O,Zo⟩)
  have f:pofE n l r k=6:=by unfold pofE;rw[Zm d,Zm (by rw[←hV,h];decide)]
  have m:pofT n l r k=[]:=Zn (by rw[f];decide);refine ro 5 O (RK.ZS (t:=116) O (fun F=>?_) (fun F=>?_))
  ·refine rr 12 O (kR O O ?_);simp_all
  refine kc (S.move (zg O O) O (zt O)) (kc (S.OF Ym (zg O O) O (zt O)) (rr 4 O (kB O (fun J=>?_) (fun J=>?_))))
  ·refine ro 5 O (kR O O ?_);simp_all
  refine OK.skip (Ab.D.lp ⟨(),Zo,O,O,O,O,O,O,O,O,O,Zo⟩)
 rintro _ _;refine kO (kO ?_);have u:=numE_find (Z2 n l).1 num;rw[←L]at u;have j:Wm n l num=J9 num ((Z2 n l).1.U1 num).isSome:=Zm d;refine ro 4 O (kc (zK (ref10_NumberErr (s:=Xi n l) (n:=num)) call24 O) (rr 4 O ?_));rw[u,←j];refine ro 5 O (kB O (fun e=>?_) (fun e=>?_))
 ·have q:G1 n l num=Part.zero:=Zn e;have hM:fX n l num=false:=Zn e;rw[q];refine ro 6 O (RK.ZS (t:=130) O (fun E=>?_) (fun E=>?_))
  ·refine kc (S.Hl L5 (zg O O) O (zt O) O O O O) (kc (S.build bu41 O (zg O O) O .nil O O) (kc (S.XY (sF (a:=Part.zero)) call19 (zg O O) O (zc O (zc O .nil)) (.cons (.same O) (.cons (.agg (.cons (.same O) (.cons (.same O) (.cons (.same O) (.cons (.same O) (.cons .ZM (.cons (.same O) (.cons (.same O) (.cons (.same O) (.cons (.same O) (.cons (.same O) (.cons (.same O) (.cons (.same O) (.cons (.same O) .nil))))))))))))) O) .nil)) O) (rr 2 O (RK.split (t:=135) O (fun C=>?_) (fun C=>?_)))))
   ·refine rr 5 O (RK.ZS (t:=140) O (fun B=>?_) (fun B=>?_))
    ·refine kc (S.move (zg O O) O (zt O)) (kc (S.not (zg O O) O (zt O)) (rr 4 O (kR O O ?_)));simp_all
    refine rr 6 O (kR O O ?_);simp_all
   refine rr 11 O (kR O O ?_);simp_all
  refine rr 16 O (kR O O ?_);simp_all
 have V:=Zu.1 e;obtain⟨i,T,Q,o⟩:=found_at V;have q:G1 n l num=(Xi n l).parts[i]:=by unfold G1;rw[Zm e,o];rfl
 have hM:fX n l num=Pm (Xi n l).parts[i]:=by unfold fX;rw[Zm e,o];rfl
 rw[q];refine ro 3 O (kV (.c (zf WC O) (.c (zl Vg O O O O) (.c (zL Zk O O O O) (.c (zf fi31_0 O) (.c (zl YK O O O O) (.c (zK (Ns (s:=Xi n l) (n:=num)) call25 O) (.c (S.Zi (n:=i) V6 .none O (zt O) (zt O) Q T O) (.c (S.Vj L5 .none O (zt O) O O) (.c (zA (c:=16) ze41 O) (.c (zS L5 O O O O O O) .nil)))))))))) (rd 6 O (RK.ZS (t:=154) O (fun A=>?_) (fun A=>?_))))
 ·refine rr 2 O (kc (S.call (sF (a:=(Xi n l).parts[i])) call19 (zg O O) O (zc O (zc O .nil)) O) (rr 2 O (RK.split (t:=159) O (fun z=>?_) (fun z=>?_))))
  ·refine rr 4 O (RK.ZS (t:=163) O (fun x=>?_) (fun x=>?_))
   ·refine rr 2 O (kc (S.call (w_ (p:=(Xi n l).parts[i])) call26 (zg O O) O (zc O .nil) O) (kc (S.beql underlying4 (zg O O) O (zt O) (zt O)) (rr 4 O (kR O O ?_))));simp_all
   refine rr 8 O (kR O O ?_);simp_all
  refine rr 12 O (kR O O ?_);simp_all
 refine rr 17 O (kR O O ?_);simp_all
end Go.Proofs.Z_
namespace Go.Proofs.Z_
open Go.Ab Tryz
def u5{xs:bi}(h:Shape (.st (.cons .str (.cons (.int .i64) .nil))) xs):∃p:Ze,xs=p.cs:=by
 obtain⟨a,b,rfl,⟨s,rfl⟩,c,d,rfl,⟨n,rfl⟩,rfl⟩:=h;exact⟨⟨s,n⟩,rfl⟩
def cW{xs:bi}(h:Shape (.cons (.sl (.st (.cons .str (.cons (.int .i64) .nil)))) (.cons .str (.cons (.int .i64) (.cons (.st (.cons (.int .i64) (.cons (.int .i64) .nil))) .nil)))) xs):∃p:Net,xs=p.cs:=by
 obtain⟨a,b,rfl,⟨rows,rfl,i⟩,c,d,rfl,⟨s,rfl⟩,e,f,rfl,⟨n,rfl⟩,g,k,rfl,⟨u,v,rfl,⟨lo,rfl⟩,y,z,rfl,⟨hi,rfl⟩,rfl⟩,rfl⟩:=h;obtain⟨l,rfl⟩:=EF (f:=Ze.cs) (fun r h=>u5 (i r h));exact⟨⟨l,s,n,lo,hi⟩,rfl⟩
end Go.Proofs.Z_
namespace Go.Proofs.Z_
open Go.Ab Tryz
def qT{xs:bi}(h:Shape (.cons (.int .i64) (.cons .str (.cons .str .nil))) xs):∃p:Entry,xs=p.cs:=by
 obtain⟨a,b,rfl,⟨n,rfl⟩,c,d,rfl,⟨s,rfl⟩,e,f,rfl,⟨t,rfl⟩,rfl⟩:=h;exact⟨⟨n,s,t⟩,rfl⟩
def AB{x:X}(h:Shape (.sl (.st (.cons (.int .i64) (.cons .str (.cons .str .nil))))) [x]):∃l:List Entry,x=.sl (l.map Entry.cs):=by
 obtain⟨rows,b,a⟩:=h;cases b;obtain⟨l,rfl⟩:=EF (f:=Entry.cs) (fun r h=>qT (a r h));grind
end Go.Proofs.Z_
namespace Go.Proofs.Z_
open Go.Ab Tryz
def sh_quest{xs:bi}(h:Shape (.cons (.int .i64) (.cons (.st (.cons .str (.cons (.int .i64) .nil))) .nil)) xs):∃q:Int×ba×Int,xs=[bv q.1,.str q.2.1,bv q.2.2]:=by
 obtain⟨a,b,rfl,⟨n,rfl⟩,c,d,rfl,⟨u,v,rfl,⟨s,rfl⟩,y,z,rfl,⟨m,rfl⟩,rfl⟩,rfl⟩:=h;exact⟨(n,s,m),rfl⟩
