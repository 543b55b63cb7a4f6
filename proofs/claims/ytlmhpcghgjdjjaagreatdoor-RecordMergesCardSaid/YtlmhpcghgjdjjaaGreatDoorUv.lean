import Derived.Test.YtlmhpcghgjdjjaaGreatDoorUs
set_option linter.all false
set_option maxHeartbeats 4000000
open List renaming length->R
namespace Go.Proofs.Z_
open Go.Ab Tryz
set_option maxRecDepth 9999
def fQ{n:Net}{l:List Entry}(h:(Z2 n l).2.2=0):(Z2 n l).1.entries=(R l:Int):=by
 obtain⟨_,_,e⟩:=Ur h;rw[e]at h⊢;rw[sI _ _ _ h];show 0+(R l:Int)=_;omega
end Go.Proofs.Z_
namespace Go.Proofs.Z_
open Go.Ab Tryz
def about_err{H:Z6}{n:Int}{f:Z6->Nat->HE}(a:∀i,(f H i).2≠0->(f H i).1=H)(h:(YJ H n f).2≠0):(YJ H n f).1=H:=by
 unfold YJ at h⊢;cases e:H.U1 n with
 |none=>rfl
 |some i=>
  rw[e]at h;dsimp only at h⊢;split
  ·rename_i h0;rw[Zn h0]at h;exact absurd rfl h
  rename_i h0;exact a i h0
def eff_err{H:Z6}(k:Nat)(L:Sv)(h:(WQ k H L).2≠0):(WQ k H L).1=H:=by
 unfold WQ at h⊢;split
 ·rfl
 ·unfold W_ at h⊢;dsimp only at h⊢
  repeat' split
  all_goals first|rfl|(exfalso;simp_all;done)
 ·unfold Yl at h⊢;cases e:H.Tk with
  |none=>rfl
  |some i=>
   rw[e]at h;dsimp only at h⊢
   repeat' split
   all_goals first|rfl|(exfalso;simp_all;done)
 ·unfold Sz at h⊢;cases e:H.Tk with
  |none=>rfl
  |some i=>rw[e]at h;exact absurd rfl h
 ·exact about_err (fun i hi=>by unfold Wi at hi⊢;split<;>simp_all) h
 ·exact about_err (fun i hi=>by unfold Tu at hi⊢;split<;>simp_all) h
 ·unfold Tw at h⊢;dsimp only at h⊢;split<;>simp_all
 ·unfold XZ at h⊢
  repeat' split
  all_goals first|rfl|(exfalso;simp_all;done)
 ·exact about_err (fun i hi=>by unfold WU at hi⊢;split<;>simp_all) h
 ·refine about_err (fun i hi=>?_) h;unfold Xz at hi⊢;dsimp only at hi⊢
  repeat' split
  all_goals first|rfl|(exfalso;simp_all;done)
 ·unfold XX at h⊢;dsimp only at h⊢
  repeat' split
  all_goals first|rfl|(exfalso;simp_all;done)
 ·refine about_err (fun i hi=>?_) h;unfold Xe at hi⊢;dsimp only at hi⊢;split<;>simp_all
 unfold Wo at h⊢;split<;>simp_all
def enter_err{H:Z6}{x:Entry}(h:(Za H x).2≠0):(Za H x).1=H:=by
 unfold Za at h⊢;split
 ·rfl
 rename_i c;rw[Zm c]at h;split
 ·rename_i i k e d;simp only[e,d]at h;split
  ·rfl
  rename_i b;rw[Zm b]at h;dsimp only at h⊢;split
  ·rename_i a;exact eff_err _ _ a
  rename_i a;rw[Zm a]at h;exact absurd rfl h
 rfl
def fM:List Entry->List Entry->Nat
 |x::a,y::b=>if x=y then fM a b+1 else 0
 |_,_=>0
def mrgT:Z6->List Entry->Nat->List Entry×bd
 |_,[],_=>([],[])
 |H,x::b,i=>if(Za H x).2=0 then(x::(mrgT (Za H x).1 b (i+1)).1,(mrgT (Za H x).1 b (i+1)).2)else((mrgT H b (i+1)).1,(i:Int)::(mrgT H b (i+1)).2)
def va(n:Net)(a b:List Entry):List Entry×bd:=(a++(mrgT (Z2 n a).1 (b.drop (fM a b)) (fM a b)).1,(mrgT (Z2 n a).1 (b.drop (fM a b)) (fM a b)).2)
def replay_on{n:Net}{l:List Entry}{x:Entry}(h:(Z2 n l).2.2=0)(b:(Za (Z2 n l).1 x).2=0):(Z2 n (l++[x])).2.2=0/\(Z2 n (l++[x])).1=(Za (Z2 n l).1 x).1:=by
 have a:(Z2 n (l++[x])).2.2=0:=(replay_app h).trans b;obtain⟨_,_,c⟩:=Ur a;obtain⟨_,_,d⟩:=Ur h;refine⟨a,?_⟩;rw[c]at a⊢;rw[d];exact(z8 _ _ _ _ a).2.2
def mrg_ok{n:Net}:∀(b l:List Entry)(i:Nat),(Z2 n l).2.2=0->(Z2 n (l++(mrgT (Z2 n l).1 b i).1)).2.2=0
 |[],l,i,h=>by rw[mrgT,i8];exact h
 |x::b,l,i,h=>by
  rw[mrgT];by_cases e:(Za (Z2 n l).1 x).2=0
  ·obtain⟨c,a⟩:=replay_on h e;rw[Zn e];have:=mrg_ok b (l++[x]) (i+1) c;rw[a,m7]at this;exact this
  rw[Zm e];exact mrg_ok b l (i+1) h
def com_le:∀(a b:List Entry),fM a b<=R a/\fM a b<=R b
 |[],b=>by unfold fM;simp
 |x::a,[]=>by unfold fM;simp
 |x::a,y::b=>by
  have:=com_le a b;unfold fM;split<;>simp<;>omega
def com_take:∀(a:List Entry)(k:Nat),k<=R a->fM (a.take k) a=k/\fM a (a.take k)=k
 |a,0,_=>by
  rw[List.take_zero];cases a<;>simp[fM]
 |[],k+1,h=>by simp at h
 |x::a,k+1,h=>by
  have:=com_take a k (by simpa using h);rw[fg];unfold fM;rw[Zn rfl,Zn rfl,this.1,this.2];exact⟨rfl,rfl⟩
def mrg_all{n:Net}{a:List Entry}(h:(Z2 n a).2.2=0):∀(m k:Nat),k+m=R a->mrgT (Z2 n (a.take k)).1 (a.drop k) k=(a.drop k,[])
 |0,k,e=>by rw[ut I];rfl
 |m+1,k,e=>by
  have b:k<R a:=I
  obtain⟨d,c⟩:=Aq h b;rw[np b,mrgT,Zn d,←c,mrg_all h m (k+1) I]
def merge_half{n:Net}{a:List Entry}(h:(Z2 n a).2.2=0){k:Nat}(b:k<=R a):va n (a.take k) a=(a,[])/\va n a (a.take k)=(a,[]):=by
 obtain⟨d,c⟩:=com_take a k b;unfold va;rw[d,c,mrg_all h (R a - k) k I];refine⟨by rw[a7],?_⟩;rw[ut (by rw[sc];omega)];show(a++[],[])=_;rw[i8]
end Go.Proofs.Z_
namespace Go.Proofs.Z_
open Go.Ab Tryz
def sH{n:Net}{l:List Entry}(h:(Z2 n l).2.2=0):(Z2 n l).1.XR=n/\(Z2 n l).1.plan=(ZO n.plan).1:=by
 have key:∀(l:List Entry)(H:Z6)(i:Nat),(runT H i l).1.XR=H.XR/\(runT H i l).1.plan=H.plan:=by
  intro l
  induction l with
  |nil=>intro H i;exact⟨rfl,rfl⟩
  |cons x l a=>
   intro H i;have e:=UY H x;rw[runT];split
   ·exact⟨e.2,e.1⟩
   exact⟨(a _ _).1.trans e.2,(a _ _).2.trans e.1⟩
 obtain⟨_,_,e⟩:=Ur h;rw[e];exact key _ _ _
end Go.Proofs.Z_
namespace Go.Proofs.Z_
open Go.Ab Tryz
def mgdE(n:Net)(a b:List Entry):Int:=ZW [(Z2 n a).2.2,(Z2 n b).2.2]
def mgdT(n:Net)(a b:List Entry):List Entry×bd:=if mgdE n a b≠0 then([],[])else va n a b
def mgdE_0{n:Net}{a b:List Entry}(h:mgdE n a b=0):(Z2 n a).2.2=0/\(Z2 n b).2.2=0:=by
 unfold mgdE at h;by_cases c:(Z2 n a).2.2=0
 ·rw[c,N8]at h;by_cases d:(Z2 n b).2.2=0
  ·exact⟨c,d⟩
  rw[OD d]at h;exact absurd h d
 rw[OD c]at h;exact absurd h c
def mgdE_1{n:Net}{a b:List Entry}(h:(Z2 n a).2.2≠0):mgdE n a b=(Z2 n a).2.2:=OD h
def mgdE_2{n:Net}{a b:List Entry}(h:(Z2 n a).2.2=0):mgdE n a b=(Z2 n b).2.2:=by
 unfold mgdE;rw[h,N8];by_cases c:(Z2 n b).2.2=0
 ·rw[c];rfl
 exact OD c
def entry_peql{x y:Entry}:Nq [.i x.at_,.s x.OR,.s x.text] [.i y.at_,.s y.OR,.s y.text]=decide (x=y):=by
 have h:=@fO x y;rw[cδ]at h⊢;simp only[zd,de]at h⊢;cases e:Nq [.i x.at_,.s x.OR,.s x.text] [.i y.at_,.s y.OR,.s y.text]<;>simp_all
def log_at{o:List Entry}{i:Nat}(h:i<R o):(o.map Entry.cs).flatten[i * 3+0]?=some (X.int .i64 o[i].at_):=
 j_ (row:=o[i].cs) (fun r a=>by obtain⟨x,_,rfl⟩:=rx.1 a;rfl) (by rw[dp,Zv h];rfl) rfl
def com_on:∀{a b:List Entry}{i:Nat}(d:i<R a)(c:i<R b),a[i]=b[i]->fM (a.drop i) (b.drop i)=fM (a.drop (i+1)) (b.drop (i+1))+1:=by
 intro a b i d c e;rw[np d,np c,fM,Zn e]
def com_ne:∀{a b:List Entry}{i:Nat}(d:i<R a)(c:i<R b),¬a[i]=b[i]->fM (a.drop i) (b.drop i)=0:=by
 intro a b i d c e;rw[np d,np c,fM,Zm e]
def com_end{a b:List Entry}{i:Nat}(h:¬(i<R a/\i<R b)):fM (a.drop i) (b.drop i)=0:=by
 rcases w7 i (R a) with q|q
 ·have e:b.drop i=[]:=dq I;rw[e];cases a.drop i<;>rfl
 have e:a.drop i=[]:=dq q;rw[e];rfl
def restT(H:Z6)(b:List Entry)(i:Nat)(o:List Entry)(r:bd):List Entry×bd:=(o++(mrgT H (b.drop i) i).1,r++(mrgT H (b.drop i) i).2)
def rest_T{H:Z6}{b o:List Entry}{i:Nat}{r:bd}(hi:i<R b)(h:(Za H b[i]).2=0):restT H b i o r=restT (Za H b[i]).1 b (i+1) (o++[b[i]]) r:=by
 unfold restT;rw[np hi,mrgT,Zn h];simp
def rest_F{H:Z6}{b o:List Entry}{i:Nat}{r:bd}(hi:i<R b)(h:(Za H b[i]).2≠0):restT H b i o r=restT H b (i+1) o (r++[(i:Int)]):=by
 unfold restT;rw[np hi,mrgT,Zm h];simp
def rest_end{H:Z6}{b o:List Entry}{i:Nat}{r:bd}(hi:R b<=i):restT H b i o r=(o,r):=by
 unfold restT;rw[dq hi,mrgT];simp
def mrg_step{n:Net}{o:List Entry}(h:(Z2 n o).2.2=0)(x:Entry):(R o<60->GA n (Xi n o) x (Z2 n o).1.time=((Za (Z2 n o).1 x).1.st,(Za (Z2 n o).1 x).2))/\(¬R o<60->(Za (Z2 n o).1 x).2≠0):=by
 have e:=fQ h;refine⟨fun c=>?_,fun c b=>?_⟩
 ·rw[xT (Zp h)];exact(kj (F5 h) (sH h).1 (sH h).2 x I).symm
 have a:(Z2 n o).1.head x=0:=by
  unfold Za at b;by_cases a:(Z2 n o).1.head x=0
  ·exact a
  rw[Zn a]at b;exact b
 have:=(HV a).1;omega
def time_of{n:Net}{o:List Entry}(h:(Z2 n o).2.2=0):(∀a:R o - 1<R o,(Z2 n o).1.time=o[R o - 1].at_)/\(R o=0->(Z2 n o).1.time=0):=by
 refine⟨fun a=>?_,fun a=>?_⟩
 ·obtain⟨c,b⟩:=Aq h a;rw[show R o - 1+1=R o by omega,List.take_length]at b;rw[b];exact(Dw c).2
 have:o=[]:=cι.1 a;subst this;obtain⟨_,_,e⟩:=Ur h;rw[e];rfl
def mrg_mem{n:Net}{a b:List Entry}:∀x∈(va n a b).1,x∈a\/x∈b:=by
 have key:∀(b:List Entry)(H:Z6)(i:Nat),∀x∈(mrgT H b i).1,x∈b:=by
  intro b
  induction b with
  |nil=>intro H i x c;exact c
  |cons y b d=>
   intro H i x c;rw[mrgT]at c;split at c
   ·rcases sf.1 c with rfl|c
    ·exact rv
    exact rl _ (d _ _ x c)
   exact rl _ (d _ _ x c)
 intro x c;rcases List.mem_append.1 c with c|c
 ·exact .inl c
 exact .inr (dβ (key _ _ _ x c))
def mrg_good{n:Net}{o:List Entry}(h:(Z2 n o).2.2=0):(Xi n o).Good (ZO n.plan).1:=by
 rw[xT (Zp h),←(sH h).2];exact(F5 h).good
def mrg_mods{n:Net}{o:List Entry}(h:(Z2 n o).2.2=0):(Xi n o).j3 (ZO n.plan).1:=by
 rw[xT (Zp h),←(sH h).2];exact(F5 h).mods
def rec_Merged{n:Net}{a b:List Entry}(hp:R n.plan<=1000)(ha:∀x∈a,R x.text<=100000)(hb:∀x∈b,R x.text<=100000):Q7 prog 29 [.agg n.cs,.sl (a.map Entry.cs),.sl (b.map Entry.cs)] (.Yy [.sl ((mgdT n a b).1.map Entry.cs),.sl ((mgdT n a b).2.map fun k=>[bv k]),bv (mgdE n a b)]):=by
 refine cT func29 O fun hT=>?_
 refine OK.XF (rows:=a.map Entry.cs) (t:=1) O O fun P=>?_
 rw[Zx]at P;unfold maxLen at P;refine OK.XF (rows:=b.map Entry.cs) (t:=2) O O fun M=>?_
 rw[Zx]at M;unfold maxLen at M;refine ro 3 O (kc (S.assign .none O .Ya) (kc (S.assign .none O .Ya) (rr 7 O ?_)));refine RK.Ng (((R2 hp (An ha)).at hT)) (fun _=>Mf.ZV _ _ _) (fun _=>Mf.mono) call64 O (zc O (zc O .nil)) O fun A=>?_
 refine rr 13 O (kc (S.Xo (rec_CheckLog (n:=n) (l:=b) I (An hb)) hT call53 .none O (zc O (zc O .nil)) O) ?_);refine rr 12 O ?_;refine RK.c (zM [[_],[_]] Xk O O O O) (kc (S.XY (YI (l:=[_,_])) call76 .none O (zc O .nil) (.cons (.p (.own O O) O) .nil) O) ?_);refine rr 9 O (kB O (fun E=>?_) (fun E=>?_))
 ·have hD:mgdT n a b=([],[]):=Zn E;refine ro 3 O (kc (S.assign .none O .Ya) (kc (S.assign .none O .Ya) (rr 3 O (OK.ret (Y3.r3 (zo O O) (zo O O) (zo O O) ?_)))));rw[hD];try rfl
 have B:mgdE n a b=0:=Zu.1 E;obtain⟨f,Z⟩:=mgdE_0 B;have hD:mgdT n a b=va n a b:=Zm (Zp B);have hb60:=(Ur Z).2.1;have ha60:=(Ur f).2.1;refine OK.Ld f O fun V U=>?_
 rw[Jm f];obtain⟨J,Q⟩:∃J:Nat,A.b=J:=⟨_,rfl⟩;rw[Q];refine ro 7 O ?_;refine OK.join (G:=Nat) [] (fun c=>[(1,.sl (a.map Entry.cs)),(2,.sl (b.map Entry.cs)),(9,.raw (pV J)),(14,bv c),(3000,.res (Z9 A.mem))]) (fun c=>c=fM a b) (fun _=>O) ?_ ?_
 ·refine OK.block (OK.loop (G:=Nat) [] (fun i=>[(1,.sl (a.map Entry.cs)),(2,.sl (b.map Entry.cs)),(9,.raw (pV J)),(3000,.res (Z9 A.mem)),(14,bv i)]) (fun i=>i<=R a/\i<=R b/\fM a b=fM (a.drop i) (b.drop i)+i) (fun i=>R a - i) 0 ⟨Zr _,Zr _,O⟩ ⟨O,O,O,O,O,Zo⟩ (fun _=>O) ?_);rintro i ⟨hi1,hi2,u⟩;refine kO (kO ?_);by_cases d:((i:Int)<if(R b:Int)<(R a:Int)then(R b:Int)else(R a:Int))
  ·have q:i<R a:=by split at d<;>omega
   have e:i<R b:=by split at d<;>omega
   refine kV (.c (zm O) (.c (zm O) (.c (zk Vy O) (.c (zm O) (.c (zk Vy O) (.c (S.min2 .none O (zt O) (zt O)) (.c (S.lss .none O (zt O) (zt O)) (.c (zm O) (.c (S.move (.yes O O O (by first|rfl|exact Zz d|exact Zy d|(rw[Zz d];rfl)|(rw[Zy d];rfl)|simp[*])) O (zt O)) (.c (S.move (.yes O O O (by first|rfl|exact Zz d|exact Zy d|(rw[Zz d];rfl)|(rw[Zy d];rfl)|simp[*])) O (zt O)) (.c (S.Zi (n:=i) Vy (.yes O O O (by first|rfl|exact Zz d|exact Zy d|(rw[Zz d];rfl)|(rw[Zy d];rfl)|simp[*])) O (zt O) (zt O) O q O) (.c (S.Vj rT (.yes O O O (by first|rfl|exact Zz d|exact Zy d|(rw[Zz d];rfl)|(rw[Zy d];rfl)|simp[*])) O (zt O) O O) (.c (S.move (.yes O O O (by first|rfl|exact Zz d|exact Zy d|(rw[Zz d];rfl)|(rw[Zy d];rfl)|simp[*])) O (zt O)) (.c (S.move (.yes O O O (by first|rfl|exact Zz d|exact Zy d|(rw[Zz d];rfl)|(rw[Zy d];rfl)|simp[*])) O (zt O)) (.c (S.Zi (n:=i) Vy (.yes O O O (by first|rfl|exact Zz d|exact Zy d|(rw[Zz d];rfl)|(rw[Zy d];rfl)|simp[*])) O (zt O) (zt O) O e O) (.c (S.Vj rT (.yes O O O (by first|rfl|exact Zz d|exact Zy d|(rw[Zz d];rfl)|(rw[Zy d];rfl)|simp[*])) O (zt O) O O) (.c (S.rY (b:=decide (a[i]=b[i])) [.i 0,.s [],.s []] [.i (a[i]).at_,.s (a[i]).OR,.s (a[i]).text] [.i (b[i]).at_,.s (b[i]).OR,.s (b[i]).text] eqp95 (.yes O O O (by first|rfl|exact Zz d|exact Zy d|(rw[Zz d];rfl)|(rw[Zy d];rfl)|simp[*])) O (zt O) (zt O) O O O O entry_peql) (.c (S.Tc .none O (zt O) (zt O) (by first|rfl|exact Zz d|exact Zy d|(rw[Zz d];rfl)|(rw[Zy d];rfl)|simp[*])) .nil)))))))))))))))))) ?_;refine Ab.D.code (kB O (fun C=>?_) (fun C=>?_))
   ·have W:a[i]=b[i]:=C;refine Ro 9 O I ?_;refine Ab.D.lp ⟨i+1,⟨I,I,by rw[u,com_on q e W];omega⟩,I,O,O,O,O,O,Zo⟩
   have y:=u.trans (by rw[com_ne q e C,wc]);refine OK.exit O (Ab.D.lp ⟨i,y.symm,O,O,O,O,O,Zo⟩)
  have y:=u.trans (by rw[com_end (fun h=>d (by split<;>omega)),wc]);refine kV (.c (zm O) (.c (zm O) (.c (zk Vy O) (.c (zm O) (.c (zk Vy O) (.c (S.min2 .none O (zt O) (zt O)) (.c (S.lss .none O (zt O) (zt O)) (.c (zm O) (.c (zG O (by first|rfl|exact Zz d|exact Zy d|(rw[Zz d];rfl)|(rw[Zy d];rfl)|simp[*])) (.c (zG O (by first|rfl|exact Zz d|exact Zy d|(rw[Zz d];rfl)|(rw[Zy d];rfl)|simp[*])) (.c (zG O (by first|rfl|exact Zz d|exact Zy d|(rw[Zz d];rfl)|(rw[Zy d];rfl)|simp[*])) (.c (zG O (by first|rfl|exact Zz d|exact Zy d|(rw[Zz d];rfl)|(rw[Zy d];rfl)|simp[*])) (.c (zG O (by first|rfl|exact Zz d|exact Zy d|(rw[Zz d];rfl)|(rw[Zy d];rfl)|simp[*])) (.c (zG O (by first|rfl|exact Zz d|exact Zy d|(rw[Zz d];rfl)|(rw[Zy d];rfl)|simp[*])) (.c (zG O (by first|rfl|exact Zz d|exact Zy d|(rw[Zz d];rfl)|(rw[Zy d];rfl)|simp[*])) (.c (zG O (by first|rfl|exact Zz d|exact Zy d|(rw[Zz d];rfl)|(rw[Zy d];rfl)|simp[*])) (.c (zG O (by first|rfl|exact Zz d|exact Zy d|(rw[Zz d];rfl)|(rw[Zy d];rfl)|simp[*])) (.c (S.Ug .none O (zt O) .Wx (by first|rfl|exact Zz d|exact Zy d|(rw[Zz d];rfl)|(rw[Zy d];rfl)|simp[*])) .nil)))))))))))))))))) ?_;refine rd 3 O (Ab.D.lp ⟨i,y.symm,O,O,O,O,O,Zo⟩)
 rintro c rfl;refine ro 3 O (RK.c (S.dQ (k:=59) (j5 (l:=a) I) call77 .none O (zc O .nil) O (Zx ..)) ?_);refine rr 5 O (RK.c (S.XG (k:=16) (sz:=1) .none O) (rr 10 O ?_));have hcl:=(com_le a b).2;refine OK.YS (J':=JX J (Z2 n a).1 (400+2 * ((fM a b:Nat):Int))) O (JX.ZV _ _ _) (fun h Y w hj=>⟨A,⟨Q,U,V.more I I⟩,hj⟩) ?_;refine OK.rU [59,16] (fun(i:Nat)(H:Z6)(o:List Entry)(r:bd)=>[(2,.sl (b.map Entry.cs)),(9,.raw (pV J)),(15,.own 59 (R o)),(2059,.arr 3 (o.map Entry.cs)),(16,.own 16 (R r)),(2016,.arr 1 (r.map fun k=>[bv k])),(17,bv i),(3000,.res (JX J H (400+2 * (i:Int))))]) (fun i H o r=>i<=R b/\va n a b=restT H b i o r/\Y_ H.plan=0/\Ka H.XR/\R o<=R a+i/\R r<=i) (fun i H o r=>R b - i) (fM a b) ((Z2 n a).1) (a) ([]) ⟨(com_le a b).2,O,(replay_pl f).1,(replay_pl f).2,Nat.le_add_right _ _,Zr _⟩ ⟨O,O,O,O,O,O,O,O,Zo⟩ (fun _ _ _ _=>O) ?_;rintro i H o r ⟨hi,u,j,v,hol,hrl⟩;refine ro 5 O (kc (zk Vy O) (rr 3 O (kB O (fun c64=>?_) (fun c64=>?_))))
 ·have e:i<R b:=I
  refine OK.rV O fun T X K L=>?_
  subst X;subst K;refine ro 9 O (kc (zI Vy O e O) (kc (S.Vj rT .none O (zt O) O O) ?_));refine RK.c (S.VO (((Au (m:=400+2 * (i:Int)) L I j v (hb _ (Zt e)) (fun _ hk=>rQ (Y8 hk).1)).Tq hT (Z9.ZV _))) (JX.ZV _ _ _) call78 .none O (zc O (zc O .nil)) O O) ?_;refine rr 3 O (kB O (fun g=>?_) (fun g=>?_))
  ·have z:=rest_T (o:=o) (r:=r) e g;refine ro 4 O (kc (zI Vy O e O) (kc (S.Vj rT .none O (zt O) O O) ?_));refine RK.c (zM [[_,_,_]] x9 O O O O) ?_;refine kc (zP x9 O O (Zx ..) N I (by simp only[maxLen];omega)) ?_;refine Rr 9 O I ?_;refine Ab.D.lp ⟨i+1,(Za T.plain b[i]).1,o++[b[i]],r,⟨I,u.trans z,by rw[(UY _ _).1];exact j,by rw[(UY _ _).2];exact v,by first|omega|(simp;omega),by first|omega|(simp;omega)⟩,I,O,O,(ZH F),(ZX (by first|rfl|(rw[ne];rfl))),(ZH F),(ZX (by first|rfl|(rw[ne];rfl))),O,(OB (by rw[show 400+2 * ((i+1:Nat):Int)=400+2 * (i:Int)+2 by omega])),Zo⟩
  have z:restT T.plain b i o r=restT (Za T.plain b[i]).1 b (i+1) o (r++[(i:Int)]):=by rw[enter_err g];exact rest_F (o:=o) (r:=r) e g
  refine ro 3 O ?_;refine RK.c (zM [[_]] Xr O O O O) ?_;refine kc (zP Xr O O (Zx ..) N I (by simp only[maxLen];omega)) ?_;refine Rr 9 O I ?_;refine Ab.D.lp ⟨i+1,(Za T.plain b[i]).1,o,r++[(i:Int)],⟨I,u.trans z,by rw[(UY _ _).1];exact j,by rw[(UY _ _).2];exact v,by first|omega|(simp;omega),by first|omega|(simp;omega)⟩,I,O,O,(ZH F),(ZX (by first|rfl|(rw[ne];rfl))),(ZH F),(ZX (by first|rfl|(rw[ne];rfl))),O,(OB (by rw[show 400+2 * ((i+1:Nat):Int)=400+2 * (i:Int)+2 by omega])),Zo⟩
 have hM:va n a b=(o,r):=u.trans (rest_end I);refine ro 11 O ?_;refine OK.ret (Y3.r3 (.tmp O O (.c (.own O O N) O) O) (.tmp O O (.c (.own O O N) O) O) (zo O O) ?_);rw[hD,hM,B]
 try rfl
def ref10_Merged{n:Net}{a b:List Entry}(hbl:R b<=1000)(hp:R n.plan<=1000)(B:(Z2 n a).2.2=0)(ha:∀x∈a,R x.text<=100000)(hb:∀x∈b,R x.text<=100000):Ct prog 30 [.agg n.cs,.sl (a.map Entry.cs),.sl (b.map Entry.cs)] (.Yy [.sl ((va n a b).1.map Entry.cs),.sl ((va n a b).2.map fun k=>[bv k])]):=by
 refine cI func30 O (OK.XF (rows:=a.map Entry.cs) (t:=1) O O fun K=>?_);rw[Zx]at K;unfold maxLen at K;refine OK.XF (rows:=b.map Entry.cs) (t:=2) O O fun J=>?_
 rw[Zx]at J;unfold maxLen at J;have Z:=(Ur B).2.1;have H:=(Ur B).1;refine ro 3 O (kc (S.assign .none O .Ya) (kc (S.assign .none O .Ya) (rr 5 O (RK.c (S.dQ (k:=16) (refO_CopyLog (l:=a) I) call15 .none O (zc O .nil) O (Zx ..)) ?_))));refine rr 7 O (kc (zK (kG (n:=n) (l:=a) I H ha) call20 O) ?_);refine rr 9 O ?_;refine OK.join (G:=Nat) [3,16,9] (fun c=>[(1,.sl (a.map Entry.cs)),(2,.sl (b.map Entry.cs)),(3,.ptr 3 0),(1003,.box n.cs),(8,.own 16 (R a)),(2016,.arr 3 (a.map Entry.cs)),(9,.ptr 9 0),(1009,.box (Xi n a).cs),(10,bv c)]) (fun c=>c=fM a b) (fun _=>O) ?_ ?_
 ·refine OK.block ?_;refine OK.loop (G:=Nat) [3,16,9] (fun i=>[(1,.sl (a.map Entry.cs)),(2,.sl (b.map Entry.cs)),(3,.ptr 3 0),(1003,.box n.cs),(8,.own 16 (R a)),(2016,.arr 3 (a.map Entry.cs)),(9,.ptr 9 0),(1009,.box (Xi n a).cs),(10,bv i)]) (fun i=>i<=R a/\i<=R b/\fM a b=fM (a.drop i) (b.drop i)+i) (fun i=>R a - i) 0 ⟨Zr _,Zr _,O⟩ ⟨O,O,O,O,(ZH N),(ZX N),O,O,O,Zo⟩ (fun _=>O) ?_;rintro i ⟨hi1,hi2,w⟩;refine kO (kO ?_);by_cases f:(i:Int)<(R a:Int)
  ·have A:i<R a:=by omega
   by_cases d:(i:Int)<(R b:Int)
   ·have j:i<R b:=by omega
    refine kV (.c (zm O) (.c (zm O) (.c (zk Vy O) (.c (S.lss .none O (zt O) (zt O)) (.c (zm O) (.c (S.move (.yes O O O (by first|rfl|exact Zz f|exact Zy f|(rw[Zz f];rfl)|(rw[Zy f];rfl)|simp[*])) O (zt O)) (.c (S.move (.yes O O O (by first|rfl|exact Zz f|exact Zy f|(rw[Zz f];rfl)|(rw[Zy f];rfl)|simp[*])) O (zt O)) (.c (S.OF Vy (.yes O O O (by first|rfl|exact Zz f|exact Zy f|(rw[Zz f];rfl)|(rw[Zy f];rfl)|simp[*])) O (zt O)) (.c (S.lss (.yes O O O (by first|rfl|exact Zz f|exact Zy f|(rw[Zz f];rfl)|(rw[Zy f];rfl)|simp[*])) O (zt O) (zt O)) (.c (S.Tc .none O (zt O) (zt O) (by first|rfl|exact Zz f|exact Zy f|(rw[Zz f];rfl)|(rw[Zy f];rfl)|simp[*])) (.c (zm O) (.c (S.move (.yes O O O (by first|rfl|exact Zz d|exact Zy d|(rw[Zz d];rfl)|(rw[Zy d];rfl)|simp[*])) O (zt O)) (.c (S.move (.yes O O O (by first|rfl|exact Zz d|exact Zy d|(rw[Zz d];rfl)|(rw[Zy d];rfl)|simp[*])) O (zt O)) (.c (S.Zi (n:=i) Vy (.yes O O O (by first|rfl|exact Zz d|exact Zy d|(rw[Zz d];rfl)|(rw[Zy d];rfl)|simp[*])) O (zt O) (zt O) O A O) (.c (S.Vj rT (.yes O O O (by first|rfl|exact Zz d|exact Zy d|(rw[Zz d];rfl)|(rw[Zy d];rfl)|simp[*])) O (zt O) O O) (.c (S.move (.yes O O O (by first|rfl|exact Zz d|exact Zy d|(rw[Zz d];rfl)|(rw[Zy d];rfl)|simp[*])) O (zt O)) (.c (S.move (.yes O O O (by first|rfl|exact Zz d|exact Zy d|(rw[Zz d];rfl)|(rw[Zy d];rfl)|simp[*])) O (zt O)) (.c (S.Zi (n:=i) Vy (.yes O O O (by first|rfl|exact Zz d|exact Zy d|(rw[Zz d];rfl)|(rw[Zy d];rfl)|simp[*])) O (zt O) (zt O) O j O) (.c (S.Vj rT (.yes O O O (by first|rfl|exact Zz d|exact Zy d|(rw[Zz d];rfl)|(rw[Zy d];rfl)|simp[*])) O (zt O) O O) (.c (S.rY (b:=decide (a[i]=b[i])) [.i 0,.s [],.s []] [.i (a[i]).at_,.s (a[i]).OR,.s (a[i]).text] [.i (b[i]).at_,.s (b[i]).OR,.s (b[i]).text] eqp95 (.yes O O O (by first|rfl|exact Zz d|exact Zy d|(rw[Zz d];rfl)|(rw[Zy d];rfl)|simp[*])) O (zt O) (zt O) O O O O entry_peql) (.c (S.Tc .none O (zt O) (zt O) (by first|rfl|exact Zz d|exact Zy d|(rw[Zz d];rfl)|(rw[Zy d];rfl)|simp[*])) .nil))))))))))))))))))))) ?_;refine Ab.D.code (kB O (fun E=>?_) (fun E=>?_))
    ·have U:a[i]=b[i]:=E;refine Ro 9 O I ?_;refine Ab.D.lp ⟨i+1,⟨by omega,by omega,by rw[w,com_on A j U];omega⟩,I,O,O,O,O,(ZH N),(ZX N),O,O,O,Zo⟩
    have v:=w.trans (by rw[com_ne A j E,wc]);refine OK.exit O ?_;refine Ab.D.lp ⟨i,v.symm,O,O,O,O,(ZH N),(ZX N),O,O,O,Zo⟩
   have v:=w.trans (by rw[com_end (fun h=>d I),wc]);refine kV (.c (zm O) (.c (zm O) (.c (zk Vy O) (.c (S.lss .none O (zt O) (zt O)) (.c (zm O) (.c (S.move (.yes O O O (by first|rfl|exact Zz f|exact Zy f|(rw[Zz f];rfl)|(rw[Zy f];rfl)|simp[*])) O (zt O)) (.c (S.move (.yes O O O (by first|rfl|exact Zz f|exact Zy f|(rw[Zz f];rfl)|(rw[Zy f];rfl)|simp[*])) O (zt O)) (.c (S.OF Vy (.yes O O O (by first|rfl|exact Zz f|exact Zy f|(rw[Zz f];rfl)|(rw[Zy f];rfl)|simp[*])) O (zt O)) (.c (S.lss (.yes O O O (by first|rfl|exact Zz f|exact Zy f|(rw[Zz f];rfl)|(rw[Zy f];rfl)|simp[*])) O (zt O) (zt O)) (.c (S.Tc .none O (zt O) (zt O) (by first|rfl|exact Zz f|exact Zy f|(rw[Zz f];rfl)|(rw[Zy f];rfl)|simp[*])) (.c (zm O) (.c (zG O (by first|rfl|exact Zz d|exact Zy d|(rw[Zz d];rfl)|(rw[Zy d];rfl)|simp[*])) (.c (zG O (by first|rfl|exact Zz d|exact Zy d|(rw[Zz d];rfl)|(rw[Zy d];rfl)|simp[*])) (.c (zG O (by first|rfl|exact Zz d|exact Zy d|(rw[Zz d];rfl)|(rw[Zy d];rfl)|simp[*])) (.c (zG O (by first|rfl|exact Zz d|exact Zy d|(rw[Zz d];rfl)|(rw[Zy d];rfl)|simp[*])) (.c (zG O (by first|rfl|exact Zz d|exact Zy d|(rw[Zz d];rfl)|(rw[Zy d];rfl)|simp[*])) (.c (zG O (by first|rfl|exact Zz d|exact Zy d|(rw[Zz d];rfl)|(rw[Zy d];rfl)|simp[*])) (.c (zG O (by first|rfl|exact Zz d|exact Zy d|(rw[Zz d];rfl)|(rw[Zy d];rfl)|simp[*])) (.c (zG O (by first|rfl|exact Zz d|exact Zy d|(rw[Zz d];rfl)|(rw[Zy d];rfl)|simp[*])) (.c (zG O (by first|rfl|exact Zz d|exact Zy d|(rw[Zz d];rfl)|(rw[Zy d];rfl)|simp[*])) (.c (S.Ug .none O (zt O) .Wx (by first|rfl|exact Zz d|exact Zy d|(rw[Zz d];rfl)|(rw[Zy d];rfl)|simp[*])) .nil))))))))))))))))))))) ?_;refine rd 3 O ?_;refine Ab.D.lp ⟨i,v.symm,O,O,O,O,(ZH N),(ZX N),O,O,O,Zo⟩
  have v:=w.trans (by rw[com_end (fun h=>f I),wc]);refine kV (.c (zm O) (.c (zm O) (.c (zk Vy O) (.c (S.lss .none O (zt O) (zt O)) (.c (zm O) (.c (zG O (by first|rfl|exact Zz f|exact Zy f|(rw[Zz f];rfl)|(rw[Zy f];rfl)|simp[*])) (.c (zG O (by first|rfl|exact Zz f|exact Zy f|(rw[Zz f];rfl)|(rw[Zy f];rfl)|simp[*])) (.c (zG O (by first|rfl|exact Zz f|exact Zy f|(rw[Zz f];rfl)|(rw[Zy f];rfl)|simp[*])) (.c (zG O (by first|rfl|exact Zz f|exact Zy f|(rw[Zz f];rfl)|(rw[Zy f];rfl)|simp[*])) (.c (S.Ug .none O (zt O) .Wx (by first|rfl|exact Zz f|exact Zy f|(rw[Zz f];rfl)|(rw[Zy f];rfl)|simp[*])) (.c (zm O) (.c (zG O (by first|rfl|exact Zz d|exact Zy d|(rw[Zz d];rfl)|(rw[Zy d];rfl)|simp[*])) (.c (zG O (by first|rfl|exact Zz d|exact Zy d|(rw[Zz d];rfl)|(rw[Zy d];rfl)|simp[*])) (.c (zG O (by first|rfl|exact Zz d|exact Zy d|(rw[Zz d];rfl)|(rw[Zy d];rfl)|simp[*])) (.c (zG O (by first|rfl|exact Zz d|exact Zy d|(rw[Zz d];rfl)|(rw[Zy d];rfl)|simp[*])) (.c (zG O (by first|rfl|exact Zz d|exact Zy d|(rw[Zz d];rfl)|(rw[Zy d];rfl)|simp[*])) (.c (zG O (by first|rfl|exact Zz d|exact Zy d|(rw[Zz d];rfl)|(rw[Zy d];rfl)|simp[*])) (.c (zG O (by first|rfl|exact Zz d|exact Zy d|(rw[Zz d];rfl)|(rw[Zy d];rfl)|simp[*])) (.c (zG O (by first|rfl|exact Zz d|exact Zy d|(rw[Zz d];rfl)|(rw[Zy d];rfl)|simp[*])) (.c (zG O (by first|rfl|exact Zz d|exact Zy d|(rw[Zz d];rfl)|(rw[Zy d];rfl)|simp[*])) (.c (S.Ug .none O (zt O) .Wx (by first|rfl|exact Zz d|exact Zy d|(rw[Zz d];rfl)|(rw[Zy d];rfl)|simp[*])) .nil))))))))))))))))))))) ?_;refine rd 3 O ?_;refine Ab.D.lp ⟨i,v.symm,O,O,O,O,(ZH N),(ZX N),O,O,O,Zo⟩
 rintro c rfl;refine kr (RK.c (S.XG (k:=11) (sz:=1) .none O) (rr 4 O ?_));refine OK.fV [3,16,9,11] (fun(i:Nat)(o:List Entry)(r:bd)=>[(2,.sl (b.map Entry.cs)),(3,.ptr 3 0),(1003,.box n.cs),(8,.own 16 (R o)),(2016,.arr 3 (o.map Entry.cs)),(9,.ptr 9 0),(1009,.box (Xi n o).cs),(10,bv i),(11,.own 11 (R r)),(2011,.arr 1 (r.map fun k=>[bv k]))]) (fun i o r=>i<=R b/\va n a b=restT (Z2 n o).1 b i o r/\(Z2 n o).2.2=0/\R r<=i) (fun i o r=>R b - i) (fM a b) (a) ([]) ⟨(com_le a b).2,O,B,Zr _⟩ ⟨O,O,O,O,O,O,O,O,O,O,Zo⟩ (fun _ _ _=>O) ?_;rintro i o r ⟨hi,w,g,hrl⟩;refine ro 5 O (kc (zk Vy O) (rr 3 O (kB O (fun X=>?_) (fun X=>?_))))
 ·have j:i<R b:=by omega
  have Y:=(Ur g).2.1;obtain⟨P,M⟩:=mrg_step g b[i];refine ro 9 O ?_;refine OK.join (G:=Int) [3,16,9,11] (fun z=>[(2,.sl (b.map Entry.cs)),(3,.ptr 3 0),(1003,.box n.cs),(8,.own 16 (R o)),(2016,.arr 3 (o.map Entry.cs)),(9,.ptr 9 0),(1009,.box (Xi n o).cs),(10,bv i),(11,.own 11 (R r)),(2011,.arr 1 (r.map fun k=>[bv k])),(12,bv z)]) (fun z=>z=(Z2 n o).1.time) (fun _=>O) ?_ ?_
  ·refine ro 3 O (kc (S.sC Vy .none O (zt O) O (Zx ..)) (rr 3 O (kB O (fun W=>?_) (fun W=>?_))))
   ·have m:R o - 1<R o:=by omega
    refine ro 3 O (kc (S.sC Vy .none O (zt O) O (Zx ..)) (Rr 1 O I (kc (S.Mb (i:=R o - 1) Vy .none O (zt O) O (Zx ..) (zt O) I m) (kc (S.rX Nu .none O (zt O) O (Zx ..)) (kc (S.EZ YK .none O (zt O) O (Zx ..) (log_at m)) (ja O (RK.nil ?_)))))));refine Ab.D.lp ⟨_,(by first|exact((time_of g).1 m).symm|exact((time_of g).2 I).symm),O,O,O,(ZH N),(ZX N),O,O,O,(ZH N),(ZX N),O,Zo⟩
   refine OK.skip ?_;refine Ab.D.lp ⟨_,(by first|exact((time_of g).1 m).symm|exact((time_of g).2 I).symm),O,O,O,(ZH N),(ZX N),O,O,O,(ZH N),(ZX N),O,Zo⟩
  rintro z rfl;refine kO (kV (.c (zL Pn O O O O) (.c (zL Zk O O O O) (.c (zm O) (.c (zm O) (.c (zI Vy O j O) (.c (S.Vj rT .none O (zt O) O O) (.c (zm O) (.c (zK (AA (n:=n) hp (fZ H) (mrg_good g) (mrg_mods g) (x:=b[i]) (last:=(Z2 n o).1.time) (hb _ (Zt j))) call79 O) (.c (zm O) (.c (zX O O O) (.c (zX O O O) (.c (zA (c:=13) ga O) (.c (zS Zk O O O O O O) (.c (za O) .nil)))))))))))))) ?_);refine rd 7 O (RK.ZS (t:=72) O (fun y=>?_) (fun y=>?_))
  ·have T:(Za (Z2 n o).1 b[i]).2≠0:=by by_cases q:R o<60;exact fun e=>y (by rw[P q];exact e);exact M q
   have p:=rest_F (o:=o) (r:=r) j T;have u:=g;refine rr 11 O ?_;refine RK.c (zM [[_]] Xr O O O O) ?_;refine kc (zP Xr O O (Zx ..) N I (by simp only[maxLen];omega)) ?_;refine Rr 10 O I ?_;refine Ab.D.lp ⟨i+1,o,r++[(i:Int)],⟨by omega,w.trans p,u,by first|omega|(simp;omega)⟩,I,O,O,O,(ZH F),(ZX (by first|rfl|(rw[ne];rfl))),O,(G5 (by first|rfl|exact C)),O,(ZH F),(ZX (by first|rfl|(rw[ne];rfl))),Zo⟩
  refine kc (S.move (zg O O) O (zt O)) (kc (S.sC Vy (zg O O) O (zt O) O (Zx ..)) (rr 4 O (kB O (fun V=>?_) (fun V=>?_))))
  ·have p:=rest_F (o:=o) (r:=r) j (M I);have u:=g;refine ro 4 O ?_;refine RK.c (zM [[_]] Xr O O O O) ?_;refine kc (zP Xr O O (Zx ..) N I (by simp only[maxLen];omega)) ?_;refine Rr 10 O I ?_;refine Ab.D.lp ⟨i+1,o,r++[(i:Int)],⟨by omega,w.trans p,u,by first|omega|(simp;omega)⟩,I,O,O,O,(ZH F),(ZX (by first|rfl|(rw[ne];rfl))),O,(G5 (by first|rfl|exact C)),O,(ZH F),(ZX (by first|rfl|(rw[ne];rfl))),Zo⟩
  have L:=P I;have T:(Za (Z2 n o).1 b[i]).2=0:=by rw[L]at y;exact Zu.1 y
  obtain⟨u,Q⟩:=replay_on g T;have p:=rest_T (o:=o) (r:=r) j T;rw[←Q]at p;have C:(GA n (Xi n o) b[i] (Z2 n o).1.time).1.cs=(Xi n (o++[b[i]])).cs:=by rw[L,xT (Zp u),Q]
  refine OK.skip (Ab.D.code ?_);refine kV (.c (zm O) (.c (zm O) (.c (zm O) (.c (zI Vy O j O) (.c (S.Vj rT .none O (zt O) O O) (.c (zM [[_,_,_]] x9 O O O O) (.c (zP x9 O O (Zx ..) N I (by simp only[maxLen];omega)) (.c (zL Zk O O O O) (.c (za O) (.c (zS Zk O O O O O O) .nil)))))))))) ?_;refine Rd 7 O I ?_;refine Ab.D.lp ⟨i+1,o++[b[i]],r,⟨by omega,w.trans p,u,by first|omega|(simp;omega)⟩,I,O,O,O,(ZH F),(ZX (by first|rfl|(rw[ne];rfl))),O,(G5 (by first|rfl|exact C)),O,(ZH F),(ZX (by first|rfl|(rw[ne];rfl))),Zo⟩
 have hM:va n a b=(o,r):=w.trans (rest_end I);refine ro 10 O ?_;refine OK.ret (Y3.r2 (.tmp O O (.c (.own O O N) O) O) (.tmp O O (.c (.own O O N) O) O) ?_);rw[hM];try rfl
def law_RecordMerges{n:Net}{a b:List Entry}:Q7 prog 5 [.agg n.cs,.sl (a.map Entry.cs),.sl (b.map Entry.cs)] (.bool true):=by
 refine cT func5 O fun L=>?_
 refine ro 9 O (kc (S.Xo (Bp) L call10 .none O .nil O) (kc (S.not .none O (zt O)) (rr 9 O (kc (zK (tK (n:=n)) call11 O) (kc (S.not .none O (zt O)) (jm O (RK.split (t:=25) O (fun J=>?_) (fun J=>?_))))))))
 ·refine rr 17 O (kR O O ?_)
  first|rfl|simp
 refine kc (S.move (zg O O) O (zt O)) (kc (S.call (C2 (l:=a)) call12 (zg O O) O (zc O .nil) O) (kc (S.not (zg O O) O (zt O)) (rr 2 O (RK.split (t:=30) O (fun H=>?_) (fun H=>?_)))))
 ·refine rr 12 O (kR O O ?_)
  first|rfl|simp
 refine kc (S.move (zg O O) O (zt O)) (kc (S.call (C2 (l:=b)) call12 (zg O O) O (zc O .nil) O) (kc (S.not (zg O O) O (zt O)) (rr 3 O (OK.cond O O (fun K=>?_) (fun K=>?_)))))
 ·refine ro 5 O (kR O O ?_)
  first|rfl|simp
 have U:NK n=true:=by simpa using J
 have T:Xv a=true:=by simpa using H
 have Q:Xv b=true:=by simpa using K
 obtain⟨hl1,hl2⟩:=mN U;obtain⟨hla,P⟩:=dz T;obtain⟨hlb,N⟩:=dz Q;have c:∀y∈a,R y.text<=100000:=fun y u=>by have:=P y u;omega
 have e:∀y∈b,R y.text<=100000:=fun y u=>by have:=N y u;omega
 refine ro 5 O (kc (zK (Tj (n:=n) I) call14 O) (jm O (kc (zK (S8 (l:=a) I) call15 O) (jm O (kc (zK (S8 (l:=b) I) call15 O) (kc (S.Xo (rec_Merged (n:=n) (a:=a) (b:=b) I c e) L call29 .none O (zc O (zc O (zc O .nil))) O) ?_))))));refine rr 13 O (kc (zK (G9 (n:=n) (l:=a) I c) call18 O) ?_);refine rr 3 O ?_;refine OK.join (G:=Int) [3] (fun d=>[(1,.sl (a.map Entry.cs)),(2,.sl (b.map Entry.cs)),(3,.ptr 3 0),(1003,.box n.cs),(7,.sl ((mgdT n a b).1.map Entry.cs)),(8,.sl ((mgdT n a b).2.map fun k=>[bv k])),(9,bv (mgdE n a b)),(10,bv d)]) (fun d=>d=mgdE n a b) (fun _=>O) ?_ ?_
 ·refine ro 6 O (kB O (fun g=>?_) (fun g=>?_))
  ·refine ro 3 O (kc (zK (G9 (n:=n) (l:=b) I e) call18 O) (ja O (RK.nil ?_)));refine Ab.D.lp ⟨_,(by first|exact(mgdE_2 g).symm|exact(mgdE_1 g).symm),O,O,O,O,O,O,O,O,Zo⟩
  refine OK.skip (Ab.D.lp ⟨_,(by first|exact(mgdE_2 g).symm|exact(mgdE_1 g).symm),O,O,O,O,O,O,O,O,Zo⟩)
 rintro d rfl;refine ro 7 O (kB O (fun w=>?_) (fun w=>?_))
 ·have M:mgdT n a b=([],[]):=Zn w;have hD1:(mgdT n a b).1=[]:=by rw[M]
  have Z:(mgdT n a b).2=[]:=by rw[M]
  rw[hD1,Z];refine ro 6 O (RK.ZS (t:=59) O (fun E=>?_) (fun E=>?_))
  ·refine kc (S.move (zg O O) O (zt O)) (kc (S.OF Vy (zg O O) O (zt O)) (kc (S.move (zg O O) O (zt O)) (kc (S.OF Ym (zg O O) O (zt O)) (kc (S.add (zg O O) O (zt O) (zt O) (mn _ F) (mn _ F)) ?_))));refine rr 5 O (kR O O ?_)
   first|rfl|simp
  exact absurd rfl E
 have v:mgdE n a b=0:=Zu.1 w;obtain⟨f,V⟩:=mgdE_0 v;have hb60:=(Ur V).2.1;have M:mgdT n a b=va n a b:=Zm (Zp v);rw[M,v];have X:∀y∈(va n a b).1,R y.text<=100000:=fun y u=>by rcases mrg_mem y u with h|h;exact c y h;exact e y h
 have Y:=mrg_ok (b.drop (fM a b)) a (fM a b) f;have W:(va n a b).1.take (R a)=a:=List.take_left;have hMn:R a<=R (va n a b).1:=by unfold va;dsimp only;rw[Zs];omega
 have i:∀y∈(a.take (R a / 2)),R y.text<=100000:=fun y u=>c y (eν u)
 obtain⟨q1,q2⟩:=merge_half f (k:=R a / 2) I;have x:=UP f (R a / 2);have e1:mgdE n (a.take (R a / 2)) a=0:=(mgdE_2 x).trans f;have e2:mgdE n a (a.take (R a / 2))=0:=(mgdE_2 f).trans x;have f1:mgdT n (a.take (R a / 2)) a=(a,[]):=(Zm (Zp e1)).trans q1;have f2:mgdT n a (a.take (R a / 2))=(a,[]):=(Zm (Zp e2)).trans q2;have f11:(mgdT n (a.take (R a / 2)) a).1=a:=by rw[f1]
 have f12:(mgdT n (a.take (R a / 2)) a).2=[]:=by rw[f1]
 have f21:(mgdT n a (a.take (R a / 2))).1=a:=by rw[f2]
 have f22:(mgdT n a (a.take (R a / 2))).2=[]:=by rw[f2]
 refine ro 7 O (kc (zK (ref10_Merged (n:=n) (a:=a) (b:=b) I I f c e) call30 O) ?_);refine rr 13 O (RK.ZS (t:=76) O (fun B=>?_) (fun B=>?_))
 ·exact absurd rfl B
 refine rr 2 O (kc (S.call (AD (a:=(va n a b).1) (b:=(va n a b).1)) call31 (zg O O) O (zc O (zc O .nil)) O) (kc (S.Xb (zg O O) O (zt O)) (rr 2 O (RK.ZS (t:=82) O (fun A=>?_) (fun A=>?_)))))
 ·exact absurd rfl A
 refine rr 2 O (kc (S.call (Me (a:=(va n a b).2) (b:=(va n a b).2)) call22 (zg O O) O (zc O (zc O .nil)) O) (kc (S.Xb (zg O O) O (zt O)) (rr 2 O (RK.ZS (t:=88) O (fun z=>?_) (fun z=>?_)))))
 ·exact absurd rfl z
 refine kc (S.move (zg O O) O (zt O)) (kc (S.OF Vy (zg O O) O (zt O)) (kc (S.move (zg O O) O (zt O)) (kc (S.OF Vy (zg O O) O (zt O)) (rr 3 O (RK.ZS (t:=95) O (fun g95=>?_) (fun g95=>?_))))))
 ·exfalso;omega
 refine rr 2 O (kc (S.OF Vy (zg O O) O (zt O)) ?_);refine kc (S.slice (hi:=R a) (l':=(va n a b).1.take (R a)) Vy (fun _=>O) (zg O O) O (zt O) (.inl ⟨O,O,O⟩) (.inr ⟨_,_,O,(zt O),O⟩) I I (by rw[aα])) ?_;refine kc (S.move (zg O O) O (zt O)) (kc (S.call (AD (a:=(va n a b).1.take (R a)) (b:=a)) call31 (zg O O) O (zc O (zc O .nil)) O) (kc (S.Xb (zg O O) O (zt O)) (rr 2 O (RK.ZS (t:=104) O (fun r=>?_) (fun r=>?_)))))
 ·exact absurd W r
 refine rr 2 O (kc (S.call (G9 (n:=n) (l:=(va n a b).1) I X) call18 (zg O O) O (zc O (zc O .nil)) O) ?_);refine rr 4 O (kB O (fun s=>?_) (fun s=>?_))
 ·exact absurd Y s
 refine ro 6 O (kc (zk Vy O) ?_);refine kc (S.quo (q:=((R a / 2:Nat):Int)) .none O (zt O) (.Zg O) C (by rw[show((R a:Int).tdiv 2)=((R a / 2:Nat):Int)from rfl];exact mn _ I) (mn _ I)) ?_;refine kc (S.slice (hi:=(R a / 2)) (l':=a.take (R a / 2)) Vy (fun _=>O) .none O (zt O) (.inl ⟨O,O,O⟩) (.inr ⟨_,_,O,(zt O),O⟩) I I (by rw[aα])) ?_;refine rr 6 O (kc (zK (Tj (n:=n) I) call14 O) (jm O ?_));refine kc (zK (S8 (l:=(a.take (R a / 2))) (by rw[sc];omega)) call15 O) ?_;refine jm O (kc (zK (S8 (l:=a) I) call15 O) (kc (S.Xo (rec_Merged (n:=n) (a:=(a.take (R a / 2))) (b:=a) I i c) L call29 .none O (zc O (zc O (zc O .nil))) O) ?_));refine rr 12 O (kc (zK (Tj (n:=n) I) call14 O) (jm O (kc (zK (S8 (l:=a) I) call15 O) (jm O ?_))));refine kc (zK (S8 (l:=(a.take (R a / 2))) (by rw[sc];omega)) call15 O) ?_;refine kc (S.Xo (rec_Merged (n:=n) (a:=a) (b:=(a.take (R a / 2))) I c i) L call29 .none O (zc O (zc O (zc O .nil))) O) ?_;refine rr 10 O ?_;rw[f11,f12,f21,f22,e1,e2];refine ro 4 O (RK.ZS (t:=139) O (fun p=>?_) (fun p=>?_))
 ·refine rr 4 O (RK.ZS (t:=143) O (fun o=>?_) (fun o=>?_))
  ·refine kc (S.move (zg O O) O (zt O)) (kc (S.OF Ym (zg O O) O (zt O)) (kc (S.move (zg O O) O (zt O)) (kc (S.OF Ym (zg O O) O (zt O)) (kc (S.add (zg O O) O (zt O) (zt O) (mn _ F) (mn _ F)) ?_))));refine rr 3 O (RK.ZS (t:=151) O (fun m=>?_) (fun m=>?_))
   ·refine rr 2 O (kc (S.call (AD (a:=a) (b:=a)) call31 (zg O O) O (zc O (zc O .nil)) O) (rr 2 O (RK.ZS (t:=156) O (fun j=>?_) (fun j=>?_))))
    ·refine rr 2 O (kc (S.call (AD (a:=a) (b:=a)) call31 (zg O O) O (zc O (zc O .nil)) O) (rr 4 O (kR O O ?_)))
     first|rfl|simp
    exact absurd rfl j
   exact absurd rfl m
  exact absurd rfl o
 exact absurd rfl p
