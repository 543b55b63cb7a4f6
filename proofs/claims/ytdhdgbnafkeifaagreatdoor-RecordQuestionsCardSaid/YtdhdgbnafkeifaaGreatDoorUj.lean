import Derived.Test.YtdhdgbnafkeifaaGreatDoorTg
set_option linter.all false
open List renaming length->R
namespace Go.Proofs.YtdhdgbnafkeifaaGreatDoor
open Go.Ab Tryz
set_option maxRecDepth 9999
theorem Vp{n:Net}{l:List Entry}(a:(iG n).2≠0):bl n l=(ax.init n (bP n.aS).1,0,(iG n).2):=by
 simp_all[ua,W4,bl]
def Zi(x:Entry):Bool:=!((decide (200<R x.text)&&decide (R x.text<=600))||(decide (620<R x.text)||decide (20<R x.vq)))
def Z1(l:List Entry):Bool:=!((decide (40<R l)&&decide (R l<=60))||decide (64<R l))&&l.all Zi
theorem X6{x:Entry}(h:(200<R x.text/\R x.text<=600)\/620<R x.text\/20<R x.vq):Zi x=false:=by
 unfold Zi;grind
def QI{x:Entry}(h:¬(200<R x.text/\R x.text<=600))(b:¬620<R x.text)(a:¬20<R x.vq):Zi x=true:=by
 grind [Zi]
def MG{x:Entry}(h:Zi x=true):R x.text<=620:=by
 grind [X6]
def QJ{l:List Entry}(h:(40<R l/\R l<=60)\/64<R l):Z1 l=false:=by
 unfold Z1;grind
def Ll{l:List Entry}(h:¬(40<R l/\R l<=60))(a:¬64<R l):Z1 l=l.all Zi:=by
 grind [Z1]
def XJ{l:List Entry}{i:Nat}(hi:i<R l)(a:Zi l[i]=false):(l.drop i).all Zi=false:=by
 grind [List.drop_eq_getElem_cons]
def QK{l:List Entry}{i:Nat}(hi:i<R l)(a:Zi l[i]=true):(l.drop i).all Zi=(l.drop (i+1)).all Zi:=by
 grind [List.drop_eq_getElem_cons]
def OL{l:List Entry}(h:Z1 l=true):R l<=64/\∀x∈l,R x.text<=620:=by
 simp_all[Z1,MG]
def runT_ent:∀(l:List Entry)(H:ax)(i:Nat),(runT H i l).2.2=0->(runT H i l).1.entries=H.entries+R l
 |[],H,i,_=>(Int.add_zero _).symm
 |y::l,H,i,h=>by
  rw[runT]at h⊢;by_cases e:(bX H y).2=0
  ·rw[Zm (Zp e)]at h⊢;rw[runT_ent l _ _ h,(S8 e).1,tt];omega
  simp_all
def runT_plan:∀(l:List Entry)(H:ax)(i:Nat),(runT H i l).1.aS=H.aS/\(runT H i l).1.jq=H.jq
 |[],_,_=>⟨rfl,rfl⟩
 |y::l,H,i=>by
  rw[runT];split
  ·exact oK H y
  obtain⟨a,b⟩:=runT_plan l (bX H y).1 (i+1);simp_all[oK]
def Sv{n:Net}{l:List Entry}(h:(bl n l).2.2=0):(iG n).2=0/\R l<=60/\bl n l=runT (ax.init n (bP n.aS).1) 0 l:=by
 grind [Vo,Vq,Vp]
def replay_pl{n:Net}{l:List Entry}(h:(bl n l).2.2=0):bA (bl n l).1.aS=0/\yP (bl n l).1.jq:=by
 obtain⟨a,_,e⟩:=Sv h;rw[e,(runT_plan _ _ _).1,(runT_plan _ _ _).2];exact⟨vP (B6 a).2,F5 a⟩
def appE(n:Net)(l:List Entry)(x:Entry):Int:=if(bl n l).2.2≠0 then(bl n l).2.2 else(bX (bl n l).1 x).2
def appT(n:Net)(l:List Entry)(x:Entry):List Entry:=if appE n l x≠0 then []else l++[x]
def appE_1{n:Net}{l:List Entry}{x:Entry}(h:(bl n l).2.2≠0):appE n l x=(bl n l).2.2:=Zn h
def appE_2{n:Net}{l:List Entry}{x:Entry}(h:(bl n l).2.2=0):appE n l x=(bX (bl n l).1 x).2:=Zm (Zp h)
def appT_1{n:Net}{l:List Entry}{x:Entry}(h:appE n l x≠0):appT n l x=[]:=Zn h
def appT_2{n:Net}{l:List Entry}{x:Entry}(h:appE n l x=0):appT n l x=l++[x]:=Zm (Zp h)
def XE{l:List Entry}(hlen:R l<=100000):Ct prog 14 [.sl (l.map Entry.cs)] (.sl (l.map Entry.cs)):=by
 refine cI func14 O (kr (kc (S.assign .none O .fW) (rr 4 O (RK.c (zM [] s_ O O O O) (jm O ?_)))));refine RK.c (S.mQ s_ .none O (zt O) O N (zt O) (by intro q a;obtain⟨b,_,rfl⟩:=rx.1 a;rfl) O (by simp only[Zx];omega) (by simp only[maxLen,Zx];omega)) ?_;refine rr 3 O ?_;refine OK.ret (aA.r1 (.tmp O O (.c (.own O O N) O) O) ?_);rfl
def TG{n:Net}{l:List Entry}(c:R n.aS<=1000)(d:∀x∈l,R x.text<=100000):Ct prog 17 [.agg n.cs,.sl (l.map Entry.cs)] (bv (bl n l).2.2):=by
 refine cI func17 O (ro 10 O (kc (zK (Xg c) call58 O) (rr 9 O (kB O (fun a=>?_) (fun a=>?_)))))
 ·have e:=Vp (l:=l) a;refine ro 6 O (kR O O ?_);rw[e];try rfl
 have b:=Zu.1 a;refine ro 6 O (kc (zK (Xh c b d) call59 O) (rr 16 O (kR O O ?_)));rfl
def Xj{n:Net}{l:List Entry}(a:R n.aS<=1000)(b:(iG n).2=0)(c:∀x∈l,R x.text<=100000):Ct prog 19 [.agg n.cs,.sl (l.map Entry.cs)] (.agg (RJ n l).cs):=by
 refine cI func19 O (ro 10 O (kc (zK (Xh a b c) call59 O) (rr 16 O (OK.ret (aA.r1 (zy O O Z_ O) ?_)))));rfl
def Wc{l:List Entry}:Ct prog 11 [.sl (l.map Entry.cs)] (.bool (Z1 l)):=by
 refine cI func11 O (OK.eW (rows:=l.map Entry.cs) (t:=0) O O fun hlen=>?_);rw[Zx]at hlen;unfold maxLen at hlen;refine ro 9 O (kc (zk YI O) (rr 2 O (RK.bh (t:=8) O (fun o=>?_) (fun o=>?_))))
 ·refine kc (S.move (zg O O) O (zt O)) (kc (S.Hp YI (zg O O) O (zt O)) (rr 3 O (RK.bh (t:=13) O (fun m=>?_) (fun m=>?_))))
  ·have b:Z1 l=false:=QJ I;refine rr 12 O (kR O O ?_);rw[b];try rfl
  refine kc (S.move (zg O O) O (zt O)) (kc (S.Hp YI (zg O O) O (zt O)) (rr 4 O (kB O (fun k=>?_) (fun k=>?_))))
  ·have b:Z1 l=false:=QJ I;refine ro 5 O (kR O O ?_);rw[b];try rfl
  have f:=Ll (l:=l) I I;refine ro 9 O ?_;refine OK.loop (G:=Nat) [] (fun i=>[(0,.sl (l.map Entry.cs)),(3,bv i)]) (fun i=>i<=R l/\Z1 l=(l.drop i).all Zi) (fun i=>R l - i) 0 ⟨Zr _,f⟩ ⟨O,O,Zo⟩ (fun _=>O) ?_;rintro i ⟨hi,c⟩;refine ro 5 O (kc (zk YI O) (rr 3 O (kB O (fun j=>?_) (fun j=>?_))))
  ·have a:i<R l:=by omega
   refine ro 8 O (kc (zI YI O I O) ?_);refine rr 11 O (RK.bh (t:=32) O (fun h=>?_) (fun h=>?_))
   ·refine rr 4 O (RK.bh (t:=36) O (fun g=>?_) (fun g=>?_))
    ·have b:Z1 l=false:=by rw[c,XJ a (X6 I)]
     refine rr 20 O (kR O O ?_);rw[b];try rfl
    refine rr 4 O (RK.bh (t:=40) O (fun d=>?_) (fun d=>?_))
    ·have b:Z1 l=false:=by rw[c,XJ a (X6 I)]
     refine rr 16 O (kR O O ?_);rw[b];try rfl
    refine rr 2 O (kc (S.aP (n:=i) YI (zg O O) O (zt O) (zt O) O I O) ?_);refine rr 7 O (kB O (fun e=>?_) (fun e=>?_))
    ·have b:Z1 l=false:=by rw[c,XJ a (X6 I)]
     refine ro 5 O (kR O O ?_);rw[b];try rfl
    refine Ro 8 O I (Ab.D.lp ⟨i+1,⟨by omega,by rw[c,QK a (QI I I I)]⟩,I,O,O,Zo⟩)
   refine rr 8 O (RK.bh (t:=40) O (fun d=>?_) (fun d=>?_))
   ·have b:Z1 l=false:=by rw[c,XJ a (X6 I)]
    refine rr 16 O (kR O O ?_);rw[b];try rfl
   refine rr 2 O (kc (S.aP (n:=i) YI (zg O O) O (zt O) (zt O) O I O) ?_);refine rr 7 O (kB O (fun e=>?_) (fun e=>?_))
   ·have b:Z1 l=false:=by rw[c,XJ a (X6 I)]
    refine ro 5 O (kR O O ?_);rw[b];try rfl
   refine Ro 8 O I (Ab.D.lp ⟨i+1,⟨by omega,by rw[c,QK a (QI I I I)]⟩,I,O,O,Zo⟩)
  have b:Z1 l=true:=by rw[c,show i=R l by omega,no];rfl
  refine ro 7 O (kR O O ?_);rw[b];try rfl
 refine rr 6 O (kc (S.Hp YI (zg O O) O (zt O)) (rr 4 O (kB O (fun k=>?_) (fun k=>?_))))
 ·have b:Z1 l=false:=QJ I;refine ro 5 O (kR O O ?_);rw[b];try rfl
 have f:=Ll (l:=l) I I;refine ro 9 O ?_;refine OK.loop (G:=Nat) [] (fun i=>[(0,.sl (l.map Entry.cs)),(3,bv i)]) (fun i=>i<=R l/\Z1 l=(l.drop i).all Zi) (fun i=>R l - i) 0 ⟨Zr _,f⟩ ⟨O,O,Zo⟩ (fun _=>O) ?_;rintro i ⟨hi,c⟩;refine ro 5 O (kc (zk YI O) (rr 3 O (kB O (fun j=>?_) (fun j=>?_))))
 ·have a:i<R l:=by omega
  refine ro 8 O (kc (zI YI O I O) ?_);refine rr 11 O (RK.bh (t:=32) O (fun h=>?_) (fun h=>?_))
  ·refine rr 4 O (RK.bh (t:=36) O (fun g=>?_) (fun g=>?_))
   ·have b:Z1 l=false:=by rw[c,XJ a (X6 I)]
    refine rr 20 O (kR O O ?_);rw[b];try rfl
   refine rr 4 O (RK.bh (t:=40) O (fun d=>?_) (fun d=>?_))
   ·have b:Z1 l=false:=by rw[c,XJ a (X6 I)]
    refine rr 16 O (kR O O ?_);rw[b];try rfl
   refine rr 2 O (kc (S.aP (n:=i) YI (zg O O) O (zt O) (zt O) O I O) ?_);refine rr 7 O (kB O (fun e=>?_) (fun e=>?_))
   ·have b:Z1 l=false:=by rw[c,XJ a (X6 I)]
    refine ro 5 O (kR O O ?_);rw[b];try rfl
   refine Ro 8 O I (Ab.D.lp ⟨i+1,⟨by omega,by rw[c,QK a (QI I I I)]⟩,I,O,O,Zo⟩)
  refine rr 8 O (RK.bh (t:=40) O (fun d=>?_) (fun d=>?_))
  ·have b:Z1 l=false:=by rw[c,XJ a (X6 I)]
   refine rr 16 O (kR O O ?_);rw[b];try rfl
  refine rr 2 O (kc (S.aP (n:=i) YI (zg O O) O (zt O) (zt O) O I O) ?_);refine rr 7 O (kB O (fun e=>?_) (fun e=>?_))
  ·have b:Z1 l=false:=by rw[c,XJ a (X6 I)]
   refine ro 5 O (kR O O ?_);rw[b];try rfl
  refine Ro 8 O I (Ab.D.lp ⟨i+1,⟨by omega,by rw[c,QK a (QI I I I)]⟩,I,O,O,Zo⟩)
 have b:Z1 l=true:=by rw[c,show i=R l by omega,no];rfl
 refine ro 7 O (kR O O ?_);rw[b];try rfl
def clone_Entry{l:List Entry}(f:R l<=100000):Jc prog 105 [.sl (l.map Entry.cs)] 3 (l.map Entry.cs):=by
 refine Jc.intro func105 rfl ntmps105 results105 rfl rfl rfl fun w h=>?_
 refine kr (kc (S.assign .none O .fW) (rr 6 O (RK.EA (t:=3) O O fun e a=>?_)));refine kc (S.F8 underlying27 .none O (zt O)) (kD (OK.cond O O (fun b=>?_) (fun b=>?_)))
 ·refine kr (RK.c (S.iI (k:=2) (sz:=3) .none O) (kD ?_));refine OK.ret (FZ.mk O O O N ?_);rw[bα.1 (a b)];rfl
 refine ro 4 O (RK.c (zM [] s_ O O O O) (jm O ?_));refine RK.c (S.mQ s_ .none O (zt O) O N (zt O) (by intro q d;obtain⟨x,_,rfl⟩:=rx.1 d;rfl) (Zx ..) I (by simp only[maxLen];omega)) ?_;refine rr 3 O ?_;refine OK.ret (FZ.mk O O O N ?_);rfl
set_option maxHeartbeats 2000000 in
def rec_Appended{n:Net}{l:List Entry}{x:Entry}(q:R n.aS<=1000)(hlen:R l<=1000)(r:∀x∈l,R x.text<=100000)(p:R x.text<=100000):gz prog 82 [.agg n.cs,.sl (l.map Entry.cs),.agg x.cs] (.cf [.sl ((appT n l x).map Entry.cs),bv (appE n l x)]):=by
 refine cT func82 O fun o=>?_
 refine ro 4 O (kc (S.assign .none O .fW) (rr 7 O ?_));refine RK.qz (((lY q (Ni r)).at o)) (fun _=>pP.az _ _ _) (fun _=>pP.mono) call53 O (zc O (zc O .nil)) O fun A=>?_
 refine rr 16 O (kB O (fun f=>?_) (fun f=>?_))
 ·refine OK.ud f O fun j i=>?_
  have b:=appE_2 (x:=x) f;obtain⟨g,h⟩:=replay_pl f;rw[uc f];rw[←i]at g h b;refine ro 3 O ?_;refine RK.c (S.ik (((Al (m:=400) j I g h p (fun _ s=>Qd (eE s).1)).jR o (aa.az _))) (JX.az _ _ _) call86 .none O (zc O (zc O .nil)) O O) ?_;refine rr 10 O (kB O (fun e=>?_) (fun e=>?_))
  ·have a:appE n l x≠0:=by rw[b];exact e
   have d:=appT_1 a;refine ro 3 O (kc (S.assign .none O .fW) (rr 3 O (kS O O O O ?_)));rw[d,b];try rfl
  have a:appE n l x=0:=by rw[b];exact Zu.1 e
  have d:=appT_2 a;refine ro 3 O ?_;refine kV (.c (zm O) (.c (S.P8 (k:=27) (clone_Entry (l:=l) I) call105 .none O (zc O .nil) O (Zx ..)) (.c (zL b_ O O O O) (.c (zM [[_,_,_]] s_ O O O O) (.c (zP s_ O O N N I (by simp only[maxLen];omega)) (.c (za O) (.c (zi O O) .nil))))))) ?_;refine Ab.D.code ?_;refine OK.ret (aA.r2 (.tmp O O (.c (.own O O N) O) O) (zo O O) ?_);rw[d,a,ne]
  try rfl
 have b:=appE_1 (x:=x) f;refine ro 9 O (kB O (fun e=>?_) (fun e=>?_))
 ·have a:appE n l x≠0:=by rw[b];exact e
  have d:=appT_1 a;refine ro 3 O (kc (S.assign .none O .fW) (rr 3 O (kS O O O O ?_)));rw[d,b];try rfl
 have a:appE n l x=0:=by rw[b];exact Zu.1 e
 have d:=appT_2 a;refine ro 3 O ?_;refine kV (.c (zm O) (.c (S.P8 (k:=27) (clone_Entry (l:=l) I) call105 .none O (zc O .nil) O (Zx ..)) (.c (zL b_ O O O O) (.c (zM [[_,_,_]] s_ O O O O) (.c (zP s_ O O N N I (by simp only[maxLen];omega)) (.c (za O) (.c (zi O O) .nil))))))) ?_;refine Ab.D.code ?_;refine OK.ret (aA.r2 (.tmp O O (.c (.own O O N) O) O) (zo O O) ?_);rw[d,a,ne]
 try rfl
