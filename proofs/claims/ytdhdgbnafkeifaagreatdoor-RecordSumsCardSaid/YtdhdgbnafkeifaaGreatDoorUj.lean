import Derived.Test.YtdhdgbnafkeifaaGreatDoorTg
set_option linter.all false
namespace Go.Proofs.YtdhdgbnafkeifaaGreatDoor
open Go.Ab Tryz
set_option maxRecDepth 9999
def Vp{n:Net}{l:List Entry}(a:(iG n).2≠0):bl n l=(ax.init n (bP n.aS).1,0,(iG n).2):=by
 simp_all[ua,W4,bl]
def Zi(x:Entry):Bool:=!((decide (200<x.text.length)&&decide (x.text.length<=600))||(decide (620<x.text.length)||decide (20<x.vq.length)))
def Z1(l:List Entry):Bool:=!((decide (40<l.length)&&decide (l.length<=60))||decide (64<l.length))&&l.all Zi
theorem X6{x:Entry}(h:(200<x.text.length/\x.text.length<=600)\/620<x.text.length\/20<x.vq.length):Zi x=false:=by
 unfold Zi;grind
def QI{x:Entry}(h:¬(200<x.text.length/\x.text.length<=600))(b:¬620<x.text.length)(a:¬20<x.vq.length):Zi x=true:=by
 grind [Zi]
def MG{x:Entry}(h:Zi x=true):x.text.length<=620:=by
 grind [X6]
def QJ{l:List Entry}(h:(40<l.length/\l.length<=60)\/64<l.length):Z1 l=false:=by
 unfold Z1;grind
def Ll{l:List Entry}(h:¬(40<l.length/\l.length<=60))(a:¬64<l.length):Z1 l=l.all Zi:=by
 grind [Z1]
def XJ{l:List Entry}{i:Nat}(hi:i<l.length)(a:Zi l[i]=false):(l.drop i).all Zi=false:=by
 grind [List.drop_eq_getElem_cons]
def QK{l:List Entry}{i:Nat}(hi:i<l.length)(a:Zi l[i]=true):(l.drop i).all Zi=(l.drop (i+1)).all Zi:=by
 grind [List.drop_eq_getElem_cons]
def OL{l:List Entry}(h:Z1 l=true):l.length<=64/\∀x∈l,x.text.length<=620:=by
 simp_all[Z1,MG]
def XE{l:List Entry}(hlen:l.length<=100000):Ct prog 14 [.sl (l.map Entry.cs)] (.sl (l.map Entry.cs)):=by
 refine cI func14 O (kr (kc (S.assign .none O .fW) (rr 4 O (RK.c (zM [] ai27 O O O O) (jm O ?_)))));refine RK.c (S.mQ ai27 .none O (zt O) O N (zt O) (by intro q a;obtain⟨b,_,rfl⟩:=eI.1 a;rfl) O (by simp only[Zx];omega) (by simp only[maxLen,Zx];omega)) ?_;refine rr 3 O ?_;refine OK.ret (aA.r1 (.tmp O O (.c (.own O O N) O) O) ?_);rfl
def TG{n:Net}{l:List Entry}(c:n.aS.length<=1000)(d:∀x∈l,x.text.length<=100000):Ct prog 17 [.agg n.cs,.sl (l.map Entry.cs)] (bv (bl n l).2.2):=by
 refine cI func17 O (ro 10 O (kc (zK (Xg c) call58 O) (rr 9 O (kB O (fun a=>?_) (fun a=>?_)))))
 ·have e:=Vp (l:=l) a;refine ro 6 O (kR O O ?_);rw[e];try rfl
 have b:=Zu.1 a;refine ro 6 O (kc (zK (Xh c b d) call59 O) (rr 16 O (kR O O ?_)));rfl
def Wc{l:List Entry}:Ct prog 11 [.sl (l.map Entry.cs)] (.bool (Z1 l)):=by
 refine cI func11 O (OK.eW (rows:=l.map Entry.cs) (t:=0) O O fun hlen=>?_);rw[Zx]at hlen;unfold maxLen at hlen;refine ro 9 O (kc (zk si27 O) (rr 2 O (RK.bh (t:=8) O (fun o=>?_) (fun o=>?_))))
 ·refine kc (S.move (zg O O) O (zt O)) (kc (S.Hp si27 (zg O O) O (zt O)) (rr 3 O (RK.bh (t:=13) O (fun m=>?_) (fun m=>?_))))
  ·have b:Z1 l=false:=QJ I;refine rr 12 O (kR O O ?_);rw[b];try rfl
  refine kc (S.move (zg O O) O (zt O)) (kc (S.Hp si27 (zg O O) O (zt O)) (rr 4 O (kB O (fun k=>?_) (fun k=>?_))))
  ·have b:Z1 l=false:=QJ I;refine ro 5 O (kR O O ?_);rw[b];try rfl
  have f:=Ll (l:=l) I I;refine ro 9 O ?_;refine OK.loop (G:=Nat) [] (fun i=>[(0,.sl (l.map Entry.cs)),(3,bv i)]) (fun i=>i<=l.length/\Z1 l=(l.drop i).all Zi) (fun i=>l.length - i) 0 ⟨Zr _,f⟩ ⟨O,O,Zo⟩ (fun _=>O) ?_;rintro i ⟨hi,c⟩;refine ro 5 O (kc (zk si27 O) (rr 3 O (kB O (fun j=>?_) (fun j=>?_))))
  ·have a:i<l.length:=by omega
   refine ro 8 O (kc (zI si27 O I O) ?_);refine rr 11 O (RK.bh (t:=32) O (fun h=>?_) (fun h=>?_))
   ·refine rr 4 O (RK.bh (t:=36) O (fun g=>?_) (fun g=>?_))
    ·have b:Z1 l=false:=by rw[c,XJ a (X6 I)]
     refine rr 20 O (kR O O ?_);rw[b];try rfl
    refine rr 4 O (RK.bh (t:=40) O (fun d=>?_) (fun d=>?_))
    ·have b:Z1 l=false:=by rw[c,XJ a (X6 I)]
     refine rr 16 O (kR O O ?_);rw[b];try rfl
    refine rr 2 O (kc (S.aP (n:=i) si27 (zg O O) O (zt O) (zt O) O I O) ?_);refine rr 7 O (kB O (fun e=>?_) (fun e=>?_))
    ·have b:Z1 l=false:=by rw[c,XJ a (X6 I)]
     refine ro 5 O (kR O O ?_);rw[b];try rfl
    refine Ro 8 O I (Ab.D.lp ⟨i+1,⟨by omega,by rw[c,QK a (QI I I I)]⟩,I,O,O,Zo⟩)
   refine rr 8 O (RK.bh (t:=40) O (fun d=>?_) (fun d=>?_))
   ·have b:Z1 l=false:=by rw[c,XJ a (X6 I)]
    refine rr 16 O (kR O O ?_);rw[b];try rfl
   refine rr 2 O (kc (S.aP (n:=i) si27 (zg O O) O (zt O) (zt O) O I O) ?_);refine rr 7 O (kB O (fun e=>?_) (fun e=>?_))
   ·have b:Z1 l=false:=by rw[c,XJ a (X6 I)]
    refine ro 5 O (kR O O ?_);rw[b];try rfl
   refine Ro 8 O I (Ab.D.lp ⟨i+1,⟨by omega,by rw[c,QK a (QI I I I)]⟩,I,O,O,Zo⟩)
  have b:Z1 l=true:=by rw[c,show i=l.length by omega,co];rfl
  refine ro 7 O (kR O O ?_);rw[b];try rfl
 refine rr 6 O (kc (S.Hp si27 (zg O O) O (zt O)) (rr 4 O (kB O (fun k=>?_) (fun k=>?_))))
 ·have b:Z1 l=false:=QJ I;refine ro 5 O (kR O O ?_);rw[b];try rfl
 have f:=Ll (l:=l) I I;refine ro 9 O ?_;refine OK.loop (G:=Nat) [] (fun i=>[(0,.sl (l.map Entry.cs)),(3,bv i)]) (fun i=>i<=l.length/\Z1 l=(l.drop i).all Zi) (fun i=>l.length - i) 0 ⟨Zr _,f⟩ ⟨O,O,Zo⟩ (fun _=>O) ?_;rintro i ⟨hi,c⟩;refine ro 5 O (kc (zk si27 O) (rr 3 O (kB O (fun j=>?_) (fun j=>?_))))
 ·have a:i<l.length:=by omega
  refine ro 8 O (kc (zI si27 O I O) ?_);refine rr 11 O (RK.bh (t:=32) O (fun h=>?_) (fun h=>?_))
  ·refine rr 4 O (RK.bh (t:=36) O (fun g=>?_) (fun g=>?_))
   ·have b:Z1 l=false:=by rw[c,XJ a (X6 I)]
    refine rr 20 O (kR O O ?_);rw[b];try rfl
   refine rr 4 O (RK.bh (t:=40) O (fun d=>?_) (fun d=>?_))
   ·have b:Z1 l=false:=by rw[c,XJ a (X6 I)]
    refine rr 16 O (kR O O ?_);rw[b];try rfl
   refine rr 2 O (kc (S.aP (n:=i) si27 (zg O O) O (zt O) (zt O) O I O) ?_);refine rr 7 O (kB O (fun e=>?_) (fun e=>?_))
   ·have b:Z1 l=false:=by rw[c,XJ a (X6 I)]
    refine ro 5 O (kR O O ?_);rw[b];try rfl
   refine Ro 8 O I (Ab.D.lp ⟨i+1,⟨by omega,by rw[c,QK a (QI I I I)]⟩,I,O,O,Zo⟩)
  refine rr 8 O (RK.bh (t:=40) O (fun d=>?_) (fun d=>?_))
  ·have b:Z1 l=false:=by rw[c,XJ a (X6 I)]
   refine rr 16 O (kR O O ?_);rw[b];try rfl
  refine rr 2 O (kc (S.aP (n:=i) si27 (zg O O) O (zt O) (zt O) O I O) ?_);refine rr 7 O (kB O (fun e=>?_) (fun e=>?_))
  ·have b:Z1 l=false:=by rw[c,XJ a (X6 I)]
   refine ro 5 O (kR O O ?_);rw[b];try rfl
  refine Ro 8 O I (Ab.D.lp ⟨i+1,⟨by omega,by rw[c,QK a (QI I I I)]⟩,I,O,O,Zo⟩)
 have b:Z1 l=true:=by rw[c,show i=l.length by omega,co];rfl
 refine ro 7 O (kR O O ?_);rw[b];try rfl
