import Derived.Test.YtpbalelbenmmbaaGreatDoorTg
set_option linter.all false
set_option maxHeartbeats 4000000
namespace Go.Proofs.YtpbalelbenmmbaaGreatDoor
open Go.Ab Tryz
set_option maxRecDepth 9999
theorem Vp{n:Net}{l:List Entry}(hn:(iG n).2≠0):bl n l=(ax.init n (bP n.aS).1,0,(iG n).2):=by
 simp_all[ua,W4,bl]
def Q0{x y:Entry}:(!Ap [.i x.at_,.s x.vq,.s x.text] [.i y.at_,.s y.vq,.s y.text])=decide (x≠y):=by
 cases x;cases y;simp[Ap,Pl.eq,Entry.mk.injEq]
theorem Pd{α:Type}[DecidableEq α]{a b:List α}(h:a.length≠b.length):false=decide (a=b):=by grind
theorem Nj{α:Type}[DecidableEq α]{a b:List α}{i:Nat}(h1:i<a.length)(h2:i<b.length)(h:a[i]≠b[i]):false=decide (a=b):=by grind
theorem Pb{α:Type}[DecidableEq α]{a b:List α}(hl:a.length=b.length)(h:∀(k:Nat)(h1:k<a.length)(h2:k<b.length),a[k]=b[k]):true=decide (a=b):=by grind [List.ext_getElem]
def Zi(x:Entry):Bool:=!((decide (200<x.text.length)&&decide (x.text.length<=600))||(decide (620<x.text.length)||decide (20<x.vq.length)))
def Z1(l:List Entry):Bool:=!((decide (40<l.length)&&decide (l.length<=60))||decide (64<l.length))&&l.all Zi
theorem X6{x:Entry}(h:(200<x.text.length/\x.text.length<=600)\/620<x.text.length\/20<x.vq.length):Zi x=false:=by
 unfold Zi;grind
theorem QI{x:Entry}(h:¬(200<x.text.length/\x.text.length<=600))(h2:¬620<x.text.length)(h3:¬20<x.vq.length):Zi x=true:=by
 grind [Zi]
def MG{x:Entry}(h:Zi x=true):x.text.length<=620:=by
 grind [X6]
def QJ{l:List Entry}(h:(40<l.length/\l.length<=60)\/64<l.length):Z1 l=false:=by
 unfold Z1;grind
def Ll{l:List Entry}(h:¬(40<l.length/\l.length<=60))(h2:¬64<l.length):Z1 l=l.all Zi:=by
 grind [Z1]
theorem XJ{l:List Entry}{i:Nat}(hi:i<l.length)(he:Zi l[i]=false):(l.drop i).all Zi=false:=by
 grind [List.drop_eq_getElem_cons]
theorem QK{l:List Entry}{i:Nat}(hi:i<l.length)(he:Zi l[i]=true):(l.drop i).all Zi=(l.drop (i+1)).all Zi:=by
 grind [List.drop_eq_getElem_cons]
def OL{l:List Entry}(h:Z1 l=true):l.length<=64/\∀x∈l,x.text.length<=620:=by
 simp_all[Z1,MG]
theorem SB:∀(l:List Entry)(H:ax)(i:Nat)(x:Entry),(runT H i l).2.2=0->(runT H i (l++[x])).2.2=(bX (runT H i l).1 x).2
 |[],H,i,x,_=>by
  show(runT H i [x]).2.2=(bX H x).2;rw[runT];split
  ·rfl
  rename_i h;rw[Zu.1 h];rfl
 |y::l,H,i,x,h=>by
  rw[md,runT];rw[runT]at h⊢;by_cases e:(bX H y).2=0
  ·rw[Zm (Zp e)]at h⊢;rw[Zm (Zp e)];exact SB l _ _ x h
  simp_all
def SC:∀(l:List Entry)(H:ax)(i:Nat),(runT H i l).2.2=0->(runT H i l).1.entries=H.entries+l.length
 |[],H,i,_=>(Int.add_zero _).symm
 |y::l,H,i,h=>by
  rw[runT]at h⊢;by_cases e:(bX H y).2=0
  ·rw[Zm (Zp e)]at h⊢;rw[SC l _ _ h,(S8 e).1,ge];omega
  simp_all
def WL:∀(l:List Entry)(H:ax)(i:Nat),(runT H i l).1.aS=H.aS/\(runT H i l).1.jq=H.jq
 |[],_,_=>⟨rfl,rfl⟩
 |y::l,H,i=>by
  rw[runT];split
  ·exact oK H y
  obtain⟨a,b⟩:=WL l (bX H y).1 (i+1);simp_all[oK]
def Sv{n:Net}{l:List Entry}(h:(bl n l).2.2=0):(iG n).2=0/\l.length<=60/\bl n l=runT (ax.init n (bP n.aS).1) 0 l:=by
 grind [Vo,Vq,Vp]
def PK{n:Net}{l:List Entry}(h:(bl n l).2.2=0):bA (bl n l).1.aS=0/\yP (bl n l).1.jq:=by
 obtain⟨hn,_,e⟩:=Sv h;rw[e,(WL _ _ _).1,(WL _ _ _).2];exact⟨vP (B6 hn).2,F5 hn⟩
def RD{n:Net}{l:List Entry}{x:Entry}(h:(bl n l).2.2=0):(bl n (l++[x])).2.2=(bX (bl n l).1 x).2:=by
 obtain⟨hn,hl,e⟩:=Sv h;rw[e]at h⊢;have he:=SC _ _ _ h;grind [ax.init,Vo,ax.head,Zy,Yz,bX,Vq,SB]
def UN(n:Net)(l:List Entry)(x:Entry):Int:=if(bl n l).2.2≠0 then(bl n l).2.2 else(bX (bl n l).1 x).2
def LC(n:Net)(l:List Entry)(x:Entry):List Entry:=if UN n l x≠0 then []else l++[x]
def QO{n:Net}{l:List Entry}{x:Entry}(h:(bl n l).2.2≠0):UN n l x=(bl n l).2.2:=Zn h
def MY{n:Net}{l:List Entry}{x:Entry}(h:(bl n l).2.2=0):UN n l x=(bX (bl n l).1 x).2:=Zm (Zp h)
def UO{n:Net}{l:List Entry}{x:Entry}(h:UN n l x≠0):LC n l x=[]:=Zn h
def QS{n:Net}{l:List Entry}{x:Entry}(h:UN n l x=0):LC n l x=l++[x]:=Zm (Zp h)
def XE{l:List Entry}(hlen:l.length<=100000):Ct prog 14 [.sl (l.map Entry.cs)] (.sl (l.map Entry.cs)):=by
 refine cI func14 O (kr (kc (S.assign .none O .fW) (rr 4 O (RK.c (zM [] WO O O O O) (jm O ?_)))));refine RK.c (S.mQ WO .none O (zt O) O (by rfl) (zt O) (by intro q hq;obtain⟨b,_,rfl⟩:=eI.1 hq;rfl) O (by grind) (by grind [maxLen])) ?_;refine rr 3 O ?_;refine OK.ret (aA.r1 (.tmp O O (.c (.own O O F) O) O) ?_);rfl
def TG{n:Net}{l:List Entry}(hp:n.aS.length<=1000)(hl:∀x∈l,x.text.length<=100000):Ct prog 18 [.agg n.cs,.sl (l.map Entry.cs)] (bv (bl n l).2.2):=by
 refine cI func18 O (ro 10 O (kc (zK (Xg hp) call16 O) (rr 9 O (kB O (fun c12=>?_) (fun c12=>?_)))))
 ·have hT:=Vp (l:=l) c12;refine ro 6 O (kR O O ?_);simp_all
 have hn0:=Zu.1 c12;refine ro 6 O (kc (zK (Xh hp hn0 hl) call17 O) (rr 16 O (kR O O ?_)));rfl
def Wc{l:List Entry}:Ct prog 12 [.sl (l.map Entry.cs)] (.bool (Z1 l)):=by
 refine cI func12 O (OK.eW (rows:=l.map Entry.cs) (t:=0) O O fun hlen=>?_);rw[Zx]at hlen;unfold maxLen at hlen;refine ro 9 O (kc (zk Y8 O) (rr 2 O (RK.bh (t:=8) O (fun g8=>?_) (fun g8=>?_))))
 ·refine kc (S.move (zg O O) O (zt O)) (kc (S.Hp Y8 (zg O O) O (zt O)) (rr 3 O (RK.bh (t:=13) O (fun g13=>?_) (fun g13=>?_))))
  ·have hT:Z1 l=false:=QJ I;refine rr 12 O (kR O O ?_);simp_all
  refine kc (S.move (zg O O) O (zt O)) (kc (S.Hp Y8 (zg O O) O (zt O)) (rr 4 O (kB O (fun c17=>?_) (fun c17=>?_))))
  ·have hT:Z1 l=false:=QJ I;refine ro 5 O (kR O O ?_);simp_all
  have hf0:=Ll (l:=l) I I;refine ro 9 O ?_;refine OK.loop (G:=Nat) [] (fun i=>[(0,.sl (l.map Entry.cs)),(3,bv i)]) (fun i=>i<=l.length/\Z1 l=(l.drop i).all Zi) (fun i=>l.length - i) 0 ⟨Zr _,hf0⟩ ⟨O,O,Zo⟩ (fun _=>O) ?_;rintro i ⟨hi,hg⟩;refine ro 5 O (kc (zk Y8 O) (rr 3 O (kB O (fun c21=>?_) (fun c21=>?_))))
  ·have hil:i<l.length:=by omega
   refine ro 8 O (kc (zI Y8 O I O) ?_);refine rr 11 O (RK.bh (t:=32) O (fun g32=>?_) (fun g32=>?_))
   ·refine rr 4 O (RK.bh (t:=36) O (fun g36=>?_) (fun g36=>?_))
    ·have hT:Z1 l=false:=by grind [XJ,X6]
     refine rr 20 O (kR O O ?_);simp_all
    refine rr 4 O (RK.bh (t:=40) O (fun g40=>?_) (fun g40=>?_))
    ·have hT:Z1 l=false:=by grind [XJ,X6]
     refine rr 16 O (kR O O ?_);simp_all
    refine rr 2 O (kc (S.aP (n:=i) Y8 (zg O O) O (zt O) (zt O) O I O) ?_);refine rr 7 O (kB O (fun c48=>?_) (fun c48=>?_))
    ·have hT:Z1 l=false:=by grind [XJ,X6]
     refine ro 5 O (kR O O ?_);simp_all
    refine Ro 8 O I (Ab.D.lp ⟨i+1,⟨by omega,by grind [QK,QI]⟩,I,O,O,Zo⟩)
   refine rr 8 O (RK.bh (t:=40) O (fun g40=>?_) (fun g40=>?_))
   ·omega
   refine rr 2 O (kc (S.aP (n:=i) Y8 (zg O O) O (zt O) (zt O) O I O) ?_);refine rr 7 O (kB O (fun c48=>?_) (fun c48=>?_))
   ·have hT:Z1 l=false:=by grind [XJ,X6]
    refine ro 5 O (kR O O ?_);simp_all
   refine Ro 8 O I (Ab.D.lp ⟨i+1,⟨by omega,by grind [QK,QI]⟩,I,O,O,Zo⟩)
  have hT:Z1 l=true:=by grind
  refine ro 7 O (kR O O ?_);simp_all
 refine rr 6 O (kc (S.Hp Y8 (zg O O) O (zt O)) (rr 4 O (kB O (fun c17=>?_) (fun c17=>?_))))
 ·omega
 have hf0:=Ll (l:=l) I I;refine ro 9 O ?_;refine OK.loop (G:=Nat) [] (fun i=>[(0,.sl (l.map Entry.cs)),(3,bv i)]) (fun i=>i<=l.length/\Z1 l=(l.drop i).all Zi) (fun i=>l.length - i) 0 ⟨Zr _,hf0⟩ ⟨O,O,Zo⟩ (fun _=>O) ?_;rintro i ⟨hi,hg⟩;refine ro 5 O (kc (zk Y8 O) (rr 3 O (kB O (fun c21=>?_) (fun c21=>?_))))
 ·have hil:i<l.length:=by omega
  refine ro 8 O (kc (zI Y8 O I O) ?_);refine rr 11 O (RK.bh (t:=32) O (fun g32=>?_) (fun g32=>?_))
  ·refine rr 4 O (RK.bh (t:=36) O (fun g36=>?_) (fun g36=>?_))
   ·have hT:Z1 l=false:=by grind [XJ,X6]
    refine rr 20 O (kR O O ?_);simp_all
   refine rr 4 O (RK.bh (t:=40) O (fun g40=>?_) (fun g40=>?_))
   ·have hT:Z1 l=false:=by grind [XJ,X6]
    refine rr 16 O (kR O O ?_);simp_all
   refine rr 2 O (kc (S.aP (n:=i) Y8 (zg O O) O (zt O) (zt O) O I O) ?_);refine rr 7 O (kB O (fun c48=>?_) (fun c48=>?_))
   ·have hT:Z1 l=false:=by grind [XJ,X6]
    refine ro 5 O (kR O O ?_);simp_all
   refine Ro 8 O I (Ab.D.lp ⟨i+1,⟨by omega,by grind [QK,QI]⟩,I,O,O,Zo⟩)
  refine rr 8 O (RK.bh (t:=40) O (fun g40=>?_) (fun g40=>?_))
  ·omega
  refine rr 2 O (kc (S.aP (n:=i) Y8 (zg O O) O (zt O) (zt O) O I O) ?_);refine rr 7 O (kB O (fun c48=>?_) (fun c48=>?_))
  ·have hT:Z1 l=false:=by grind [XJ,X6]
   refine ro 5 O (kR O O ?_);simp_all
  refine Ro 8 O I (Ab.D.lp ⟨i+1,⟨by omega,by grind [QK,QI]⟩,I,O,O,Zo⟩)
 have hT:Z1 l=true:=by grind
 refine ro 7 O (kR O O ?_);simp_all
def UI{a b:List Entry}:Ct prog 19 [.sl (a.map Entry.cs),.sl (b.map Entry.cs)] (.bool (decide (a=b))):=by
 refine cI func19 O (OK.eW (rows:=a.map Entry.cs) (t:=0) O O fun hlen=>?_);rw[Zx]at hlen;unfold maxLen at hlen;refine ro 9 O (kc (zk Y8 O) (jm O (kc (zk Y8 O) (rr 3 O (kB O (fun c10=>?_) (fun c10=>?_))))))
 ·refine ro 5 O (kR O O ?_);grind [Pd]
 have hll:a.length=b.length:=by omega
 refine ro 9 O ?_;refine OK.loop (G:=Nat) [] (fun i=>[(0,.sl (a.map Entry.cs)),(1,.sl (b.map Entry.cs)),(5,bv i)]) (fun i=>i<=a.length/\∀(m:Nat)(h1:m<a.length)(h2:m<b.length),m<i->a[m]=b[m]) (fun i=>a.length - i) 0 ⟨Zr _,fun m _ _ h=>absurd h I⟩ ⟨O,O,O,Zo⟩ (fun _=>O) ?_;rintro i ⟨hi,hg⟩;refine ro 5 O (kc (zk Y8 O) (rr 3 O (kB O (fun c14=>?_) (fun c14=>?_))))
 ·have hia:i<a.length:=by omega
  have hib:i<b.length:=by omega
  refine ro 5 O (kV (.c (zm O) (.c (zm O) (.c (zI Y8 O I O) (.c (S.fG TT .none O (zt O) O O) (.c (zm O) (.c (zm O) (.c (zI Y8 O I O) (.c (S.fG TT .none O (zt O) O O) (.c (S.pneq (b:=decide (a[i]≠b[i])) [.i 0,.s [],.s []] [.i a[i].at_,.s a[i].vq,.s a[i].text] [.i b[i].at_,.s b[i].vq,.s b[i].text] eqp37 .none O (zt O) (zt O) O O O O Q0) .nil))))))))) (Ab.D.code (kB O (fun c25=>?_) (fun c25=>?_))))
  ·refine ro 5 O (kR O O ?_);grind [Nj]
  refine Ro 8 O I (Ab.D.lp ⟨i+1,⟨by omega,fun m h1 h2 h=>by grind⟩,I,O,O,O,Zo⟩)
 refine ro 7 O (kR O O ?_);grind [Pb]
def V_{l:List Entry}(hl:l.length<=100000):Jc prog 47 [.sl (l.map Entry.cs)] 3 (l.map Entry.cs):=by
 refine Jc.intro func47 rfl ntmps47 results47 rfl rfl rfl fun w h=>?_
 refine kr (kc (S.assign .none O .fW) (rr 6 O (RK.EA (t:=3) O O fun bN4 hN4=>?_)));refine kc (S.F8 underlying35 .none O (zt O)) (kD (OK.cond O O (fun c4=>?_) (fun c4=>?_)))
 ·refine kr (RK.c (S.iI (k:=2) (sz:=3) .none O) (kD (OK.ret (FZ.mk O O O (by rfl) ?_))));simp_all
 refine ro 4 O (RK.c (zM [] WO O O O O) (jm O ?_));refine RK.c (S.mQ WO .none O (zt O) O (by rfl) (zt O) (by intro q hq;obtain⟨x,_,rfl⟩:=eI.1 hq;rfl) (Zx ..) I (by grind [maxLen])) ?_;refine rr 3 O ?_;refine OK.ret (FZ.mk O O O F ?_);rfl
def TC{n:Net}{l:List Entry}{x:Entry}(hp:n.aS.length<=1000)(hlen:l.length<=1000)(hl:∀x∈l,x.text.length<=100000)(hx:x.text.length<=100000):gz prog 15 [.agg n.cs,.sl (l.map Entry.cs),.agg x.cs] (.cf [.sl ((LC n l x).map Entry.cs),bv (UN n l x)]):=by
 refine cT func15 O fun hT=>?_
 refine ro 4 O (kc (S.assign .none O .fW) (rr 7 O ?_));refine RK.qz (((lY hp (Ni hl)).at hT)) (fun _=>pP.az _ _ _) (fun _=>pP.mono) call45 O (zc O (zc O .nil)) O fun A=>?_
 refine rr 16 O (kB O (fun c19=>?_) (fun c19=>?_))
 ·refine OK.ud c19 O fun hok hpl=>?_
  have hE0:=MY (x:=x) c19;obtain⟨hpe,hce⟩:=PK c19;rw[uc c19];rw[←hpl]at hpe hce hE0;refine ro 3 O ?_;refine RK.c (S.ik (((Al (m:=400) hok I hpe hce hx (fun _ hk=>Qd (eE hk).1)).jR hT (aa.az _))) (JX.az _ _ _) call46 .none O (zc O (zc O .nil)) O O) ?_;refine rr 10 O (kB O (fun c24=>?_) (fun c24=>?_))
  ·have hE1:UN n l x≠0:=by omega
   have hE2:=UO hE1;refine ro 3 O (kc (S.assign .none O .fW) (rr 3 O (kS O O O O ?_)));simp_all
  have hE1:UN n l x=0:=by omega
  have hE2:=QS hE1;refine ro 3 O ?_;refine kV (.c (zm O) (.c (S.P8 (k:=27) (V_ (l:=l) I) call47 .none O (zc O .nil) O (Zx ..)) (.c (zL TT O O O O) (.c (zM [[_,_,_]] WO O O O O) (.c (zP WO O O F (by rfl) I (by grind [maxLen])) (.c (za O) (.c (zi O O) .nil))))))) ?_;refine Ab.D.code (OK.ret (aA.r2 (.tmp O O (.c (.own O O F) O) O) (zo O O) ?_));rw[hE2,hE1,dE]
  try rfl
 have hE0:=QO (x:=x) c19;refine ro 9 O (kB O (fun c24=>?_) (fun c24=>?_))
 ·have hE1:UN n l x≠0:=by omega
  have hE2:=UO hE1;refine ro 3 O (kc (S.assign .none O .fW) (rr 3 O (kS O O O O ?_)));simp_all
 omega
end Go.Proofs.YtpbalelbenmmbaaGreatDoor
namespace Go.Proofs.YtpbalelbenmmbaaGreatDoor
open Go.Ab Tryz
def TK{l:List Entry}(hlen:l.length<=100000):Jc prog 14 [.sl (l.map Entry.cs)] 3 (l.map Entry.cs):=by
 refine Jc.intro func14 rfl ntmps14 results14 rfl rfl rfl fun w h=>?_
 refine kr (kc (S.assign .none O .fW) (rr 4 O (RK.c (zM [] WO O O O O) (jm O ?_))));refine RK.c (S.mQ WO .none O (zt O) O (by rfl) (zt O) (by intro q hq;obtain⟨x,_,rfl⟩:=eI.1 hq;rfl) (Zx ..) I (by grind [maxLen])) ?_;refine rr 3 O ?_;refine OK.ret (FZ.mk O O O F ?_);rfl
def UG{n:Net}{l:List Entry}{x:Entry}(hp:n.aS.length<=1000)(hl:∀x∈l,x.text.length<=100000)(hx:x.text.length<=100000):Ct prog 18 [.agg n.cs,.sl (l.map Entry.cs++[x.cs])] (bv (bl n (l++[x])).2.2):=by
 have k:=TG (n:=n) (l:=l++[x]) hp fun y hy=>by
  grind
 simp_all
def Vg{a l:List Entry}{x:Entry}:Ct prog 19 [.sl (a.map Entry.cs),.sl (l.map Entry.cs++[x.cs])] (.bool (decide (a=l++[x]))):=by
 have k:=UI (a:=a) (b:=l++[x]);simp_all
def U5{n:Net}{l:List Entry}{x:Entry}:gz prog 4 [.agg n.cs,.sl (l.map Entry.cs),.agg x.cs] (.bool true):=by
 refine cT func4 O fun hT=>?_
 refine ro 10 O (kc (S.dB (wR) hT call7 .none O .nil O) (kc (S.not .none O (zt O)) (rr 9 O (kc (zK (AX (n:=n)) call8 O) (kc (S.not .none O (zt O)) (jm O (RK.split (t:=21) O (fun g21=>?_) (fun g21=>?_))))))))
 ·refine rr 18 O (kR O O ?_);simp_all
 refine kc (S.move (zg O O) O (zt O)) (kc (S.call (Wc (l:=l)) call12 (zg O O) O (zc O .nil) O) (kc (S.not (zg O O) O (zt O)) (rr 2 O (RK.split (t:=26) O (fun g26=>?_) (fun g26=>?_)))))
 ·refine rr 13 O (kR O O ?_);simp_all
 refine kc (S.xK TT (zg O O) O (zt O) O O O O) (kc (S.mkData (rows:=[[_,_,_]]) WO (zg O O) O (zc O .nil) O O O O O O O) (kc (S.call (Wc (l:=[x])) call12 (zg O O) O (zc O .nil) O) (kc (S.not (zg O O) O (zt O)) ?_)));refine rr 3 O (OK.cond O O (fun c31=>?_) (fun c31=>?_))
 ·refine ro 5 O (kR O O ?_);simp_all
 have hfe:mo n=true:=by grind
 have hsl:Z1 l=true:=by grind
 have hsx:Z1 [x]=true:=by grind
 obtain⟨hl1,hl2⟩:=C9 hfe;obtain⟨hll,hlt⟩:=OL hsl;have hxt:=(OL hsx).2 x F;have hlb:∀y∈l,y.text.length<=100000:=fun y hy=>by grind
 refine ro 5 O (kc (zK (se (n:=n) I) call10 O) (jm O (kc (zK (XE (l:=l) I) call14 O) (kc (S.dB (TD (n:=n) (l:=l) I (Ni hlb)) hT call13 .none O (zc O (zc O .nil)) O) ?_))));refine rr 8 O (kV (.c (zL XB O O O O) (.c (zK (se (n:=n) I) call10 O) (.c (zm O) (.c (zK (XE (l:=l) I) call14 O) (.c (zL TT O O O O) (.c (S.dB (TC (n:=n) (l:=l) (x:=x) I I hlb I) hT call15 .none O (zc O (zc O (zc O .nil))) O) (.c (zm O) (.c (zX O O O) (.c (zX O O O) (.c (za O) (.c (za O) .nil))))))))))) ?_);refine rd 5 O (kc (zK (Xg (n:=n) I) call16 O) ?_);refine rr 9 O (kB O (fun c52=>?_) (fun c52=>?_))
 ·have hT:=Vp (l:=l) c52;have hT2:(bl n l).2.2=(iG n).2:=by rw[hT]
  have hT1:(bl n l).2.1=0:=by rw[hT]
  have hA:UN n l x=(iG n).2:=by simp_all[QO]
  have hB:LC n l x=[]:=UO I;refine ro 6 O (RK.bh (t:=56) O (fun g56=>?_) (fun g56=>?_))
  ·refine rr 4 O (RK.bh (t:=60) O (fun g60=>?_) (fun g60=>?_))
   ·refine rr 5 O (RK.bh (t:=65) O (fun g65=>?_) (fun g65=>?_))
    ·refine kc (S.move (zg O O) O (zt O)) (kc (S.Hp Y8 (zg O O) O (zt O)) (rr 5 O (kR O O ?_)));simp_all
    omega
   omega
  omega
 have hn0:=Zu.1 c52;refine ro 6 O (kc (zK (Xh (n:=n) (l:=l) I hn0 hlb) call17 O) ?_);refine rr 17 O (RK.bh (t:=80) O (fun g80=>?_) (fun g80=>?_))
 ·omega
 refine rr 6 O (kB O (fun c84=>?_) (fun c84=>?_))
 ·omega
 refine ro 9 O (kB O (fun c86=>?_) (fun c86=>?_))
 ·have hA:=QO (x:=x) c86;have hB:=UO (x:=x) (by rw[hA];exact c86);refine ro 6 O (RK.bh (t:=90) O (fun g90=>?_) (fun g90=>?_))
  ·refine kc (S.move (zg O O) O (zt O)) (kc (S.Hp Y8 (zg O O) O (zt O)) (rr 5 O (kR O O ?_)));simp_all
  omega
 have h0:=Zu.1 c86;have hE:=(MY (x:=x) h0).trans (RD h0).symm;refine ro 3 O ?_;refine kV (.c (zm O) (.c (S.P8 (k:=96) (TK (l:=l) I) call14 .none O (zc O .nil) O (Zx ..)) (.c (zL TT O O O O) (.c (zM [[_,_,_]] WO O O O O) (.c (zP WO O O F (by rfl) I (by grind [maxLen])) (.c (za O) .nil)))))) ?_;refine rd 3 O ?_;refine OK.freeze 15 O O O F ?_;refine ro 3 O (kc (zK (UG (n:=n) (l:=l) (x:=x) I hlb I) call18 O) ?_);refine rr 9 O (kB O (fun c104=>?_) (fun c104=>?_))
 ·have hB:=UO (x:=x) (by rw[hE];exact c104);refine ro 6 O (RK.bh (t:=108) O (fun g108=>?_) (fun g108=>?_))
  ·refine kc (S.move (zg O O) O (zt O)) (kc (S.Hp Y8 (zg O O) O (zt O)) (rr 5 O (kR O O ?_)));simp_all
  omega
 have h1:=Zu.1 c104;have hB:=QS (x:=x) (by rw[hE];exact h1);refine ro 7 O (RK.bh (t:=115) O (fun g115=>?_) (fun g115=>?_))
 ·refine rr 2 O (kc (S.call (Vg (l:=l) (x:=x)) call19 (zg O O) O (zc O (zc O .nil)) O) (rr 4 O (kR O O ?_)));simp_all
 omega
end Go.Proofs.YtpbalelbenmmbaaGreatDoor
namespace Go.Proofs.YtpbalelbenmmbaaGreatDoor
open Go.Ab Tryz
def AO{xs:bi}(h:Shape (.st (.cons .str (.cons (.int .i64) .nil))) xs):∃p:bf,xs=p.cs:=by
 obtain⟨a,b,rfl,⟨s,rfl⟩,c,d,rfl,⟨n,rfl⟩,rfl⟩:=h;exact⟨⟨s,n⟩,rfl⟩
def Gg{xs:bi}(h:Shape (.cons (.sl (.st (.cons .str (.cons (.int .i64) .nil)))) (.cons .str (.cons (.int .i64) (.cons (.st (.cons (.int .i64) (.cons (.int .i64) .nil))) .nil)))) xs):∃p:Net,xs=p.cs:=by
 obtain⟨a,b,rfl,⟨rows,rfl,hr⟩,c,d,rfl,⟨s,rfl⟩,e,f,rfl,⟨n,rfl⟩,g,k,rfl,⟨u,v,rfl,⟨lo,rfl⟩,y,z,rfl,⟨hi,rfl⟩,rfl⟩,rfl⟩:=h;obtain⟨l,rfl⟩:=yD (f:=bf.cs) (fun r h=>AO (hr r h));exact⟨⟨l,s,n,lo,hi⟩,rfl⟩
end Go.Proofs.YtpbalelbenmmbaaGreatDoor
namespace Go.Proofs.YtpbalelbenmmbaaGreatDoor
open Go.Ab Tryz
def SD{xs:bi}(h:Shape (.cons (.int .i64) (.cons .str (.cons .str .nil))) xs):∃p:Entry,xs=p.cs:=by
 obtain⟨a,b,rfl,⟨n,rfl⟩,c,d,rfl,⟨s,rfl⟩,e,f,rfl,⟨t,rfl⟩,rfl⟩:=h;exact⟨⟨n,s,t⟩,rfl⟩
def RE{x:X}(h:Shape (.sl (.st (.cons (.int .i64) (.cons .str (.cons .str .nil))))) [x]):∃l:List Entry,x=.sl (l.map Entry.cs):=by
 obtain⟨rows,h1,hr⟩:=h;cases h1;obtain⟨l,rfl⟩:=yD (f:=Entry.cs) (fun r h=>SD (hr r h));grind
