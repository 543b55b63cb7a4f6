import Derived.Test.YtlmhpcghgjdjjaaGreatDoorRz
set_option linter.all false
set_option maxHeartbeats 2000000
open List renaming length->R
namespace Go.Proofs.Z9
open Go.Ab Tryz
set_option maxRecDepth 9999
def VD(k:Int):List Bool:=if k=0 then [true,false,false,false]else if k=2 then [false,true,false,false]else if k=3 then [true,false,true,false]else if k=4 then [false,true,true,false]else if k=5 then [false,false,false,true]else [false,false,false,false]
def KD{p:Ph}(a:lW p=false):n6 p=3:=by simp_all[n6,aF,ae]
def KC{p:Ph}(b:lW p=true)(a:iD p=false):n6 p=2:=by simp_all[n6,aF,ae]
def WB{p:Ph}(b:lW p=true)(a:iD p=true):n6 p=0:=by simp_all[n6,aF,ae]
def ZU{m:Nat}{p:Ph}(a:0<=p.kind/\p.kind<=5)(b:lW p=false):bu m p=3:=by
 simp_all[KD,vK]
def ZD{m:Nat}{p:Ph}(b:0<=p.kind/\p.kind<=5)(c:lW p=true)(a:iD p=false):bu m p=2:=by
 simp_all[KC,vK]
def Me{g:Ph->Int}{l:List Ph}(h:R l=0):cQ g l=(0,10):=Zn h
theorem NK{g:Ph->Int}{l:List Ph}(h:¬R l=0)(a:12<R l):cQ g l=(0,8):=by unfold cQ;simp_all
def Ki{g:Ph->Int}{l:List Ph}(h:¬R l=0)(a:¬12<R l):cQ g l=aK (fun _ p=>g p) 0 l:=by simp_all[cQ,Zm]
def Mh(t L b:Nat):min 61 (min 61 b+t * min 61 L)=min 61 (b+t * L):=by
 rcases dθ t with rfl|a
 ·simp
 by_cases h:L<=61
 ·grind
 have e:min 61 L=61:=I
 have d:61<=t * 61:=cμ 61 a;have c:L<=t * L:=cμ L a;grind
def S6(d:Nat)(l:List Ph):Nat:=min 61 (R (l.flatMap (cY d)))
theorem Wu{d:Nat}{l:List Ph}{i:Nat}(h:i<R l):(l.take (i+1)).flatMap (cY d)=(l.take i).flatMap (cY d)++cY d l[i]:=by
 rw[mv h,cγ,List.flatMap_singleton]
def UT{d:Nat}{p:Ph}(h:p.kind=5):R (cY d p)=p.aR.toNat * R (cZ d p.body):=by
 rw[Dd h,List.length_flatten,List.map_replicate,List.sum_replicate_nat]
def cnt_1{d:Nat}{l:List Ph}{i:Nat}(h:i<R l)(a:¬l[i].kind=5):S6 d (l.take (i+1))=min 61 (S6 d (l.take i)+1):=by
 grind [S6,Wu,ya]
def cnt_r{d:Nat}{l:List Ph}{i:Nat}(h:i<R l)(a:l[i].kind=5):S6 d (l.take (i+1))=min 61 (S6 d (l.take i)+l[i].aR.toNat * min 61 (R (cZ d l[i].body))):=by
 unfold S6;rw[Wu h,Zs,UT a,Mh]
def TX:Nat->List Ph->Prop
 |0,_=>True
 |d+1,l=>R (cZ (d+1) l)<=1000/\∀p∈l,p.kind=5->TX d p.body
def Nr{d:Nat}{l:List Ph}{p:Ph}(c:p∈l)(e:p.kind=5)(f:1<=p.aR):R (cZ d p.body)<=R (cZ (d+1) l):=by
 obtain⟨a,b,rfl⟩:=List.append_of_mem c;rw[flatG_emit,cγ,List.flatMap_cons,Zs,Zs,UT e];have:R (cZ d p.body)<=p.aR.toNat * R (cZ d p.body):=cμ _ I;omega
def RP:∀(m:Nat){l:List Ph},(cQ (bu m) l).2=0->R (cZ (m+1) l)<=1000->TX (m+1) l
 |0,l,h,hl=>⟨hl,fun p a b=>trivial⟩
 |m+1,l,h,hl=>⟨hl,fun p a b=>by
  obtain⟨f,c,e,d⟩:=nu ((nr h).2 p a) b;have:c=m:=I
  subst this;exact RP c d (ce (Nr a b f.1) hl)⟩
def Ss{α:Type}(j:Nat)(L:List α):(List.replicate (j+1) L).flatten=(List.replicate j L).flatten++L:=by
 rw[eξ,aω,List.flatten_singleton]
def Mx{α:Type}(j:Nat)(L:List α):R ((List.replicate j L).flatten)=j * R L:=by
 simp
theorem Uc(l:List Ph):R (iy l)=min 61 (R (cZ 4 l)):=by show(R ((cZ 4 l).take 61))=_;simp
theorem Nq{l:List Ph}(h:R (cZ 4 l)<=60):iy l=cZ 4 l:=sg I
def chk_8{l:List Ph}(h:(cQ (bu 3) l).2=0)(a:60<min 61 (R (cZ 4 l))):u5 l=8:=by
 grind [Uc,GL,aF,ae]
def Kg{d:Nat}{l:List Ph}(h:R (cZ (d+1) l)<=1000)(i:Nat):R ((l.take i).flatMap (cY d))<=1000:=by
 grind [List.take_append_drop,flatG_emit]
def Nb{l:List Ph}(h:(cQ (bu 3) l).2=0)(d:R (cZ 4 l)<=60)(a:R (cZ 4 l) - 1<R (cZ 4 l)){b:Bool}(c:nw (cZ 4 l)[R (cZ 4 l) - 1].kind=b):u5 l=ae b 20:=by
 grind [Nq,GL,aF,ae]
def QY(l:List Ph):l.map Ph.cx=l.map Ph.cs:=(Fx l).symm
def ZE{k:Int}:Ct prog 327 [bv k] (.agg ((VD k).map X.bool)):=by
 refine cI func327 O (ro 18 O (kB O (fun e=>?_) (fun e=>?_)))
 ·refine kr (kc (zU Tp O O) (rr 3 O (OK.ret (aA.r1 (zy O O TU O) ?_))));refine rn X.agg ?_;simp_all[VD]
  try rfl
 refine ro 6 O (kB O (fun d=>?_) (fun d=>?_))
 ·refine kr (kc (zU Tp O O) (rr 3 O (OK.ret (aA.r1 (zy O O TU O) ?_))));refine rn X.agg ?_;simp_all[VD]
  try rfl
 refine ro 6 O (kB O (fun c=>?_) (fun c=>?_))
 ·refine kr (kc (zU Tp O O) (rr 3 O (OK.ret (aA.r1 (zy O O TU O) ?_))));refine rn X.agg ?_;simp_all[VD]
  try rfl
 refine ro 6 O (kB O (fun b=>?_) (fun b=>?_))
 ·refine kr (kc (zU Tp O O) (rr 3 O (OK.ret (aA.r1 (zy O O TU O) ?_))));refine rn X.agg ?_;simp_all[VD]
  try rfl
 refine ro 6 O (kB O (fun a=>?_) (fun a=>?_))
 ·refine kr (kc (zU Tp O O) (rr 3 O (OK.ret (aA.r1 (zy O O TU O) ?_))));refine rn X.agg ?_;simp_all[VD]
  try rfl
 refine ro 5 O (kc (zU Tp O O) (rr 3 O (OK.ret (aA.r1 (zy O O TU O) ?_))));refine rn X.agg ?_;simp_all[VD]
 try rfl
def On{k:Int}(h:k=0):Ct prog 327 [bv k] (.agg [.bool true,.bool false,.bool false,.bool false]):=by subst h;exact ZE
def Oo{k:Int}(h:k=1):Ct prog 327 [bv k] (.agg [.bool false,.bool false,.bool false,.bool false]):=by subst h;exact ZE
def Oq{k:Int}(h:k=2):Ct prog 327 [bv k] (.agg [.bool false,.bool true,.bool false,.bool false]):=by subst h;exact ZE
def Ot{k:Int}(h:k=3):Ct prog 327 [bv k] (.agg [.bool true,.bool false,.bool true,.bool false]):=by subst h;exact ZE
def Ou{k:Int}(h:k=4):Ct prog 327 [bv k] (.agg [.bool false,.bool true,.bool true,.bool false]):=by subst h;exact ZE
def Ov{k:Int}(h:k=5):Ct prog 327 [bv k] (.agg [.bool false,.bool false,.bool false,.bool true]):=by subst h;exact ZE
def XG{n:Int}:Ct prog 382 [bv n] (.bool (decide (200<=n/\n<=3000))):=by
 refine cI func382 O (ro 8 O (kc (zK gx call33 O) (rr 3 O (kR O O ?_))));rfl
def X4{p:Ph}{m:Nat}(w:m<=3)(hle:∀n,m=n+1->∀l:List Ph,Ct prog 328 [.sl (l.map Ph.cs),bv (3 - (n:Int))] (.cf [bv (cQ (bu n) l).1,bv (cQ (bu n) l).2])):Ct prog 367 [.agg p.cx,bv (3 - (m:Int))] (bv (bu m p)):=by
 refine cI func367 O (ro 11 O (kc (zK gx call33 O) (kc (S.jP .none O (zt O)) (kD (kB O (fun s=>?_) (fun s=>?_))))))
 ·have c:¬(0<=p.kind/\p.kind<=5):=by simpa using s
  have a:=Ak (m:=m) c;refine ro 5 O (kR O O ?_);rw[a];try rfl
 have c:0<=p.kind/\p.kind<=5:=by simpa using s
 refine ro 3 O ?_;rcases kind_cases c with e|e|e|e|e|e
 ·refine ro 3 O (kc (zK (On e) call327 O) (rr 9 O (kc (S.not .none O (zt O)) (rr 8 O (kc (S.not (zg O O) O (zt O)) (rr 7 O (RK.bh (t:=34) O (fun j=>?_) (fun j=>?_))))))))
  ·have a:=ZU (m:=m) c (by unfold lW;rw[e];simp[-List.length_eq_zero_iff];first|omega|(intros;omega));refine rr 28 O (kR O O ?_);rw[a];try rfl
  refine rr 2 O (kc (S.not (zg O O) O (zt O)) (rr 7 O (RK.bh (t:=44) O (fun i=>?_) (fun i=>?_))))
  ·have a:=ZU (m:=m) c (by unfold lW;rw[e];simp[-List.length_eq_zero_iff];first|omega|(intros;omega));refine rr 18 O (kR O O ?_);rw[a];try rfl
  refine rr 2 O (kc (S.not (zg O O) O (zt O)) (rr 3 O (kc (S.Hp Zj (zg O O) O (zt O)) (rr 5 O (kB O (fun h=>?_) (fun h=>?_))))))
  ·have a:=ZU (m:=m) c (by unfold lW;rw[e];simp[-List.length_eq_zero_iff];first|omega|(intros;omega));refine ro 5 O (kR O O ?_);rw[a];try rfl
  refine ro 3 O ?_;have b:lW p=true:=(by unfold lW;rw[e];simp[-List.length_eq_zero_iff];first|omega|(intros;omega));refine ro 22 O (kc (S.call (gx) call33 (zg O O) O (zc O (zC O (zD O))) O) (kc (S.jP (zg O O) O (zt O)) (rr 2 O (RK.bh (t:=65) O (fun q=>?_) (fun q=>?_)))))
  ·have a:=ZD (m:=m) c b (by unfold iD;rw[e];simp;first|omega|(intros;omega));refine rr 34 O (kR O O ?_);rw[a];try rfl
  refine rr 13 O (kc (S.call (gx) call33 (zg O O) O (zc O (zC O (zc O .nil))) O) (kc (S.jP (zg O O) O (zt O)) (rr 2 O (RK.bh (t:=82) O (fun g=>?_) (fun g=>?_)))))
  ·have a:=ZD (m:=m) c b (by unfold iD;rw[e];simp;first|omega|(intros;omega));refine rr 17 O (kR O O ?_);rw[a];try rfl
  refine rr 16 O ?_;have f:iD p=true:=(by unfold iD;rw[e];simp;first|omega|(intros;omega));have d:=WB b f;refine ro 3 O (kc (S.not .none O (zt O)) (rr 4 O ?_));have a:=B0 (m:=m) c d I;refine ro 4 O (kR O O ?_);rw[a];try rfl
 ·refine ro 3 O (kc (zK (Oo e) call327 O) (rr 9 O (kc (S.not .none O (zt O)) (rr 6 O (RK.bh (t:=24) O (fun k=>?_) (fun k=>?_))))))
  ·have a:=ZU (m:=m) c (by unfold lW;rw[e];simp[-List.length_eq_zero_iff];first|omega|(intros;omega));refine rr 38 O (kR O O ?_);rw[a];try rfl
  refine rr 2 O (kc (S.not (zg O O) O (zt O)) (rr 7 O (RK.bh (t:=34) O (fun j=>?_) (fun j=>?_))))
  ·have a:=ZU (m:=m) c (by unfold lW;rw[e];simp[-List.length_eq_zero_iff];first|omega|(intros;omega));refine rr 28 O (kR O O ?_);rw[a];try rfl
  refine rr 2 O (kc (S.not (zg O O) O (zt O)) (rr 7 O (RK.bh (t:=44) O (fun i=>?_) (fun i=>?_))))
  ·have a:=ZU (m:=m) c (by unfold lW;rw[e];simp[-List.length_eq_zero_iff];first|omega|(intros;omega));refine rr 18 O (kR O O ?_);rw[a];try rfl
  refine rr 2 O (kc (S.not (zg O O) O (zt O)) (rr 3 O (kc (S.Hp Zj (zg O O) O (zt O)) (rr 5 O (kB O (fun h=>?_) (fun h=>?_))))))
  ·have a:=ZU (m:=m) c (by unfold lW;rw[e];simp[-List.length_eq_zero_iff];first|omega|(intros;omega));refine ro 5 O (kR O O ?_);rw[a];try rfl
  refine ro 3 O ?_;have b:lW p=true:=(by unfold lW;rw[e];simp[-List.length_eq_zero_iff];first|omega|(intros;omega));refine ro 39 O (kc (S.call (gx) call33 (zg O O) O (zc O (zC O (zc O .nil))) O) (kc (S.jP (zg O O) O (zt O)) (rr 2 O (RK.bh (t:=82) O (fun g=>?_) (fun g=>?_)))))
  ·have a:=ZD (m:=m) c b (by unfold iD;rw[e];simp;first|omega|(intros;omega));refine rr 17 O (kR O O ?_);rw[a];try rfl
  refine rr 16 O ?_;have f:iD p=true:=(by unfold iD;rw[e];simp;first|omega|(intros;omega));have d:=WB b f;refine ro 3 O (kc (S.not .none O (zt O)) (rr 4 O ?_));have a:=B0 (m:=m) c d I;refine ro 4 O (kR O O ?_);rw[a];try rfl
 ·refine ro 3 O (kc (zK (Oq e) call327 O) (rr 9 O (kc (S.not .none O (zt O)) (rr 6 O (RK.bh (t:=24) O (fun k=>?_) (fun k=>?_))))))
  ·have a:=ZU (m:=m) c (by unfold lW;rw[e];simp[-List.length_eq_zero_iff];first|omega|(intros;omega));refine rr 38 O (kR O O ?_);rw[a];try rfl
  refine rr 2 O (kc (S.not (zg O O) O (zt O)) (rr 9 O (kc (S.not (zg O O) O (zt O)) (rr 7 O (RK.bh (t:=44) O (fun i=>?_) (fun i=>?_))))))
  ·have a:=ZU (m:=m) c (by unfold lW;rw[e];simp[-List.length_eq_zero_iff];first|omega|(intros;omega));refine rr 18 O (kR O O ?_);rw[a];try rfl
  refine rr 2 O (kc (S.not (zg O O) O (zt O)) (rr 3 O (kc (S.Hp Zj (zg O O) O (zt O)) (rr 5 O (kB O (fun h=>?_) (fun h=>?_))))))
  ·have a:=ZU (m:=m) c (by unfold lW;rw[e];simp[-List.length_eq_zero_iff];first|omega|(intros;omega));refine ro 5 O (kR O O ?_);rw[a];try rfl
  refine ro 3 O ?_;have b:lW p=true:=(by unfold lW;rw[e];simp[-List.length_eq_zero_iff];first|omega|(intros;omega));refine ro 31 O (kc (S.call (gx) call33 (zg O O) O (zc O (zC O (zD O))) O) (kc (S.jP (zg O O) O (zt O)) (rr 3 O (RK.bh (t:=75) O (fun o=>?_) (fun o=>?_)))))
  ·have a:=ZD (m:=m) c b (by unfold iD;rw[e];simp;first|omega|(intros;omega));refine rr 24 O (kR O O ?_);rw[a];try rfl
  refine rr 3 O (kc (S.call (gx) call33 (zg O O) O (zc O (zC O (zc O .nil))) O) (kc (S.jP (zg O O) O (zt O)) (rr 2 O (RK.bh (t:=82) O (fun g=>?_) (fun g=>?_)))))
  ·have a:=ZD (m:=m) c b (by unfold iD;rw[e];simp;first|omega|(intros;omega));refine rr 17 O (kR O O ?_);rw[a];try rfl
  refine rr 16 O ?_;have f:iD p=true:=(by unfold iD;rw[e];simp;first|omega|(intros;omega));have d:=WB b f;refine ro 3 O (kc (S.not .none O (zt O)) (rr 4 O ?_));have a:=B0 (m:=m) c d I;refine ro 4 O (kR O O ?_);rw[a];try rfl
 ·refine ro 3 O (kc (zK (Ot e) call327 O) (rr 9 O (kc (S.not .none O (zt O)) (rr 8 O (kc (S.not (zg O O) O (zt O)) (rr 7 O (RK.bh (t:=34) O (fun j=>?_) (fun j=>?_))))))))
  ·have a:=ZU (m:=m) c (by unfold lW;rw[e];simp[-List.length_eq_zero_iff];first|omega|(intros;omega));refine rr 28 O (kR O O ?_);rw[a];try rfl
  refine rr 2 O (kc (S.not (zg O O) O (zt O)) (rr 9 O (kc (S.not (zg O O) O (zt O)) (rr 3 O (kc (S.Hp Zj (zg O O) O (zt O)) (rr 5 O (kB O (fun h=>?_) (fun h=>?_))))))))
  ·have a:=ZU (m:=m) c (by unfold lW;rw[e];simp[-List.length_eq_zero_iff];first|omega|(intros;omega));refine ro 5 O (kR O O ?_);rw[a];try rfl
  refine ro 3 O ?_;have b:lW p=true:=(by unfold lW;rw[e];simp[-List.length_eq_zero_iff];first|omega|(intros;omega));refine ro 22 O (kc (S.call (gx) call33 (zg O O) O (zc O (zC O (zD O))) O) (kc (S.jP (zg O O) O (zt O)) (rr 2 O (RK.bh (t:=65) O (fun q=>?_) (fun q=>?_)))))
  ·have a:=ZD (m:=m) c b (by unfold iD;rw[e];simp;first|omega|(intros;omega));refine rr 34 O (kR O O ?_);rw[a];try rfl
  refine rr 13 O (kc (S.call (gx) call33 (zg O O) O (zc O (zC O (zc O .nil))) O) (kc (S.jP (zg O O) O (zt O)) (rr 2 O (RK.bh (t:=82) O (fun g=>?_) (fun g=>?_)))))
  ·have a:=ZD (m:=m) c b (by unfold iD;rw[e];simp;first|omega|(intros;omega));refine rr 17 O (kR O O ?_);rw[a];try rfl
  refine rr 5 O (kc (S.call (XG) call382 (zg O O) O (zc O .nil) O) (kc (S.jP (zg O O) O (zt O)) (rr 4 O (kB O (fun r=>?_) (fun r=>?_)))))
  ·have a:=ZD (m:=m) c b (by unfold iD;rw[e];simp;first|omega|(intros;omega));refine ro 5 O (kR O O ?_);rw[a];try rfl
  refine ro 4 O ?_;have f:iD p=true:=(by unfold iD;rw[e];simp;first|omega|(intros;omega));have d:=WB b f;refine ro 3 O (kc (S.not .none O (zt O)) (rr 4 O ?_));have a:=B0 (m:=m) c d I;refine ro 4 O (kR O O ?_);rw[a];try rfl
 ·refine ro 3 O (kc (zK (Ou e) call327 O) (rr 9 O (kc (S.not .none O (zt O)) (rr 6 O (RK.bh (t:=24) O (fun k=>?_) (fun k=>?_))))))
  ·have a:=ZU (m:=m) c (by unfold lW;rw[e];simp[-List.length_eq_zero_iff];first|omega|(intros;omega));refine rr 38 O (kR O O ?_);rw[a];try rfl
  refine rr 2 O (kc (S.not (zg O O) O (zt O)) (rr 9 O (kc (S.not (zg O O) O (zt O)) (rr 9 O (kc (S.not (zg O O) O (zt O)) (rr 3 O (kc (S.Hp Zj (zg O O) O (zt O)) (rr 5 O (kB O (fun h=>?_) (fun h=>?_))))))))))
  ·have a:=ZU (m:=m) c (by unfold lW;rw[e];simp[-List.length_eq_zero_iff];first|omega|(intros;omega));refine ro 5 O (kR O O ?_);rw[a];try rfl
  refine ro 3 O ?_;have b:lW p=true:=(by unfold lW;rw[e];simp[-List.length_eq_zero_iff];first|omega|(intros;omega));refine ro 31 O (kc (S.call (gx) call33 (zg O O) O (zc O (zC O (zD O))) O) (kc (S.jP (zg O O) O (zt O)) (rr 3 O (RK.bh (t:=75) O (fun o=>?_) (fun o=>?_)))))
  ·have a:=ZD (m:=m) c b (by unfold iD;rw[e];simp;first|omega|(intros;omega));refine rr 24 O (kR O O ?_);rw[a];try rfl
  refine rr 3 O (kc (S.call (gx) call33 (zg O O) O (zc O (zC O (zc O .nil))) O) (kc (S.jP (zg O O) O (zt O)) (rr 2 O (RK.bh (t:=82) O (fun g=>?_) (fun g=>?_)))))
  ·have a:=ZD (m:=m) c b (by unfold iD;rw[e];simp;first|omega|(intros;omega));refine rr 17 O (kR O O ?_);rw[a];try rfl
  refine rr 5 O (kc (S.call (XG) call382 (zg O O) O (zc O .nil) O) (kc (S.jP (zg O O) O (zt O)) (rr 4 O (kB O (fun r=>?_) (fun r=>?_)))))
  ·have a:=ZD (m:=m) c b (by unfold iD;rw[e];simp;first|omega|(intros;omega));refine ro 5 O (kR O O ?_);rw[a];try rfl
  refine ro 4 O ?_;have f:iD p=true:=(by unfold iD;rw[e];simp;first|omega|(intros;omega));have d:=WB b f;refine ro 3 O (kc (S.not .none O (zt O)) (rr 4 O ?_));have a:=B0 (m:=m) c d I;refine ro 4 O (kR O O ?_);rw[a];try rfl
 refine ro 3 O (kc (zK (Ov e) call327 O) (rr 9 O (kc (S.not .none O (zt O)) (rr 6 O (RK.bh (t:=24) O (fun k=>?_) (fun k=>?_))))))
 ·have a:=ZU (m:=m) c (by unfold lW;rw[e];simp[-List.length_eq_zero_iff];first|omega|(intros;omega));refine rr 38 O (kR O O ?_);rw[a];try rfl
 refine rr 2 O (kc (S.not (zg O O) O (zt O)) (rr 7 O (RK.bh (t:=34) O (fun j=>?_) (fun j=>?_))))
 ·have a:=ZU (m:=m) c (by unfold lW;rw[e];simp[-List.length_eq_zero_iff];first|omega|(intros;omega));refine rr 28 O (kR O O ?_);rw[a];try rfl
 refine rr 2 O (kc (S.not (zg O O) O (zt O)) (rr 7 O (RK.bh (t:=44) O (fun i=>?_) (fun i=>?_))))
 ·have a:=ZU (m:=m) c (by unfold lW;rw[e];simp[-List.length_eq_zero_iff];first|omega|(intros;omega));refine rr 18 O (kR O O ?_);rw[a];try rfl
 refine rr 2 O (kc (S.not (zg O O) O (zt O)) (rr 13 O ?_));have b:lW p=true:=(by unfold lW;rw[e];simp[-List.length_eq_zero_iff];first|omega|(intros;omega));refine ro 41 O (kc (S.call (gx) call33 (zg O O) O (zc O (zC O (zc O .nil))) O) (kc (S.jP (zg O O) O (zt O)) (rr 2 O (RK.bh (t:=82) O (fun g=>?_) (fun g=>?_)))))
 ·have a:=ZD (m:=m) c b (by unfold iD;rw[e];simp;first|omega|(intros;omega));refine rr 17 O (kR O O ?_);rw[a];try rfl
 refine rr 16 O ?_;have f:iD p=true:=(by unfold iD;rw[e];simp;first|omega|(intros;omega));have d:=WB b f;refine ro 3 O (kc (S.not .none O (zt O)) (rr 12 O (kB O (fun v=>?_) (fun v=>?_))))
 ·have u:m=0:=I
  subst u;have a:=sL c d e;refine ro 5 O (kR O O ?_);rw[a];try rfl
 obtain⟨n,rfl⟩:∃n,m=n+1:=⟨m - 1,I⟩;have a:=vL (m:=n) c d e;refine Ro 8 O I ?_;refine kc (zK ((by have:=hle n rfl p.body;rw[show(3 - (n:Int))=3 - ((n+1:Nat):Int)+1 by omega]at this;exact this)) call328 O) ?_;refine rr 13 O (kR O O ?_);rw[a];try rfl
def XH{l:List Ph}{m:Nat}(k:m<=3)(j:∀p:Ph,Ct prog 367 [.agg p.cx,bv (3 - (m:Int))] (bv (bu m p))):Ct prog 328 [.sl (l.map Ph.cs),bv (3 - (m:Int))] (.cf [bv (cQ (bu m) l).1,bv (cQ (bu m) l).2]):=by
 refine cI func328 O fun{_ _}=>?_
 rw[Fx l];refine OK.eW (rows:=l.map Ph.cx) (t:=0) O O fun hlen=>?_
 rw[Zx]at hlen;unfold maxLen at hlen;refine ro 10 O (kc (zk Zj O) (rr 3 O (kB O (fun h=>?_) (fun h=>?_))))
 ·have a:=Me (g:=bu m) (l:=l) I;refine ro 6 O (kS O O O O ?_);rw[a];try rfl
 refine ro 6 O (kc (zk Zj O) (rr 3 O (kB O (fun f=>?_) (fun f=>?_))))
 ·have a:=NK (g:=bu m) (l:=l) I I;refine ro 6 O (kS O O O O ?_);rw[a];try rfl
 refine ro 9 O ?_;refine OK.loop (G:=Nat) [] (fun i=>[(0,.sl (l.map Ph.cx)),(1,bv (3 - (m:Int))),(6,bv i)]) (fun i=>i<=R l/\cQ (bu m) l=aK (fun _ p=>bu m p) i (l.drop i)) (fun i=>R l - i) 0 ⟨Zr _,Ki I I⟩ ⟨O,O,O,Zo⟩ (fun _=>O) ?_;rintro i ⟨hi,d⟩;refine ro 5 O (kc (zk Zj O) (rr 3 O (kB O (fun e=>?_) (fun e=>?_))))
 ·have c:i<R l:=by omega
  refine ro 8 O (kc (zI Zj O I O) ?_);refine rr 2 O (kc (zK (j l[i]) call367 O) (rr 9 O (kB O (fun b=>?_) (fun b=>?_))))
  ·have a:cQ (bu m) l=((i:Int),bu m l[i]):=by rw[d,bE _ c,Zn b]
   refine ro 8 O (kS O O O O ?_);rw[a];try rfl
  refine Ro 8 O I ?_;refine Ab.D.lp ⟨i+1,⟨by omega,by rw[d,bE _ c,Zm b]⟩,I,O,O,O,Zo⟩
 refine ro 3 O ?_;have a:cQ (bu m) l=(0,0):=by rw[d,show i=R l by omega,no];rfl
 refine ro 5 O (kS O O O O ?_);rw[a];try rfl
def PD(m:Nat)(b:m<=3):(∀p:Ph,Ct prog 367 [.agg p.cx,bv (3 - (m:Int))] (bv (bu m p)))/\∀l:List Ph,Ct prog 328 [.sl (l.map Ph.cs),bv (3 - (m:Int))] (.cf [bv (cQ (bu m) l).1,bv (cQ (bu m) l).2]):=by
 induction m with
 |zero=>
  have a:∀p:Ph,Ct prog 367 [.agg p.cx,bv (3 - ((0:Nat):Int))] (bv (bu 0 p)):=fun p=>X4 b fun c e=>by omega
  exact⟨a,fun l=>XH b a⟩
 |succ m d=>
  obtain⟨_,f⟩:=d I;have a:∀p:Ph,Ct prog 367 [.agg p.cx,bv (3 - ((m+1:Nat):Int))] (bv (bu (m+1) p)):=fun p=>X4 b fun c e=>by
   have:c=m:=I
   subst this;exact f
  exact⟨a,fun l=>XH b a⟩
def TJ{l:List Ph}:Ct prog 328 [.sl (l.map Ph.cs),bv 0] (.cf [bv (cQ (bu 3) l).1,bv (cQ (bu 3) l).2]):=(PD 3 (Zq _)).2 l
def Sh{d:Nat}{l:List Ph}(hd:Deep (d+1) l)(j:∀b:List Ph,Deep d b->Ct prog 329 [.sl (b.map Ph.cs)] (bv (min 61 (R (cZ d b)):Nat))):Ct prog 329 [.sl (l.map Ph.cs)] (bv (min 61 (R (cZ (d+1) l)):Nat)):=by
 refine cI func329 O fun{_ _}=>?_
 rw[Fx l];refine OK.eW (rows:=l.map Ph.cx) (t:=0) O O fun hlen=>?_
 rw[Zx]at hlen;unfold maxLen at hlen;refine ro 17 O ?_;refine OK.loop (G:=Nat) [] (fun i=>[(0,.sl (l.map Ph.cx)),(3,bv (S6 d (l.take i):Nat)),(4,bv i)]) (fun i=>i<=R l) (fun i=>R l - i) 0 (Zr _) ⟨O,O,O,Zo⟩ (fun _=>O) ?_;rintro i hi;refine ro 5 O (kc (zk Zj O) (rr 3 O (kB O (fun o=>?_) (fun o=>?_))))
 ·have f:i<R l:=by omega
  have n:S6 d (l.take i)<=61:=by unfold S6;omega
  refine ro 14 O (kc (zI Zj O I O) ?_);refine rr 5 O (kB O (fun a=>?_) (fun a=>?_))
  ·have h:=hd l[i] (Zt f) a;have e:=cnt_r (d:=d) f a;have g:(l[i].aR.toNat:Int)=l[i].aR:=by omega
   have m:=Nat.mul_le_mul (show l[i].aR.toNat<=10 by omega) (show min 61 (R (cZ d l[i].body))<=61 by omega);have k:l[i].aR * ((min 61 (R (cZ d l[i].body)):Nat):Int)=((l[i].aR.toNat * min 61 (R (cZ d l[i].body)):Nat):Int):=by rw[Int.natCast_mul,g]
   refine kV (.c (zm O) (.c (zm O) (.c (zI Zj O I O) (.c (S.field UG .none O (zt O) O) (.c (zV Z8 O O) (.c (zm O) (.c (zm O) (.c (zI Zj O I O) (.c (S.field Qe .none O (zt O) O) (.c (zV Xm O O) (.c (zK (j l[i].body h.2) call329 O) (.c (S.mul .none O (zt O) (zt O) (mn _ I) (mn _ I)) (.c (za O) .nil))))))))))))) ?_;refine Rd 5 O I (kc (S.min2 .none O (zt O) (.af O)) ?_);refine Rr 9 O I ?_;refine Ab.D.lp ⟨i+1,I,I,O,(yL (by rw[e];first|(split<;>omega)|omega)),O,Zo⟩
  have e:=cnt_1 (d:=d) f a;refine Ro 6 O I (kc (S.min2 .none O (zt O) (.af O)) ?_);refine Rr 9 O I ?_;refine Ab.D.lp ⟨i+1,I,I,O,(yL (by rw[e];first|(split<;>omega)|omega)),O,Zo⟩
 refine ro 8 O (kR O O ?_);refine cy ?_;rw[show i=R l by omega,List.take_length];rfl
def Vj:∀(d:Nat){l:List Ph},Deep d l->Ct prog 329 [.sl (l.map Ph.cs)] (bv (min 61 (R (cZ d l)):Nat))
 |0,_,h=>h.elim
 |d+1,_,h=>Sh h fun b a=>Vj d a
def RA{d:Nat}{l:List Ph}(hd:Deep (d+1) l)(y:TX (d+1) l)(z:∀b:List Ph,Deep d b->TX d b->Ct prog 330 [.sl (b.map Ph.cs)] (.sl ((cZ d b).map Ph.cs))):Ct prog 330 [.sl (l.map Ph.cs)] (.sl ((cZ (d+1) l).map Ph.cs)):=by
 refine cI func330 O fun{_ _}=>?_
 rw[Fx l];refine OK.eW (rows:=l.map Ph.cx) (t:=0) O O fun hlen=>?_
 rw[Zx]at hlen;unfold maxLen at hlen;have hle:=Kg (d:=d) y.1;refine kr (kc (S.assign .none O .fW) (rr 4 O (RK.c (S.iI (k:=3) (sz:=6) .none O) (rr 9 O ?_))));refine OK.loop (G:=Nat) [3] (fun i=>[(0,.sl (l.map Ph.cx)),(3,.own 3 (R ((l.take i).flatMap (cY d)))),(2003,.arr 6 (((l.take i).flatMap (cY d)).map Ph.cx)),(4,bv i)]) (fun i=>i<=R l) (fun i=>R l - i) 0 (Zr _) ⟨O,(cw N),(bH N),O,Zo⟩ (fun _=>O) ?_;rintro i hi;refine ro 5 O (kc (zk Zj O) (rr 3 O (kB O (fun w=>?_) (fun w=>?_))))
 ·have f:i<R l:=by omega
  have E:=hle i;have o:=hle (i+1);have a:=Wu (d:=d) f;refine ro 9 O (kc (zI Zj O I O) ?_);refine rr 5 O (kB O (fun g=>?_) (fun g=>?_))
  ·have e:(l.take (i+1)).flatMap (cY d)=((l.take i).flatMap (cY d))++[l[i]]:=by rw[a,ya g]
   refine ro 5 O (kc (zI Zj O I O) (kc (S.fG ZF .none O (zt O) O O) ?_));refine RK.c (zM [[_,_,_,_,_,_]] WZ O O O O) ?_;refine kc (zP WZ O O F N I (by simp only[maxLen];omega)) ?_;refine Rr 10 O I ?_;refine Ab.D.lp ⟨i+1,I,I,O,(cw (by rw[e];simp)),(bH (by rw[e];first|rfl|(simp;done)|(simp;rfl))),O,Zo⟩
  have m:l[i].kind=5:=Zu.1 g;have s:=hd l[i] (Zt f) m;have u:=y.2 l[i] (Zt f) m;have r:=UT (d:=d) m;rw[a,Zs,r]at o;refine ro 6 O (kc (zI Zj O I O) ?_);refine rr 2 O ?_;refine kc (zK ((by have h:=z l[i].body s.2 u;rw[Fx (cZ d l[i].body)]at h;exact h)) call330 O) ?_;refine rr 9 O ?_;refine OK.loop (G:=Nat) [3] (fun j=>[(0,.sl (l.map Ph.cx)),(3,.own 3 (R ((l.take i).flatMap (cY d))+R ((List.replicate j (cZ d l[i].body)).flatten))),(2003,.arr 6 (((l.take i).flatMap (cY d)).map Ph.cx++((List.replicate j (cZ d l[i].body)).flatten).map Ph.cx)),(4,bv i),(5,.sl ((cZ d l[i].body).map Ph.cx)),(6,bv j)]) (fun j=>j<=l[i].aR.toNat) (fun j=>l[i].aR.toNat - j) 0 (Zr _) ⟨O,(cw F),(bH F),O,O,O,Zo⟩ (fun _=>O) ?_;rintro j J;refine ro 6 O (kc (zI Zj O I O) ?_);refine rr 5 O (kB O (fun v=>?_) (fun v=>?_))
  ·have H:j<l[i].aR.toNat:=by omega
   have B:=Mx j (cZ d l[i].body);have n:=m8 (R (cZ d l[i].body)) (show j+1<=l[i].aR.toNat by omega);rw[aρ,cβ]at n;refine ro 7 O ?_;refine RK.c (S.mQ WZ .none O (zt O) O F (zt O) (by intro q C;obtain⟨x,_,rfl⟩:=rx.1 C;rfl) (Zx ..) I (by simp only[maxLen];omega)) ?_;refine Rr 9 O I ?_;refine Ab.D.lp ⟨j+1,I,I,O,(cw (by rw[Ss,Zs];omega)),(bH (by rw[Ss,ne,m7])),O,O,O,Zo⟩
  have p:j=l[i].aR.toNat:=by omega
  have e:(l.take (i+1)).flatMap (cY d)=((l.take i).flatMap (cY d))++((List.replicate j (cZ d l[i].body)).flatten):=by rw[a,Dd m,p]
  refine Ro 8 O I ?_;refine Ab.D.lp ⟨i+1,I,I,O,(cw (by rw[e];simp)),(bH (by rw[e];first|rfl|(simp;done)|(simp;rfl))),O,Zo⟩
 refine ro 3 O ?_;rw[show i=R l by omega,List.take_length,←flatG_emit];refine ro 5 O ?_;refine OK.ret (aA.r1 (.tmp O O (.c (.own O O N) O) O) ?_);rw[QY];try rfl
def Us:∀(d:Nat){l:List Ph},Deep d l->TX d l->Ct prog 330 [.sl (l.map Ph.cs)] (.sl ((cZ d l).map Ph.cs))
 |0,_,h,_=>h.elim
 |d+1,_,h,hb=>RA h hb fun b c a=>Us d c a
def Si{p:Ph}:Ct prog 331 [.agg p.cx] (.bool (nw p.kind)):=by
 refine cI func331 O (ro 12 O (RK.bh (t:=6) O (fun a=>?_) (fun a=>?_)))
 ·refine rr 7 O (kR O O ?_);simp[nw, *]
 refine rr 7 O (kR O O ?_);simp[nw, *]
def WD{l:List Ph}:Ct prog 284 [.sl (l.map Ph.cs)] (.cf [bv (if(cQ (bu 3) l).2≠0 then(cQ (bu 3) l).1 else 0),bv (u5 l)]):=by
 refine cI func284 O (ro 10 O (kc (zK (TJ (l:=l)) call328 O) (rr 13 O (kB O (fun a=>?_) (fun a=>?_)))))
 ·have d:=GK (l:=l) a;refine ro 8 O (kS O O O O ?_);rw[d,Zn a]
  try rfl
 have h0:(cQ (bu 3) l).2=0:=Zu.1 a;refine ro 6 O (kc (zK (Vj 4 (EX 3 h0)) call329 O) (rr 3 O (kB O (fun g=>?_) (fun g=>?_))))
 ·have d:=chk_8 h0 I;refine ro 6 O (kS O O O O ?_);rw[d,Zm a]
  try rfl
 have hle:R (cZ 4 l)<=60:=by omega
 have f:TX 4 l:=RP 3 h0 (by show(R (cZ 4 l))<=1000;omega);have i:0<R (cZ 4 l):=aη.2 (EY 3 h0);have c:R (cZ 4 l) - 1<R (cZ 4 l):=by omega
 refine ro 5 O ?_;refine kc (zK ((by have h:=Us 4 (EX 3 h0) f;rw[Fx (cZ 4 l)]at h;exact h)) call330 O) ?_;refine rr 8 O (kc (zk Zj O) (Rr 1 O I (kc (S.aP (n:=(R (cZ 4 l) - 1)) Zj .none O (zt O) (zt O) I c O) (kc (S.fG ZF .none O (zt O) O O) (kc (zK Si call331 O) (kc (S.not .none O (zt O)) (kD (OK.cond O O (fun e=>?_) (fun e=>?_)))))))))
 ·have d:=Nb h0 hle c (b:=false) (by simpa using e);refine ro 6 O (kS O O O O ?_);rw[d,Zm a]
  try rfl
 have d:=Nb h0 hle c (b:=true) (by simpa using e);refine ro 8 O (kS O O O O ?_);rw[d,Zm a]
 try rfl
def Vi{l:List Ph}:Ct prog 230 [.sl (l.map Ph.cs)] (bv (u5 l)):=by
 refine cI func230 O (ro 8 O (kc (zK (WD (l:=l)) call284 O) (rr 13 O (kR O O ?_))));rfl
def Vh{l:List Ph}(f:R l<=1000000)(d:∀p∈l,Ct prog 223 [.sl (p.body.map Ph.cs)] (.sl (p.body.map Ph.cs))):Ct prog 223 [.sl (l.map Ph.cs)] (.sl (l.map Ph.cs)):=by
 refine cI func223 O fun{_ _}=>?_
 rw[Fx l];refine OK.eW (rows:=l.map Ph.cx) (t:=0) O O fun hlen=>?_
 rw[Zx]at hlen;unfold maxLen at hlen;refine kr (kc (S.assign .none O .fW) (rr 4 O (RK.c (S.iI (k:=3) (sz:=6) .none O) (rr 9 O ?_))));refine OK.loop (G:=Nat) [3] (fun i=>[(0,.sl (l.map Ph.cx)),(3,.own 3 i),(2003,.arr 6 ((l.take i).map Ph.cx)),(4,bv i)]) (fun i=>i<=R l) (fun i=>R l - i) 0 (Zr _) ⟨O,(cw N),(bH N),O,Zo⟩ (fun _=>O) ?_;rintro i hi;refine ro 5 O (kc (zk Zj O) (rr 3 O (kB O (fun e=>?_) (fun e=>?_))))
 ·have a:i<R l:=by omega
  refine ro 8 O (kc (zI Zj O I O) ?_);refine rr 9 O (kc (zI Zj O I O) ?_);refine rr 2 O (kc (zK (d l[i] (Zt a)) call223 O) (rr 7 O ?_));refine RK.c (zM [[_,_,_,_,_,_]] WZ O O O O) ?_;refine kc (zP WZ O O (by rw[Zx,sc];omega) N I (by simp only[maxLen];omega)) ?_;refine Rr 9 O I ?_;refine Ab.D.lp ⟨i+1,I,I,O,O,(bH (by rw[mv a,ne];rfl)),O,Zo⟩
 refine ro 3 O ?_;have b:i=R l:=by omega
 subst b;rw[List.take_length];refine ro 5 O ?_;refine OK.ret (aA.r1 (.tmp O O (.c (.own O O N) O) O) ?_);rw[QY];try rfl
end Go.Proofs.Z9
namespace Go.Proofs.Z9
open Go.Ab Tryz
def Hd.w(q:Hd)(n:Nat):Value:=.slice (q.map fun q=>⟨q.1,0,none⟩) n (match q with
 |none=>0
 |some q=>q.2)
def Qs{K:Type}{M:HM K}{k:K}{q:Hd}{n sz:Nat}{rows:List bi}(a:M k=q.map fun q=>(q.1,.gM sz q.2 rows))(b:R rows=n)(h0:q=none->rows=[]):fA M k (q.w n) sz rows:=by
 subst b;cases q with
 |none=>rw[h0 rfl];exact .inl ⟨rfl,rfl,a⟩
 |some q=>exact .inr ⟨q.1,q.2,rfl,a⟩
def VW{K:Type}{M:HM K}{k:K}{q:Hd}{n sz:Nat}{rows:List bi}(a:M k=q.map fun q=>(q.1,.row sz q.2 rows))(b:R rows=n)(h0:q=none->rows=[]):mG M k (q.w n) sz rows:=by
 subst b;cases q with
 |none=>rw[h0 rfl];exact .inl ⟨rfl,rfl,a⟩
 |some q=>exact .inr ⟨q.1,q.2,rfl,a⟩
inductive SK where
 |r
 |c
 |p
 |m
 |f (i:Nat)
 deriving DecidableEq
structure SA where
 rh:Hd
 ch:Hd
 ph:Hd
 mh:Hd
 yB:List Rec
 aC:List o6
 parts:List (Hd×Part)
 aI:bd
 env:Envelope
def pC(q:Hd×Part):bi:=q.2.cells (.raw (q.1.w (R q.2.frames)))
abbrev V1(n:Int):bi:=[bv n]
def SA.mem(A:SA):HM SK
 |.r=>A.rh.map fun q=>(q.1,.row 3 q.2 (A.yB.map Rec.cs))
 |.c=>A.ch.map fun q=>(q.1,.row 3 q.2 (A.aC.map o6.cs))
 |.p=>A.ph.map fun q=>(q.1,.row 13 q.2 (A.parts.map pC))
 |.m=>A.mh.map fun q=>(q.1,.row 1 q.2 (A.aI.map V1))
 |.f i=>A.parts[i]?.bind fun v=>v.1.map fun q=>(q.1,.gM 2 q.2 (v.2.frames.map Frame.cs))
def SA.cs(A:SA):bi:=[.raw (A.rh.w (R A.yB)),.raw (A.ch.w (R A.aC)),.raw (A.ph.w (R A.parts)),.raw (A.mh.w (R A.aI)),bv A.env.parts,bv A.env.trim,.sl (A.env.rows.map fun l=>[.sl (l.map Range.cs)])]
def SA.st(A:SA):State:=⟨A.yB,A.aC,A.parts.map (·.2),A.aI,A.env⟩
structure SA.Ok(A:SA):Prop where
 rh:A.rh=none->A.yB=[]
 ch:A.ch=none->A.aC=[]
 ph:A.ph=none->A.parts=[]
 mh:A.mh=none->A.aI=[]
 fh:∀v∈A.parts,v.1=none->v.2.frames=[]
def map_nil{α β:Type}{f:α->β}{q:Hd}{l:List α}(h:q=none->l=[]):q=none->l.map f=[]:=fun e=>by grind
def TN{K:Type}{M:HM K}{k:K}{hd:Value}{sz:Nat}{rows:List bi}(h:mG M k hd sz rows):∃q:Hd,hd=q.w (R rows)/\M k=q.map (fun q=>(q.1,.row sz q.2 rows))/\(q=none->rows=[]):=by
 rcases h with⟨rfl,rfl,e⟩|⟨b,cap,rfl,e⟩
 ·exact⟨none,rfl,e,fun _=>rfl⟩
 exact⟨some (b,cap),rfl,e,fun h=>by cases h⟩
section
variable{A:SA}
def SA.Ok.rs(h:A.Ok):mG A.mem .r (A.rh.w (R A.yB)) 3 (A.yB.map Rec.cs):=VW rfl (Zx ..) (map_nil h.rh)
def SA.Ok.cs(h:A.Ok):mG A.mem .c (A.ch.w (R A.aC)) 3 (A.aC.map o6.cs):=VW rfl (Zx ..) (map_nil h.ch)
def SA.Ok.ps(h:A.Ok):mG A.mem .p (A.ph.w (R A.parts)) 13 (A.parts.map pC):=VW rfl (Zx ..) (map_nil h.ph)
def SA.Ok.ms(h:A.Ok):mG A.mem .m (A.mh.w (R A.aI)) 1 (A.aI.map V1):=VW rfl (Zx ..) (map_nil h.mh)
def SA.Ok.fs(h:A.Ok){i:Nat}{v:Hd×Part}(a:A.parts[i]?=some v):fA A.mem (.f i) (v.1.w (R v.2.frames)) 2 (v.2.frames.map Frame.cs):=
 Qs (by show(A.parts[i]?.bind _)=_;rw[a];rfl) (Zx ..) (map_nil (h.fh v (mr a)))
end
def Yn{α β γ:Type}{R:β->γ->Prop}{f:α->β}{g:α->γ}{l:List α}(h:∀(i:Nat)(x:α),l[i]?=some x->R (f x) (g x)):ah R (l.map f) (l.map g):=by
 grind [ah.fb]
def SA.Ok.fz{A:SA}(h:A.Ok):Gj A.mem (.agg A.cs) (.agg A.st.cs):=by
 refine⟨_,rfl,?_,?_,?_,?_,.same _ rfl,.same _ rfl,.same _ rfl,Zo⟩
 ·exact Fz.ofRow h.rs (Yn fun _ x _=>⟨.same _ rfl,.same _ rfl,.same _ rfl,Zo⟩) (by intro r a;obtain⟨x,_,rfl⟩:=rx.1 a;rfl)
 ·exact Fz.ofRow h.cs (Yn fun _ x _=>⟨.same _ rfl,.same _ rfl,.same _ rfl,Zo⟩) (by intro r a;obtain⟨x,_,rfl⟩:=rx.1 a;rfl)
 ·show Fz _ _ (.sl ((A.parts.map (·.2)).map Part.cs));rw[x3];refine Fz.ofRow h.ps (Yn fun i x b=>⟨.same _ rfl,.same _ rfl,.same _ rfl,.same _ rfl,?_,.same _ rfl,.same _ rfl,.same _ rfl,.same _ rfl,.same _ rfl,.same _ rfl,.same _ rfl,.same _ rfl,Zo⟩) (by intro r a;obtain⟨x,_,rfl⟩:=rx.1 a;rfl);exact Fz.ofGro (h.fs b) (by simp[rm,Frame.cs,yG]) (by intro r a;obtain⟨x,_,rfl⟩:=rx.1 a;rfl)
 exact Fz.ofRow h.ms (Yn fun _ x _=>⟨.same _ rfl,Zo⟩) F
def Pf(k:SK)(q:Hd)(l:List Frame):HM SK:=fun j=>if j=k then q.map fun q=>(q.1,.gM 2 q.2 (l.map Frame.cs))else none
def L_(k:SK):(fun _=>none:HM SK)=Pf k none []:=funext fun j=>by simp[Pf]
def Ma(k:SK)(q:Hd)(l:List Frame)(b:Nat×Nat)(f:Frame):(Pf k q l).set k (some (b.1,.gM 2 b.2 (l.map Frame.cs++[f.cs])))=Pf k (some b) (l++[f]):=funext fun j=>by
 unfold HM.set Pf;split
 ·rw[ne];rfl
 rfl
def L9{k:SK}{q:Hd}{l:List Frame}(h:q=none->l=[]):fA (Pf k q l) k (q.w (R l)) 2 (l.map Frame.cs):=Qs (Zn rfl) (Zx ..) (map_nil h)
abbrev SA.part(L:List (Hd×Part))(s:State):SA:=⟨none,none,none,none,s.yB,s.aC,L,s.aI,s.env⟩
def Oa(s:State):(fun _=>none:HM SK)=(SA.part [] s).mem:=funext fun j=>by cases j<;>rfl
def Mo(L:List (Hd×Part))(s:State)(q:Hd)(p:Part):(fun k=>((SA.part L s).mem k).or (Pf (.f (R L)) q p.frames k))=(SA.part (L++[(q,p)]) s).mem:=funext fun j=>by
 cases j with
 |f i=>
  show(L[i]?.bind _).or (if SK.f i=SK.f (R L) then _ else _)=(L++[(q,p)])[i]?.bind _;rcases Nat.lt_trichotomy i (R L) with h|h|h
  ·rw[Zm (fun e=>by cases e;omega),m6 h,Option.or_none]
  ·subst h;rw[Zn rfl,aκ (Zq _),dδ,bζ (Zq _)];rfl
  rw[Zm (fun e=>by cases e;omega),bζ I,bζ (by rw[Zs,R0];omega)];rfl
 |_=>rfl
section
variable{A:SA}{M:HM SK}{hd:Value}
def SA.Ij(b:mG M .r hd 3 (A.yB.map Rec.cs))(c:∀k,k≠.r->M k=A.mem k):∃q:Hd,hd=q.w (R A.yB)/\M=({A with rh:=q}:SA).mem/\(q=none->A.yB=[]):=by
 obtain⟨q,a,f,d⟩:=TN b;rw[Zx]at a;refine⟨q,a,funext fun j=>?_,fun e=>bα.1 (d e)⟩;cases j<;>first|exact f|exact c _ Z
def SA.giveC(b:mG M .c hd 3 (A.aC.map o6.cs))(d:∀k,k≠.c->M k=A.mem k):∃q:Hd,hd=q.w (R A.aC)/\M=({A with ch:=q}:SA).mem/\(q=none->A.aC=[]):=by
 obtain⟨q,a,g,f⟩:=TN b;rw[Zx]at a;refine⟨q,a,funext fun j=>?_,fun e=>bα.1 (f e)⟩;cases j<;>first|exact g|exact d _ Z
def SA.giveP(b:mG M .p hd 13 (A.parts.map pC))(c:∀k,k≠.p->M k=A.mem k):∃q:Hd,hd=q.w (R A.parts)/\M=({A with ph:=q}:SA).mem/\(q=none->A.parts=[]):=by
 obtain⟨q,a,f,d⟩:=TN b;rw[Zx]at a;refine⟨q,a,funext fun j=>?_,fun e=>bα.1 (d e)⟩;cases j<;>first|exact f|exact c _ Z
def SA.giveM(b:mG M .m hd 1 (A.aI.map V1))(c:∀k,k≠.m->M k=A.mem k):∃q:Hd,hd=q.w (R A.aI)/\M=({A with mh:=q}:SA).mem/\(q=none->A.aI=[]):=by
 obtain⟨q,a,f,d⟩:=TN b;rw[Zx]at a;refine⟨q,a,funext fun j=>?_,fun e=>bα.1 (d e)⟩;cases j<;>first|exact f|exact c _ Z
end
abbrev FHd(p:Part):={q:Hd // q=none->p.frames=[]}
abbrev SAo(s:State):={A:SA // A.Ok/\A.st=s}
def O2:Nat->List Ph->Prop
 |0,l=>l=[]
 |d+1,l=>R l<=1000/\∀p∈l,O2 d p.body
structure State.Sm(s:State):Prop where
 lr:s.yB.length<=100
 lc:s.aC.length<=4
 lp:s.parts.length<=100
 lm:s.aI.length<=100
 le:s.env.rows.length<=100000
 lv:∀(i:Nat)(h:i<s.env.rows.length),s.env.rows[i].length<=100000
 fr:∀p∈s.parts,p.frames.length<=100/\∀f∈p.frames,f.values.length<=100000
 rc:∀r∈s.yB,O2 6 r.phases
 sh:∀c∈s.aC,0<=c.shots/\c.shots<=1000000
def Ur:∀(d:Nat){l:List Ph},O2 d l->Ct prog 223 [.sl (l.map Ph.cs)] (.sl (l.map Ph.cs))
 |0,l,h=>Vh (by rw[show l=[]from h];decide) fun p a=>by rw[show l=[]from h]at a;cases a
 |d+1,l,h=>Vh (by have:=h.1;omega) fun p a=>Ur d (h.2 p a)
def UP{l:bd}(hlen:R l<=100000):Jc prog 221 [ints l] 1 (l.map (fun n=>[bv n])):=by
 refine Jc.intro func221 rfl ntmps221 results221 rfl rfl rfl fun w h=>?_
 refine kr (kc (S.assign .none O .fW) (rr 4 O (RK.c (zM [] ZM O O O O) (jm O ?_))));refine RK.c (S.mQ ZM .none O (zt O) O N (zt O) (by intro q a;obtain⟨x,_,rfl⟩:=rx.1 a;rfl) O (by simp only[Zx];omega) (by simp only[maxLen,Zx];omega)) ?_;refine rr 3 O ?_;refine OK.ret (FZ.mk O O O N ?_);rfl
def Ve{p:Part}(k:SK)(e:R p.frames<=100000)(d:∀f∈p.frames,R f.values<=100000):IC prog 224 [.agg p.cs] (fun q:FHd p=>.agg (p.cells (.raw (q.1.w (R p.frames))))) (fun q:FHd p=>aa (Pf k q.1 p.frames)):=by
 refine IC.intro (rs:=[.cell 2 41]) func224 rfl ntmps224 results224 rfl rfl rfl fun w h=>?_
 refine OK.ug SK ?_;rw[L_ k];refine ro 16 O (kc (S.store XO .none (zt O) .lq O O O O O O) (rr 9 O ?_));refine OK.mP [1,2,3] (fun(i:Nat)(fh:Hd)=>[(1,.ptr 1 0),(1001,.box p.cs),(2,.ptr 2 0),(1002,.box [bv 0,.str [],bv 0,.str [],.bO,bv 0,.bool false,bv 0,.bool false,bv 0,bv 0,bv 0,bv 0]),(3,.ptr 3 0),(1003,.box (p.cells (.raw (fh.w i)))),(4,bv i),(3000,.res (aa (Pf k fh (p.frames.take i))))]) (fun i fh=>i<=R p.frames/\(fh=none->p.frames.take i=[])) (fun i fh=>R p.frames - i) (0) (none) ⟨Zr _,fun _=>O⟩ ⟨O,O,O,O,O,O,O,O,Zo⟩ (fun _ _=>O) ?_;rintro i fh ⟨hi,h0⟩;refine ro 6 O (kc (zk Y8 O) (rr 3 O (kB O (fun b=>?_) (fun b=>?_))))
 ·have a:i<R p.frames:=by omega
  have c:=L9 (k:=k) h0;rw[List.length_take_of_le hi]at c;refine ro 4 O ?_;refine OK.Ye follows (ι:=(Nat×Nat)) (0,0) 17 O (S.Ie (s:=[(15,.raw (fh.w i)),(30,.own 30 1),(2030,.arr 2 [p.frames[i].cs]),(3000,.res (aa (Pf k fh (p.frames.take i))))]) (m:=1) (rows2:=[p.frames[i].cs]) k WO O (zt O) c (zt O) O O O C (by rw[Zx,List.length_take_of_le hi];omega) (by rw[Zx,List.length_take_of_le hi];unfold maxLen;omega)).st (fun q=>(.cs (zf Zf O) (.cs (zl XO O O O O) (.cs (zf Zf O) (.cs (zl XO O O O O) (.cs (zm O) (.cs (zI Y8 O I O) (.cs (S.field Th .none O (zt O) O) (.cs (zV Z8 O O) (.cs (zf Zf O) (.cs (zl XO O O O O) (.cs (zm O) (.cs (zI Y8 O I O) (.cs (S.field Wx .none O (zt O) O) (.cs (zV Zd O O) (.cs (zK (XD (l:=p.frames[i].values) (d _ (Zt a))) call221 O) (.cs (zU M4 O O) (.cs (zM [[_,_]] WO O O O O)
   (.x ⟨O,O,O,O,Zo⟩ (.cn (zf Zf O) (.cn (zS XO O O O O O O) .nil))))))))))))))))))))) (fun q=>?_)
  refine Rd 7 O I ?_;refine Ab.D.lp ⟨i+1,(some q),⟨by omega,fun h=>by cases h⟩,I,O,O,O,O,O,(BZ (by rw[Zx,List.length_take_of_le hi];rfl)),O,(Gt (by rw[←tF a];exact Ma _ _ _ _ _)),Zo⟩
 obtain rfl:i=R p.frames:=by omega
 rw[List.take_length]at h0⊢;refine ro 8 O (OK.ret ⟨⟨fh,h0⟩,aA.r1 (zy O O T7 O) ?_,O⟩);rfl
def V4{s:State}(e:s.Sm):IC prog 168 [.agg s.cs] (fun q:SAo s=>.agg q.1.cs) (fun q:SAo s=>aa q.1.mem):=by
 refine IC.intro (rs:=[.cell 2 61]) func168 rfl ntmps168 results168 rfl rfl rfl fun w h=>?_
 refine OK.ug SK ?_;rw[Oa s];have X:=e.lr;have W:=e.lc;have V:=e.lp;have U:=e.lm;refine ro 7 O ?_;refine kV (.c (zM [] LU O O O O) (.c (zf XQ O) (.c (zl T8 O O O O) (.c (S.mQ LU .none O (zt O) O N (zt O) (by intro q J;obtain⟨x,_,rfl⟩:=rx.1 J;rfl) O (by simp only[Zx];omega) (by simp only[maxLen,Zx];omega)) (.c (zf Tk O) (.c (zl Zd O O O O) (.c (S.P8 (k:=12) (UP (l:=s.aI) I) call221 .none O (zc O .nil) O (Zx ..)) (.c (zf PY O) (.c (zL V7 O O O O) (.c (zK (WI (x:=s.env) e.le e.lv) call222 O) (.c (zU P7 O O) (.c (zA (c:=3) By O) (.c (zS Z_ O O O O O O) .nil))))))))))))) ?_;refine rd 8 O ?_;rw[show 0+R (s.aC.map o6.cs)=R s.aC by rw[Zx,wc]];refine OK.nP 3 0 870 3 O O O O O (OK.nP 3 2 873 13 O O O O O ?_);refine OK.loop (G:=Nat) [1,2,3,870,6,873,12] (fun i=>[(1,.ptr 1 0),(1001,.box s.cs),(2,.ptr 2 0),(1002,.box [.bO,.bO,.bO,.bO,bv 0,bv 0,.bO]),(3,.ptr 3 0),(1003,.box [.own 870 i,.own 6 (R s.aC),.own 873 0,.own 12 (R s.aI),bv s.env.parts,bv s.env.trim,.sl (s.env.rows.map fun l=>[.sl (l.map Range.cs)])]),(2870,.arr 3 ((s.yB.take i).map Rec.cs)),(2006,.arr 3 (s.aC.map o6.cs)),(2012,.arr 1 (s.aI.map V1)),(2873,.arr 13 []),(4,bv i),(3000,.res (aa (SA.part [] s).mem))]) (fun i=>i<=R s.yB) (fun i=>R s.yB - i) 0 (Zr _) ⟨O,O,O,O,O,O,(bH N),(bH N),(bH N),(bH N),O,O,Zo⟩ (fun _=>O) ?_;rintro i hi;refine ro 6 O (kc (zk VB O) (rr 3 O (kB O (fun E=>?_) (fun E=>?_))))
 ·have a:i<R s.yB:=by omega
  refine ro 4 O ?_;refine kV (.c (zf YS O) (.c (zl VL O O O O) (.c (zf YS O) (.c (zl VL O O O O) (.c (zm O) (.c (zI VB O I O) (.c (S.field WW .none O (zt O) O) (.c (S.fG MO .none O (zt O) O O) (.c (zf YS O) (.c (zl VL O O O O) (.c (zm O) (.c (zI VB O I O) (.c (S.field P0 .none O (zt O) O) (.c (zV Xm O O) (.c (zK (Ur 6 (l:=s.yB[i].phases) (e.rc _ (Zt a))) call223 O) (.c (zU Lo O O) (.c (zM [[_,_,_]] LS O O O O) (.c (zP LS O O (by rw[Zx,List.length_take_of_le hi]) N I (by simp only[maxLen];omega)) (.c (zf YS O) (.c (zS VL O O O O O O) .nil)))))))))))))))))))) ?_;refine Rd 7 O I ?_;refine Ab.D.lp ⟨i+1,I,I,O,O,O,O,O,O,(bH (by rw[←tF a];simp only[ne,ta,H2];rfl)),(bH N),(bH N),(bH N),O,O,Zo⟩
 obtain rfl:i=R s.yB:=by omega
 rw[List.take_length];refine ro 9 O ?_;refine OK.mP [1,2,3,870,6,873,12] (fun(i:Nat)(L:List (Hd×Part))=>[(1,.ptr 1 0),(1001,.box s.cs),(2,.ptr 2 0),(1002,.box [.bO,.bO,.bO,.bO,bv 0,bv 0,.bO]),(3,.ptr 3 0),(1003,.box [.own 870 (R s.yB),.own 6 (R s.aC),.own 873 i,.own 12 (R s.aI),bv s.env.parts,bv s.env.trim,.sl (s.env.rows.map fun l=>[.sl (l.map Range.cs)])]),(2870,.arr 3 (s.yB.map Rec.cs)),(2006,.arr 3 (s.aC.map o6.cs)),(2012,.arr 1 (s.aI.map V1)),(2873,.arr 13 (L.map pC)),(5,bv i),(3000,.res (aa (SA.part L s).mem))]) (fun i L=>i<=R s.parts/\L.map (·.2)=s.parts.take i/\∀v∈L,v.1=none->v.2.frames=[]) (fun i L=>R s.parts - i) (0) ([]) ⟨Zr _,O,fun v y=>by cases y⟩ ⟨O,O,O,O,O,O,(bH N),(bH N),(bH N),(bH N),O,O,Zo⟩ (fun _ _=>O) ?_;rintro i L ⟨hi,j,H⟩;refine ro 6 O (kc (zk ZH O) (rr 3 O (kB O (fun C=>?_) (fun C=>?_))))
 ·have a:i<R s.parts:=by omega
  have g:R L=i:=by have:=rn List.length j;rw[Zx,List.length_take_of_le hi]at this;exact this
  refine ro 4 O ?_;refine OK.Ye follows (ι:=(FHd s.parts[i])) ⟨some (0,0),fun h=>by cases h⟩ 7 O (S.JG (s:=[(56,.agg s.parts[i].cs),(3000,.res (aa (SA.part L s).mem))]) (Ve (p:=s.parts[i]) (.f i) (by have:=(e.fr _ (Zt a)).1;omega) (e.fr _ (Zt a)).2)   call224 O (zc O .nil) O) (fun q=>(.cs (zf ZZ O) (.cs (zl ZA O O O O) (.cs (zf ZZ O) (.cs (zl ZA O O O O) (.cs (zm O) (.cs (zI ZH O I O) (.cs (S.fG T7 .none O (zt O) O O)
   (.x ⟨O,O,Zo⟩ (.cn (zM [[_,_,_,_,_,_,_,_,_,_,_,_,_]] LV O O O O) (.cn (zP LV O O (by rw[Zx,g]) N I (by simp only[maxLen];omega)) (.cn (zf ZZ O) (.cn (zS ZA O O O O O O) .nil))))))))))))) (fun q=>?_)
  refine Rd 7 O I ?_;refine Ab.D.lp ⟨i+1,(L++[(q.1,s.parts[i])]),⟨by omega,by rw[ne,j,←tF a];rfl,fun v y=>(List.mem_append.1 y).elim (H v) fun h=>by rw[pi.1 h];exact q.2⟩,I,O,O,O,O,O,O,(bH N),(bH N),(bH N),(bH (by rw[ne];rfl)),O,(Gt (by rw[←Mo,g])),Zo⟩
 obtain rfl:i=R s.parts:=by omega
 rw[List.take_length]at j;have g:R L=R s.parts:=by rw[←j,Zx]
 rw[←g];refine ro 3 O (OK.Uj 3 0 .r O O O O (Zx ..) O O fun hd F b d=>?_);obtain⟨n,rfl,rfl,K⟩:=SA.Ij b d;clear b d;refine OK.Uj 3 1 .c O O O O (Zx ..) O O fun hd F b d=>?_
 obtain⟨u,rfl,rfl,T⟩:=SA.giveC b d;clear b d;refine OK.Uj 3 2 .p O O O O (Zx ..) O O fun hd F b d=>?_
 obtain⟨o,rfl,rfl,P⟩:=SA.giveP b d;clear b d;refine OK.Uj 3 3 .m O O O O (Zx ..) O O fun hd F b d=>?_
 obtain⟨t,rfl,rfl,Q⟩:=SA.giveM b d;clear b d;have B:SA.Ok ⟨n,u,o,t,s.yB,s.aC,L,s.aI,s.env⟩:=⟨K,T,P,Q,H⟩;have z:SA.st ⟨n,u,o,t,s.yB,s.aC,L,s.aI,s.env⟩=s:=by unfold SA.st;rw[j]
 refine ro 5 O (OK.ret ⟨⟨⟨n,u,o,t,s.yB,s.aC,L,s.aI,s.env⟩,B,z⟩,aA.r1 (zy O O Z_ O) ?_,O⟩);rfl
end Go.Proofs.Z9
namespace Go.Proofs.Z9
open Go.Ab Tryz
def Ey{l:ba}(h:R l<=100000):Ct prog 40 [.str l,bv 7] (.cf [bv (if eY l 7=true then de l else 0),.bool (eY l 7)]):=by
 have a:=vU (l:=l) (d:=7) h C;rw[Cb]at a;cases b:eY l 7 with
 |true=>rw[b]at a;exact a
 |false=>rw[b]at a;exact a
def dO(k:Nat):Nat->List ba->Option bd
 |_,[]=>some []
 |i,w::l=>if eY w 7=true/\(0<=de w\/k<=i)then(dO k (i+1) l).map (de w:: ·)else none
def vV{k:Nat}{L:List ba}{i:Nat}{out:bd}(a:dO k 0 L=(dO k i (L.drop i)).map (out++ ·))(hi:i<R L)(b:eY L[i] 7=true/\(0<=de L[i]\/k<=i)):dO k 0 L=(dO k (i+1) (L.drop (i+1))).map ((out++[de L[i]])++ ·):=by
 rw[a,np hi,dO,Zn b];cases dO k (i+1) (L.drop (i+1))<;>simp
def vW{k:Nat}{L:List ba}{i:Nat}{out:bd}(a:dO k 0 L=(dO k i (L.drop i)).map (out++ ·))(hi:i<R L)(b:¬(eY L[i] 7=true/\(0<=de L[i]\/k<=i))):dO k 0 L=none:=by
 rw[a,np hi,dO,Zm b];rfl
def An{k:Nat}{L:List ba}{i:Nat}{out:bd}(a:dO k 0 L=(dO k i (L.drop i)).map (out++ ·))(hi:i=R L):dO k 0 L=some out:=by
 simp_all[dO]
def sW{k:Nat}:∀(l:List ba)(i:Nat),k<=i->dO k i l=fy l6 l
 |[],_,_=>rfl
 |w::l,i,h=>by
  rw[dO,fy];cases a:eY w 7 with
  |true=>rw[Zn ⟨rfl,.inr h⟩,Cc a,sW l (i+1) I]
  |false=>rw[Zm F,Cd a]
def Ez{l:List ba}(h:0<R l):dO 1 0 l=if iH l[0]=true then(fy l6 (l.drop 1)).map (de l[0]:: ·)else none:=by
 cases l with
 |nil=>cases h
 |cons w l=>
  show(if eY w 7=true/\(0<=de w\/1<=0)then(dO 1 (0+1) l).map (de w:: ·)else none)=if iH w=true then(fy l6 l).map (de w:: ·)else none
  simp[sW,iH]
def vX{l:List ba}{k:Nat}(v:R l<=100000)(x:k<=100)(hw:∀w∈l,R w<=100000):Ct prog 83 [.sl (l.map fun s=>[.str s]),bv (k:Int)] (.cf [ints ((dO k 0 l).getD []),.bool (dO k 0 l).isSome]):=by
 refine cI func83 O (kr (kc (S.assign .none O .fW) (rr 5 O (RK.c (S.iI (k:=6) (sz:=1) .none O) (rr 9 O ?_)))));refine OK.mP [6] (fun(i:Nat)(out:bd)=>[(0,.sl (l.map fun s=>[.str s])),(1,bv (k:Int)),(6,.own 6 (R out)),(2006,.arr 1 (out.map (fun n=>[bv n]))),(7,bv i)]) (fun i out=>i<=R l/\dO k 0 l=(dO k i (l.drop i)).map (out++ ·)/\R out<=i) (fun i out=>R l - i) (0) ([]) ⟨Zr _,by rw[aα];cases dO k 0 l<;>simp,Zq _⟩ ⟨O,O,(cw N),(bH N),O,Zo⟩ (fun _ _=>O) ?_;rintro i out ⟨hi,h,u⟩;refine ro 5 O (kc (zk Z2 O) (rr 3 O (kB O (fun q=>?_) (fun q=>?_))))
 ·have a:i<R l:=by omega
  have j:=hw _ (Zt a);refine ro 8 O (kc (zI Z2 O I O) (kc (zV Y9 O O) (kc (zK (Ey j) call40 O) ?_)));refine rr 11 O (kc (S.not .none O (zt O)) (jm O (RK.split (t:=26) O (fun f=>?_) (fun f=>?_))))
  ·have m:eY l[i] 7=false:=by simpa using f
   have d:=vW h a (by rw[m];simp);refine rr 13 O (kc (S.assign .none O .fW) (rr 3 O (kS O O O O ?_)));rw[d]
   all_goals rfl
  have g:eY l[i] 7=true:=by simpa using f
  have r:(if eY l[i] 7=true then de l[i]else 0)=de l[i]:=Zn g;refine rr 3 O (RK.bh (t:=29) O (fun o=>?_) (fun o=>?_))
  ·refine rr 7 O (kB O (fun p=>?_) (fun p=>?_))
   ·have d:=vW h a (by rintro⟨_,b|b⟩<;>omega);refine kr (kc (S.assign .none O .fW) (rr 3 O (kS O O O O ?_)));rw[d]
    all_goals rfl
   have e:eY l[i] 7=true/\(0<=de l[i]\/k<=i):=⟨g,.inr I⟩;refine ro 5 O ?_;refine RK.c (zM [[_]] ZM O O O O) ?_;refine kc (zP ZM O O F N I (by simp only[maxLen];omega)) ?_;refine Rr 9 O I ?_;refine Ab.D.lp ⟨i+1,out++[de l[i]],⟨by omega,vV h a e,by simp;omega⟩,I,O,O,(cw F),(bH (by rw[Zn g];simp)),O,Zo⟩
  have e:eY l[i] 7=true/\(0<=de l[i]\/k<=i):=⟨g,.inl I⟩;refine rr 13 O ?_;refine RK.c (zM [[_]] ZM O O O O) ?_;refine kc (zP ZM O O F N I (by simp only[maxLen];omega)) ?_;refine Rr 9 O I ?_;refine Ab.D.lp ⟨i+1,out++[de l[i]],⟨by omega,vV h a e,by simp;omega⟩,I,O,O,(cw F),(bH (by rw[Zn g];simp)),O,Zo⟩
 have d:=An h (show i=R l by omega);refine ro 9 O ?_;refine OK.ret (aA.r2 (.tmp O O (.c (.own O O N) O) O) (zo O O) ?_);rw[d]
 all_goals rfl
