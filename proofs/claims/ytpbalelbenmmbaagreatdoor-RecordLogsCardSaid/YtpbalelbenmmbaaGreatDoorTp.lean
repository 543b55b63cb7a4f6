import Derived.Test.YtpbalelbenmmbaaGreatDoorRz
set_option linter.all false
set_option maxHeartbeats 2000000
namespace Go.Proofs.YtpbalelbenmmbaaGreatDoor
open Go.Ab Tryz
set_option maxRecDepth 9999
def VD(k:Int):List Bool:=if k=0 then [true,false,false,false]else if k=2 then [false,true,false,false]else if k=3 then [true,false,true,false]else if k=4 then [false,true,true,false]else if k=5 then [false,false,false,true]else [false,false,false,false]
def KD{p:Ph}(hc:lW p=false):n6 p=3:=by simp_all[n6,aF,ae]
def KC{p:Ph}(hc:lW p=true)(hr:iD p=false):n6 p=2:=by simp_all[n6,aF,ae]
def WB{p:Ph}(hc:lW p=true)(hr:iD p=true):n6 p=0:=by simp_all[n6,aF,ae]
def ZU{m:Nat}{p:Ph}(hk:0<=p.kind/\p.kind<=5)(hc:lW p=false):bu m p=3:=by
 simp_all[KD,vK]
def ZD{m:Nat}{p:Ph}(hk:0<=p.kind/\p.kind<=5)(hc:lW p=true)(hr:iD p=false):bu m p=2:=by
 simp_all[KC,vK]
def Me{g:Ph->Int}{l:List Ph}(h:l.length=0):cQ g l=(0,10):=Zn h
theorem NK{g:Ph->Int}{l:List Ph}(h:¬l.length=0)(h2:12<l.length):cQ g l=(0,8):=by unfold cQ;simp_all
def Ki{g:Ph->Int}{l:List Ph}(h:¬l.length=0)(h2:¬12<l.length):cQ g l=aK (fun _ p=>g p) 0 l:=by simp_all[cQ,Zm]
def Mh(t L ao:Nat):min 61 (min 61 ao+t * min 61 L)=min 61 (ao+t * L):=by
 rcases wx t with rfl|ht
 ·simp
 by_cases h:L<=61
 ·grind
 have h1:min 61 L=61:=by omega
 have h2:61<=t * 61:=ui 61 ht;have h3:L<=t * L:=ui L ht;grind
def S6(d:Nat)(l:List Ph):Nat:=min 61 (l.flatMap (cY d)).length
theorem Wu{d:Nat}{l:List Ph}{i:Nat}(h:i<l.length):(l.take (i+1)).flatMap (cY d)=(l.take i).flatMap (cY d)++cY d l[i]:=by
 rw[dT h,tm,List.flatMap_singleton]
def UT{d:Nat}{p:Ph}(h:p.kind=5):(cY d p).length=p.aR.toNat * (cZ d p.body).length:=by
 rw[Dd h,List.length_flatten,List.map_replicate,List.sum_replicate_nat]
def cnt_1{d:Nat}{l:List Ph}{i:Nat}(h:i<l.length)(h5:¬l[i].kind=5):S6 d (l.take (i+1))=min 61 (S6 d (l.take i)+1):=by
 grind [S6,Wu,ya]
def cnt_r{d:Nat}{l:List Ph}{i:Nat}(h:i<l.length)(h5:l[i].kind=5):S6 d (l.take (i+1))=min 61 (S6 d (l.take i)+l[i].aR.toNat * min 61 (cZ d l[i].body).length):=by
 unfold S6;rw[Wu h,Zs,UT h5,Mh]
def TX:Nat->List Ph->Prop
 |0,_=>True
 |d+1,l=>(cZ (d+1) l).length<=1000/\∀p∈l,p.kind=5->TX d p.body
def Nr{d:Nat}{l:List Ph}{p:Ph}(hp:p∈l)(h5:p.kind=5)(ht:1<=p.aR):(cZ d p.body).length<=(cZ (d+1) l).length:=by
 obtain⟨a,b,rfl⟩:=List.append_of_mem hp;rw[flatG_emit,tm,List.flatMap_cons,Zs,Zs,UT h5];have:(cZ d p.body).length<=p.aR.toNat * (cZ d p.body).length:=ui _ I;omega
def RP:∀(m:Nat){l:List Ph},(cQ (bu m) l).2=0->(cZ (m+1) l).length<=1000->TX (m+1) l
 |0,l,h,hl=>⟨hl,fun p hp h5=>trivial⟩
 |m+1,l,h,hl=>⟨hl,fun p hp h5=>by
  obtain⟨h1,m',e,h2⟩:=nu ((nr h).2 p hp) h5;have:m'=m:=by omega
  subst this;exact RP m' h2 (gc (Nr hp h5 h1.1) hl)⟩
def Ss{α:Type}(j:Nat)(L:List α):(List.replicate (j+1) L).flatten=(List.replicate j L).flatten++L:=by
 rw[Hm,pk,List.flatten_singleton]
def Mx{α:Type}(j:Nat)(L:List α):((List.replicate j L).flatten).length=j * L.length:=by
 simp
theorem Uc(l:List Ph):(iy l).length=min 61 (cZ 4 l).length:=by show((cZ 4 l).take 61).length=_;simp
theorem Nq{l:List Ph}(h:(cZ 4 l).length<=60):iy l=cZ 4 l:=eK I
def chk_8{l:List Ph}(h:(cQ (bu 3) l).2=0)(h2:60<min 61 (cZ 4 l).length):u5 l=8:=by
 grind [Uc,GL,aF,ae]
def Kg{d:Nat}{l:List Ph}(h:(cZ (d+1) l).length<=1000)(i:Nat):((l.take i).flatMap (cY d)).length<=1000:=by
 grind [List.take_append_drop,flatG_emit]
def Nb{l:List Ph}(h:(cQ (bu 3) l).2=0)(h2:(cZ 4 l).length<=60)(hp:(cZ 4 l).length - 1<(cZ 4 l).length){b:Bool}(hb:nw (cZ 4 l)[(cZ 4 l).length - 1].kind=b):u5 l=ae b 20:=by
 grind [Nq,GL,aF,ae]
def QY(l:List Ph):l.map Ph.cx=l.map Ph.cs:=(Fx l).symm
def ZE{k:Int}:Ct prog 305 [bv k] (.agg ((VD k).map X.bool)):=by
 refine cI func305 O (ro 18 O (kB O (fun c4=>?_) (fun c4=>?_)))
 ·refine kr (kc (zU T8 O O) (rr 3 O (OK.ret (aA.r1 (zy O O VC O) ?_))));refine eQ X.agg ?_;simp_all[VD]
  try rfl
 refine ro 6 O (kB O (fun c7=>?_) (fun c7=>?_))
 ·refine kr (kc (zU T8 O O) (rr 3 O (OK.ret (aA.r1 (zy O O VC O) ?_))));refine eQ X.agg ?_;simp_all[VD]
  try rfl
 refine ro 6 O (kB O (fun c10=>?_) (fun c10=>?_))
 ·refine kr (kc (zU T8 O O) (rr 3 O (OK.ret (aA.r1 (zy O O VC O) ?_))));refine eQ X.agg ?_;simp_all[VD]
  try rfl
 refine ro 6 O (kB O (fun c13=>?_) (fun c13=>?_))
 ·refine kr (kc (zU T8 O O) (rr 3 O (OK.ret (aA.r1 (zy O O VC O) ?_))));refine eQ X.agg ?_;simp_all[VD]
  try rfl
 refine ro 6 O (kB O (fun c16=>?_) (fun c16=>?_))
 ·refine kr (kc (zU T8 O O) (rr 3 O (OK.ret (aA.r1 (zy O O VC O) ?_))));refine eQ X.agg ?_;simp_all[VD]
  try rfl
 refine ro 5 O (kc (zU T8 O O) (rr 3 O (OK.ret (aA.r1 (zy O O VC O) ?_))));refine eQ X.agg ?_;simp_all[VD]
 try rfl
def On{k:Int}(h:k=0):Ct prog 305 [bv k] (.agg [.bool true,.bool false,.bool false,.bool false]):=by subst h;exact ZE
def Oo{k:Int}(h:k=1):Ct prog 305 [bv k] (.agg [.bool false,.bool false,.bool false,.bool false]):=by subst h;exact ZE
def Oq{k:Int}(h:k=2):Ct prog 305 [bv k] (.agg [.bool false,.bool true,.bool false,.bool false]):=by subst h;exact ZE
def Ot{k:Int}(h:k=3):Ct prog 305 [bv k] (.agg [.bool true,.bool false,.bool true,.bool false]):=by subst h;exact ZE
def Ou{k:Int}(h:k=4):Ct prog 305 [bv k] (.agg [.bool false,.bool true,.bool true,.bool false]):=by subst h;exact ZE
def Ov{k:Int}(h:k=5):Ct prog 305 [bv k] (.agg [.bool false,.bool false,.bool false,.bool true]):=by subst h;exact ZE
def XG{n:Int}:Ct prog 356 [bv n] (.bool (decide (200<=n/\n<=3000))):=by
 refine cI func356 O (ro 8 O (kc (zK gx call35 O) (rr 3 O (kR O O ?_))));rfl
def X4{p:Ph}{m:Nat}(hm:m<=3)(hle:∀m',m=m'+1->∀l:List Ph,Ct prog 306 [.sl (l.map Ph.cs),bv (3 - (m':Int))] (.cf [bv (cQ (bu m') l).1,bv (cQ (bu m') l).2])):Ct prog 342 [.agg p.cx,bv (3 - (m:Int))] (bv (bu m p)):=by
 refine cI func342 O (ro 11 O (kc (zK gx call35 O) (kc (S.jP .none O (zt O)) (kD (kB O (fun c12=>?_) (fun c12=>?_))))))
 ·have hk:¬(0<=p.kind/\p.kind<=5):=by omega
  have hT:=Ak (m:=m) hk;refine ro 5 O (kR O O ?_);simp_all
 have hk:0<=p.kind/\p.kind<=5:=by omega
 refine ro 3 O ?_;rcases kind_cases hk with e|e|e|e|e|e
 ·refine ro 3 O (kc (zK (On e) call305 O) (rr 9 O (kc (S.not .none O (zt O)) (rr 8 O (kc (S.not (zg O O) O (zt O)) (rr 7 O (RK.bh (t:=34) O (fun g34=>?_) (fun g34=>?_))))))))
  ·have hT:=ZU (m:=m) hk (by simp_all[lW]);refine rr 28 O (kR O O ?_);simp_all
  refine rr 2 O (kc (S.not (zg O O) O (zt O)) (rr 7 O (RK.bh (t:=44) O (fun g44=>?_) (fun g44=>?_))))
  ·have hT:=ZU (m:=m) hk (by simp_all[lW]);refine rr 18 O (kR O O ?_);simp_all
  refine rr 2 O (kc (S.not (zg O O) O (zt O)) (rr 3 O (kc (S.Hp Z2 (zg O O) O (zt O)) (rr 5 O (kB O (fun c54=>?_) (fun c54=>?_))))))
  ·have hT:=ZU (m:=m) hk (by grind [lW]);refine ro 5 O (kR O O ?_);simp_all
  refine ro 3 O ?_;have hc1:lW p=true:=(by simp_all[lW]);refine ro 22 O (kc (S.call (gx) call35 (zg O O) O (zc O (zC O (zD O))) O) (kc (S.jP (zg O O) O (zt O)) (rr 2 O (RK.bh (t:=65) O (fun g65=>?_) (fun g65=>?_)))))
  ·have hT:=ZD (m:=m) hk hc1 (by grind [iD]);refine rr 34 O (kR O O ?_);simp_all
  refine rr 13 O (kc (S.call (gx) call35 (zg O O) O (zc O (zC O (zc O .nil))) O) (kc (S.jP (zg O O) O (zt O)) (rr 2 O (RK.bh (t:=82) O (fun g82=>?_) (fun g82=>?_)))))
  ·have hT:=ZD (m:=m) hk hc1 (by simp_all[iD]);refine rr 17 O (kR O O ?_);simp_all
  refine rr 16 O ?_;have hr1:iD p=true:=(by simp_all[iD]);have he0:=WB hc1 hr1;refine ro 3 O (kc (S.not .none O (zt O)) (rr 4 O ?_));have hT:=B0 (m:=m) hk he0 I;refine ro 4 O (kR O O ?_);simp_all
 ·refine ro 3 O (kc (zK (Oo e) call305 O) (rr 9 O (kc (S.not .none O (zt O)) (rr 6 O (RK.bh (t:=24) O (fun g24=>?_) (fun g24=>?_))))))
  ·have hT:=ZU (m:=m) hk (by simp_all[lW]);refine rr 38 O (kR O O ?_);simp_all
  refine rr 2 O (kc (S.not (zg O O) O (zt O)) (rr 7 O (RK.bh (t:=34) O (fun g34=>?_) (fun g34=>?_))))
  ·have hT:=ZU (m:=m) hk (by simp_all[lW]);refine rr 28 O (kR O O ?_);simp_all
  refine rr 2 O (kc (S.not (zg O O) O (zt O)) (rr 7 O (RK.bh (t:=44) O (fun g44=>?_) (fun g44=>?_))))
  ·have hT:=ZU (m:=m) hk (by simp_all[lW]);refine rr 18 O (kR O O ?_);simp_all
  refine rr 2 O (kc (S.not (zg O O) O (zt O)) (rr 3 O (kc (S.Hp Z2 (zg O O) O (zt O)) (rr 5 O (kB O (fun c54=>?_) (fun c54=>?_))))))
  ·have hT:=ZU (m:=m) hk (by grind [lW]);refine ro 5 O (kR O O ?_);simp_all
  refine ro 3 O ?_;have hc1:lW p=true:=(by simp_all[lW]);refine ro 39 O (kc (S.call (gx) call35 (zg O O) O (zc O (zC O (zc O .nil))) O) (kc (S.jP (zg O O) O (zt O)) (rr 2 O (RK.bh (t:=82) O (fun g82=>?_) (fun g82=>?_)))))
  ·have hT:=ZD (m:=m) hk hc1 (by simp_all[iD]);refine rr 17 O (kR O O ?_);simp_all
  refine rr 16 O ?_;have hr1:iD p=true:=(by simp_all[iD]);have he0:=WB hc1 hr1;refine ro 3 O (kc (S.not .none O (zt O)) (rr 4 O ?_));have hT:=B0 (m:=m) hk he0 I;refine ro 4 O (kR O O ?_);simp_all
 ·refine ro 3 O (kc (zK (Oq e) call305 O) (rr 9 O (kc (S.not .none O (zt O)) (rr 6 O (RK.bh (t:=24) O (fun g24=>?_) (fun g24=>?_))))))
  ·have hT:=ZU (m:=m) hk (by simp_all[lW]);refine rr 38 O (kR O O ?_);simp_all
  refine rr 2 O (kc (S.not (zg O O) O (zt O)) (rr 9 O (kc (S.not (zg O O) O (zt O)) (rr 7 O (RK.bh (t:=44) O (fun g44=>?_) (fun g44=>?_))))))
  ·have hT:=ZU (m:=m) hk (by simp_all[lW]);refine rr 18 O (kR O O ?_);simp_all
  refine rr 2 O (kc (S.not (zg O O) O (zt O)) (rr 3 O (kc (S.Hp Z2 (zg O O) O (zt O)) (rr 5 O (kB O (fun c54=>?_) (fun c54=>?_))))))
  ·have hT:=ZU (m:=m) hk (by grind [lW]);refine ro 5 O (kR O O ?_);simp_all
  refine ro 3 O ?_;have hc1:lW p=true:=(by simp_all[lW]);refine ro 31 O (kc (S.call (gx) call35 (zg O O) O (zc O (zC O (zD O))) O) (kc (S.jP (zg O O) O (zt O)) (rr 3 O (RK.bh (t:=75) O (fun g75=>?_) (fun g75=>?_)))))
  ·have hT:=ZD (m:=m) hk hc1 (by grind [iD]);refine rr 24 O (kR O O ?_);simp_all
  refine rr 3 O (kc (S.call (gx) call35 (zg O O) O (zc O (zC O (zc O .nil))) O) (kc (S.jP (zg O O) O (zt O)) (rr 2 O (RK.bh (t:=82) O (fun g82=>?_) (fun g82=>?_)))))
  ·have hT:=ZD (m:=m) hk hc1 (by simp_all[iD]);refine rr 17 O (kR O O ?_);simp_all
  refine rr 16 O ?_;have hr1:iD p=true:=(by simp_all[iD]);have he0:=WB hc1 hr1;refine ro 3 O (kc (S.not .none O (zt O)) (rr 4 O ?_));have hT:=B0 (m:=m) hk he0 I;refine ro 4 O (kR O O ?_);simp_all
 ·refine ro 3 O (kc (zK (Ot e) call305 O) (rr 9 O (kc (S.not .none O (zt O)) (rr 8 O (kc (S.not (zg O O) O (zt O)) (rr 7 O (RK.bh (t:=34) O (fun g34=>?_) (fun g34=>?_))))))))
  ·have hT:=ZU (m:=m) hk (by simp_all[lW]);refine rr 28 O (kR O O ?_);simp_all
  refine rr 2 O (kc (S.not (zg O O) O (zt O)) (rr 9 O (kc (S.not (zg O O) O (zt O)) (rr 3 O (kc (S.Hp Z2 (zg O O) O (zt O)) (rr 5 O (kB O (fun c54=>?_) (fun c54=>?_))))))))
  ·have hT:=ZU (m:=m) hk (by grind [lW]);refine ro 5 O (kR O O ?_);simp_all
  refine ro 3 O ?_;have hc1:lW p=true:=(by simp_all[lW]);refine ro 22 O (kc (S.call (gx) call35 (zg O O) O (zc O (zC O (zD O))) O) (kc (S.jP (zg O O) O (zt O)) (rr 2 O (RK.bh (t:=65) O (fun g65=>?_) (fun g65=>?_)))))
  ·have hT:=ZD (m:=m) hk hc1 (by grind [iD]);refine rr 34 O (kR O O ?_);simp_all
  refine rr 13 O (kc (S.call (gx) call35 (zg O O) O (zc O (zC O (zc O .nil))) O) (kc (S.jP (zg O O) O (zt O)) (rr 2 O (RK.bh (t:=82) O (fun g82=>?_) (fun g82=>?_)))))
  ·have hT:=ZD (m:=m) hk hc1 (by simp_all[iD]);refine rr 17 O (kR O O ?_);simp_all
  refine rr 5 O (kc (S.call (XG) call356 (zg O O) O (zc O .nil) O) (kc (S.jP (zg O O) O (zt O)) (rr 4 O (kB O (fun c91=>?_) (fun c91=>?_)))))
  ·have hT:=ZD (m:=m) hk hc1 (by simp_all[iD]);refine ro 5 O (kR O O ?_);simp_all
  refine ro 4 O ?_;have hr1:iD p=true:=(by simp_all[iD]);have he0:=WB hc1 hr1;refine ro 3 O (kc (S.not .none O (zt O)) (rr 4 O ?_));have hT:=B0 (m:=m) hk he0 I;refine ro 4 O (kR O O ?_);simp_all
 ·refine ro 3 O (kc (zK (Ou e) call305 O) (rr 9 O (kc (S.not .none O (zt O)) (rr 6 O (RK.bh (t:=24) O (fun g24=>?_) (fun g24=>?_))))))
  ·have hT:=ZU (m:=m) hk (by simp_all[lW]);refine rr 38 O (kR O O ?_);simp_all
  refine rr 2 O (kc (S.not (zg O O) O (zt O)) (rr 9 O (kc (S.not (zg O O) O (zt O)) (rr 9 O (kc (S.not (zg O O) O (zt O)) (rr 3 O (kc (S.Hp Z2 (zg O O) O (zt O)) (rr 5 O (kB O (fun c54=>?_) (fun c54=>?_))))))))))
  ·have hT:=ZU (m:=m) hk (by grind [lW]);refine ro 5 O (kR O O ?_);simp_all
  refine ro 3 O ?_;have hc1:lW p=true:=(by simp_all[lW]);refine ro 31 O (kc (S.call (gx) call35 (zg O O) O (zc O (zC O (zD O))) O) (kc (S.jP (zg O O) O (zt O)) (rr 3 O (RK.bh (t:=75) O (fun g75=>?_) (fun g75=>?_)))))
  ·have hT:=ZD (m:=m) hk hc1 (by grind [iD]);refine rr 24 O (kR O O ?_);simp_all
  refine rr 3 O (kc (S.call (gx) call35 (zg O O) O (zc O (zC O (zc O .nil))) O) (kc (S.jP (zg O O) O (zt O)) (rr 2 O (RK.bh (t:=82) O (fun g82=>?_) (fun g82=>?_)))))
  ·have hT:=ZD (m:=m) hk hc1 (by simp_all[iD]);refine rr 17 O (kR O O ?_);simp_all
  refine rr 5 O (kc (S.call (XG) call356 (zg O O) O (zc O .nil) O) (kc (S.jP (zg O O) O (zt O)) (rr 4 O (kB O (fun c91=>?_) (fun c91=>?_)))))
  ·have hT:=ZD (m:=m) hk hc1 (by simp_all[iD]);refine ro 5 O (kR O O ?_);simp_all
  refine ro 4 O ?_;have hr1:iD p=true:=(by simp_all[iD]);have he0:=WB hc1 hr1;refine ro 3 O (kc (S.not .none O (zt O)) (rr 4 O ?_));have hT:=B0 (m:=m) hk he0 I;refine ro 4 O (kR O O ?_);simp_all
 refine ro 3 O (kc (zK (Ov e) call305 O) (rr 9 O (kc (S.not .none O (zt O)) (rr 6 O (RK.bh (t:=24) O (fun g24=>?_) (fun g24=>?_))))))
 ·have hT:=ZU (m:=m) hk (by simp_all[lW]);refine rr 38 O (kR O O ?_);simp_all
 refine rr 2 O (kc (S.not (zg O O) O (zt O)) (rr 7 O (RK.bh (t:=34) O (fun g34=>?_) (fun g34=>?_))))
 ·have hT:=ZU (m:=m) hk (by simp_all[lW]);refine rr 28 O (kR O O ?_);simp_all
 refine rr 2 O (kc (S.not (zg O O) O (zt O)) (rr 7 O (RK.bh (t:=44) O (fun g44=>?_) (fun g44=>?_))))
 ·have hT:=ZU (m:=m) hk (by simp_all[lW]);refine rr 18 O (kR O O ?_);simp_all
 refine rr 2 O (kc (S.not (zg O O) O (zt O)) (rr 13 O ?_));have hc1:lW p=true:=(by simp_all[lW]);refine ro 41 O (kc (S.call (gx) call35 (zg O O) O (zc O (zC O (zc O .nil))) O) (kc (S.jP (zg O O) O (zt O)) (rr 2 O (RK.bh (t:=82) O (fun g82=>?_) (fun g82=>?_)))))
 ·have hT:=ZD (m:=m) hk hc1 (by simp_all[iD]);refine rr 17 O (kR O O ?_);simp_all
 refine rr 16 O ?_;have hr1:iD p=true:=(by simp_all[iD]);have he0:=WB hc1 hr1;refine ro 3 O (kc (S.not .none O (zt O)) (rr 12 O (kB O (fun c96=>?_) (fun c96=>?_))))
 ·have hm0:m=0:=by omega
  subst hm0;have hT:=sL hk he0 e;refine ro 5 O (kR O O ?_);simp_all
 obtain⟨m',rfl⟩:∃m',m=m'+1:=⟨m - 1,by omega⟩;have hT:=vL (m:=m') hk he0 e;refine Ro 8 O I ?_;refine kc (zK ((by have:=hle m' rfl p.body;rw[show(3 - (m':Int))=3 - ((m'+1:Nat):Int)+1 by omega]at this;exact this)) call306 O) ?_;refine rr 13 O (kR O O ?_);simp_all
def XH{l:List Ph}{m:Nat}(hm:m<=3)(hp:∀p:Ph,Ct prog 342 [.agg p.cx,bv (3 - (m:Int))] (bv (bu m p))):Ct prog 306 [.sl (l.map Ph.cs),bv (3 - (m:Int))] (.cf [bv (cQ (bu m) l).1,bv (cQ (bu m) l).2]):=by
 refine cI func306 O fun{_ _}=>?_
 rw[Fx l];refine OK.eW (rows:=l.map Ph.cx) (t:=0) O O fun hlen=>?_
 rw[Zx]at hlen;unfold maxLen at hlen;refine ro 10 O (kc (zk Z2 O) (rr 3 O (kB O (fun c10=>?_) (fun c10=>?_))))
 ·have hT:=Me (g:=bu m) (l:=l) I;refine ro 6 O (kS O O O O ?_);simp_all
 refine ro 6 O (kc (zk Z2 O) (rr 3 O (kB O (fun c13=>?_) (fun c13=>?_))))
 ·have hT:=NK (g:=bu m) (l:=l) I I;refine ro 6 O (kS O O O O ?_);simp_all
 refine ro 9 O ?_;refine OK.loop (G:=Nat) [] (fun i=>[(0,.sl (l.map Ph.cx)),(1,bv (3 - (m:Int))),(6,bv i)]) (fun i=>i<=l.length/\cQ (bu m) l=aK (fun _ p=>bu m p) i (l.drop i)) (fun i=>l.length - i) 0 ⟨Zr _,Ki I I⟩ ⟨O,O,O,Zo⟩ (fun _=>O) ?_;rintro i ⟨hi,hg⟩;refine ro 5 O (kc (zk Z2 O) (rr 3 O (kB O (fun c17=>?_) (fun c17=>?_))))
 ·have hil:i<l.length:=by omega
  refine ro 8 O (kc (zI Z2 O I O) ?_);refine rr 2 O (kc (zK (hp l[i]) call342 O) (rr 9 O (kB O (fun c27=>?_) (fun c27=>?_))))
  ·have hT:cQ (bu m) l=((i:Int),bu m l[i]):=by simp_all[bE]
   refine ro 8 O (kS O O O O ?_);grind
  refine Ro 8 O I (Ab.D.lp ⟨i+1,⟨by omega,by simp_all[bE]⟩,I,O,O,O,Zo⟩)
 refine ro 3 O ?_;have hT:cQ (bu m) l=(0,0):=by rw[hg,show i=l.length by omega,co];rfl
 refine ro 5 O (kS O O O O ?_);grind
def PD(m:Nat)(hm:m<=3):(∀p:Ph,Ct prog 342 [.agg p.cx,bv (3 - (m:Int))] (bv (bu m p)))/\∀l:List Ph,Ct prog 306 [.sl (l.map Ph.cs),bv (3 - (m:Int))] (.cf [bv (cQ (bu m) l).1,bv (cQ (bu m) l).2]):=by
 induction m with
 |zero=>
  have h1:∀p:Ph,Ct prog 342 [.agg p.cx,bv (3 - ((0:Nat):Int))] (bv (bu 0 p)):=fun p=>X4 hm fun m' e=>by omega
  exact⟨h1,fun l=>XH hm h1⟩
 |succ m ih=>
  obtain⟨_,i2⟩:=ih I;have h1:∀p:Ph,Ct prog 342 [.agg p.cx,bv (3 - ((m+1:Nat):Int))] (bv (bu (m+1) p)):=fun p=>X4 hm fun m' e=>by
   simp_all
  exact⟨h1,fun l=>XH hm h1⟩
def TJ{l:List Ph}:Ct prog 306 [.sl (l.map Ph.cs),bv 0] (.cf [bv (cQ (bu 3) l).1,bv (cQ (bu 3) l).2]):=(PD 3 (Zq _)).2 l
def Sh{d:Nat}{l:List Ph}(hd:Deep (d+1) l)(ih:∀b:List Ph,Deep d b->Ct prog 307 [.sl (b.map Ph.cs)] (bv (min 61 (cZ d b).length:Nat))):Ct prog 307 [.sl (l.map Ph.cs)] (bv (min 61 (cZ (d+1) l).length:Nat)):=by
 refine cI func307 O fun{_ _}=>?_
 rw[Fx l];refine OK.eW (rows:=l.map Ph.cx) (t:=0) O O fun hlen=>?_
 rw[Zx]at hlen;unfold maxLen at hlen;refine ro 17 O ?_;refine OK.loop (G:=Nat) [] (fun i=>[(0,.sl (l.map Ph.cx)),(3,bv (S6 d (l.take i):Nat)),(4,bv i)]) (fun i=>i<=l.length) (fun i=>l.length - i) 0 (Zr _) ⟨O,O,O,Zo⟩ (fun _=>O) ?_;rintro i hi;refine ro 5 O (kc (zk Z2 O) (rr 3 O (kB O (fun c9=>?_) (fun c9=>?_))))
 ·have hil:i<l.length:=by omega
  have hcb:S6 d (l.take i)<=61:=by unfold S6;omega
  refine ro 14 O (kc (zI Z2 O I O) ?_);refine rr 5 O (kB O (fun c17=>?_) (fun c17=>?_))
  ·have hdb:=hd l[i] (Zt hil) c17;have hnx:=cnt_r (d:=d) hil c17;have hmm:(l[i].aR.toNat:Int)=l[i].aR:=by omega
   have hmb:=Nat.mul_le_mul (show l[i].aR.toNat<=10 by omega) (show min 61 (cZ d l[i].body).length<=61 by omega);have hme:l[i].aR * ((min 61 (cZ d l[i].body).length:Nat):Int)=((l[i].aR.toNat * min 61 (cZ d l[i].body).length:Nat):Int):=by simp_all
   refine kV (.c (zm O) (.c (zm O) (.c (zI Z2 O I O) (.c (S.field VQ .none O (zt O) O) (.c (zV Z8 O O) (.c (zm O) (.c (zm O) (.c (zI Z2 O I O) (.c (S.field Qn .none O (zt O) O) (.c (zV Wn O O) (.c (zK (ih l[i].body hdb.2) call307 O) (.c (S.mul .none O (zt O) (zt O) (ca _ I) (ca _ I)) (.c (za O) .nil))))))))))))) ?_;refine Rd 5 O I (kc (S.min2 .none O (zt O) (.af O)) ?_);refine Rr 9 O I (Ab.D.lp ⟨i+1,I,I,O,(yL I),O,Zo⟩)
  have hnx:=cnt_1 (d:=d) hil c17;refine Ro 6 O I (kc (S.min2 .none O (zt O) (.af O)) ?_);refine Rr 9 O I (Ab.D.lp ⟨i+1,I,I,O,(yL I),O,Zo⟩)
 refine ro 8 O (kR O O ?_);refine cy ?_;rw[show i=l.length by omega,fp];rfl
def Vj:∀(d:Nat){l:List Ph},Deep d l->Ct prog 307 [.sl (l.map Ph.cs)] (bv (min 61 (cZ d l).length:Nat))
 |0,_,h=>h.elim
 |d+1,_,h=>Sh h fun b hb=>Vj d hb
def RA{d:Nat}{l:List Ph}(hd:Deep (d+1) l)(hb:TX (d+1) l)(ih:∀b:List Ph,Deep d b->TX d b->Ct prog 308 [.sl (b.map Ph.cs)] (.sl ((cZ d b).map Ph.cs))):Ct prog 308 [.sl (l.map Ph.cs)] (.sl ((cZ (d+1) l).map Ph.cs)):=by
 refine cI func308 O fun{_ _}=>?_
 rw[Fx l];refine OK.eW (rows:=l.map Ph.cx) (t:=0) O O fun hlen=>?_
 rw[Zx]at hlen;unfold maxLen at hlen;have hle:=Kg (d:=d) hb.1;refine kr (kc (S.assign .none O .fW) (rr 4 O (RK.c (S.iI (k:=3) (sz:=6) .none O) (rr 9 O ?_))));refine OK.loop (G:=Nat) [3] (fun i=>[(0,.sl (l.map Ph.cx)),(3,.own 3 ((l.take i).flatMap (cY d)).length),(2003,.arr 6 (((l.take i).flatMap (cY d)).map Ph.cx)),(4,bv i)]) (fun i=>i<=l.length) (fun i=>l.length - i) 0 (Zr _) ⟨O,(cw (by rfl)),(bH (by rfl)),O,Zo⟩ (fun _=>O) ?_;rintro i hi;refine ro 5 O (kc (zk Z2 O) (rr 3 O (kB O (fun c10=>?_) (fun c10=>?_))))
 ·have hil:i<l.length:=by omega
  have hl1:=hle i;have hl2:=hle (i+1);have hnx0:=Wu (d:=d) hil;refine ro 9 O (kc (zI Z2 O I O) ?_);refine rr 5 O (kB O (fun c18=>?_) (fun c18=>?_))
  ·have hnx:(l.take (i+1)).flatMap (cY d)=((l.take i).flatMap (cY d))++[l[i]]:=by rw[hnx0,ya c18]
   refine ro 5 O (kc (zI Z2 O I O) (kc (S.fG Z3 .none O (zt O) O O) ?_));refine RK.c (zM [[_,_,_,_,_,_]] X0 O O O O) (kc (zP X0 O O F (by rfl) I (by grind [maxLen])) ?_);refine Rr 10 O I ?_;refine Ab.D.lp ⟨i+1,I,I,O,(cw (by grind)),(bH (by rw[hnx];first|rfl|(simp;done)|(simp;rfl))),O,Zo⟩
  have h5:l[i].kind=5:=Zu.1 c18;have hdb:=hd l[i] (Zt hil) h5;have hbb:=hb.2 l[i] (Zt hil) h5;have hel:=UT (d:=d) h5;rw[hnx0,Zs,hel]at hl2;refine ro 6 O (kc (zI Z2 O I O) ?_);refine rr 2 O ?_;refine kc (zK ((by have h:=ih l[i].body hdb.2 hbb;rw[Fx (cZ d l[i].body)]at h;exact h)) call308 O) ?_;refine rr 9 O ?_;refine OK.loop (G:=Nat) [3] (fun j=>[(0,.sl (l.map Ph.cx)),(3,.own 3 (((l.take i).flatMap (cY d)).length+((List.replicate j (cZ d l[i].body)).flatten).length)),(2003,.arr 6 (((l.take i).flatMap (cY d)).map Ph.cx++((List.replicate j (cZ d l[i].body)).flatten).map Ph.cx)),(4,bv i),(5,.sl ((cZ d l[i].body).map Ph.cx)),(6,bv j)]) (fun j=>j<=l[i].aR.toNat) (fun j=>l[i].aR.toNat - j) 0 (Zr _) ⟨O,(cw F),(bH F),O,O,O,Zo⟩ (fun _=>O) ?_;rintro j hj;refine ro 6 O (kc (zI Z2 O I O) ?_);refine rr 5 O (kB O (fun c38=>?_) (fun c38=>?_))
  ·have hjt:j<l[i].aR.toNat:=by omega
   have hrl:=Mx j (cZ d l[i].body);have hmm:=li (cZ d l[i].body).length (show j+1<=l[i].aR.toNat by omega);rw[pa,tl]at hmm;refine ro 7 O ?_;refine RK.c (S.mQ X0 .none O (zt O) O F (zt O) (by intro q hq;obtain⟨x,_,rfl⟩:=eI.1 hq;rfl) (Zx ..) I (by grind [maxLen])) ?_;refine Rr 9 O I ?_;refine Ab.D.lp ⟨j+1,I,I,O,(cw (by grind)),(bH (by rw[Ss,dE,lO])),O,O,O,Zo⟩
  have hje:j=l[i].aR.toNat:=by omega
  have hnx:(l.take (i+1)).flatMap (cY d)=((l.take i).flatMap (cY d))++((List.replicate j (cZ d l[i].body)).flatten):=by simp_all[Dd]
  refine Ro 8 O I ?_;refine Ab.D.lp ⟨i+1,I,I,O,(cw (by grind)),(bH (by simp_all)),O,Zo⟩
 refine ro 3 O ?_;rw[show i=l.length by omega,fp,←flatG_emit];refine ro 5 O ?_;refine OK.ret (aA.r1 (.tmp O O (.c (.own O O F) O) O) ?_);simp[QY]
def Us:∀(d:Nat){l:List Ph},Deep d l->TX d l->Ct prog 308 [.sl (l.map Ph.cs)] (.sl ((cZ d l).map Ph.cs))
 |0,_,h,_=>h.elim
 |d+1,_,h,hb=>RA h hb fun b h1 h2=>Us d h1 h2
def Si{p:Ph}:Ct prog 309 [.agg p.cx] (.bool (nw p.kind)):=by
 refine cI func309 O (ro 12 O (RK.bh (t:=6) O (fun g6=>?_) (fun g6=>?_)))
 ·refine rr 7 O (kR O O ?_);simp[nw, *]
 refine rr 7 O (kR O O ?_);simp[nw, *]
def WD{l:List Ph}:Ct prog 260 [.sl (l.map Ph.cs)] (.cf [bv (if(cQ (bu 3) l).2≠0 then(cQ (bu 3) l).1 else 0),bv (u5 l)]):=by
 refine cI func260 O (ro 10 O (kc (zK (TJ (l:=l)) call306 O) (rr 13 O (kB O (fun c13=>?_) (fun c13=>?_)))))
 ·have hT:=GK (l:=l) c13;refine ro 8 O (kS O O O O ?_);simp_all
 have h0:(cQ (bu 3) l).2=0:=Zu.1 c13;refine ro 6 O (kc (zK (Vj 4 (EX 3 h0)) call307 O) (rr 3 O (kB O (fun c18=>?_) (fun c18=>?_))))
 ·have hT:=chk_8 h0 I;refine ro 6 O (kS O O O O ?_);simp_all
 have hle:(cZ 4 l).length<=60:=by omega
 have hfb:TX 4 l:=RP 3 h0 (by grind);have hps:0<(cZ 4 l).length:=nz.2 (EY 3 h0);have hp1:(cZ 4 l).length - 1<(cZ 4 l).length:=by omega
 refine ro 5 O ?_;refine kc (zK ((by have h:=Us 4 (EX 3 h0) hfb;rw[Fx (cZ 4 l)]at h;exact h)) call308 O) ?_;refine rr 8 O (kc (zk Z2 O) (Rr 1 O I (kc (S.aP (n:=((cZ 4 l).length - 1)) Z2 .none O (zt O) (zt O) I hp1 O) (kc (S.fG Z3 .none O (zt O) O O) (kc (zK Si call309 O) (kc (S.not .none O (zt O)) (kD (OK.cond O O (fun c28=>?_) (fun c28=>?_)))))))))
 ·have hT:=Nb h0 hle hp1 (b:=false) (by grind);refine ro 6 O (kS O O O O ?_);rw[hT,Zm c13]
  try rfl
 have hT:=Nb h0 hle hp1 (b:=true) (by grind);refine ro 8 O (kS O O O O ?_);rw[hT,Zm c13]
 try rfl
def Vi{l:List Ph}:Ct prog 204 [.sl (l.map Ph.cs)] (bv (u5 l)):=by
 refine cI func204 O (ro 8 O (kc (zK (WD (l:=l)) call260 O) (rr 13 O (kR O O ?_))));rfl
def Vh{l:List Ph}(hn:l.length<=1000000)(ih:∀p∈l,Ct prog 195 [.sl (p.body.map Ph.cs)] (.sl (p.body.map Ph.cs))):Ct prog 195 [.sl (l.map Ph.cs)] (.sl (l.map Ph.cs)):=by
 refine cI func195 O fun{_ _}=>?_
 rw[Fx l];refine OK.eW (rows:=l.map Ph.cx) (t:=0) O O fun hlen=>?_
 rw[Zx]at hlen;unfold maxLen at hlen;refine kr (kc (S.assign .none O .fW) (rr 4 O (RK.c (S.iI (k:=3) (sz:=6) .none O) (rr 9 O ?_))));refine OK.loop (G:=Nat) [3] (fun i=>[(0,.sl (l.map Ph.cx)),(3,.own 3 i),(2003,.arr 6 ((l.take i).map Ph.cx)),(4,bv i)]) (fun i=>i<=l.length) (fun i=>l.length - i) 0 (Zr _) ⟨O,(cw I),(bH (by rfl)),O,Zo⟩ (fun _=>O) ?_;rintro i hi;refine ro 5 O (kc (zk Z2 O) (rr 3 O (kB O (fun c9=>?_) (fun c9=>?_))))
 ·have hil:i<l.length:=by omega
  refine ro 8 O (kc (zI Z2 O I O) ?_);refine rr 9 O (kc (zI Z2 O I O) ?_);refine rr 2 O (kc (zK (ih l[i] (Zt hil)) call195 O) (rr 7 O ?_));refine RK.c (zM [[_,_,_,_,_,_]] X0 O O O O) (kc (zP X0 O O (by simp_all) (by rfl) I (by grind [maxLen])) ?_);refine Rr 9 O I ?_;refine Ab.D.lp ⟨i+1,I,I,O,O,(bH (by rw[dT hil,dE];rfl)),O,Zo⟩
 refine ro 3 O ?_;have hie:i=l.length:=by omega
 subst hie;rw[fp];refine ro 5 O ?_;refine OK.ret (aA.r1 (.tmp O O (.c (.own O O F) O) O) ?_);rfl
end Go.Proofs.YtpbalelbenmmbaaGreatDoor
namespace Go.Proofs.YtpbalelbenmmbaaGreatDoor
open Go.Ab Tryz
def Hd.w(q:Hd)(n:Nat):Value:=.slice (q.map fun q=>⟨q.1,0,none⟩) n (match q with
 |none=>0
 |some q=>q.2)
def Qs{K:Type}{M:HM K}{k:K}{q:Hd}{n sz:Nat}{rows:List bi}(hM:M k=q.map fun q=>(q.1,.gM sz q.2 rows))(hn:rows.length=n)(h0:q=none->rows=[]):fA M k (q.w n) sz rows:=by
 subst hn;cases q with
 |none=>rw[h0 rfl];exact .inl ⟨rfl,rfl,hM⟩
 |some q=>exact .inr ⟨q.1,q.2,rfl,hM⟩
def VW{K:Type}{M:HM K}{k:K}{q:Hd}{n sz:Nat}{rows:List bi}(hM:M k=q.map fun q=>(q.1,.row sz q.2 rows))(hn:rows.length=n)(h0:q=none->rows=[]):mG M k (q.w n) sz rows:=by
 subst hn;cases q with
 |none=>rw[h0 rfl];exact .inl ⟨rfl,rfl,hM⟩
 |some q=>exact .inr ⟨q.1,q.2,rfl,hM⟩
inductive SK where
 |r
 |c
 |p
 |m
 |f (i:Nat)
 deriving DecidableEq
structure SA where
 rh:Hd
 ch:Hd
 ph:Hd
 mh:Hd
 yB:List Rec
 aC:List o6
 parts:List (Hd×Part)
 aI:bd
 env:Envelope
def pC(q:Hd×Part):bi:=q.2.cells (.raw (q.1.w q.2.frames.length))
abbrev V1(n:Int):bi:=[bv n]
def SA.mem(A:SA):HM SK
 |.r=>A.rh.map fun q=>(q.1,.row 3 q.2 (A.yB.map Rec.cs))
 |.c=>A.ch.map fun q=>(q.1,.row 3 q.2 (A.aC.map o6.cs))
 |.p=>A.ph.map fun q=>(q.1,.row 13 q.2 (A.parts.map pC))
 |.m=>A.mh.map fun q=>(q.1,.row 1 q.2 (A.aI.map V1))
 |.f i=>A.parts[i]?.bind fun v=>v.1.map fun q=>(q.1,.gM 2 q.2 (v.2.frames.map Frame.cs))
def SA.cs(A:SA):bi:=[.raw (A.rh.w A.yB.length),.raw (A.ch.w A.aC.length),.raw (A.ph.w A.parts.length),.raw (A.mh.w A.aI.length),bv A.env.parts,bv A.env.trim,.sl (A.env.rows.map fun l=>[.sl (l.map Range.cs)])]
def SA.st(A:SA):State:=⟨A.yB,A.aC,A.parts.map (·.2),A.aI,A.env⟩
structure SA.Ok(A:SA):Prop where
 rh:A.rh=none->A.yB=[]
 ch:A.ch=none->A.aC=[]
 ph:A.ph=none->A.parts=[]
 mh:A.mh=none->A.aI=[]
 fh:∀v∈A.parts,v.1=none->v.2.frames=[]
def map_nil{α β:Type}{f:α->β}{q:Hd}{l:List α}(h:q=none->l=[]):q=none->l.map f=[]:=fun e=>by grind
def TN{K:Type}{M:HM K}{k:K}{hd:Value}{sz:Nat}{rows:List bi}(h:mG M k hd sz rows):∃q:Hd,hd=q.w rows.length/\M k=q.map (fun q=>(q.1,.row sz q.2 rows))/\(q=none->rows=[]):=by
 rcases h with⟨rfl,rfl,e⟩|⟨b,cap,rfl,e⟩
 ·exact⟨none,rfl,e,fun _=>rfl⟩
 exact⟨some (b,cap),rfl,e,fun h=>by cases h⟩
section
variable{A:SA}
def SA.Ok.rs(h:A.Ok):mG A.mem .r (A.rh.w A.yB.length) 3 (A.yB.map Rec.cs):=VW rfl (Zx ..) (map_nil h.rh)
def SA.Ok.cs(h:A.Ok):mG A.mem .c (A.ch.w A.aC.length) 3 (A.aC.map o6.cs):=VW rfl (Zx ..) (map_nil h.ch)
def SA.Ok.ps(h:A.Ok):mG A.mem .p (A.ph.w A.parts.length) 13 (A.parts.map pC):=VW rfl (Zx ..) (map_nil h.ph)
def SA.Ok.ms(h:A.Ok):mG A.mem .m (A.mh.w A.aI.length) 1 (A.aI.map V1):=VW rfl (Zx ..) (map_nil h.mh)
def SA.Ok.fs(h:A.Ok){i:Nat}{v:Hd×Part}(hv:A.parts[i]?=some v):fA A.mem (.f i) (v.1.w v.2.frames.length) 2 (v.2.frames.map Frame.cs):=
 Qs (by show(A.parts[i]?.bind _)=_;rw[hv];rfl) (Zx ..) (map_nil (h.fh v (ce hv)))
end
def Yn{α β γ:Type}{R:β->γ->Prop}{f:α->β}{g:α->γ}{l:List α}(h:∀(i:Nat)(x:α),l[i]?=some x->R (f x) (g x)):ah R (l.map f) (l.map g):=by
 grind [ah.fb]
def SA.Ok.fz{A:SA}(h:A.Ok):Gj A.mem (.agg A.cs) (.agg A.st.cs):=by
 refine⟨_,rfl,?_,?_,?_,?_,.same _ rfl,.same _ rfl,.same _ rfl,Zo⟩
 ·exact Fz.ofRow h.rs (Yn fun _ x _=>⟨.same _ rfl,.same _ rfl,.same _ rfl,Zo⟩) (by intro r hr;obtain⟨x,_,rfl⟩:=eI.1 hr;rfl)
 ·exact Fz.ofRow h.cs (Yn fun _ x _=>⟨.same _ rfl,.same _ rfl,.same _ rfl,Zo⟩) (by intro r hr;obtain⟨x,_,rfl⟩:=eI.1 hr;rfl)
 ·show Fz _ _ (.sl ((A.parts.map (·.2)).map Part.cs));rw[rn];refine Fz.ofRow h.ps (Yn fun i x hx=>⟨.same _ rfl,.same _ rfl,.same _ rfl,.same _ rfl,?_,.same _ rfl,.same _ rfl,.same _ rfl,.same _ rfl,.same _ rfl,.same _ rfl,.same _ rfl,.same _ rfl,Zo⟩) (by intro r hr;obtain⟨x,_,rfl⟩:=eI.1 hr;rfl);exact Fz.ofGro (h.fs hx) (by simp[dj,Frame.cs,yG]) (by intro r hr;obtain⟨x,_,rfl⟩:=eI.1 hr;rfl)
 exact Fz.ofRow h.ms (Yn fun _ x _=>⟨.same _ rfl,Zo⟩) F
def Pf(k:SK)(q:Hd)(l:List Frame):HM SK:=fun j=>if j=k then q.map fun q=>(q.1,.gM 2 q.2 (l.map Frame.cs))else none
def L_(k:SK):(fun _=>none:HM SK)=Pf k none []:=funext fun j=>by simp[Pf]
def Ma(k:SK)(q:Hd)(l:List Frame)(b:Nat×Nat)(f:Frame):(Pf k q l).set k (some (b.1,.gM 2 b.2 (l.map Frame.cs++[f.cs])))=Pf k (some b) (l++[f]):=funext fun j=>by
 unfold HM.set Pf;split
 ·rw[dE];rfl
 rfl
def L9{k:SK}{q:Hd}{l:List Frame}(h:q=none->l=[]):fA (Pf k q l) k (q.w l.length) 2 (l.map Frame.cs):=Qs (Zn rfl) (Zx ..) (map_nil h)
abbrev SA.part(L:List (Hd×Part))(s:State):SA:=⟨none,none,none,none,s.yB,s.aC,L,s.aI,s.env⟩
def Oa(s:State):(fun _=>none:HM SK)=(SA.part [] s).mem:=funext fun j=>by cases j<;>rfl
def Mo(L:List (Hd×Part))(s:State)(q:Hd)(p:Part):(fun k=>((SA.part L s).mem k).or (Pf (.f L.length) q p.frames k))=(SA.part (L++[(q,p)]) s).mem:=funext fun j=>by
 cases j with
 |f i=>
  show(L[i]?.bind _).or (if SK.f i=SK.f L.length then _ else _)=(L++[(q,p)])[i]?.bind _;rcases Nat.lt_trichotomy i L.length with h|h|h
  ·rw[Zm (fun e=>by cases e;omega),ly h,Option.or_none]
  ·subst h;rw[Zn rfl,qk (Zq _),AI,pv (Zq _)];rfl
  rw[Zm (fun e=>by cases e;omega),pv I,pv (by rw[Zs,pu];omega)];rfl
 |_=>rfl
section
variable{A:SA}{M:HM SK}{hd:Value}
def SA.Ij(hr:mG M .r hd 3 (A.yB.map Rec.cs))(ho:∀k,k≠.r->M k=A.mem k):∃q:Hd,hd=q.w A.yB.length/\M=({A with rh:=q}:SA).mem/\(q=none->A.yB=[]):=by
 obtain⟨q,h1,h2,h3⟩:=TN hr;rw[Zx]at h1;refine⟨q,h1,funext fun j=>?_,fun e=>rv.1 (h3 e)⟩;cases j<;>first|exact h2|exact ho _ Z
def SA.giveC(hr:mG M .c hd 3 (A.aC.map o6.cs))(ho:∀k,k≠.c->M k=A.mem k):∃q:Hd,hd=q.w A.aC.length/\M=({A with ch:=q}:SA).mem/\(q=none->A.aC=[]):=by
 obtain⟨q,h1,h2,h3⟩:=TN hr;rw[Zx]at h1;refine⟨q,h1,funext fun j=>?_,fun e=>rv.1 (h3 e)⟩;cases j<;>first|exact h2|exact ho _ Z
def SA.giveP(hr:mG M .p hd 13 (A.parts.map pC))(ho:∀k,k≠.p->M k=A.mem k):∃q:Hd,hd=q.w A.parts.length/\M=({A with ph:=q}:SA).mem/\(q=none->A.parts=[]):=by
 obtain⟨q,h1,h2,h3⟩:=TN hr;rw[Zx]at h1;refine⟨q,h1,funext fun j=>?_,fun e=>rv.1 (h3 e)⟩;cases j<;>first|exact h2|exact ho _ Z
def SA.giveM(hr:mG M .m hd 1 (A.aI.map V1))(ho:∀k,k≠.m->M k=A.mem k):∃q:Hd,hd=q.w A.aI.length/\M=({A with mh:=q}:SA).mem/\(q=none->A.aI=[]):=by
 obtain⟨q,h1,h2,h3⟩:=TN hr;rw[Zx]at h1;refine⟨q,h1,funext fun j=>?_,fun e=>rv.1 (h3 e)⟩;cases j<;>first|exact h2|exact ho _ Z
end
abbrev FHd(p:Part):={q:Hd // q=none->p.frames=[]}
abbrev SAo(s:State):={A:SA // A.Ok/\A.st=s}
def O2:Nat->List Ph->Prop
 |0,l=>l=[]
 |d+1,l=>l.length<=1000/\∀p∈l,O2 d p.body
structure State.Sm(s:State):Prop where
 lr:s.yB.length<=100
 lc:s.aC.length<=4
 lp:s.parts.length<=100
 lm:s.aI.length<=100
 le:s.env.rows.length<=100000
 lv:∀(i:Nat)(h:i<s.env.rows.length),s.env.rows[i].length<=100000
 fr:∀p∈s.parts,p.frames.length<=100/\∀f∈p.frames,f.values.length<=100000
 rc:∀r∈s.yB,O2 6 r.phases
 sh:∀c∈s.aC,0<=c.shots/\c.shots<=1000000
def Ur:∀(d:Nat){l:List Ph},O2 d l->Ct prog 195 [.sl (l.map Ph.cs)] (.sl (l.map Ph.cs))
 |0,l,h=>Vh (by rw[show l=[]from h];decide) fun p hp=>by rw[show l=[]from h]at hp;cases hp
 |d+1,l,h=>Vh (by have:=h.1;omega) fun p hp=>Ur d (h.2 p hp)
def UP{l:bd}(hlen:l.length<=100000):Jc prog 193 [ints l] 1 (l.map (fun n=>[bv n])):=by
 refine Jc.intro func193 rfl ntmps193 results193 rfl rfl rfl fun w h=>?_
 refine kr (kc (S.assign .none O .fW) (rr 4 O (RK.c (zM [] ZY O O O O) (jm O ?_))));refine RK.c (S.mQ ZY .none O (zt O) O (by rfl) (zt O) F O (by grind) (by grind [maxLen])) ?_;refine rr 3 O ?_;refine OK.ret (FZ.mk O O O F ?_);rfl
def Ve{p:Part}(k:SK)(hl:p.frames.length<=100000)(hv:∀f∈p.frames,f.values.length<=100000):IC prog 196 [.agg p.cs] (fun q:FHd p=>.agg (p.cells (.raw (q.1.w p.frames.length)))) (fun q:FHd p=>aa (Pf k q.1 p.frames)):=by
 refine IC.intro (rs:=[.cell 2 68]) func196 rfl ntmps196 results196 rfl rfl rfl fun w h=>?_
 refine OK.ug SK ?_;rw[L_ k];refine ro 16 O (kc (S.store XM .none (zt O) .lq O O O O O O) (rr 9 O ?_));refine OK.mP [1,2,3] (fun(i:Nat)(fh:Hd)=>[(1,.ptr 1 0),(1001,.box p.cs),(2,.ptr 2 0),(1002,.box [bv 0,.str [],bv 0,.str [],.bO,bv 0,.bool false,bv 0,.bool false,bv 0,bv 0,bv 0,bv 0]),(3,.ptr 3 0),(1003,.box (p.cells (.raw (fh.w i)))),(4,bv i),(3000,.res (aa (Pf k fh (p.frames.take i))))]) (fun i fh=>i<=p.frames.length/\(fh=none->p.frames.take i=[])) (fun i fh=>p.frames.length - i) (0) (none) ⟨Zr _,fun _=>O⟩ ⟨O,O,O,O,O,O,O,O,Zo⟩ (fun _ _=>O) ?_;rintro i fh ⟨hi,h0⟩;refine ro 6 O (kc (zk Xj O) (rr 3 O (kB O (fun c11=>?_) (fun c11=>?_))))
 ·have hil:i<p.frames.length:=by omega
  have hG:=L9 (k:=k) h0;rw[List.length_take_of_le hi]at hG;refine ro 4 O ?_;refine OK.drawY follows (ι:=(Nat×Nat)) (0,0) 17 O (S.Ie (s:=[(15,.raw (fh.w i)),(30,.own 30 1),(2030,.arr 2 [p.frames[i].cs]),(3000,.res (aa (Pf k fh (p.frames.take i))))]) (m:=1) (rows2:=[p.frames[i].cs]) k O5 O (zt O) hG (zt O) O O O C (by rw[Zx,List.length_take_of_le hi];omega) (by rw[Zx,List.length_take_of_le hi];unfold maxLen;omega)).st (fun q=>(.cs (zf Zf O) (.cs (zl XM O O O O) (.cs (zf Zf O) (.cs (zl XM O O O O) (.cs (zm O) (.cs (zI Xj O I O) (.cs (S.field Td .none O (zt O) O) (.cs (zV Z8 O O) (.cs (zf Zf O) (.cs (zl XM O O O O) (.cs (zm O) (.cs (zI Xj O I O) (.cs (S.field XQ .none O (zt O) O) (.cs (zV ZA O O) (.cs (zK (XD (l:=p.frames[i].values) (hv _ (Zt hil))) call193 O) (.cs (zU T7 O O) (.cs (zM [[_,_]] O5 O O O O)
   (.x ⟨O,O,O,O,Zo⟩ (.cn (zf Zf O) (.cn (zS XM O O O O O O) .nil))))))))))))))))))))) (fun q=>?_)
  refine Rd 7 O I ?_;refine Ab.D.lp ⟨i+1,(some q),⟨by omega,fun h=>by cases h⟩,I,O,O,O,O,O,(BZ (by rw[Zx,List.length_take_of_le hi];rfl)),O,(Gt (by rw[←tF hil];exact Ma _ _ _ _ _)),Zo⟩
 obtain rfl:i=p.frames.length:=by omega
 rw[fp]at h0⊢;refine ro 8 O (OK.ret ⟨⟨fh,h0⟩,aA.r1 (zy O O TU O) ?_,O⟩);rfl
def V4{s:State}(hs:s.Sm):IC prog 126 [.agg s.cs] (fun q:SAo s=>.agg q.1.cs) (fun q:SAo s=>aa q.1.mem):=by
 refine IC.intro (rs:=[.cell 2 52]) func126 rfl ntmps126 results126 rfl rfl rfl fun w h=>?_
 refine OK.ug SK ?_;rw[Oa s];have h1:=hs.lr;have h2:=hs.lc;have h3:=hs.lp;have h4:=hs.lm;refine ro 7 O ?_;refine kV (.c (zM [] LA O O O O) (.c (zf Wx O) (.c (zl SR O O O O) (.c (S.mQ LA .none O (zt O) O N (zt O) (by intro q hq;obtain⟨x,_,rfl⟩:=eI.1 hq;rfl) O (by simp only[Zx];omega) (by simp only[maxLen,Zx];omega)) (.c (zf Q2 O) (.c (zl ZA O O O O) (.c (S.P8 (k:=12) (UP (l:=s.aI) I) call193 .none O (zc O .nil) O (Zx ..)) (.c (zf Q3 O) (.c (zL WM O O O O) (.c (zK (WI (x:=s.env) hs.le hs.lv) call194 O) (.c (zU bu52 O O) (.c (zA (c:=3) KZ O) (.c (zS Z_ O O O O O O) .nil))))))))))))) ?_;refine rd 8 O ?_;rw[show 0+(s.aC.map o6.cs).length=s.aC.length by rw[Zx,gk]];refine OK.nP 3 0 870 3 O O O O O (OK.nP 3 2 873 13 O O O O O ?_);refine OK.loop (G:=Nat) [1,2,3,870,6,873,12] (fun i=>[(1,.ptr 1 0),(1001,.box s.cs),(2,.ptr 2 0),(1002,.box [.bO,.bO,.bO,.bO,bv 0,bv 0,.bO]),(3,.ptr 3 0),(1003,.box [.own 870 i,.own 6 s.aC.length,.own 873 0,.own 12 s.aI.length,bv s.env.parts,bv s.env.trim,.sl (s.env.rows.map fun l=>[.sl (l.map Range.cs)])]),(2870,.arr 3 ((s.yB.take i).map Rec.cs)),(2006,.arr 3 (s.aC.map o6.cs)),(2012,.arr 1 (s.aI.map V1)),(2873,.arr 13 []),(4,bv i),(3000,.res (aa (SA.part [] s).mem))]) (fun i=>i<=s.yB.length) (fun i=>s.yB.length - i) 0 (Zr _) ⟨O,O,O,O,O,O,(bH N),(bH N),(bH N),(bH N),O,O,Zo⟩ (fun _=>O) ?_;rintro i hi;refine ro 6 O (kc (zk PO O) (rr 3 O (kB O (fun c21=>?_) (fun c21=>?_))))
 ·have hil:i<s.yB.length:=by omega
  refine ro 4 O ?_;refine kV (.c (zf Xs O) (.c (zl RH O O O O) (.c (zf Xs O) (.c (zl RH O O O O) (.c (zm O) (.c (zI PO O I O) (.c (S.field WY .none O (zt O) O) (.c (S.fG V7 .none O (zt O) O O) (.c (zf Xs O) (.c (zl RH O O O O) (.c (zm O) (.c (zI PO O I O) (.c (S.field Qg .none O (zt O) O) (.c (zV Wn O O) (.c (zK (Ur 6 (l:=s.yB[i].phases) (hs.rc _ (Zt hil))) call195 O) (.c (zU M3 O O) (.c (zM [[_,_,_]] Lz O O O O) (.c (zP Lz O O (by rw[Zx,List.length_take_of_le hi]) N I (by simp only[maxLen];omega)) (.c (zf Xs O) (.c (zS RH O O O O O O) .nil)))))))))))))))))))) ?_;refine Rd 7 O I ?_;refine Ab.D.lp ⟨i+1,I,I,O,O,O,O,O,O,(bH (by rw[←tF hil];simp only[dE,fw,rm];rfl)),(bH N),(bH N),(bH N),O,O,Zo⟩
 obtain rfl:i=s.yB.length:=by omega
 rw[fp];refine ro 9 O ?_;refine OK.mP [1,2,3,870,6,873,12] (fun(i:Nat)(L:List (Hd×Part))=>[(1,.ptr 1 0),(1001,.box s.cs),(2,.ptr 2 0),(1002,.box [.bO,.bO,.bO,.bO,bv 0,bv 0,.bO]),(3,.ptr 3 0),(1003,.box [.own 870 s.yB.length,.own 6 s.aC.length,.own 873 i,.own 12 s.aI.length,bv s.env.parts,bv s.env.trim,.sl (s.env.rows.map fun l=>[.sl (l.map Range.cs)])]),(2870,.arr 3 (s.yB.map Rec.cs)),(2006,.arr 3 (s.aC.map o6.cs)),(2012,.arr 1 (s.aI.map V1)),(2873,.arr 13 (L.map pC)),(5,bv i),(3000,.res (aa (SA.part L s).mem))]) (fun i L=>i<=s.parts.length/\L.map (·.2)=s.parts.take i/\∀v∈L,v.1=none->v.2.frames=[]) (fun i L=>s.parts.length - i) (0) ([]) ⟨Zr _,O,fun v hv=>by cases hv⟩ ⟨O,O,O,O,O,O,(bH N),(bH N),(bH N),(bH N),O,O,Zo⟩ (fun _ _=>O) ?_;rintro i L ⟨hi,hL,hF⟩;refine ro 6 O (kc (zk ZH O) (rr 3 O (kB O (fun c47=>?_) (fun c47=>?_))))
 ·have hil:i<s.parts.length:=by omega
  have hLl:L.length=i:=by have:=eQ List.length hL;rw[Zx,List.length_take_of_le hi]at this;exact this
  refine ro 4 O ?_;refine OK.drawY follows (ι:=(FHd s.parts[i])) ⟨some (0,0),fun h=>by cases h⟩ 7 O (S.JG (s:=[(56,.agg s.parts[i].cs),(3000,.res (aa (SA.part L s).mem))]) (Ve (p:=s.parts[i]) (.f i) (by have:=(hs.fr _ (Zt hil)).1;omega) (hs.fr _ (Zt hil)).2)   call196 O (zc O .nil) O) (fun q=>(.cs (zf ZM O) (.cs (zl Zl O O O O) (.cs (zf ZM O) (.cs (zl Zl O O O O) (.cs (zm O) (.cs (zI ZH O I O) (.cs (S.fG TU .none O (zt O) O O)
   (.x ⟨O,O,Zo⟩ (.cn (zM [[_,_,_,_,_,_,_,_,_,_,_,_,_]] LB O O O O) (.cn (zP LB O O (by rw[Zx,hLl]) N I (by simp only[maxLen];omega)) (.cn (zf ZM O) (.cn (zS Zl O O O O O O) .nil))))))))))))) (fun q=>?_)
  refine Rd 7 O I ?_;refine Ab.D.lp ⟨i+1,(L++[(q.1,s.parts[i])]),⟨by omega,by rw[dE,hL,←tF hil];rfl,fun v hv=>(List.mem_append.1 hv).elim (hF v) fun h=>by rw[df.1 h];exact q.2⟩,I,O,O,O,O,O,O,(bH N),(bH N),(bH N),(bH (by rw[dE];rfl)),O,(Gt (by rw[←Mo,hLl])),Zo⟩
 obtain rfl:i=s.parts.length:=by omega
 rw[fp]at hL;have hLl:L.length=s.parts.length:=by rw[←hL,Zx]
 rw[←hLl];refine ro 3 O (OK.Uj 3 0 .r O O O O (Zx ..) O O fun hd M' hr ho=>?_);obtain⟨qr,rfl,rfl,er⟩:=SA.Ij hr ho;clear hr ho;refine OK.Uj 3 1 .c O O O O (Zx ..) O O fun hd M' hr ho=>?_
 obtain⟨qc,rfl,rfl,ec⟩:=SA.giveC hr ho;clear hr ho;refine OK.Uj 3 2 .p O O O O (Zx ..) O O fun hd M' hr ho=>?_
 obtain⟨qp,rfl,rfl,ep⟩:=SA.giveP hr ho;clear hr ho;refine OK.Uj 3 3 .m O O O O (Zx ..) O O fun hd M' hr ho=>?_
 obtain⟨qm,rfl,rfl,em⟩:=SA.giveM hr ho;clear hr ho;have hok:SA.Ok ⟨qr,qc,qp,qm,s.yB,s.aC,L,s.aI,s.env⟩:=⟨er,ec,ep,em,hF⟩;have hst:SA.st ⟨qr,qc,qp,qm,s.yB,s.aC,L,s.aI,s.env⟩=s:=by unfold SA.st;rw[hL]
 refine ro 5 O (OK.ret ⟨⟨⟨qr,qc,qp,qm,s.yB,s.aC,L,s.aI,s.env⟩,hok,hst⟩,aA.r1 (zy O O Z_ O) ?_,O⟩);rfl
end Go.Proofs.YtpbalelbenmmbaaGreatDoor
namespace Go.Proofs.YtpbalelbenmmbaaGreatDoor
open Go.Ab Tryz
def Ey{l:ba}(h:l.length<=100000):Ct prog 108 [.str l,bv 7] (.cf [bv (if eY l 7=true then de l else 0),.bool (eY l 7)]):=by
 have h1:=vU (l:=l) (d:=7) h C;grind [Cb]
def dO(k:Nat):Nat->List ba->Option bd
 |_,[]=>some []
 |i,w::l=>if eY w 7=true/\(0<=de w\/k<=i)then(dO k (i+1) l).map (de w:: ·)else none
def vV{k:Nat}{L:List ba}{i:Nat}{out:bd}(hg:dO k 0 L=(dO k i (L.drop i)).map (out++ ·))(hi:i<L.length)(hf:eY L[i] 7=true/\(0<=de L[i]\/k<=i)):dO k 0 L=(dO k (i+1) (L.drop (i+1))).map ((out++[de L[i]])++ ·):=by
 rw[hg,ci hi,dO,Zn hf];cases dO k (i+1) (L.drop (i+1))<;>simp
def vW{k:Nat}{L:List ba}{i:Nat}{out:bd}(hg:dO k 0 L=(dO k i (L.drop i)).map (out++ ·))(hi:i<L.length)(hf:¬(eY L[i] 7=true/\(0<=de L[i]\/k<=i))):dO k 0 L=none:=by
 rw[hg,ci hi,dO,Zm hf];rfl
def An{k:Nat}{L:List ba}{i:Nat}{out:bd}(hg:dO k 0 L=(dO k i (L.drop i)).map (out++ ·))(hi:i=L.length):dO k 0 L=some out:=by
 simp_all[dO]
def sW{k:Nat}:∀(l:List ba)(i:Nat),k<=i->dO k i l=fy l6 l
 |[],_,_=>rfl
 |w::l,i,h=>by
  rw[dO,fy];cases hs:eY w 7 with
  |true=>rw[Zn ⟨rfl,.inr h⟩,Cc hs,sW l (i+1) I]
  |false=>rw[Zm F,Cd hs]
def Ez{l:List ba}(h:0<l.length):dO 1 0 l=if iH l[0]=true then(fy l6 (l.drop 1)).map (de l[0]:: ·)else none:=by
 cases l with
 |nil=>cases h
 |cons w l=>
  show(if eY w 7=true/\(0<=de w\/1<=0)then(dO 1 (0+1) l).map (de w:: ·)else none)=if iH w=true then(fy l6 l).map (de w:: ·)else none
  simp[sW,iH]
def vX{l:List ba}{k:Nat}(hl:l.length<=100000)(hk:k<=100)(hw:∀w∈l,w.length<=100000):Ct prog 69 [.sl (l.map fun s=>[.str s]),bv (k:Int)] (.cf [ints ((dO k 0 l).getD []),.bool (dO k 0 l).isSome]):=by
 refine cI func69 O (kr (kc (S.assign .none O .fW) (rr 5 O (RK.c (S.iI (k:=6) (sz:=1) .none O) (rr 9 O ?_)))));refine OK.mP [6] (fun(i:Nat)(out:bd)=>[(0,.sl (l.map fun s=>[.str s])),(1,bv (k:Int)),(6,.own 6 out.length),(2006,.arr 1 (out.map (fun n=>[bv n]))),(7,bv i)]) (fun i out=>i<=l.length/\dO k 0 l=(dO k i (l.drop i)).map (out++ ·)/\out.length<=i) (fun i out=>l.length - i) (0) ([]) ⟨Zr _,by simp,Zq _⟩ ⟨O,O,(cw (by rfl)),(bH (by rfl)),O,Zo⟩ (fun _ _=>O) ?_;rintro i out ⟨hi,hg,hol⟩;refine ro 5 O (kc (zk Z9 O) (rr 3 O (kB O (fun c13=>?_) (fun c13=>?_))))
 ·have hil:i<l.length:=by omega
  have hwl:=hw _ (Zt hil);refine ro 8 O (kc (zI Z9 O I O) (kc (zV Y9 O O) (kc (zK (Ey hwl) call108 O) ?_)));refine rr 11 O (kc (S.not .none O (zt O)) (jm O (RK.split (t:=26) O (fun g26=>?_) (fun g26=>?_))))
  ·have hs0:eY l[i] 7=false:=by grind
   have hge:=vW hg hil (by grind);refine rr 13 O (kc (S.assign .none O .fW) (rr 3 O (kS O O O O ?_)));rw[hge];rfl
  have hs:eY l[i] 7=true:=by grind
  have hvv:(if eY l[i] 7=true then de l[i]else 0)=de l[i]:=Zn hs;refine rr 3 O (RK.bh (t:=29) O (fun g29=>?_) (fun g29=>?_))
  ·refine rr 7 O (kB O (fun c34=>?_) (fun c34=>?_))
   ·have hge:=vW hg hil I;refine kr (kc (S.assign .none O .fW) (rr 3 O (kS O O O O ?_)));rw[hge];rfl
   have hgo:eY l[i] 7=true/\(0<=de l[i]\/k<=i):=⟨hs,.inr I⟩;refine ro 5 O ?_;refine RK.c (zM [[_]] ZY O O O O) (kc (zP ZY O O F (by rfl) I (by grind [maxLen])) ?_);refine Rr 9 O I ?_;refine Ab.D.lp ⟨i+1,out++[de l[i]],⟨by omega,vV hg hil hgo,by simp;omega⟩,I,O,O,(cw F),(bH (by simp_all)),O,Zo⟩
  have hgo:eY l[i] 7=true/\(0<=de l[i]\/k<=i):=⟨hs,.inl I⟩;refine rr 13 O ?_;refine RK.c (zM [[_]] ZY O O O O) (kc (zP ZY O O F (by rfl) I (by grind [maxLen])) ?_);refine Rr 9 O I ?_;refine Ab.D.lp ⟨i+1,out++[de l[i]],⟨by omega,vV hg hil hgo,by simp;omega⟩,I,O,O,(cw F),(bH (by simp_all)),O,Zo⟩
 have hge:=An hg (show i=l.length by omega);refine ro 9 O ?_;refine OK.ret (aA.r2 (.tmp O O (.c (.own O O F) O) O) (zo O O) ?_);rw[hge];rfl
