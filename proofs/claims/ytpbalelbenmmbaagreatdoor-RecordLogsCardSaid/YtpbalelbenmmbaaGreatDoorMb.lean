import Derived.Test.YtpbalelbenmmbaaGreatDoorLb
set_option linter.all false
namespace Go.Proofs.YtpbalelbenmmbaaGreatDoor
open Go.Ab Tryz
set_option maxRecDepth 9999
def FD:Cf prog 96:=⟨fun a c sep w=>strings_Join_none a c sep w,fun bk o c xs sep w h1 h2 h3 h4 h5=>strings_Join bk o c xs sep w h1 h2 h3 h4 h5⟩
def l6(w:ba):Option Int:=if eY w 7=true then some (de w)else none
def Cc{w:ba}(h:eY w 7=true):l6 w=some (de w):=Zn h
def Cd{w:ba}(h:eY w 7=false):l6 w=none:=Zm (by grind)
def DU{w:ba}:me w true 7=eY w 7:=(uJ C).1
def C1{w:ba}(h:eY w 7=true):bp w=de w:=(uJ (d:=7) C).2 h
def vg{l:ba}{c:UInt8}(hl:l.length<=100000):Ct prog 273 [.str l,.str [c]] (.bool (decide (l.head?=some c))):=by
 refine cI func273 O (ro 13 O (RK.bh (t:=10) O (fun g10=>?_) (fun g10=>?_)))
 ·refine rr 3 O ?_;refine kc (S.ir fR (zg O O) O (zt O) (.inl ⟨O,O,O⟩) (.inr ⟨_,_,O,(zt O),O⟩) I I O) ?_;refine rr 6 O (kR O O ?_);refine ew (decide_eq_decide.2 ?_);cases l<;>grind
 refine rr 10 O (kR O O ?_);grind [List.length_eq_zero_iff]
def sx{l:ba}(hl:l.length<=100000):Ct prog 222 [.str l,.str [45]] (.str (qR l)):=by
 refine cI func222 O (ro 10 O (kc (zK (vg (l:=l) (c:=45) hl) call273 O) (kD (kB O (fun c7=>?_) (fun c7=>?_)))))
 ·refine ro 5 O ?_;refine kc (S.ir (lo:=1) (l':=l.drop 1) fR .none O (zt O) (.inr ⟨_,_,O,(zt O),O⟩) (.inl ⟨O,O,O⟩) (by grind) I F) ?_;refine rr 3 O (kR O O ?_);simp_all[qR]
 refine ro 8 O (kR O O ?_);simp_all[qR]
def kI{l:ba}(hl:l.length<=100000):Ct prog 161 [.str l,.str [45]] (.str (qR l)):=by
 refine cI func161 O (ro 9 O (kc (zK (sx I) call222 O) ?_));refine rr 3 O (kR O O ?_);rfl
def l7{l:ba}{b:Bool}(hl:l.length<=100000):gz prog 104 [.str l,.bool b] (.cf [bv (bp l),.bool (me l b 7)]):=by
 refine cT func104 O fun hT=>?_
 refine ro 9 O (kc (S.dB (uY hl) hT call155 .none O (zc O .nil) O) (rr 11 O (kc (S.Da underlying244 .none O (zt O)) (jm O (RK.split (t:=16) O (fun g16=>?_) (fun g16=>?_))))))
 ·refine kc (S.move (zg O O) O (zt O)) (kc (S.dB (pS (nk l)) hT call142 (zg O O) O (zc O .nil) O) (rr 4 O (RK.bh (t:=22) O (fun g22=>?_) (fun g22=>?_))))
  ·refine rr 2 O (RK.split (t:=24) O (fun g24=>?_) (fun g24=>?_))
   ·refine rr 6 O ?_;refine kc (S.call (kI (l:=l) hl) call161 (zg O O) O (zc O (.cons (.bj (l:=[45]) O C) .nil)) O) ?_;refine rr 7 O (kS O O O O ?_);exact eQ (fun z=>X.cf [X.int .i64 (bp l),X.bool z]) (by grind [me])
   refine rr 5 O (RK.bh (t:=29) O (fun g29=>?_) (fun g29=>?_))
   ·refine kc (S.move (zg O O) O (zt O)) (kc (S.call (kI (l:=l) hl) call161 (zg O O) O (zc O (.cons (.bj (l:=[45]) O C) .nil)) O) ?_);refine rr 7 O (kS O O O O ?_);exact eQ (fun z=>X.cf [X.int .i64 (bp l),X.bool z]) (by grind [me])
   refine rr 9 O (kS O O O O ?_);exact eQ (fun z=>X.cf [X.int .i64 (bp l),X.bool z]) (by grind [me])
  refine rr 16 O (kS O O O O ?_);simp_all[me]
 refine rr 22 O (kS O O O O ?_);simp_all[me]
set_option maxHeartbeats 1000000 in
def wQ{l:List ba}(hl:l.length<=100000)(hw:∀w∈l,w.length<=100000):gz prog 227 [.sl (l.map fun s=>[.str s])] (.cf [ints ((fy l6 l).getD []),.bool (fy l6 l).isSome]):=by
 refine cT func227 O fun hT=>?_
 refine kr (kc (S.assign .none O .fW) (rr 5 O (RK.c (S.iI (k:=4) (sz:=1) .none O) (rr 6 O (kc (zk Z9 O) (rr 4 O ?_))))));refine OK.mP [4] (fun(i:Nat)(out:bd)=>[(4,.own 4 out.length),(2004,.arr 1 (out.map (fun n=>[bv n]))),(9,.sl (l.map fun s=>[.str s])),(10,bv l.length),(11,bv i)]) (fun i out=>i<=l.length/\fy l6 l=(fy l6 (l.drop i)).map (out++ ·)/\out.length<=i) (fun i out=>l.length - i) (0) ([]) ⟨Zr _,by simp,Zq _⟩ ⟨(cw (by rfl)),(bH (by rfl)),O,O,O,Zo⟩ (fun _ _=>O) ?_;rintro i out ⟨hi,hg,hol⟩;refine ro 6 O (kB O (fun c12=>?_) (fun c12=>?_))
 ·have hil:i<l.length:=by omega
  have hwl:=hw _ (Zt hil);refine ro 6 O (kc (zI Z9 O I O) ?_);refine rr 7 O (kc (S.dB (l7 (l:=l[i]) (b:=true) hwl) hT call104 .none O (zc O (.cons .aJ .nil)) O) (rr 11 O (kc (S.not .none O (zt O)) (kD (OK.cond O O (fun c21=>?_) (fun c21=>?_))))))
  ·have hs:eY l[i] 7=false:=by simp_all[DU]
   have hge:=EN hg hil (Cd hs);refine kr (kc (S.assign .none O .fW) (rr 3 O (kS O O O O ?_)));rw[hge];rfl
  have hs:eY l[i] 7=true:=by simp_all[DU]
  refine ro 5 O ?_;refine RK.c (zM [[_]] ZY O O O O) (kc (zP ZY O O F (by rfl) I (by grind [maxLen])) ?_);refine Rr 8 O I ?_;refine Ab.D.lp ⟨i+1,out++[bp l[i]],⟨by omega,EM hg hil (by rw[Cc hs,C1 hs]),by simp;omega⟩,I,(cw F),(bH F),O,O,O,Zo⟩
 have hge:=CM hg (show i=l.length by omega);refine ro 9 O ?_;refine OK.ret (aA.r2 (.tmp O O (.c (.own O O F) O) O) (zo O O) ?_);rw[hge];rfl
