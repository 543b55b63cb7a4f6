import Derived.Test.YthibpafdakbpgaaGreatDoorUo
set_option linter.all false
open List renaming length->R
namespace Go.Proofs.YthibpafdakbpgaaGreatDoor
open Go.Ab
def fst32:∀l:ba,32∈l->∃i,∃hi:i<R l,l[i]=32/\∀j (a:j<i),¬l[j]=32
 |[],h=>by cases h
 |b::l,h=>by
  by_cases c:b=32
  ·exact⟨0,F,c,λj a=>absurd a<|bπ j⟩
  rcases sf.1 h with e|h
  ·exact absurd e.symm c
  obtain⟨i,hi,e,d⟩:=fst32 l h;refine⟨i+1,by simpa using hi,by simpa using e,λj a=>?_⟩;cases j with
  |zero=>exact c
  |succ j=>have:=d j I;simpa using this
def mQ{w l:ba}(hw:∀b∈w,¬b=32):l.take (R w+1)=w++[32]↔(ZQ 32 l).1=w/\(ZQ 32 l).2.2=true:=by
 constructor
 ·intro h;have g:R w<R l:=by
   have:=rn List.length h;rw[sc,Zs,R0]at this;omega
  have m:∀(j:Nat)(a:j<R w+1),l[j]?=(w++[32])[j]?:=λj a=>by
   rw[←h,List.getElem?_take_of_lt a]
  have e:=ku (l:=l) (i:=R w) g (λj a=>by
   have q:=m j I;rw[Zv I,m6 a,Zv a]at q;rw[aγ q];exact hw _<|Zt a) (by
   have q:=m (R w) I;rw[Zv g,aκ<|Zq _,dδ]at q;exact aγ q)
  rw[e];refine⟨?_,rfl⟩;have:=rn (List.take<|R w) h;rw[ra,fa I,aε<|Zq _,List.take_length]at this;exact this
 intro ⟨f,n⟩;by_cases h0:32∈l
 ·obtain⟨k,c,d,o⟩:=fst32 l h0;rw[ku c o d]at f;have qf:R w=k:=by rw[←f,sc];omega
  rw[qf,mv c,d,←f]
 rw[Nz<|xQ λj a q=>h0<|q▸Zt a]at n;cases n
def begW(w t:ba):Bool:=decide<|t.take (R w+1)=w++[32]
def z8:∀(l:List Entry)(H:Z6)(i:Nat)(x:Entry),(runT H i<|l++[x]).2.2=0->(runT H i l).2.2=0/\(Za (runT H i l).1 x).2=0/\(runT H i<|l++[x]).1=(Za (runT H i l).1 x).1
 |[],H,i,x,h=>by
  rw[bε,runT]at h⊢;by_cases e:(Za H x).2=0
  ·rw[Zm<|Zp e];exact⟨rfl,e,rfl⟩
  rw[Zn e]at h;exact absurd h e
 |y::l,H,i,x,h=>by
  rw[H5,runT]at h⊢;by_cases e:(Za H y).2=0
  ·rw[Zm<|Zp e]at h⊢;rw[runT,Zm<|Zp e];exact z8 l _ _ x h
  rw[Zn e]at h;exact absurd h e
variable{l:List Entry}{n:Net}
def Aq(h:(Z2 n l).2.2=0){i:Nat}(hi:i<R l):(Za (Z2 n<|l.take i).1 l[i]).2=0/\(Z2 n<|l.take<|i+1).1=(Za (Z2 n<|l.take i).1 l[i]).1:=by
 have a:=UP h<|i+1;obtain⟨_,_,b⟩:=Ur a;obtain⟨_,_,c⟩:=Ur<|UP h i;rw[b]at a⊢;rw[c];rw[mv hi]at a⊢;exact(z8 _ _ _ _ a).2
def Z6.Un(H:Z6):Prop:=(∀i j,i<R H.parts->j<R H.parts->(H.p i).place=0->(H.p j).place=0->i=j)/\∀j,j<R H.parts->0<=(H.p j).num/\(H.p j).num<=1000000
def Mv.un{H H':Z6}{s:Bool}(m:Mv H H' s)(h:H.Un):H'.Un:=by
 have vv:∀k,k<R H.parts->(H'.p k).place=0->(H.p k).place=0:=λk g e=>by
  have:=m.old k g;unfold PlOk at this;omega
 have f:=m.len;have a:∀k,k<R H'.parts->¬k<R H.parts->s=true/\k=R H.parts:=λk g q=>by
  cases s with
  |false=>simp at f;omega
  |true=>simp at f;exact⟨rfl,I⟩
 refine⟨λi j hi d n l=>?_,λj d=>?_⟩
 ·by_cases c:i<R H.parts<;>by_cases b:j<R H.parts
  ·exact h.1 i j c b (vv i c n)<|vv j b l
  ·exact absurd (vv i c n)<|(m.new (a j d b).1).2 i c
  ·exact absurd (vv j b l)<|(m.new (a i hi c).1).2 j b
  rw[(a i hi c).2,(a j d b).2]
 by_cases b:j<R H.parts
 ·rw[m.nm j b];exact h.2 j b
 rw[(a j d b).2];exact(m.new (a j d b).1).1.2
def e_(h:(Z2 n l).2.2=0):(Z2 n l).1.Un:=CT Z6.Un (λ_ _ _=>⟨λi _ hi=>absurd hi<|bπ i,λj b=>absurd b<|bπ j⟩) (λH x a e=>by
 obtain⟨k,_,m⟩:=Mv.enter e;exact m.un a) h
def st_at(H:Z6)(j:Nat)(b:j<R H.st.parts):∃a:j<R H.parts,H.st.parts[j]=H.p j:=by
 have a:j<R H.parts:=by
  have:R H.st.parts=R H.parts:=Zx ..;omega
 refine⟨a,?_⟩;rw[Qp<|Zv a];exact bκ ..
structure Nm(H:Z6):Prop where
 v:∀q∈H.ZF,q.1.name.length<=12
 c:∀q∈H.Z5,q.1.name.length<=12
 p:∀q∈H.parts,q.1.Yr.length<=12/\q.1.Yb.length<=12
section
variable{H H':Z6}{i:Nat}
def Nm.Zh(h:Nm H){f:Part->Part}(a:∀p,(f p).Yr=p.Yr/\(f p).Yb=p.Yb:=by exactλ_=>⟨rfl,rfl⟩):Nm<|H.Zh i f:=
 ⟨h.v,h.c,Nj h.p λb=>by
  dsimp only;rw[(a _).1,(a _).2];exact h.p _<|Zt b⟩
def Nm.WT(h:Nm H):Nm<|H.WT i:=⟨h.v,h.c,Nj h.p λa=>by have:=h.p _<|Zt a;exact this⟩
def Nm.Yz(h:Nm H):Nm<|H.Yz i:=⟨h.v,h.c,λq b=>by
 obtain⟨r,a,rfl⟩:=rx.1 b;have:=h.p r a;split<;>exact this⟩
def Nm.about(h:Nm H){n:Int}{f:Z6->Nat->HE}(a:∀i,Nm (f H i).1):Nm (YJ H n f).1:=by
 unfold YJ;cases H.U1 n with
 |none=>exact h
 |some i=>
  dsimp only;split
  ·exact(a i).WT
  exact a i
def Nm.Z5(h:Nm H)(j:Nat)(k:Int->Int):∀q∈H.Z5.modify j λq=>({q.1 with ZA:=k q.1.ZA},q.2),R q.1.name<=12:=Nj h.c λa=>by have:=h.c _<|Zt a;exact this
def Nm.start(h:Nm H)(n:Int)(r c:ba):Nm (W_ H n r c).1:=by
 by_cases e:ZW [Z8 (decide<|n<=1000000) 2,Z8 (H.U1 n).isNone 5,Z8 ((H.AI r).isSome&&(H.Ob c).isSome) 6,Z8 H.Tk.isNone 17]=0
 case neg=>rw[OG rfl e];exact h
 obtain⟨_,_,f,_⟩:=G2 e;rw[Zw]at f;obtain⟨k,g⟩:=sk.1 f.1;obtain⟨j,l⟩:=sk.1 f.2;have b:=(VK g).1;have d:=(Y8 l).1;rw[Lf e g (Zv b) l<|Zv d];split
 ·exact h
 refine⟨h.v,h.Z5 j (· +1),λq a=>?_⟩;rcases List.mem_append.1 a with a|a
 ·exact h.p q a
 rw[pi.1 a];exact⟨h.v _<|Zt b,h.c _<|Zt d⟩
def Nm.rP(h:Nm H)(k:Nat)(L:Sv):Nm (WQ k H L).1:=by
 unfold WQ;split
 ·exact h
 ·exact h.start ..
 ·unfold Yl;cases H.Tk with
  |none=>exact h
  |some i=>
   dsimp only
   repeat' split
   all_goals first|exact h|exact(Nm.Zh h).WT|exact h.WT
 ·unfold Sz;cases H.Tk with
  |none=>exact h
  |some i=>exact(Nm.Zh h).WT
 ·refine h.about λi=>?_
  unfold Wi;split<;>dsimp only<;>first|exact h|exact Nm.Zh h
 ·refine h.about λi=>?_
  unfold Tu;split<;>dsimp only<;>first|exact h|exact Nm.Zh h
 ·unfold Tw;dsimp only;split
  ·rename_i b;have d:YA L.Yb=true:=by
    rw[ZW]at b;cases a:YA L.Yb with
    |true=>rfl
    |false=>rw[a,Zn C]at b;exact absurd b C
   refine⟨h.v,λq a=>?_,h.p⟩;rcases List.mem_append.1 a with a|a
   ·exact h.c q a
   rw[pi.1 a];exact Ma d
  exact h
 ·unfold XZ;repeat' split
  all_goals first|exact h|exact⟨h.v,h.Z5 _ λ_=>0,h.p⟩
 ·refine h.about λi=>?_
  unfold WU;split<;>dsimp only<;>first|exact h|exact Nm.Zh h
 ·refine h.about λi=>?_
  unfold Xz;dsimp only;repeat' split
  all_goals dsimp only
  all_goals first|exact h|exact(Nm.Zh h).Yz|exact Nm.Zh h
 ·unfold XX;dsimp only;split
  ·exact h
  split
  ·exact h
  rename_i e _;refine⟨λq a=>?_,h.c,h.p⟩;rcases List.mem_append.1 a with a|a
  ·exact h.v q a
  rw[pi.1 a];exact Ma (by simpa using e)
 ·refine h.about λi=>?_
  unfold Xe;dsimp only;split<;>exact⟨h.v,h.c,h.p⟩
 unfold Wo;split<;>exact⟨h.v,h.c,h.p⟩
def Nm.enter(h:Nm H){x:Entry}(h0:(Za H x).2=0):Nm (Za H x).1:=by
 unfold Za at h0⊢;split at h0
 ·split<;>first|exact h|contradiction
 rename_i a;rw[Zm a];split
 ·split
  ·exact h
  dsimp only;split
  ·exact h.rP ..
  have m:=h.rP (by assumption) (Yn x.text).1;exact⟨m.v,m.c,m.p⟩
 exact h
end
def bz(h:(Z2 n l).2.2=0):Nm (Z2 n l).1:=CT Nm (λ_ _ _=>⟨λq a=>(by cases a),λq a=>(by cases a),λq a=>(by cases a)⟩) (λH x b e=>b.enter e) h
