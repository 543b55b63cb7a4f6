import Derived.Test.YtkkbjdenehfpaaaGreatDoorUo
set_option linter.all false
open List renaming length->R
namespace Go.Proofs.Z_
open Go.Ab
def dM:∀l:ba,32∈l->∃i,∃hi:i<R l,l[i]=32/\∀j (a:j<i),¬l[j]=32
 |[],h=>by cases h
 |b::l,h=>by
  by_cases c:b=32
  ·exact⟨0,F,c,λj a=>absurd a<|bπ j⟩
  rcases sf.1 h with e|h
  ·exact absurd e.symm c
  obtain⟨i,hi,e,d⟩:=dM l h;refine⟨i+1,by simpa using hi,by simpa using e,λj a=>?_⟩;cases j with
  |zero=>exact c
  |succ j=>have:=d j I;simpa using this
def mQ{w l:ba}(hw:∀b∈w,¬b=32):l.take (R w+1)=w++[32]↔(ZQ 32 l).1=w/\(ZQ 32 l).2.2=true:=by
 constructor
 ·intro h;have g:R w<R l:=by
   have:=rn List.length h;rw[sc,Zs,R0]at this;omega
  have m:∀(j:Nat)(a:j<R w+1),l[j]?=(w++[32])[j]?:=λj a=>by
   rw[←h,List.getElem?_take_of_lt a]
  have e:=ku (l:=l) (i:=R w) g (λj a=>by
   have q:=m j I;rw[Zv I,m6 a,Zv a]at q;rw[aγ q];exact hw _<|Zt a) (by
   have q:=m (R w) I;rw[Zv g,aκ<|Zq _,dδ]at q;exact aγ q)
  rw[e];refine⟨?_,rfl⟩;have:=rn (List.take<|R w) h;rw[ra,Nat.min_eq_left I,aε<|Zq _,List.take_length]at this;exact this
 intro ⟨f,n⟩;by_cases h0:32∈l
 ·obtain⟨k,c,d,o⟩:=dM l h0;rw[ku c o d]at f;have qf:R w=k:=by rw[←f,sc];omega
  rw[qf,mv c,d,←f]
 rw[Nz<|xQ λj a q=>h0<|q▸Zt a]at n;cases n
def begW(w t:ba):Bool:=decide<|t.take (R w+1)=w++[32]
def z8:∀(l:List Entry)(H:Z6)(i:Nat)(x:Entry),(runT H i<|l++[x]).2.2=0->(runT H i l).2.2=0/\(Za (runT H i l).1 x).2=0/\(runT H i<|l++[x]).1=(Za (runT H i l).1 x).1
 |[],H,i,x,h=>by
  rw[bε,runT]at h⊢;by_cases e:(Za H x).2=0
  ·rw[Zm<|Zp e];exact⟨rfl,e,rfl⟩
  rw[Zn e]at h;exact absurd h e
 |y::l,H,i,x,h=>by
  rw[H5,runT]at h⊢;by_cases e:(Za H y).2=0
  ·rw[Zm<|Zp e]at h⊢;rw[runT,Zm<|Zp e];exact z8 l _ _ x h
  rw[Zn e]at h;exact absurd h e
def Aq{n:Net}{l:List Entry}(h:(Z2 n l).2.2=0){i:Nat}(hi:i<R l):(Za (Z2 n<|l.take i).1 l[i]).2=0/\(Z2 n<|l.take<|i+1).1=(Za (Z2 n<|l.take i).1 l[i]).1:=by
 have a:=UP h<|i+1;obtain⟨_,_,b⟩:=Ur a;obtain⟨_,_,c⟩:=Ur<|UP h i;rw[b]at a⊢;rw[c];rw[mv hi]at a⊢;exact(z8 _ _ _ _ a).2
def Z6.Un(H:Z6):Prop:=(∀i j,i<R H.parts->j<R H.parts->(H.p i).place=0->(H.p j).place=0->i=j)/\∀j,j<R H.parts->0<=(H.p j).num/\(H.p j).num<=1000000
def Mv.un{H f:Z6}{s:Bool}(m:Mv H f s)(h:H.Un):f.Un:=by
 have vv:∀k,k<R H.parts->(f.p k).place=0->(H.p k).place=0:=λk l e=>by
  have:=m.old k l;unfold PlOk at this;omega
 have g:=m.len;have a:∀k,k<R f.parts->¬k<R H.parts->s=true/\k=R H.parts:=λk l q=>by
  cases s with
  |false=>simp at g;omega
  |true=>simp at g;exact⟨rfl,I⟩
 refine⟨λi j hi d o n=>?_,λj d=>?_⟩
 ·by_cases c:i<R H.parts<;>by_cases b:j<R H.parts
  ·exact h.1 i j c b (vv i c o)<|vv j b n
  ·exact absurd (vv i c o)<|(m.new (a j d b).1).2 i c
  ·exact absurd (vv j b n)<|(m.new (a i hi c).1).2 j b
  rw[(a i hi c).2,(a j d b).2]
 by_cases b:j<R H.parts
 ·rw[m.nm j b];exact h.2 j b
 rw[(a j d b).2];exact(m.new (a j d b).1).1.2
def gJ{n:Net}{l:List Entry}(h:(Z2 n l).2.2=0):(Z2 n l).1.Un:=CT Z6.Un (λ_ _ _=>⟨λi _ hi=>absurd hi<|bπ i,λj b=>absurd b<|bπ j⟩) (λH x a e=>by
 obtain⟨k,_,m⟩:=Mv.enter e;exact m.un a) h
