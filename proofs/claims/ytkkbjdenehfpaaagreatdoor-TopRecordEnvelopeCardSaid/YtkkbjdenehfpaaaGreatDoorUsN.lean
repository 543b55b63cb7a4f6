import Derived.Test.YtkkbjdenehfpaaaGreatDoorUoN
set_option linter.all false
open List renaming length->R
namespace Go.Proofs.Z_
open Go.Ab
def dM:∀l:ba,32∈l->∃i,∃hi:i<R l,l[i]=32/\∀j (a:j<i),¬l[j]=32
 |[],h=>by cases h
 |b::l,h=>by
  by_cases c:b=32
  ·exact⟨0,F,c,λj a=>absurd a<|bπ j⟩
  rcases sf.1 h with e|h
  ·exact absurd e.symm c
  obtain⟨i,hi,e,d⟩:=dM l h;refine⟨i+1,by simpa using hi,by simpa using e,λj a=>?_⟩;cases j with
  |zero=>exact c
  |succ j=>have:=d j I;simpa using this
def mQ{w l:ba}(hw:∀b∈w,¬b=32):l.take (R w+1)=w++[32]↔(ZQ 32 l).1=w/\(ZQ 32 l).2.2=true:=by
 constructor
 ·intro h;have g:R w<R l:=by
   have:=rn List.length h;rw[sc,Zs,R0]at this;omega
  have m:∀(j:Nat)(a:j<R w+1),l[j]?=(w++[32])[j]?:=λj a=>by
   rw[←h,List.getElem?_take_of_lt a]
  have e:=ku (l:=l) (i:=R w) g (λj a=>by
   have q:=m j I;rw[Zv I,m6 a,Zv a]at q;rw[aγ q];exact hw _<|Zt a) (by
   have q:=m (R w) I;rw[Zv g,aκ<|Zq _,dδ]at q;exact aγ q)
  rw[e];refine⟨?_,rfl⟩;have:=rn (List.take<|R w) h;rw[ra,Nat.min_eq_left I,aε<|Zq _,List.take_length]at this;exact this
 intro ⟨f,n⟩;by_cases h0:32∈l
 ·obtain⟨k,c,d,o⟩:=dM l h0;rw[ku c o d]at f;have qk:R w=k:=by rw[←f,sc];omega
  rw[qk,mv c,d,←f]
 rw[Nz<|xQ λj a q=>h0<|q▸Zt a]at n;cases n
def begW(w t:ba):Bool:=decide<|t.take (R w+1)=w++[32]
def z8:∀(l:List Entry)(H:Z6)(i:Nat)(x:Entry),(runT H i<|l++[x]).2.2=0->(runT H i l).2.2=0/\(Za (runT H i l).1 x).2=0/\(runT H i<|l++[x]).1=(Za (runT H i l).1 x).1
 |[],H,i,x,h=>by
  rw[bε,runT]at h⊢;by_cases e:(Za H x).2=0
  ·rw[Zm<|Zp e];exact⟨rfl,e,rfl⟩
  rw[Zn e]at h;exact absurd h e
 |y::l,H,i,x,h=>by
  rw[H5,runT]at h⊢;by_cases e:(Za H y).2=0
  ·rw[Zm<|Zp e]at h⊢;rw[runT,Zm<|Zp e];exact z8 l _ _ x h
  rw[Zn e]at h;exact absurd h e
def Aq{n:Net}{l:List Entry}(h:(Z2 n l).2.2=0){i:Nat}(hi:i<R l):(Za (Z2 n<|l.take i).1 l[i]).2=0/\(Z2 n<|l.take<|i+1).1=(Za (Z2 n<|l.take i).1 l[i]).1:=by
 have a:=UP h<|i+1;obtain⟨_,_,b⟩:=Ur a;obtain⟨_,_,c⟩:=Ur<|UP h i;rw[b]at a⊢;rw[c];rw[mv hi]at a⊢;exact(z8 _ _ _ _ a).2
