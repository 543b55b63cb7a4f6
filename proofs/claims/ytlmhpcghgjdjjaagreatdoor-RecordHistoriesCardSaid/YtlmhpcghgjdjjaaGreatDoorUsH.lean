import Derived.Test.YtlmhpcghgjdjjaaGreatDoorUoH
set_option linter.all false
namespace Go.Proofs.Z_
open Go.Ab
def z8:∀(l:List Entry)(H:Z6)(i:Nat)(x:Entry),(runT H i<|l++[x]).2.2=0->(runT H i l).2.2=0/\(Za (runT H i l).1 x).2=0/\(runT H i<|l++[x]).1=(Za (runT H i l).1 x).1
 |[],H,i,x,h=>by
  rw[bε,runT]at h⊢;by_cases e:(Za H x).2=0
  ·rw[Zm<|Zp e];exact⟨rfl,e,rfl⟩
  rw[Zn e]at h;exact absurd h e
 |y::l,H,i,x,h=>by
  rw[H5,runT]at h⊢;by_cases e:(Za H y).2=0
  ·rw[Zm<|Zp e]at h⊢;rw[runT,Zm<|Zp e];exact z8 l _ _ x h
  rw[Zn e]at h;exact absurd h e
def Aq{n:Net}{l:List Entry}(h:(Z2 n l).2.2=0){i:Nat}(hi:i<l.length):(Za (Z2 n<|l.take i).1 l[i]).2=0/\(Z2 n<|l.take<|i+1).1=(Za (Z2 n<|l.take i).1 l[i]).1:=by
 have a:=UP h<|i+1;obtain⟨_,_,b⟩:=Ur a;obtain⟨_,_,c⟩:=Ur<|UP h i;rw[b]at a⊢;rw[c];rw[mv hi]at a⊢;exact(z8 _ _ _ _ a).2
def st_at(H:Z6)(j:Nat)(b:j<H.st.parts.length):∃a:j<H.parts.length,H.st.parts[j]=H.p j:=by
 have a:j<H.parts.length:=by
  have:H.st.parts.length=H.parts.length:=Zx ..;omega
 refine⟨a,?_⟩;rw[Qp<|Zv a];exact bκ ..
