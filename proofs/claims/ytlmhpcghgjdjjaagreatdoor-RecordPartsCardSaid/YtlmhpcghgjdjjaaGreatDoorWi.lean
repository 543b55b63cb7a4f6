import Derived.Test.YtlmhpcghgjdjjaaGreatDoorWa
set_option linter.all false
open List renaming length->R
namespace Go.Proofs.Z9
open Go.Ab Tryz
set_option maxRecDepth 9999
def eL(t n:Int):Int:=if 0<=t/\t<=(n - 1).tdiv 2 then 0 else 2
def wA{n:Int}(a: -1000000000000<=n/\n<=1000000000000): -9223372036854775808<=(n - 1).tdiv 2/\(n - 1).tdiv 2<=9223372036854775807:=by
 grind
def FE:Nat->Int->Int->Int
 |0,a,_=>a
 |f+1,a,b=>if b=0 then a else FE f b (a.tmod b)
def HL(a b:Int):Int:=FE (b.toNat+1) a b
def UW:∀(f g:Nat)(a b:Int),0<=a->0<=b->b.toNat<f->b.toNat<g->FE f a b=FE g a b
 |0,_,_,_,_,_,h,_=>by omega
 |_+1,0,_,_,_,_,_,h=>by omega
 |f+1,g+1,a,b,ha,hb,h1,h2=>by
  simp only[FE];split
  ·rfl
  have c:0<=a.tmod b:=bη b ha;have d:a.tmod b<b:=bδ a I;exact UW f g b (a.tmod b) hb c I I
theorem Yq{a b:Int}(d:0<=a)(c:0<=b)(h:b≠0):HL a b=HL b (a.tmod b):=by
 have e:0<=a.tmod b:=bη b d;have f:a.tmod b<b:=bδ a I;rw[HL,FE,Zm h];exact UW _ _ _ _ c e I I
theorem Tr(a:Int):HL a 0=a:=by rfl
def RS:∀(f:Nat)(a b:Int),0<a->0<=b->b.toNat<f->0<HL a b
 |0,_,_,_,_,h=>by omega
 |f+1,a,b,ha,hb,h=>by
  by_cases h0:b=0
  ·simp_all[Tr]
  rw[Yq I hb h0];have c:0<=a.tmod b:=bη b I;have d:a.tmod b<b:=bδ a I;exact RS f b (a.tmod b) I c I
def jg(p:bC)(r:aX):Int:=if(gB p r).2≠0 then(gB p r).2 else if(R (wB r))=0 then 0 else 14
def kU(p:bC)(l:List aX):Int:=if R l=0 then 10 else if 20<R l then 8 else(aK (fun _ r=>jg p r) 0 l).2
def gv(p:bC)(l:List aX):Int:=if bA p≠0 then bA p else kU p l
def mc{p:bC}{r:aX}(h:(gB p r).2=0):(R r.rows:Int)=p.aR:=by
 grind [gB]
def jc{p:bC}(h:bA p=0):1<=R p.aq/\R p.aq<=4/\1<=p.aR/\p.aR<=12/\(aK (cj p.aq) 0 p.aq).2=0:=by
 unfold bA planChk at h;grind
def tg{t n:Int}(a:1<=n)(h:eL t n=0):0<=t/\2 * t<=n - 1:=by
 grind [eL]
def oR{t n:Int}(a: -1000000000000<=n/\n<=1000000000000):Ct prog 273 [bv t,bv n] (bv (eL t n)):=by
 refine cI func273 O (Ro 10 O I ?_);refine kc (S.quo .none O (zt O) (.af O) C (mn _ (wA a)) (mn _ (wA a))) (kc (zK dJ call247 O) (kc (zK aT call243 O) ?_));refine rr 3 O (kR O O ?_);exact cy ff
def wC{p:bC}{i:Nat}{r:aX}(b:bA p=0):Ct prog 322 [bv i,.agg r.cs,.b5 p.cs] (bv (jg p r)):=by
 refine cI func322 O (ro 11 O (kc (zK lI call301 O) (rr 13 O (kB O (fun a=>?_) (fun a=>?_)))))
 ·refine ro 6 O (kR O O ?_);refine cy ?_;rw[jg,Zn a]
 refine ro 5 O ?_;refine kc (zK (wD (by have:=jc b;have:=mc (p:=p) (r:=r) I;omega)) call258 O) ?_;refine kc (zk Z4 O) (kc (zE O O) (kc (zK aT call243 O) (rr 3 O (kR O O ?_))));refine cy ?_;rw[jg,Zm a,ff];split<;>split<;>omega
def pg{p:bC}{l:List aX}:Ct prog 272 [.agg p.cs,.sl (l.map aX.cs)] (.cf [.agg p.cs,bv (gv p l)]):=by
 refine cI func272 O (ro 10 O (kc (zK ng call254 O) (rr 13 O (kc (zk Yd O) (kc (S.gtr .none O (zt O) (.af O)) (kc (zK aT call243 O) (jm O (kc (zk Yd O) (kc (S.leq .none O (zt O) (.af O)) (kc (zK aT call243 O) ?_))))))))));refine RK.c (zM [[_],[_],[_]] Zc O O O O) (kc (S.callL (cC (l:=[_,_,_])) call242 .none O (zc O .nil) (.cons (.p (.own O O) O) .nil) O) ?_);refine rr 9 O (kB O (fun a=>?_) (fun a=>?_))
 ·refine ro 8 O (kT O O Q3 O O O ?_);refine rn (fun z=>X.cf [.agg p.cs,bv z]) ?_;rw[gv];rw[y4]at a⊢;simp only[ff,kU]at a⊢
  repeat' split at a
  all_goals (repeat' split)
  all_goals omega
 rw[y4]at a;have b:bA p=0:=by
  split at a
  ·contradiction
  omega
 have d:R l≠0/\¬20<R l:=by
  rw[b]at a;simp only[ff]at a
  repeat' split at a
  all_goals omega
 refine ro 5 O (kc (S.dx .none O (zt O) O) ?_);refine kc (S.callL (wE (l:=l) (g:=fun _ r=>jg p r) (caps:=[.b5 p.cs]) (fun i x _=>wC b) call322 ⟨O,O⟩) call321 .none O (zc O (zc O .nil)) (.cons (.same O) (.cons (.fn (.cons (.ptr O O O O) .nil)) .nil)) O) ?_;refine rr 14 O (kT O O Q3 O O O ?_);refine rn (fun z=>X.cf [.agg p.cs,bv z]) ?_;rw[gv,Zm I,kU,Zm I,Zm d.2]
