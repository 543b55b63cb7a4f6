import Derived.Test.YtlmhpcghgjdjjaaGreatDoorFj
set_option linter.all false
namespace Go.Ab
open Go Go.Op
def dw.mk_two{P:Program}{t T am:Nat}{fs q:Array Field}(O:P.eqGuardType P.depth t=false)(A:P.underlying t=some (.struct fs))(M:P.stoodInHeld t=false)
  (u : fs.toList.map (fun f => (f.name == "_", f.type, f.offset)) = [(false, T, 0), (false, T, 2)]) (k : P.underlying T = some (.struct q)) (v : P.stoodInHeld T = false)
  (n : q.toList.map (fun f => (f.name == "_", f.type, f.offset)) = [(false, am, 0), (false, am, 1)]) (j : ∀ w, (isAgg T).run P w = .ok true w) (B : ∀ w, (sizeOf T).run P w = .ok 2 w)
  (hi:P.underlying am=some (.int .i64)) (x:∀w,(isAgg am).run P w=.ok false w):dw P t 4:=by
 have m:P.fieldsOf t=fs:=by unfold Program.fieldsOf;rw[A]
 have i:P.fieldsOf T=q:=by unfold Program.fieldsOf;rw[k]
 have l:q.toList.length=2:=by simpa using rn List.length n
 have kT:∀(a b c d:Int)(w:World),(Op.equalIn 9999 T (.agg #[.int .i64 a,.int .i64 b]) (.agg #[.int .i64 c,.int .i64 d])).run P w=.ok (decide ([a,b]=[c,d])) w:=by
  intro a b c d w;rw[run_equalIn_struct w 9998 T _ _ (by rw[i];exact k) v,i];exact Qe (d:=9997) hi x [a,b] [c,d] w rfl q.toList 0 (by rw[l];exact n) (by rw[l];rfl) rfl
 have key:∀(xs g:bd)(w:World),xs.length=4->g.length=4->(Op.equalIn 10000 t (.agg (xs.map (Value.int .i64)).toArray) (.agg (g.map (Value.int .i64)).toArray)).run P w=.ok (decide (xs=g)) w:=by
  intro xs g w p o;rw[run_equalIn_struct w 9999 t _ _ (by rw[m];exact A) M,m]
  match xs,g,p,o with
  |[a,b,c,d],[a',b',c',d'],_,_=>
   generalize fs.toList=L at u;obtain⟨s,r,rfl⟩:∃s r,L=[s,r]:=by
    have N:L.length=2:=by simpa using rn List.length u
    match L,N with
    |[s,r],_=>exact⟨s,r,rfl⟩
   simp only[ta,H2,v6,aψ,and_true]at u;obtain⟨⟨z,D,K⟩,y,C,J⟩:=u;have I:∀(a b c d:Int)(w:World),(part T ([a,b,c,d].map (Value.int .i64)).toArray 0).run P w=.ok (.agg #[.int .i64 a,.int .i64 b]) w:=by
    intro a b c d w;simp[part,j,B]
   have H:∀(a b c d:Int)(w:World),(part T ([a,b,c,d].map (Value.int .i64)).toArray 2).run P w=.ok (.agg #[.int .i64 c,.int .i64 d]) w:=by
    intro a b c d w;simp[part,j,B]
   have S : (s.name != "_") = true := by simp only [bne, z]; rfl
   have Q : (r.name != "_") = true := by simp only [bne, y]; rfl
   simp only[Op.eqFields,D,K,C,J];rw[Zn (by simpa using z)];simp only[Sem.run_bind,I,Result.andThen_ok,kT];by_cases h:[a,b]=[a',b']
   ·simp only[v6,and_true]at h;obtain⟨rfl,rfl⟩:=h;rw[Zm F,Zn (by simpa using y)];simp only[Sem.run_bind,H,Result.andThen_ok,kT];by_cases G:c=c'<;>by_cases E:d=d'<;>simp[G,E]
   rw[Zn (by rw[Zy h];rfl)];simp only[Sem.run_pure];rw[Zy fun e=>h (by simp_all)]
 refine⟨O,fun xs g w p o=>?_,fun xs g w p o=>?_⟩
 ·rw[run_eql_struct,key xs g w p o];rfl
 rw[run_neq_struct,key xs g w p o];simp[Result.andThen]
