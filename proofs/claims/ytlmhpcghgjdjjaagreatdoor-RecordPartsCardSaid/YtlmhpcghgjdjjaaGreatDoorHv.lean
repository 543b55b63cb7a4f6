import Derived.Test.YtlmhpcghgjdjjaaGreatDoorFj
set_option linter.all false
namespace Go.Ab
open Go Go.Op
def Hf.AS{P:Program}{t T am:Nat}{fs r:Array Field}(O:P.eqGuardType P.depth t=false)(B:P.underlying t=some (.struct fs))(M:P.stoodInHeld t=false)
  (v : fs.toList.map (fun f => (f.name == "_", f.type, f.offset)) = [(false, T, 0), (false, T, 2)]) (k : P.underlying T = some (.struct r)) (x : P.stoodInHeld T = false)
  (o : r.toList.map (fun f => (f.name == "_", f.type, f.offset)) = [(false, am, 0), (false, am, 1)]) (j : ∀ w, (isAgg T).run P w = .ok true w) (l : ∀ w, (sizeOf T).run P w = .ok 2 w)
  (hi:P.underlying am=some (.int .i64)) (y:∀w,(isAgg am).run P w=.ok false w):Hf P t 4:=by
 have n:P.fieldsOf t=fs:=by unfold Program.fieldsOf;rw[B]
 have i:P.fieldsOf T=r:=by unfold Program.fieldsOf;rw[k]
 have m:r.toList.length=2:=by simpa using rn List.length o
 have kT:∀(a b c d:Int)(w:World),(Op.equalIn 9999 T (.agg #[.int .i64 a,.int .i64 b]) (.agg #[.int .i64 c,.int .i64 d])).run P w=.ok (decide ([a,b]=[c,d])) w:=by
  intro a b c d w;rw[run_equalIn_struct w 9998 T _ _ (by rw[i];exact k) x,i];exact lC (d:=9997) hi y [a,b] [c,d] w rfl r.toList 0 (by rw[m];exact o) (by rw[m];rfl) rfl
 have key:∀(xs g:bd)(w:World),xs.length=4->g.length=4->(Op.equalIn 10000 t (.agg (xs.map (Value.int .i64)).toArray) (.agg (g.map (Value.int .i64)).toArray)).run P w=.ok (decide (xs=g)) w:=by
  intro xs g w q p;rw[run_equalIn_struct w 9999 t _ _ (by rw[n];exact B) M,n]
  match xs,g,q,p with
  |[a,b,c,d],[a',b',c',d'],_,_=>
   generalize fs.toList=L at v;obtain⟨u,s,rfl⟩:∃u s,L=[u,s]:=by
    have N:L.length=2:=by simpa using rn List.length v
    match L,N with
    |[u,s],_=>exact⟨u,s,rfl⟩
   simp only[ta,H2,v6,aψ,and_true]at v;obtain⟨⟨A,D,K⟩,z,C,J⟩:=v;have I:∀(a b c d:Int)(w:World),(part T ([a,b,c,d].map (Value.int .i64)).toArray 0).run P w=.ok (.agg #[.int .i64 a,.int .i64 b]) w:=by
    intro a b c d w;simp[part,j,l]
   have H:∀(a b c d:Int)(w:World),(part T ([a,b,c,d].map (Value.int .i64)).toArray 2).run P w=.ok (.agg #[.int .i64 c,.int .i64 d]) w:=by
    intro a b c d w;simp[part,j,l]
   have S : (u.name != "_") = true := by simp only [bne, A]; rfl
   have Q : (s.name != "_") = true := by simp only [bne, z]; rfl
   simp only[Op.eqFields,D,K,C,J];rw[Zn (by simpa using A)];simp only[Sem.run_bind,I,Result.andThen_ok,kT];by_cases h:[a,b]=[a',b']
   ·simp only[v6,and_true]at h;obtain⟨rfl,rfl⟩:=h;rw[Zm F,Zn (by simpa using z)];simp only[Sem.run_bind,H,Result.andThen_ok,kT];by_cases G:c=c'<;>by_cases E:d=d'<;>simp[G,E]
   rw[Zn (by rw[Zy h];rfl)];simp only[Sem.run_pure];rw[Zy fun e=>h (by simp_all)]
 refine⟨O,fun xs g w q p=>?_,fun xs g w q p=>?_⟩
 ·rw[run_eql_struct,key xs g w q p];rfl
 rw[run_neq_struct,key xs g w q p];simp[Result.andThen]
