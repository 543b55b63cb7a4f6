import Derived.Test.YtpbalelbenmmbaaGreatDoorHz
import Derived.Test.YtpbalelbenmmbaaGreatDoorWk
namespace Go.Proofs.YtpbalelbenmmbaaGreatDoor
open Go.Ab
def devBy(n:Int)(o:Range):Int:=(if 0<n - o.hi then n - o.hi else 0)+(if n - o.lo<0 then n - o.lo else 0)
def devOne(t:Nat)(rs:List Range)(c:Nat)(n:Int):List Deviation:=if devBy n (rs.getD c ⟨0,0⟩)≠0 then [⟨t,c,devBy n (rs.getD c ⟨0,0⟩)⟩]else []
def devRow(t:Nat)(rs:List Range):Nat→List Int→List Deviation
 |_,[]=>[]
 |c,n::l=>devOne t rs c n++devRow t rs (c+1) l
def devGo(x:Envelope):Nat→List Row→List Deviation
 |_,[]=>[]
 |t,r::l=>devRow t (x.rows.getD t []) 0 r.values++devGo x (t+1) l
def devT(x:Envelope)(r:Record):List Deviation:=devGo x 0 r.rows
theorem devRow_drop{t:Nat}{rs:List Range}{l:List Int}{j:Nat}(h:j<l.length):devRow t rs j (l.drop j)=devOne t rs j l[j]++devRow t rs (j+1) (l.drop (j+1)):=by
 rw[List.drop_eq_getElem_cons h,devRow]
theorem devGo_drop{x:Envelope}{l:List Row}{i:Nat}(h:i<l.length):devGo x i (l.drop i)=devRow i (x.rows.getD i []) 0 l[i].values++devGo x (i+1) (l.drop (i+1)):=by
 rw[List.drop_eq_getElem_cons h,devGo]
theorem getD_at{α:Type}{l:List α}{i:Nat}{d:α}(h:i<l.length):l.getD i d=l[i]:=by simp[List.getD,h]
structure FitT(x:Envelope)(r:Record):Prop where
 rows:∀(i:Nat),i<r.rows.length→i<x.rows.length
 cols:∀(i:Nat)(h:i<r.rows.length)(h2:i<x.rows.length)(j:Nat),j<r.rows[i].values.length→j<x.rows[i].length
 val:∀(i:Nat)(h:i<r.rows.length)(j:Nat)(h3:j<r.rows[i].values.length), -1000000≤r.rows[i].values[j]∧r.rows[i].values[j]≤1000000
 rng:∀(i:Nat)(h2:i<x.rows.length)(j:Nat)(h3:j<x.rows[i].length),(-1000000≤x.rows[i][j].lo∧x.rows[i][j].lo≤1000000)∧(-1000000≤x.rows[i][j].hi∧x.rows[i][j].hi≤1000000)
theorem cb_at{P:Program}{σ α:Type}{encs:α→List X}{D pre rest:List α}{d:α}{J:σ→Mem→(Nat→Prop)→World→Prop}{g:σ→α→σ×Bool}{s0:σ}{Φ:Value→Prop}
  (hcb:∀v,Φ v→∀(i:Nat)(x:α),D[i]?=some x→(iterG g s0 (D.take i)).2=true→CbOk P v (encs x) (.bool (g (iterG g s0 (D.take i)).1 x).2) (J (iterG g s0 (D.take i)).1) (J (g (iterG g s0 (D.take i)).1 x).1))
  (hD:D=pre++d::rest) (hrun:(iterG g s0 pre).2=true):∀v,Φ v→CbOk P v (encs d) (.bool (g (iterG g s0 pre).1 d).2) (J (iterG g s0 pre).1) (J (g (iterG g s0 pre).1 d).1):=by
 intro v hv
 have ht:D.take pre.length=pre:=by rw[hD];simp
 have:=hcb v hv pre.length d (by rw[hD];simp) (by rw[ht];exact hrun)
 rw[ht]at this
 exact this
theorem iter_stop{σ α:Type}{g:σ→α→σ×Bool}{s0:σ}{d:α}{rest:List α}:∀{pre:List α},(iterG g s0 pre).2=true→(g (iterG g s0 pre).1 d).2=false→iterG g s0 (pre++d::rest)=((g (iterG g s0 pre).1 d).1,false):=by
 intro pre
 induction pre generalizing s0 with
 |nil=>
  intro _ h2
  simp only[iterG]at h2
  simp only[List.nil_append,iterG,h2]
  simp
 |cons x pre ih=>
  intro h1 h2
  simp only[iterG]at h1 h2
  simp only[List.cons_append,iterG]
  split at h1
  ·rename_i hx;simp only[hx,if_true]at h2⊢;exact ih h1 h2
  ·cases h1
theorem iter_go{σ α:Type}{g:σ→α→σ×Bool}{s0:σ}{d:α}{pre:List α}(h1:(iterG g s0 pre).2=true)(h2:(g (iterG g s0 pre).1 d).2=true):iterG g s0 (pre++[d])=((g (iterG g s0 pre).1 d).1,true):=by
 rw[iterG_snoc,if_pos h1]
 exact Prod.ext rfl h2
theorem lk_res{J J':Mem→(Nat→Prop)→World→Prop}(h:J=J'):some (X.res J)=some (X.res J'):=by rw[h]
abbrev DevCb(σ:Type)(J:σ→Mem→(Nat→Prop)→World→Prop)(g:σ→Deviation→σ×Bool)(s0:σ)(Φ:Value→Prop)(D:List Deviation):Prop:=
 ∀v,Φ v→∀(i:Nat)(x:Deviation),D[i]?=some x→(iterG g s0 (D.take i)).2=true→CbOk Tryz.prog v [.agg x.cs] (.bool (g (iterG g s0 (D.take i)).1 x).2) (J (iterG g s0 (D.take i)).1) (J (g (iterG g s0 (D.take i)).1 x).1)
theorem devBy_bd{n:Int}{o:Range}(h1: -1000000≤n∧n≤1000000)(h2:(-1000000≤o.lo∧o.lo≤1000000)∧(-1000000≤o.hi∧o.hi≤1000000)): -4000000≤devBy n o∧devBy n o≤4000000:=by
 unfold devBy
 split<;>split<;>omega
theorem mon_devs1{x:Envelope}{r:Record}(hf:FitT x r)(hrl:r.rows.length≤100000)(hvl:∀(i:Nat)(h:i<r.rows.length),r.rows[i].values.length≤100000){σ:Type}(J:σ→Mem→(Nat→Prop)→World→Prop)(g:σ→Deviation→σ×Bool)(s0:σ)(Φ:Value→Prop)(hst:∀s,Stable (J s))(hcb:DevCb σ J g s0 Φ (devT x r)):CtG Tryz.prog 327 [] [.cb Φ,.eptr r.cs,.eptr x.cs] [(3000,.res (J s0))] [(3000,.res (J (iterG g s0 (devT x r)).1))] (.tup []):=by
 refine CtG.intro (rs:=[]) Tryz.func327 rfl Tryz.ntmps327 Tryz.results327 rfl rfl rfl rfl fun w h=>?_
 refine kr (kc (S.field fi223_0 .none rfl (zt rfl) rfl) (kc (zV ti221 rfl rfl) (kc (zk si221 rfl) (kc (S.move .none rfl (.cint rfl)) (kD (OK.block (OK.loop2 [] (fun(i:Nat)(pre:List Deviation)=>[(0,.cb Φ),(1,.eptr r.cs),(2,.eptr x.cs),(11,.sl (r.rows.map Row.cs)),(12,.int .i64 r.rows.length),(13,.int .i64 i),(3000,.res (J (iterG g s0 pre).1))]) (fun i pre=>i≤r.rows.length∧(iterG g s0 pre).2=true∧devT x r=pre++devGo x i (r.rows.drop i)) (fun i pre=>r.rows.length - i) (0) ([]) ⟨Nat.zero_le _,rfl,rfl⟩ ⟨rfl,rfl,rfl,rfl,rfl,rfl,rfl,trivial⟩ (fun _ _=>rfl) ?_)))))))
 rintro i pre ⟨hi,hrun,hD⟩
 refine kr (kc (S.lss .none rfl (zt rfl) (zt rfl)) (kD (kO (kB rfl (fun c14=>?_) (fun c14=>?_)))))
 ·
  have hix:i<x.rows.length:=hf.rows i (by omega)
  have hvli:=hvl i (by omega)
  refine OK.skip (Ab.D.code (kO (OK.block (kr (kc (zm rfl) (kc (S.indexM si221 .none rfl (zt rfl) (zt rfl) rfl (by omega) rfl) (kc (S.loadN ti303 .none rfl (zt rfl) rfl rfl) (RK.c (zA (c:=5) ze303 rfl) (kc (za rfl) (kc (zS ti303 rfl rfl rfl rfl rfl rfl) (kq ?_)))))))))))
  refine kc (zf fi303_1 rfl) (kc (zl ti47 rfl rfl rfl rfl) (kc (zk si47 rfl) (kc (S.move .none rfl (.cint rfl)) (kD (OK.block ?_)))))
  refine OK.loop2 [] (fun(j:Nat)(pre:List Deviation)=>[(0,.cb Φ),(1,.eptr r.cs),(2,.eptr x.cs),(4,.int .i64 i),(11,.sl (r.rows.map Row.cs)),(12,.int .i64 r.rows.length),(13,.int .i64 i),(19,ints r.rows[i].values),(20,.int .i64 r.rows[i].values.length),(21,.int .i64 j),(3000,.res (J (iterG g s0 pre).1))]) (fun j pre=>j≤r.rows[i].values.length∧(iterG g s0 pre).2=true∧devT x r=pre++(devRow i (x.rows.getD i []) j (r.rows[i].values.drop j)++devGo x (i+1) (r.rows.drop (i+1)))) (fun j pre=>r.rows[i].values.length - j) (0) (pre) ⟨Nat.zero_le _,hrun,by rw[hD,devGo_drop (by omega)];rfl⟩ ⟨rfl,rfl,rfl,rfl,rfl,rfl,rfl,rfl,rfl,rfl,rfl,trivial⟩ (fun _ _=>rfl) ?_
  rintro j pre ⟨hj,hrun2,hD2⟩
  refine kr (kc (S.lss .none rfl (zt rfl) (zt rfl)) (kD (kO (kB rfl (fun c22=>?_) (fun c22=>?_)))))
  ·
   have hjx:j<x.rows[i].length:=hf.cols i (by omega) hix j (by omega)
   have hv1:=hf.val i (by omega) j (by omega)
   have hr1:=hf.rng i hix j hjx
   have hbd:=devBy_bd hv1 hr1
   have hrow:(x.rows.getD i [])=x.rows[i]:=getD_at hix
   have hone:(x.rows[i].getD j ⟨0,0⟩)=x.rows[i][j]:=getD_at hjx
   have hstep:devRow i (x.rows.getD i []) j (r.rows[i].values.drop j)=(if devBy r.rows[i].values[j] x.rows[i][j]≠0 then [⟨i,j,devBy r.rows[i].values[j] x.rows[i][j]⟩]else [])++devRow i (x.rows.getD i []) (j+1) (r.rows[i].values.drop (j+1)):=by rw[devRow_drop (by omega),devOne,hrow,hone]
   refine OK.skip (Ab.D.code (kO (OK.block (kr (kc (zm rfl) (kc (S.indexM (n:=j) si47 .none rfl (zt rfl) (zt rfl) rfl (by omega) rfl) (kc (zV ti3 rfl rfl) (kc (za rfl) (kc (za rfl) (kq (kc (S.field fi50_2 .none rfl (zt rfl) rfl) ?_)))))))))))
   refine kc (zV ti48 rfl rfl) (kc (zm rfl) (kc (S.indexM (n:=i) si48 .none rfl (zt rfl) (zt rfl) rfl hix rfl) (kc (zV ti305 rfl rfl) (kc (zm rfl) (kc (S.indexM (n:=j) si305 .none rfl (zt rfl) (zt rfl) rfl hjx rfl) (kc (S.loadN ti24 .none rfl (zt rfl) rfl rfl) (RK.c (zA (c:=8) ze24 rfl) (kc (zS ti24 rfl rfl rfl rfl rfl rfl) (kq (kc (zm rfl) (kc (zf fi24_1 rfl) ?_)))))))))))
   refine kc (zl ti3 rfl rfl rfl rfl) (kc (S.sub .none rfl (zt rfl) (zt rfl) (IntWalk.i64_in _ (by omega)) (IntWalk.i64_in _ (by omega))) (kc (S.max2 .none rfl (.cint rfl) (zt rfl)) (kc (zm rfl) (kc (zf fi24_0 rfl) (kc (zl ti3 rfl rfl rfl rfl) (kc (S.sub .none rfl (zt rfl) (zt rfl) (IntWalk.i64_in _ (by omega)) (IntWalk.i64_in _ (by omega))) (kc (S.min2 .none rfl (.cint rfl) (zt rfl)) ?_)))))))
   refine kc (S.add (q:=devBy r.rows[i].values[j] x.rows[i][j]) .none rfl (zt rfl) (zt rfl) (by show IntKind.i64.wrap (devBy _ _)=_;exact IntWalk.i64_in _ (by omega)) (IntWalk.i64_in _ (by omega))) ?_
   refine kc (za rfl) (kq (kc (zm rfl) (kc (zN rfl rfl) (kc (zm rfl) (RK.splitD (t:=47) rfl (fun g47=>?_) (fun g47=>?_))))))
   ·
    have hD3:devT x r=pre++⟨i,j,devBy r.rows[i].values[j] x.rows[i][j]⟩::(devRow i (x.rows.getD i []) (j+1) (r.rows[i].values.drop (j+1))++devGo x (i+1) (r.rows.drop (i+1))):=by rw[hD2,hstep,if_pos g47];simp
    refine kc (S.move (zg rfl rfl) rfl (zt rfl)) (kc (S.move (zg rfl rfl) rfl (zt rfl)) (kc (S.move (zg rfl rfl) rfl (zt rfl)) (kc (S.move (zg rfl rfl) rfl (zt rfl)) (kc (S.build bu410 rfl (zg rfl rfl) rfl (zc rfl (zc rfl (zc rfl .nil))) rfl rfl) (kc (S.callcb (J1:=J (g (iterG g s0 pre).1 ⟨i,j,devBy r.rows[i].values[j] x.rows[i][j]⟩).1) (cb_at hcb hD3 hrun2) (hst _) (zg rfl rfl) rfl (zt rfl) (zc rfl .nil) rfl rfl) (kc (S.not (zg rfl rfl) rfl (zt rfl)) (kc (S.pickT .none rfl (zt rfl) (zt rfl) rfl) (kD (OK.cond rfl rfl (fun c55=>?_) (fun c55=>?_))))))))))
    ·
     have hstop:(g (iterG g s0 pre).1 ⟨i,j,devBy r.rows[i].values[j] x.rows[i][j]⟩).2=false:=by simpa using c55
     exact OK.ret ⟨⟨.inl rfl,[],trivial,rfl⟩,lk_res (by rw[hD3,iter_stop hrun2 hstop]),trivial⟩
    ·
     have hcont:(g (iterG g s0 pre).1 ⟨i,j,devBy r.rows[i].values[j] x.rows[i][j]⟩).2=true:=by simpa using c55
     refine OK.skip (Ab.D.blk (Ab.D.code (OK.reg ?_)))
     refine kc (zp rfl rfl (by omega)) (kc (zm rfl) (RK.nil ?_))
     refine Ab.D.lp ⟨j+1,pre++[(⟨i,j,devBy r.rows[i].values[j] x.rows[i][j]⟩:Deviation)],⟨by omega,by first|exact hrun2|rw[iter_go hrun2 hcont],by first|(rw[hD2,hstep,if_pos g47];simp)|(rw[hD2,hstep,if_neg g47];rfl)⟩,(by omega),rfl,rfl,rfl,rfl,rfl,rfl,rfl,rfl,rfl,rfl,(lk_res (by first|rfl|rw[iter_go hrun2 hcont])),trivial⟩
   ·
    refine kc (zQ rfl rfl) (kc (zQ rfl rfl) (kc (zQ rfl rfl) (kc (zQ rfl rfl) (kc (zQ rfl rfl) (kc (zQ rfl rfl) (kc (zQ rfl rfl) (kc (S.pickF .none rfl (zt rfl) .cbool rfl) (kD (OK.condF rfl rfl rfl (OK.skip (Ab.D.blk ?_)))))))))))
    refine Ab.D.code (OK.reg ?_)
    refine kc (zp rfl rfl (by omega)) (kc (zm rfl) (RK.nil ?_))
    refine Ab.D.lp ⟨j+1,pre,⟨by omega,by first|exact hrun2|rw[iter_go hrun2 hcont],by first|(rw[hD2,hstep,if_pos g47];simp)|(rw[hD2,hstep,if_neg g47];rfl)⟩,(by omega),rfl,rfl,rfl,rfl,rfl,rfl,rfl,rfl,rfl,rfl,(lk_res (by first|rfl|rw[iter_go hrun2 hcont])),trivial⟩
  ·
   refine OK.exit rfl (Ab.D.blk (Ab.D.code (OK.reg ?_)))
   refine kc (zp rfl rfl (by omega)) (kc (zm rfl) (RK.nil ?_))
   refine Ab.D.lp ⟨i+1,pre,⟨by omega,hrun2,by rw[hD2,show j=r.rows[i].values.length by omega,List.drop_length];rfl⟩,(by omega),rfl,rfl,rfl,rfl,rfl,rfl,rfl,trivial⟩
 ·
  refine OK.exit rfl ?_
  exact⟨⟨.inr rfl,[],trivial,rfl⟩,lk_res (by rw[hD,show i=r.rows.length by omega,List.drop_length,devGo,List.append_nil]),trivial⟩
end Go.Proofs.YtpbalelbenmmbaaGreatDoor
namespace Go.Proofs.YtpbalelbenmmbaaGreatDoor
open Go.Ab
structure BothT(p:Plan)(x:Envelope)(r:Record):Prop where
 fit:FitT x r
 rows:r.rows.length≤12
 vals:∀(i:Nat)(h:i<r.rows.length),r.rows[i].values.length≤4
theorem range_ok{x:Range}(h:rangeErr x=0):((-1000000≤x.lo∧x.lo≤1000000)∧(-1000000≤x.hi∧x.hi≤1000000))∧x.lo≤x.hi:=by
 unfold rangeErr at h
 split at h
 ·cases h
 ·rename_i h1
  split at h
  ·rename_i h2;exact⟨Decidable.not_not.1 h1,h2⟩
  ·cases h
theorem env_rows{p:Plan}{x:Envelope}(h:(envChk p x).2=0):(1≤x.parts∧x.parts≤20)∧trimErr x.trim x.parts=0∧(x.rows.length:Int)=p.ticks∧(∀(i:Nat)(h:i<x.rows.length),x.rows[i].length=p.channels.length∧∀(j:Nat)(h2:j<x.rows[i].length),rangeErr x.rows[i][j]=0):=by
 unfold envChk at h
 split at h
 ·cases h
 ·rename_i h1
  split at h
  ·rename_i h2;exact absurd h h2
  ·rename_i h2
   split at h
   ·cases h
   ·rename_i h3
    refine⟨Decidable.not_not.1 h1,Decidable.not_not.1 h2,Decidable.not_not.1 h3,fun i hi=>?_⟩
    have h4:=eachGo_all _ _ 0 h i hi
    unfold erowErr at h4
    split at h4
    ·cases h4
    ·rename_i h5
     exact⟨Decidable.not_not.1 h5,fun j hj=>eachGo_all _ _ 0 h4 j hj⟩
theorem rec_rows{p:Plan}{r:Record}(h:(recChk p r).2=0):(r.rows.length:Int)=p.ticks∧∀(i:Nat)(h:i<r.rows.length),rowErr p r.rows[i]=0:=by
 unfold recChk at h
 split at h
 ·cases h
 ·rename_i h1
  exact⟨Decidable.not_not.1 h1,fun i hi=>eachGo_all _ _ 0 h i hi⟩
theorem row_ok{p:Plan}{r:Row}(h:rowErr p r=0):(r.known=true→r.values.length=p.channels.length)∧(r.known=false→r.values.length=0)∧∀(j:Nat)(h2:j<r.values.length), -1000000≤r.values[j]∧r.values[j]≤1000000:=by
 unfold rowErr at h
 split at h
 ·rename_i hk
  unfold valuesErr at h
  split at h
  ·cases h
  ·rename_i h1
   split at h
   ·rename_i h2
    exact⟨fun _=>Decidable.not_not.1 h1,(fun e=>by rw[hk]at e;cases e),fun j hj=>of_decide_eq_true (List.all_eq_true.1 h2 _ (List.getElem_mem hj))⟩
   ·cases h
 ·rename_i hk
  split at h
  ·rename_i h1
   exact⟨fun e=>absurd e hk,fun _=>h1,fun j hj=>by omega⟩
  ·cases h
theorem both_of{p:Plan}{x:Envelope}{r:Record}(h:bothErr p x r=0):BothT p x r:=by
 unfold bothErr at h
 split at h
 ·rename_i h1;exact absurd h h1
 ·rename_i h1
  split at h
  ·rename_i h2;exact absurd h h2
  ·rename_i h2
   have hp:=planErr_0 (Decidable.not_not.1 h1)
   obtain⟨_,_,e3,e4⟩:=env_rows (Decidable.not_not.1 h2)
   obtain⟨f1,f2⟩:=rec_rows h
   have hv:∀(i:Nat)(hi:i<r.rows.length),r.rows[i].values.length≤p.channels.length:=fun i hi=>by
    obtain⟨g1,g2,_⟩:=row_ok (f2 i hi)
    cases hk:r.rows[i].known with
    |true=>have:=g1 hk;omega
    |false=>have:=g2 hk;omega
   refine⟨⟨fun i hi=>by omega,fun i hi h2 j hj=>by have:=hv i hi;have:=(e4 i h2).1;omega,fun i hi j hj=>(row_ok (f2 i hi)).2.2 j hj,fun i hi j hj=>(range_ok ((e4 i hi).2 j hj)).1⟩,by omega,fun i hi=>by have:=hv i hi;omega⟩
theorem mon_deviations{x:Envelope}{r:Record}:Ct Tryz.prog 279 [.agg x.cs,.agg r.cs] (.fn 327 [.eptr r.cs,.eptr x.cs]):=by
 refine Ct.intro (rs:=[.tmp 4]) Tryz.func279 rfl Tryz.ntmps279 Tryz.results279 rfl rfl rfl fun w h=>?_
 refine kr (RK.c (zB (c:=2) rfl rfl) (RK.c (zB (c:=3) rfl rfl) (kc (S.assign .none rfl .craw) (kq (kc (S.makeFunc2 .none rfl (zt rfl) (zt rfl) rfl rfl) (kc (za rfl) (kD (OK.ret (Ret.r1 (.tmp rfl rfl (.fn (.k (.ptr rfl rfl rfl rfl) (.k (.ptr rfl rfl rfl rfl) .z)) rfl) rfl) ?_)))))))))
 rfl
end Go.Proofs.YtpbalelbenmmbaaGreatDoor
