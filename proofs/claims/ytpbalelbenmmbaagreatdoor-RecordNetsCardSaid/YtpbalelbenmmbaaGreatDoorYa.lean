import Derived.Test.YtpbalelbenmmbaaGreatDoorHz
import Derived.Test.YtpbalelbenmmbaaGreatDoorFs
import Derived.Test.YtpbalelbenmmbaaGreatDoorFx
import Derived.Test.YtpbalelbenmmbaaGreatDoorSh
import Derived.Test.YtpbalelbenmmbaaGreatDoorWa
import Derived.Test.YtpbalelbenmmbaaGreatDoorWm
namespace Go.Proofs.YtpbalelbenmmbaaGreatDoor
open Go.Ab
def frameE(p:Plan)(f:Frame):Int:=if¬(0≤f.tick∧f.tick≤p.ticks - 1)then 2 else valuesErr p f.values
theorem frameE_eq(p:Plan)(f:Frame):firstE [unlessE (decide (0≤f.tick∧f.tick≤p.ticks - 1)) 2,valuesErr p f.values]=frameE p f:=by
 rw[firstE2,frameE]
 by_cases h:0≤f.tick∧f.tick≤p.ticks - 1
 ·rw[unlessE_of h,if_neg (by simp),if_neg (by simpa using h)]
 ·rw[unlessE_not h,if_pos (by decide),if_pos h]
theorem frameE_0{p:Plan}{f:Frame}(h:frameE p f=0):(0≤f.tick∧f.tick≤p.ticks - 1)∧f.values.length=p.channels.length:=by
 unfold frameE at h
 split at h
 ·cases h
 ·rename_i h1
  refine⟨Decidable.not_not.1 h1,?_⟩
  unfold valuesErr at h
  split at h
  ·cases h
  ·omega
def rowAt(rows:List Row)(f:Frame):Row:=rows.getD f.tick.toNat ⟨false,[]⟩
def stepErr(p:Plan)(rows:List Row)(f:Frame):Int:=
 if frameE p f≠0 then frameE p f else if(rowAt rows f).known=true then unlessE (decide ((rowAt rows f).values=f.values)) 13 else 0
def stepRows(p:Plan)(rows:List Row)(f:Frame):List Row:=
 if frameE p f≠0 then rows else if(rowAt rows f).known=true then rows else rows.set f.tick.toNat ⟨true,f.values⟩
theorem stepRows_len(p:Plan)(rows:List Row)(f:Frame):(stepRows p rows f).length=rows.length:=by
 unfold stepRows
 split
 ·rfl
 ·split
  ·rfl
  ·rw[List.length_set]
def rowsAt(p:Plan)(l:List Frame)(i:Nat):List Row:=(l.take i).foldl (stepRows p) (List.replicate p.ticks.toNat ⟨false,[]⟩)
theorem rowsAt_0(p:Plan)(l:List Frame):rowsAt p l 0=List.replicate p.ticks.toNat ⟨false,[]⟩:=rfl
theorem rowsAt_succ(p:Plan){l:List Frame}{i:Nat}(h:i<l.length):rowsAt p l (i+1)=stepRows p (rowsAt p l i) l[i]:=by
 unfold rowsAt
 rw[←take_snoc h,List.foldl_append]
 rfl
theorem rowsAt_len(p:Plan)(l:List Frame):∀i,i≤l.length→(rowsAt p l i).length=p.ticks.toNat
 |0,_=>by rw[rowsAt_0,List.length_replicate]
 |i+1,h=>by rw[rowsAt_succ p (by omega),stepRows_len,rowsAt_len p l i (by omega)]
def gRec(p:Plan)(l:List Frame)(i:Nat)(f:Frame):Int:=stepErr p (rowsAt p l i) f
def eachN{α:Type}(g:Nat→α→Int):Nat→List α→Nat
 |i,[]=>i
 |i,x::l=>if g i x≠0 then i+1 else eachN g (i+1) l
theorem eachN_drop{α:Type}(g:Nat→α→Int){l:List α}{i:Nat}(h:i<l.length):eachN g i (l.drop i)=if g i l[i]≠0 then i+1 else eachN g (i+1) (l.drop (i+1)):=by
 rw[List.drop_eq_getElem_cons h,eachN]
theorem eachN_all{α:Type}(g:Nat→α→Int):∀(l:List α)(i:Nat),(eachGo g i l).2=0→eachN g i l=i+l.length
 |[],i,_=>rfl
 |x::l,i,h=>by
  rw[eachGo]at h
  by_cases hx:g i x≠0
  ·rw[if_pos hx]at h;exact absurd h hx
  ·rw[if_neg hx]at h
   rw[eachN,if_neg hx,eachN_all g l (i+1) h,List.length_cons]
   omega
theorem eachN_le{α:Type}(g:Nat→α→Int):∀(l:List α)(i:Nat),eachN g i l≤i+l.length
 |[],i=>Nat.le_refl _
 |x::l,i=>by
  rw[eachN,List.length_cons]
  split
  ·omega
  ·have:=eachN_le g l (i+1);omega
def recErr(p:Plan)(l:List Frame):Int:=if planErr p≠0 then planErr p else if 40<l.length then 8 else(eachGo (gRec p l) 0 l).2
def recOf(p:Plan)(l:List Frame):Record:=if recErr p l=0 then⟨rowsAt p l l.length⟩else⟨[]⟩
theorem row_cell0{rows:List Row}:∀{i:Nat}(h:i<rows.length),(rows.map Row.cs).flatten[i * 2+0]?=some (.bool rows[i].known):=by
 induction rows with
 |nil=>intro i h;simp at h
 |cons r rows ih=>
  intro i h
  cases i with
  |zero=>rfl
  |succ i=>
   have:=ih (i:=i) (by simpa using h)
   rw[show(i+1) * 2+0=(i * 2+0)+2 by omega]
   exact this
theorem row_cell1{rows:List Row}:∀{i:Nat}(h:i<rows.length),(rows.map Row.cs).flatten[i * 2+1]?=some (ints rows[i].values):=by
 induction rows with
 |nil=>intro i h;simp at h
 |cons r rows ih=>
  intro i h
  cases i with
  |zero=>rfl
  |succ i=>
   have:=ih (i:=i) (by simpa using h)
   rw[show(i+1) * 2+1=(i * 2+1)+2 by omega]
   exact this
end Go.Proofs.YtpbalelbenmmbaaGreatDoor
namespace Go.Proofs.YtpbalelbenmmbaaGreatDoor
open Go.Ab
theorem lib_EqualInts{a b:List Int}:Ct Tryz.prog 175 [ints a,ints b] (.bool (decide (a=b))):=by
 refine Ct.intro (rs:=[.tmp 4]) Tryz.func175 rfl Tryz.ntmps175 Tryz.results175 rfl rfl rfl fun w h=>?_
 refine OK.slLen (rows:=a.map (fun n=>[.int .i64 n])) (t:=0) rfl rfl fun hlen=>?_
 rw[List.length_map]at hlen
 unfold maxLen at hlen
 refine kr (kc (zb rfl) (kD (kO (kr ?_))))
 refine kc (zm rfl) (kc (zk si47 rfl) (kc (zm rfl) (kc (zk si47 rfl) (kc (S.neq .none rfl (zt rfl) (zt rfl)) (kD (kB rfl (fun c10=>?_) (fun c10=>?_)))))))
 ·
  refine kr (kc (zb rfl) (kD (OK.ret (Ret.r1 (zo rfl rfl) ?_))))
  exact ret_F (fun e=>c10 (by rw[e]))
 ·
  have hl:a.length=b.length:=by omega
  refine OK.skip (Ab.D.code (kO (kr ?_)))
  refine kc (zm rfl) (kc (zk si47 rfl) (kc (S.move .none rfl (.cint rfl)) (kD (OK.block (OK.loop (G:=Nat) [] (fun i=>[(0,ints a),(1,ints b),(12,.int .i64 a.length),(13,.int .i64 i)]) (fun i=>i≤a.length∧a.take i=b.take i) (fun i=>a.length - i) 0 ⟨Nat.zero_le _,rfl⟩ ⟨rfl,rfl,rfl,rfl,trivial⟩ (fun _=>rfl) ?_)))))
  rintro i ⟨hi,ht⟩
  refine kr (kc (S.lss .none rfl (zt rfl) (zt rfl)) (kD (kO (kB rfl (fun c14=>?_) (fun c14=>?_)))))
  ·
   refine OK.skip (Ab.D.code (kO (OK.block (kr (kc (zm rfl) (kc (za rfl) (kD (kO (OK.regionDraw follows (.c (zm rfl) (.c (zm rfl) (.c (S.indexM si47 .none rfl (zt rfl) (zt rfl) rfl (by omega) rfl) (.c (zV ti3 rfl rfl) (.c (zm rfl) (.c (zm rfl) (.c (S.indexM si47 .none rfl (zt rfl) (zt rfl) rfl (by omega) rfl) (.c (zV ti3 rfl rfl) (.c (S.neq .none rfl (zt rfl) (zt rfl)) .nil))))))))) (by kernel_rfl) ?_)))))))))
   refine Ab.D.code (kB rfl (fun c24=>?_) (fun c24=>?_))
   ·
    refine kr (kc (zb rfl) (kD (OK.ret (Ret.r1 (zo rfl rfl) ?_))))
    exact ret_F (fun e=>by subst e;exact c24 rfl)
   ·
    refine OK.skip (Ab.D.blk (Ab.D.code (OK.reg ?_)))
    refine kc (zp rfl rfl (by omega)) (kc (zm rfl) (RK.nil (Ab.D.lp ⟨i+1,⟨by omega,?_⟩,(by omega),rfl,rfl,rfl,rfl,trivial⟩)))
    simp only[ne_eq,Decidable.not_not]at c24
    rw[List.take_succ_eq_append_getElem (by omega),List.take_succ_eq_append_getElem (by omega),ht,c24]
  ·
   refine OK.exit rfl (kp (kc (zb rfl) (kD (OK.ret (Ret.r1 (zo rfl rfl) ?_)))))
   have:i=a.length:=by omega
   subst this
   rw[List.take_length,hl,List.take_length]at ht
   exact ret_T ht
theorem lib_CloneInts{l:List Int}(h0:0<l.length)(hlen:l.length≤100000):Ct Tryz.prog 282 [ints l] (ints l):=by
 refine Ct.intro (rs:=[.tmp 2]) Tryz.func282 rfl Tryz.ntmps282 Tryz.results282 rfl rfl rfl fun w h=>?_
 refine kr (kc (S.assign .none rfl .cnil) (kD (kO (kr ?_))))
 refine kc (zm rfl) ?_
 refine kc (S.eqnil Tryz.underlying47 .none rfl (zt rfl) (by rw[List.length_map];exact h0)) ?_
 refine kD (OK.condF rfl rfl rfl (OK.skip (kp (RK.c (S.mkSlice (k:=5) (rows:=[]) ai47 .none rfl .nil rfl rfl rfl rfl rfl rfl rfl) (kc (zm rfl) ?_)))))
 refine RK.c (S.appendSl ai47 .none rfl (zt rfl) rfl (by first|rfl|(simp;done)|(simp;omega)) (zt rfl) (by intro q hq;obtain⟨b,_,rfl⟩:=List.mem_map.1 hq;rfl) rfl (by simp only[List.length_map];omega) (by simp only[maxLen,List.length_map];omega)) ?_
 refine kc (za rfl) (kD ?_)
 refine OK.ret (Ret.r1 (.tmp rfl rfl (.c (.own rfl rfl (by first|rfl|(simp;done)|(simp;omega))) rfl) rfl) ?_)
 rfl
theorem mon_frameErr{p:Plan}{f:Frame}(hpt:1≤p.ticks∧p.ticks≤12):Ct Tryz.prog 229 [.agg p.cs,.agg f.cs] (.int .i64 (frameE p f)):=by
 refine Ct.intro (rs:=[.tmp 4]) Tryz.func229 rfl Tryz.ntmps229 Tryz.results229 rfl rfl rfl fun w h=>?_
 refine kr (RK.c (zB (c:=2) rfl rfl) (RK.c (zB (c:=3) rfl rfl) (kc (zi rfl rfl) (kD (kO (OK.regionDraw follows (.c (zf fi140_0 rfl) (.c (zl ti3 rfl rfl rfl rfl) (.c (zf fi319_0 rfl) (.c (zf fi105_1 rfl) (.c (zl ti3 rfl rfl rfl rfl) (.c (S.sub .none rfl (zt rfl) (.cint rfl) (IntWalk.i64_in _ (by omega)) (IntWalk.i64_in _ (by omega))) (.c (S.call (mon_within) Tryz.call168 .none rfl (zc rfl (.cons (.cint rfl) (zc rfl .nil))) rfl) (.c (S.call (monitor_unless) Tryz.call164 .none rfl (zc rfl (.cons (.cint rfl) .nil)) rfl) (.c (zL ti319 rfl rfl rfl rfl) (.c (zf fi140_1 rfl) (.c (zl ti47 rfl rfl rfl rfl) (.c (S.call (mon_valuesErr) Tryz.call276 .none rfl (zc rfl (zc rfl .nil)) rfl) (.c (S.mkSlice (k:=17) (rows:=[[_],[_]]) ai184 .none rfl (zc rfl (zc rfl .nil)) rfl rfl rfl rfl rfl rfl rfl) (.c (S.callL (monitor_first (l:=[_,_])) Tryz.call163 .none rfl (zc rfl .nil) (.cons (.p (.own rfl rfl) rfl) .nil) rfl) (.c (za rfl) .nil))))))))))))))) (by kernel_rfl) ?_))))))
 refine Ab.D.code (OK.ret (Ret.r1 (zo rfl rfl) ?_))
 exact ret_i (frameE_eq p f)
theorem mon_CheckFrame{p:Plan}{f:Frame}:Ct Tryz.prog 172 [.agg p.cs,.agg f.cs] (.int .i64 (if planErr p=0 then frameE p f else planErr p)):=by
 refine Ct.intro (rs:=[.tmp 4]) Tryz.func172 rfl Tryz.ntmps172 Tryz.results172 rfl rfl rfl fun w h=>?_
 refine kr (RK.c (zB (c:=2) rfl rfl) (RK.c (zB (c:=3) rfl rfl) (kc (zi rfl rfl) (kq (kc (zL ti105 rfl rfl rfl rfl) (kc (S.call (mon_open) Tryz.call228 .none rfl (zc rfl .nil) rfl) (kc (zm rfl) (kc (zX rfl rfl rfl) (kc (zX rfl rfl rfl) (RK.c (zA (c:=5) ze319 rfl) (kc (zS ti319 rfl rfl rfl rfl rfl rfl) ?_)))))))))))
 refine kc (za rfl) (kD (kO (kr ?_)))
 refine kc (zm rfl) (kc (zE rfl rfl) (kD (kB rfl (fun c13=>?_) (fun c13=>?_))))
 ·
  have hpp:=planErr_0 c13
  refine OK.reg (kc (zL ti319 rfl rfl rfl rfl) (kc (zL ti140 rfl rfl rfl rfl) (kc (S.call (mon_frameErr (by omega)) Tryz.call229 .none rfl (zc rfl (zc rfl .nil)) rfl) (kc (za rfl) (kq (kc (zm rfl) (kc (za rfl) (kD (OK.ret (Ret.r1 (zo rfl rfl) ?_))))))))))
  rw[if_pos c13]
 ·
  refine OK.skip (kp (kc (zm rfl) (kc (za rfl) (kD (OK.ret (Ret.r1 (zo rfl rfl) ?_))))))
  rw[if_neg c13]
theorem mon_step{p:Plan}{rows:List Row}{n:Nat}{i:Nat}{f:Frame}(hn:rows.length=n)(hnt:n=p.ticks.toNat)(hpt:1≤p.ticks∧p.ticks≤12)(hc:0<p.channels.length∧p.channels.length≤100000):CtG Tryz.prog 281 [6,8,27] [.int .i64 i,.agg f.cs,.ptr 6 0,.ptr 8 0] [(1006,.box p.cs),(1008,.box [.own 27 n]),(2027,.arr 2 (rows.map Row.cs))] [(1006,.box p.cs),(1008,.box [.own 27 n]),(2027,.arr 2 ((stepRows p rows f).map Row.cs))] (.int .i64 (stepErr p rows f)):=by
 refine CtG.intro (rs:=[.tmp 6]) Tryz.func281 rfl Tryz.ntmps281 Tryz.results281 rfl rfl rfl rfl fun w h=>?_
 have hrl:(rows.map Row.cs).length=n:=by rw[List.length_map,hn]
 refine kr (RK.c (zB (c:=5) rfl rfl) (kc (zi rfl rfl) (kD (kO (kr ?_)))))
 refine kc (zL ti319 rfl rfl rfl rfl) (kc (zL ti140 rfl rfl rfl rfl) (kc (S.call (mon_frameErr (by omega)) Tryz.call229 .none rfl (zc rfl (zc rfl .nil)) rfl) (kc (za rfl) (kq (kc (zm rfl) (kc (zN rfl rfl) (kD (kB rfl (fun c13=>?_) (fun c13=>?_)))))))))
 ·
  refine kr (kc (zm rfl) (kc (za rfl) (kD (OK.ret ⟨Ret.r1 (zo rfl rfl) ?_,rfl,rfl,(lk_arr (by rw[stepRows,if_pos c13])),trivial⟩))))
  refine ret_i ?_
  rw[stepErr,if_pos c13]
 ·
  have he:frameE p f=0:=Decidable.not_not.1 c13
  obtain⟨hf1,hf2⟩:=frameE_0 he
  have hto:((f.tick.toNat:Nat):Int)=f.tick:=Int.toNat_of_nonneg hf1.1
  have hlt:f.tick.toNat<rows.length:=by omega
  have hrow:rowAt rows f=rows[f.tick.toNat]:=getD_at hlt
  refine OK.skip (kp (kc (zf fi223_0 rfl) (kc (zl ti221 rfl rfl rfl rfl) (kc (zf fi140_0 rfl) (kc (zl ti3 rfl rfl rfl rfl) (kc (S.oindex (i:=f.tick.toNat) si221 .none rfl (zt rfl) rfl hrl (zt rfl) hto.symm (by omega)) (kc (za rfl) (kD (kO (kr ?_))))))))))
  refine kc (zm rfl) (kc (S.nilCheckO .none rfl (zt rfl) rfl hrl) (kc (S.ofield fi303_0 .none rfl (zt rfl) rfl hrl) (kc (S.oload1 ti4 .none rfl (zt rfl) rfl hrl (row_cell0 hlt)) (kD (OK.cond rfl rfl (fun c23=>?_) (fun c23=>?_))))))
  ·
   refine kO (OK.regionDraw follows (.c (zm rfl) (.c (S.nilCheckO .none rfl (zt rfl) rfl hrl) (.c (S.ofield fi303_1 .none rfl (zt rfl) rfl hrl) (.c (S.oload1 ti47 .none rfl (zt rfl) rfl hrl (row_cell1 hlt)) (.c (zf fi140_1 rfl) (.c (zl ti47 rfl rfl rfl rfl) (.c (S.call (lib_EqualInts) Tryz.call175 .none rfl (zc rfl (zc rfl .nil)) rfl) (.c (S.call (monitor_unless) Tryz.call164 .none rfl (zc rfl (.cons (.cint rfl) .nil)) rfl) (.c (za rfl) .nil))))))))) (by kernel_rfl) ?_)
   refine Ab.D.code (OK.ret ⟨Ret.r1 (zo rfl rfl) ?_,rfl,rfl,(lk_arr (by rw[stepRows,if_neg (by omega),hrow,if_pos c23])),trivial⟩)
   refine ret_i ?_
   rw[stepErr,if_neg (by omega),hrow,if_pos c23]
  ·
   refine OK.skip (kp (kc (zm rfl) (kc (zf fi140_1 rfl) (kc (zl ti47 rfl rfl rfl rfl) (kc (S.call (lib_CloneInts (l:=f.values) (by omega) (by omega)) Tryz.call282 .none rfl (zc rfl .nil) rfl) (kc (S.build bu303 rfl .none rfl (.cons .cbool (zc rfl .nil)) rfl rfl) (kc (S.nilCheckO .none rfl (zt rfl) rfl hrl) ?_)))))))
   refine RK.c (S.ostore (i:=f.tick.toNat) ti303 .none (zt rfl) (zt rfl) rfl hrl rfl (by omega) rfl rfl rfl (show _=(rows.set f.tick.toNat ⟨true,f.values⟩).map Row.cs by rw[List.map_set];rfl)) ?_
   refine kq (kc (zi rfl rfl) (kD (OK.ret ⟨Ret.r1 (zo rfl rfl) ?_,rfl,rfl,(lk_arr (by rw[stepRows,if_neg (by omega),hrow,if_neg (by simp[c23])])),trivial⟩)))
   refine ret_i ?_
   rw[stepErr,if_neg (by omega),hrow,if_neg (by simp[c23])]
theorem eachCb_Frame{l:List Frame}{g:Nat→Frame→Int}{Φ:Value→Prop}{J:Nat→Mem→(Nat→Prop)→World→Prop}(hΦ:∀(i:Nat)(h:i<l.length)(v:Value),Φ v→CbOk Tryz.prog v [.int .i64 i,.agg l[i].cs] (.int .i64 (g i l[i])) (J i) (J (i+1)))(hJ:∀i,Stable (J i)):CtG Tryz.prog 280 [] [.sl (l.map Frame.cs),.cb Φ] [(3000,.res (J 0))] [(3000,.res (J (eachN g 0 l)))] (pair (eachGo g 0 l)):=by
 refine CtG.intro (rs:=[.tmp 4,.tmp 5]) Tryz.func280 rfl Tryz.ntmps280 Tryz.results280 rfl rfl rfl rfl fun w h=>?_
 refine OK.slLen (rows:=l.map Frame.cs) (t:=0) rfl rfl fun hlen=>?_
 rw[List.length_map]at hlen
 unfold maxLen at hlen
 refine kr (kc (zi rfl rfl) (kc (zi rfl rfl) (kD (kO (kr ?_)))))
 refine kc (zm rfl) (kc (zk si62 rfl) (kc (S.move .none rfl (.cint rfl)) (kD (OK.block (OK.loop (G:=Nat) [] (fun i=>[(1,.cb Φ),(9,.sl (l.map Frame.cs)),(10,.int .i64 l.length),(11,.int .i64 i),(3000,.res (J i))]) (fun i=>i≤l.length∧eachGo g 0 l=eachGo g i (l.drop i)∧eachN g 0 l=eachN g i (l.drop i)) (fun i=>l.length - i) 0 ⟨Nat.zero_le _,rfl,rfl⟩ ⟨rfl,rfl,rfl,rfl,rfl,trivial⟩ (fun _=>rfl) ?_)))))
 rintro i ⟨hi,hg,hN⟩
 refine kr (kc (S.lss .none rfl (zt rfl) (zt rfl)) (kD (kO (kB rfl (fun c12=>?_) (fun c12=>?_)))))
 ·
  refine OK.skip (Ab.D.code (kO (OK.block (kr (kc (zm rfl) (kc (S.indexM si62 .none rfl (zt rfl) (zt rfl) rfl (by omega) rfl) (kc (S.loadN ti140 .none rfl (zt rfl) rfl rfl) (RK.c (zA (c:=7) ze140 rfl) (kc (za rfl) (kc (zS ti140 rfl rfl rfl rfl rfl rfl) (kq ?_)))))))))))
  refine kc (zm rfl) (kc (zm rfl) (kc (zL ti140 rfl rfl rfl rfl) (kc (S.callcb (J1:=J (i+1)) (hΦ i (by omega)) (hJ _) .none rfl (zt rfl) (zc rfl (zc rfl .nil)) rfl rfl) (kc (za rfl) (kq (kc (zm rfl) (kc (zN rfl rfl) (kD (kB rfl (fun c21=>?_) (fun c21=>?_))))))))))
  ·
   refine kr (kc (zm rfl) (kc (zm rfl) (kc (za rfl) (kc (za rfl) (kD (OK.ret ⟨Ret.r2 (zo rfl rfl) (zo rfl rfl) ?_,(lk_res (by rw[hN,eachN_drop _ (by omega),if_pos c21])),trivial⟩))))))
   refine ret_p ?_
   rw[hg,eachGo_drop _ (by omega),if_pos c21]
  ·
   refine OK.skip (Ab.D.blk (Ab.D.code (OK.reg ?_)))
   refine kc (zp rfl rfl (by omega)) (kc (zm rfl) (RK.nil (Ab.D.lp ⟨i+1,⟨by omega,?_,?_⟩,(by omega),rfl,rfl,rfl,rfl,rfl,trivial⟩)))
   ·rw[hg,eachGo_drop _ (by omega),if_neg c21]
   ·rw[hN,eachN_drop _ (by omega),if_neg c21]
 ·
  refine OK.exit rfl (kp (kc (zi rfl rfl) (kc (zi rfl rfl) (kD ?_))))
  refine OK.ret ⟨Ret.r2 (zo rfl rfl) (zo rfl rfl) ?_,(lk_res (by rw[hN,show i=l.length by omega,List.drop_length];rfl)),trivial⟩
  refine ret_p ?_
  rw[hg,show i=l.length by omega,List.drop_length]
  rfl
end Go.Proofs.YtpbalelbenmmbaaGreatDoor
namespace Go.Proofs.YtpbalelbenmmbaaGreatDoor
open Go.Ab
theorem recHead(p:Plan)(l:List Frame):firstE [planErr p,unlessE (decide ((l.length:Int)≤40)) 8]=if planErr p≠0 then planErr p else if 40<l.length then 8 else 0:=by
 rw[firstE2]
 by_cases h1:planErr p≠0
 ·rw[if_pos h1,if_pos h1]
 ·rw[if_neg h1,if_neg h1]
  by_cases h2:40<l.length
  ·rw[unlessE_not (by omega),if_pos h2]
  ·rw[unlessE_of (by omega),if_neg h2]
theorem mon_RecordOf{p:Plan}{l:List Frame}:Ct Tryz.prog 233 [.agg p.cs,.sl (l.map Frame.cs)] (.tup [.agg (recOf p l).cs,.int .i64 (recErr p l)]):=by
 refine Ct.intro (rs:=[.cell 4 223,.tmp 5]) Tryz.func233 rfl Tryz.ntmps233 Tryz.results233 rfl rfl rfl fun w h=>?_
 have hh:=recHead p l
 have hre:recErr p l=if planErr p≠0 then planErr p else if 40<l.length then 8 else(eachGo (gRec p l) 0 l).2:=rfl
 refine kr (RK.c (zB (c:=2) rfl rfl) (RK.c (zA (c:=4) ze223 rfl) (kc (zi rfl rfl) (kq (kc (zL ti105 rfl rfl rfl rfl) (kc (S.call (mon_open) Tryz.call228 .none rfl (zc rfl .nil) rfl) (kc (zm rfl) (kc (zX rfl rfl rfl) (kc (zX rfl rfl rfl) (RK.c (zA (c:=6) ze319 rfl) (kc (zS ti319 rfl rfl rfl rfl rfl rfl) ?_)))))))))))
 refine kc (za rfl) (kD (kO (kr ?_)))
 refine kc (zm rfl) (kc (zm rfl) (kc (zk si62 rfl) (kc (S.leq .none rfl (zt rfl) (.cint rfl)) (kc (S.call (monitor_unless) Tryz.call164 .none rfl (zc rfl (.cons (.cint rfl) .nil)) rfl) (RK.c (S.mkSlice (k:=19) (rows:=[[_],[_]]) ai184 .none rfl (zc rfl (zc rfl .nil)) rfl rfl rfl rfl rfl rfl rfl) (kc (S.callL (monitor_first (l:=[_,_])) Tryz.call163 .none rfl (zc rfl .nil) (.cons (.p (.own rfl rfl) rfl) .nil) rfl) (kc (za rfl) (kq (kc (zm rfl) (kc (zN rfl rfl) (kD ?_)))))))))))
 refine kB rfl (fun c22=>?_) (fun c22=>?_)
 ·
  have hq:recErr p l=firstE [planErr p,unlessE (decide ((l.length:Int)≤40)) 8]:=by
   rw[hh]at c22⊢
   rw[hre]
   by_cases h1:planErr p≠0
   ·rw[if_pos h1,if_pos h1]
   ·rw[if_neg h1]at c22⊢
    by_cases h2:40<l.length
    ·rw[if_neg h1,if_pos h2,if_pos h2]
    ·rw[if_neg h2]at c22;exact absurd rfl c22
  have hne:¬recErr p l=0:=by rw[hq];exact c22
  refine kr (kc (S.build bu223 rfl .none rfl .nil rfl rfl) (kc (zm rfl) (kc (zS ti223 rfl rfl rfl rfl rfl rfl) (kc (za rfl) (kD (OK.ret (Ret.r2 (.cellN rfl rfl rfl rfl ti223 rfl (.k .nils .z)) (zo rfl rfl) ?_)))))))
  rw[recOf,if_neg hne,hq]
  rfl
 ·
  have hp0:planErr p=0:=by omega
  have hl40:l.length≤40:=by omega
  have hpp:=planErr_0 hp0
  have hq:recErr p l=(eachGo (gRec p l) 0 l).2:=by rw[hre,if_neg (by omega),if_neg (by omega)]
  have hlenN:(rowsAt p l (eachN (gRec p l) 0 l)).length=p.ticks.toNat:=rowsAt_len p l _ (by have:=eachN_le (gRec p l) l 0;omega)
  have kS:∀(i:Nat)(h:i<l.length),CtG Tryz.prog 281 [6,8,27] ([.int .i64 i,.agg l[i].cs]++[.ptr 6 0,.ptr 8 0]) [(1006,.box p.cs),(1008,.box [.own 27 p.ticks.toNat]),(2027,.arr 2 ((rowsAt p l i).map Row.cs))] [(1006,.box p.cs),(1008,.box [.own 27 p.ticks.toNat]),(2027,.arr 2 ((rowsAt p l (i+1)).map Row.cs))] (.int .i64 (gRec p l i l[i])):=fun i h=>by
   rw[rowsAt_succ p h]
   exact mon_step (rowsAt_len p l i (by omega)) rfl (by omega) (by omega)
  have kE:∀(cL:Ctx)(v0:Value),RepC cL (.fn 281 [.ptr 6 0,.ptr 8 0]) v0→CtG Tryz.prog 280 [] ([.sl (l.map Frame.cs)]++[.cb fun v=>v=v0]) [(3000,.res (LentJ [6,8,27] [(1006,.box p.cs),(1008,.box [.own 27 p.ticks.toNat]),(2027,.arr 2 ((rowsAt p l 0).map Row.cs))] cL [(1006,.box p.cs),(1008,.box [.own 27 p.ticks.toNat]),(2027,.arr 2 ((rowsAt p l 0).map Row.cs))]))] [(3000,.res (LentJ [6,8,27] [(1006,.box p.cs),(1008,.box [.own 27 p.ticks.toNat]),(2027,.arr 2 ((rowsAt p l 0).map Row.cs))] cL [(1006,.box p.cs),(1008,.box [.own 27 p.ticks.toNat]),(2027,.arr 2 ((rowsAt p l (eachN (gRec p l) 0 l)).map Row.cs))]))] (pair (eachGo (gRec p l) 0 l)):=fun cL v0 hv=>eachCb_Frame (l:=l) (g:=gRec p l) (Φ:=fun v=>v=v0) (J:=fun i=>LentJ [6,8,27] [(1006,.box p.cs),(1008,.box [.own 27 p.ticks.toNat]),(2027,.arr 2 ((rowsAt p l 0).map Row.cs))] cL [(1006,.box p.cs),(1008,.box [.own 27 p.ticks.toNat]),(2027,.arr 2 ((rowsAt p l i).map Row.cs))]) (fun i h v e=>by subst e;exact cb_of_G (kS i h) Tryz.call281 rfl hv rfl rfl) (fun i=>LentJ.stable rfl)
  refine OK.skip (kp (kc (zf fi105_1 rfl) (kc (zl ti3 rfl rfl rfl rfl) ?_)))
  refine RK.c (S.make (k:=27) (n:=p.ticks.toNat) ai221 (⟨⟨Tryz.t303,_,by kernel_rfl,rfl,fun h=>⟨.bool _,.sl0 none 0 (Nat.zero_le _),trivial⟩⟩⟩:MkI Tryz.prog 303 [.bool false,.sl []]) .none rfl (zt rfl) (zt rfl) (by omega) (by omega) (by unfold maxLen;omega)) ?_
  refine kc (S.build bu223 rfl .none rfl (zc rfl .nil) rfl rfl) (RK.c (zA (c:=8) ze223 rfl) (kc (zS ti223 rfl rfl rfl rfl rfl rfl) (kq (kc (zm rfl) (kc (S.makeFunc2 .none rfl (zt rfl) (zt rfl) rfl rfl) ?_)))))
  refine RK.c (S.callE (fs:=[6,8,27]) (t:=[(1006,.box p.cs),(1008,.box [.own 27 p.ticks.toNat]),(2027,.arr 2 ((rowsAt p l 0).map Row.cs))]) (t':=[(1006,.box p.cs),(1008,.box [.own 27 p.ticks.toNat]),(2027,.arr 2 ((rowsAt p l (eachN (gRec p l) 0 l)).map Row.cs))]) (kE) Tryz.call280 .none rfl (zc rfl (zc rfl .nil)) rfl rfl rfl ⟨rfl,rfl,(lk_arr (by rw[rowsAt_0,List.map_replicate];rfl)),trivial⟩ (by kernel_rfl) (by kernel_rfl) (by kernel_rfl) (by kernel_rfl) (by kernel_rfl) rfl rfl) ?_
  refine kc (zm rfl) (kc (zX rfl rfl rfl) (kc (zX rfl rfl rfl) (kc (za rfl) (kD (kO (kr ?_))))))
  refine kc (zm rfl) (kc (zN rfl rfl) (kD (kB rfl (fun c36=>?_) (fun c36=>?_))))
  ·
   refine kr (kc (S.build bu223 rfl .none rfl .nil rfl rfl) (kc (zm rfl) (kc (zS ti223 rfl rfl rfl rfl rfl rfl) (kc (za rfl) (kD (OK.ret (Ret.r2 (.cellN rfl rfl rfl rfl ti223 rfl (.k .nils .z)) (zo rfl rfl) ?_)))))))
   rw[recOf,if_neg (by rw[hq];exact c36),hq]
   rfl
  ·
   have he0:(eachGo (gRec p l) 0 l).2=0:=Decidable.not_not.1 c36
   have he:recErr p l=0:=by omega
   have hN:eachN (gRec p l) 0 l=l.length:=by rw[eachN_all _ l 0 he0,Nat.zero_add]
   refine OK.skip (kp (kc (zL ti223 rfl rfl rfl rfl) (kc (zS ti223 rfl rfl rfl rfl rfl rfl) (kc (zi rfl rfl) (kD ?_)))))
   refine OK.ret (Ret.r2 (.cellN rfl rfl rfl rfl ti223 rfl (.k (.own rfl rfl (by first|rfl|(simp;done)|(simp;omega))) .z)) (zo rfl rfl) ?_)
   rw[recOf,if_pos he,he,hN]
   rfl
end Go.Proofs.YtpbalelbenmmbaaGreatDoor
