import Derived.Test.YtpbalelbenmmbaaGreatDoorHz
import Derived.Test.YtpbalelbenmmbaaGreatDoorSh
import Derived.Test.YtpbalelbenmmbaaGreatDoorWg
namespace Go.Proofs.YtpbalelbenmmbaaGreatDoor
open Go.Ab
theorem eachGo_all{α:Type}(g:Nat→α→Int):∀(l:List α)(i:Nat),(eachGo g i l).2=0→∀(j:Nat)(h:j<l.length),g (i+j) l[j]=0
 |[],_,_,j,h=>by simp at h
 |x::l,i,he,j,h=>by
  rw[eachGo]at he
  split at he
  ·rename_i hc;exact absurd he hc
  ·rename_i hc
   cases j with
   |zero=>simpa using hc
   |succ j=>
    have:=eachGo_all g l (i+1) he j (by simpa using h)
    rw[List.getElem_cons_succ,←this]
    congr 1
    omega
theorem lostGo_nil:∀(l:List Row)(i:Nat),(lostGo i l).length=0→∀x∈l,x.known=true
 |[],_,_,x,hx=>by cases hx
 |y::l,i,h,x,hx=>by
  rw[lostGo]at h
  split at h
  ·rename_i hy
   rcases List.mem_cons.1 hx with rfl|hx
   ·exact hy
   ·exact lostGo_nil l (i+1) h x hx
  ·simp at h
structure WholeT(p:Plan)(l:List Record):Prop where
 rows:∀(k:Nat)(h:k<l.length),(l[k].rows.length:Int)=p.ticks
 vals:∀(k:Nat)(h:k<l.length)(i:Nat)(h2:i<l[k].rows.length),l[k].rows[i].values.length=p.channels.length
theorem whole_of{p:Plan}{l:List Record}(h:recsErr p l=0):WholeT p l:=by
 unfold recsErr at h
 split at h
 ·contradiction
 ·split at h
  ·contradiction
  ·have h1:=eachGo_all _ l 0 h
   have key:∀(k:Nat)(h:k<l.length),(recChk p l[k]).2=0∧(lostT l[k]).length=0:=by
    intro k hk
    have h2:=h1 k hk
    unfold recsErr1 at h2
    split at h2
    ·contradiction
    ·split at h2
     ·exact⟨by omega,‹_›⟩
     ·contradiction
   refine⟨fun k hk=>recChk_len (key k hk).1,fun k hk i hi=>?_⟩
   obtain⟨h3,h4⟩:=key k hk
   have h5:=recChk_len h3
   unfold recChk at h3
   rw[if_neg (by omega)]at h3
   have h6:=eachGo_all _ _ 0 h3 i hi
   have h7:=lostGo_nil _ 0 h4 _ (List.getElem_mem hi)
   unfold rowErr at h6
   rw[if_pos h7]at h6
   unfold valuesErr at h6
   split at h6
   ·contradiction
   ·omega
def col(l:List Record)(t c:Nat):List Int:=l.map fun r=>((r.rows.getD t ⟨false,[]⟩).values.getD c 0)
def sorted(l:List Int):List Int:=l.mergeSort fun x y=>decide (x≤y)
def rangeT(l:List Record)(trim:Int)(t c:Nat):Range:=⟨(sorted (col l t c)).getD trim.toNat 0,(sorted (col l t c)).getD (l.length - 1 - trim.toNat) 0⟩
def rowT(p:Plan)(l:List Record)(trim:Int)(t:Nat):List Range:=(List.range p.channels.length).map fun c=>rangeT l trim t c
def envT(p:Plan)(l:List Record)(trim:Int):Envelope:=⟨l.length,trim,(List.range p.ticks.toNat).map fun t=>rowT p l trim t⟩
def envErr(p:Plan)(l:List Record)(trim:Int):Int:=if openRecs p l≠0 then openRecs p l else trimErr trim l.length
def envOf(p:Plan)(l:List Record)(trim:Int):Envelope:=if envErr p l trim=0 then envT p l trim else⟨0,0,[]⟩
theorem openRecs_0{p:Plan}{l:List Record}(h:openRecs p l=0):planErr p=0∧(1≤l.length∧l.length≤20)∧WholeT p l:=by
 unfold openRecs at h
 split at h
 ·contradiction
 ·refine⟨by omega,?_,whole_of h⟩
  unfold recsErr at h
  split at h
  ·contradiction
  ·split at h
   ·contradiction
   ·omega
theorem col_len(l:List Record)(t c:Nat):(col l t c).length=l.length:=by simp[col]
theorem col_snoc{l:List Record}{k t c:Nat}(h:k<l.length)(h1:t<l[k].rows.length)(h2:c<l[k].rows[t].values.length):col (l.take k) t c++[l[k].rows[t].values[c]]=col (l.take (k+1)) t c:=by
 have e:(l[k].rows.getD t ⟨false,[]⟩).values.getD c 0=l[k].rows[t].values[c]:=by simp[List.getD,List.getElem?_eq_getElem h1,List.getElem?_eq_getElem h2]
 rw[←take_snoc h]
 simp only[col,List.map_append,List.map_cons,List.map_nil,e]
theorem getD_of{l:List Int}{i:Nat}(h:i<l.length):l.getD i 0=l[i]:=by simp[List.getD,h]
theorem mon_envelope{p:Plan}{l:List Record}{trim:Int}(hp:planErr p=0)(hl:1≤l.length∧l.length≤1000)(hw:WholeT p l)(ht:0≤trim∧2 * trim≤l.length - 1):Ct Tryz.prog 248 [.agg p.cs,.sl (l.map Record.cs),.int .i64 trim] (.agg (envT p l trim).cs):=by
 refine Ct.intro (rs:=[.cell 6 50]) Tryz.func248 rfl Tryz.ntmps248 Tryz.results248 rfl rfl rfl fun w h=>?_
 have hpp:=planErr_0 hp
 refine kr (RK.c (zB (c:=3) rfl rfl) (RK.c (zA (c:=6) ze50 rfl) (kq (kc (zm rfl) (kc (zk si226 rfl) (kc (zm rfl) (kc (S.build bu50 rfl .none rfl (zc rfl (zc rfl .nil)) rfl rfl) (RK.c (zA (c:=7) ze50 rfl) (kc (zS ti50 rfl rfl rfl rfl rfl rfl) (kD (kO (kr ?_))))))))))))
 refine kc (zf fi319_0 rfl) (kc (zf fi105_1 rfl) (kc (zl ti3 rfl rfl rfl rfl) (kc (S.move .none rfl (.cint rfl)) (kD (OK.block (OK.boxOwn 7 2 900 1 rfl rfl rfl rfl rfl ?_))))))
 refine OK.loop (G:=Nat) [3,6,7,900] (fun i=>[(1,.sl (l.map Record.cs)),(2,.int .i64 trim),(3,.ptr 3 0),(1003,.box p.cs),(6,.ptr 6 0),(1006,.box [.int .i64 0,.int .i64 0,.nils]),(7,.ptr 7 0),(1007,.box [.int .i64 l.length,.int .i64 trim,.own 900 i]),(2900,.arr 1 ((List.range i).map (fun t=>[X.sl ((rowT p l trim t).map Range.cs)]))),(20,.int .i64 p.ticks),(21,.int .i64 i)]) (fun i=>(i:Int)≤p.ticks) (fun i=>p.ticks.toNat - i) 0 (by omega) ⟨rfl,rfl,rfl,rfl,rfl,rfl,rfl,rfl,(lk_arr (by first|rfl|(simp;done)|(simp;omega))),rfl,rfl,trivial⟩ (fun _=>rfl) ?_
 rintro i hi
 refine kr (kc (S.lss .none rfl (zt rfl) (zt rfl)) (kD (kO (kB rfl (fun c22=>?_) (fun c22=>?_)))))
 ·
  refine OK.skip (Ab.D.code (kO (OK.block (kr (kc (zm rfl) (kc (za rfl) (kq (RK.c (S.nilOwn (k:=9) (sz:=2) .none rfl) (kD (kO (kr ?_)))))))))))
  refine kc (zf fi319_0 rfl) (kc (zf fi105_0 rfl) (kc (zl ti103 rfl rfl rfl rfl) (kc (zk si103 rfl) (kc (S.move .none rfl (.cint rfl)) (kD (OK.block ?_))))))
  refine OK.loop (G:=Nat) [3,6,7,900,9] (fun c=>[(1,.sl (l.map Record.cs)),(2,.int .i64 trim),(3,.ptr 3 0),(1003,.box p.cs),(6,.ptr 6 0),(1006,.box [.int .i64 0,.int .i64 0,.nils]),(7,.ptr 7 0),(1007,.box [.int .i64 l.length,.int .i64 trim,.own 900 i]),(2900,.arr 1 ((List.range i).map (fun t=>[X.sl ((rowT p l trim t).map Range.cs)]))),(20,.int .i64 p.ticks),(21,.int .i64 i),(8,.int .i64 i),(9,.own 9 c),(2009,.arr 2 ((List.range c).map fun c=>(rangeT l trim i c).cs)),(27,.int .i64 p.channels.length),(28,.int .i64 c)]) (fun c=>c≤p.channels.length) (fun c=>p.channels.length - c) 0 (Nat.zero_le _) ⟨rfl,rfl,rfl,rfl,rfl,rfl,rfl,rfl,(lk_arr (by first|rfl|(simp;done)|(simp;omega))),rfl,rfl,rfl,(lk_own (by first|rfl|(simp;done)|(simp;omega))),(lk_arr (by first|rfl|(simp;done)|(simp;omega))),rfl,rfl,trivial⟩ (fun _=>rfl) ?_
  rintro c hc
  refine kr (kc (S.lss .none rfl (zt rfl) (zt rfl)) (kD (kO (kB rfl (fun c29=>?_) (fun c29=>?_)))))
  ·
   refine OK.skip (Ab.D.code (kO (OK.block (kr (kc (zm rfl) (kc (za rfl) (kq (RK.c (S.nilOwn (k:=11) (sz:=1) .none rfl) (kD (kO (kr ?_)))))))))))
   refine kc (zm rfl) (kc (zk si226 rfl) (kc (S.move .none rfl (.cint rfl)) (kD (OK.block ?_))))
   refine OK.loop (G:=Nat) [3,6,7,900,9,11] (fun k=>[(1,.sl (l.map Record.cs)),(2,.int .i64 trim),(3,.ptr 3 0),(1003,.box p.cs),(6,.ptr 6 0),(1006,.box [.int .i64 0,.int .i64 0,.nils]),(7,.ptr 7 0),(1007,.box [.int .i64 l.length,.int .i64 trim,.own 900 i]),(2900,.arr 1 ((List.range i).map (fun t=>[X.sl ((rowT p l trim t).map Range.cs)]))),(20,.int .i64 p.ticks),(21,.int .i64 i),(8,.int .i64 i),(9,.own 9 c),(2009,.arr 2 ((List.range c).map fun c=>(rangeT l trim i c).cs)),(27,.int .i64 p.channels.length),(28,.int .i64 c),(10,.int .i64 c),(11,.own 11 k),(2011,.arr 1 ((col (l.take k) i c).map fun n=>[.int .i64 n])),(31,.sl (l.map Record.cs)),(32,.int .i64 l.length),(33,.int .i64 k)]) (fun k=>k≤l.length) (fun k=>l.length - k) 0 (Nat.zero_le _) ⟨rfl,rfl,rfl,rfl,rfl,rfl,rfl,rfl,(lk_arr (by first|rfl|(simp;done)|(simp;omega))),rfl,rfl,rfl,(lk_own (by first|rfl|(simp;done)|(simp;omega))),(lk_arr (by first|rfl|(simp;done)|(simp;omega))),rfl,rfl,rfl,(lk_own (by first|rfl|(simp;done)|(simp;omega))),(lk_arr (by first|rfl|(simp;done)|(simp;omega))),rfl,rfl,rfl,trivial⟩ (fun _=>rfl) ?_
   rintro k hk
   refine kr (kc (S.lss .none rfl (zt rfl) (zt rfl)) (kD (kO (kB rfl (fun c34=>?_) (fun c34=>?_)))))
   ·
    have h1:i<l[k].rows.length:=by have:=hw.rows k (by omega);omega
    have h2:c<l[k].rows[i].values.length:=by have:=hw.vals k (by omega) i h1;omega
    refine OK.skip (Ab.D.code (kO (OK.block (kr (kc (S.indexM si226 .none rfl (zt rfl) (zt rfl) rfl (by omega) rfl) (kc (S.loadN ti223 .none rfl (zt rfl) rfl rfl) (RK.c (zA (c:=13) ze223 rfl) (kc (zS ti223 rfl rfl rfl rfl rfl rfl) (RK.nil (Ab.D.code (OK.reg ?_)))))))))))
    refine kc (zm rfl) (kc (zf fi223_0 rfl) (kc (zl ti221 rfl rfl rfl rfl) (kc (zm rfl) (kc (S.indexM (n:=i) si221 .none rfl (zt rfl) (zt rfl) rfl h1 rfl) (kc (S.field fi303_1 .none rfl (zt rfl) rfl) (kc (zV ti47 rfl rfl) (kc (zm rfl) (kc (S.indexM (n:=c) si47 .none rfl (zt rfl) (zt rfl) rfl h2 rfl) (kc (zV ti3 rfl rfl) (RK.c (S.mkSlice (k:=47) (rows:=[[_]]) ai47 .none rfl (zc rfl .nil) rfl rfl rfl rfl rfl rfl rfl) ?_))))))))))
    refine RK.c (S.append ai47 .none rfl (zt rfl) rfl (by simp only[List.length_map,col_len,List.length_take];omega) (zt rfl) rfl (by first|rfl|(simp;done)|(simp;omega)) (by omega) (by simp only[maxLen];omega)) ?_
    refine kc (za rfl) (RK.nil (Ab.D.blk (Ab.D.code (OK.reg ?_))))
    refine kc (zp rfl rfl (by omega)) (kc (zm rfl) (RK.nil ?_))
    refine Ab.D.lp ⟨k+1,(by omega),(by omega),rfl,rfl,rfl,rfl,rfl,rfl,rfl,rfl,(lk_arr (by first|rfl|(simp;done)|(simp;omega))),rfl,rfl,rfl,(lk_own (by first|rfl|(simp;done)|(simp;omega))),(lk_arr (by first|rfl|(simp;done)|(simp;omega))),rfl,rfl,rfl,(lk_own (by first|rfl|(simp;done)|(simp;omega))),(lk_arr (by rw[←col_snoc (by omega) h1 h2,List.map_append];rfl)),rfl,rfl,rfl,trivial⟩
   ·
    refine OK.exit rfl (Ab.D.code (kO ?_))
    have hkl:k=l.length:=by omega
    subst hkl
    refine OK.reg (kc (zm rfl) (kc (S.sortI (zs:=col (l.take l.length) i c) sortsI Tryz.call63 .none rfl (zt rfl) rfl (by simp[col_len]) rfl (by omega)) ?_))
    refine kD ?_
    rw[List.take_length]at *
    have hsl:((col l i c).mergeSort fun x y=>decide (x≤y)).length=l.length:=by rw[sort_len,col_len]
    have hrange:rangeT l trim i c=⟨((col l i c).mergeSort fun x y=>decide (x≤y))[trim.toNat],((col l i c).mergeSort fun x y=>decide (x≤y))[l.length - 1 - trim.toNat]⟩:=by
     rw[rangeT,sorted,getD_of (by omega),getD_of (by omega)]
    refine OK.freeze 11 rfl rfl rfl (by simp only[List.length_map,sort_len,col_len]) ?_
    refine OK.regionDraw follows (.c (zm rfl) (.c (zm rfl) (.c (zm rfl) (.c (S.indexM (n:=trim.toNat) si47 .none rfl (zt rfl) (zt rfl) (by omega) (by omega) rfl) (.c (zV ti3 rfl rfl) (.c (zm rfl) (.c (zm rfl) (.c (zk si47 rfl) (.c (S.sub .none rfl (zt rfl) (.cint rfl) (IntWalk.i64_in _ (by omega)) (IntWalk.i64_in _ (by omega))) (.c (zm rfl) (.c (S.sub .none rfl (zt rfl) (zt rfl) (IntWalk.i64_in _ (by omega)) (IntWalk.i64_in _ (by omega))) (.c (S.indexM (n:=(l.length - 1 - trim.toNat)) si47 .none rfl (zt rfl) (zt rfl) (by omega) (by omega) rfl) (.c (zV ti3 rfl rfl) (.c (S.build bu24 rfl .none rfl (zc rfl (zc rfl .nil)) rfl rfl) (.c (S.mkSlice (k:=66) (rows:=[[_,_]]) ai305 .none rfl (zc rfl .nil) rfl rfl rfl rfl rfl rfl rfl) (.c (S.append ai305 .none rfl (zt rfl) rfl (by first|rfl|(simp;done)|(simp;omega)) (zt rfl) rfl (by first|rfl|(simp;done)|(simp;omega)) (by omega) (by simp only[maxLen];omega)) (.c (za rfl) .nil))))))))))))))))) (by kernel_rfl) ?_
    refine Ab.D.blk (Ab.D.code (OK.reg ?_))
    refine kc (zp rfl rfl (by omega)) (kc (zm rfl) (RK.nil ?_))
    refine Ab.D.lp ⟨c+1,(by omega),(by omega),rfl,rfl,rfl,rfl,rfl,rfl,rfl,rfl,(lk_arr (by first|rfl|(simp;done)|(simp;omega))),rfl,rfl,rfl,(lk_own (by first|rfl|(simp;done)|(simp;omega))),(lk_arr (by rw[List.range_succ,List.map_append,List.map_cons,hrange];rfl)),rfl,rfl,trivial⟩
  ·
   refine OK.exit rfl (Ab.D.code (OK.freeze 9 rfl rfl rfl (by simp) ?_))
   refine OK.reg (kc (zf fi50_2 rfl) (kc (zl ti48 rfl rfl rfl rfl) (kc (zm rfl) (RK.c (S.mkSlice (k:=72) (rows:=[[_]]) ai48 .none rfl (zc rfl .nil) rfl rfl rfl rfl rfl rfl rfl) ?_))))
   refine RK.c (S.append ai48 .none rfl (zt rfl) rfl (by first|rfl|(simp;done)|(simp;omega)) (zt rfl) rfl (by first|rfl|(simp;done)|(simp;omega)) (by omega) (by simp only[maxLen];omega)) ?_
   refine kc (zf fi50_2 rfl) (kc (zS ti48 rfl rfl rfl rfl rfl rfl) (RK.nil (Ab.D.blk (Ab.D.code (OK.reg ?_)))))
   refine kc (zp rfl rfl (by omega)) (kc (zm rfl) (RK.nil ?_))
   refine Ab.D.lp ⟨i+1,(by omega),(by omega),rfl,rfl,rfl,rfl,rfl,rfl,rfl,rfl,(lk_arr (by rw[show c=p.channels.length by omega,List.range_succ,List.map_append];simp only[rowT,List.map_map,List.map_cons,List.map_nil];rfl)),rfl,rfl,trivial⟩
 ·
  refine OK.exit rfl (kp (kc (zL ti50 rfl rfl rfl rfl) (kc (zS ti50 rfl rfl rfl rfl rfl rfl) (kD ?_))))
  refine OK.ret (Ret.r1 (.cellN rfl rfl rfl rfl ti50 rfl (.k (.same rfl) (.k (.same rfl) (.k (.own rfl rfl (by first|rfl|(simp;done)|(simp;omega))) .z)))) ?_)
  rw[show i=p.ticks.toNat by omega,envT,Envelope.cs,List.map_map]
  rfl
theorem mon_EnvelopeOf{p:Plan}{l:List Record}{trim:Int}:Ct Tryz.prog 191 [.agg p.cs,.sl (l.map Record.cs),.int .i64 trim] (.tup [.agg (envOf p l trim).cs,.int .i64 (envErr p l trim)]):=by
 refine Ct.intro (rs:=[.cell 6 50,.tmp 7]) Tryz.func191 rfl Tryz.ntmps191 Tryz.results191 rfl rfl rfl fun w h=>?_
 refine OK.slLen (rows:=l.map Record.cs) (t:=1) rfl rfl fun hlen=>?_
 rw[List.length_map]at hlen
 unfold maxLen at hlen
 refine kr (RK.c (zB (c:=3) rfl rfl) (RK.c (zA (c:=6) ze50 rfl) (kc (zi rfl rfl) (kq (kc (zL ti105 rfl rfl rfl rfl) (kc (zm rfl) (kc (S.call (mon_openRecords) Tryz.call246 .none rfl (zc rfl (zc rfl .nil)) rfl) (kc (zm rfl) (kc (zX rfl rfl rfl) (kc (zX rfl rfl rfl) (RK.c (zA (c:=8) ze319 rfl) ?_)))))))))))
 refine kc (zS ti319 rfl rfl rfl rfl rfl rfl) (kc (za rfl) (kD (kO (kr ?_))))
 refine kc (zm rfl) (kc (zE rfl rfl) (kD (kB rfl (fun c17=>?_) (fun c17=>?_))))
 ·
  have hl:=openRecs_0 c17
  have hq:envErr p l trim=trimErr trim l.length:=by rw[envErr,if_neg (by omega)]
  refine OK.reg (kc (zm rfl) (kc (zm rfl) (kc (zk si226 rfl) (kc (S.call (mon_trimErr (by omega)) Tryz.call247 .none rfl (zc rfl (zc rfl .nil)) rfl) (kc (za rfl) (kD (kO (kr ?_))))))))
  refine kc (zm rfl) (kc (zN rfl rfl) (kD (kB rfl (fun c23=>?_) (fun c23=>?_))))
  ·
   refine kr (kc (S.build bu50 rfl .none rfl .nil rfl rfl) (kc (zm rfl) (kc (zS ti50 rfl rfl rfl rfl rfl rfl) (kc (za rfl) (kD (OK.ret (Ret.r2 (.cellN rfl rfl rfl rfl ti50 rfl (.k (.same rfl) (.k (.same rfl) (.k .nils .z)))) (zo rfl rfl) ?_)))))))
   rw[envOf,if_neg (by omega),hq]
   rfl
  ·
   have he:envErr p l trim=0:=by omega
   have hl:=openRecs_0 (p:=p) (l:=l) (by omega)
   have ht:trimErr trim l.length=0:=by unfold envErr at he;split at he<;>omega
   refine OK.skip (kp (kc (zL ti319 rfl rfl rfl rfl) (kc (zm rfl) (kc (zm rfl) (kc (S.call (mon_envelope hl.1 ⟨by omega,by omega⟩ hl.2.2 (trimErr_0 (by omega) ht)) Tryz.call248 .none rfl (zc rfl (zc rfl (zc rfl .nil))) rfl) ?_)))))
   refine kc (zS ti50 rfl rfl rfl rfl rfl rfl) (kc (zi rfl rfl) (kD (OK.ret (Ret.r2 (.cellN rfl rfl rfl rfl ti50 rfl (.k (.same rfl) (.k (.same rfl) (.k (.same rfl) .z)))) (zo rfl rfl) ?_))))
   rw[envOf,if_pos he,he]
   rfl
 ·
  have hq:envErr p l trim=openRecs p l:=by rw[envErr,if_pos c17]
  refine OK.skip (Ab.D.code (kO (kr ?_)))
  refine kc (zm rfl) (kc (zN rfl rfl) (kD (kB rfl (fun c23=>?_) (fun c23=>?_))))
  ·
   refine kr (kc (S.build bu50 rfl .none rfl .nil rfl rfl) (kc (zm rfl) (kc (zS ti50 rfl rfl rfl rfl rfl rfl) (kc (za rfl) (kD (OK.ret (Ret.r2 (.cellN rfl rfl rfl rfl ti50 rfl (.k (.same rfl) (.k (.same rfl) (.k .nils .z)))) (zo rfl rfl) ?_)))))))
   rw[envOf,if_neg (by omega),hq]
   rfl
  ·
   have he:envErr p l trim=0:=by omega
   have hl:=openRecs_0 (p:=p) (l:=l) (by omega)
   have ht:trimErr trim l.length=0:=by unfold envErr at he;split at he<;>omega
   refine OK.skip (kp (kc (zL ti319 rfl rfl rfl rfl) (kc (zm rfl) (kc (zm rfl) (kc (S.call (mon_envelope hl.1 ⟨by omega,by omega⟩ hl.2.2 (trimErr_0 (by omega) ht)) Tryz.call248 .none rfl (zc rfl (zc rfl (zc rfl .nil))) rfl) ?_)))))
   refine kc (zS ti50 rfl rfl rfl rfl rfl rfl) (kc (zi rfl rfl) (kD (OK.ret (Ret.r2 (.cellN rfl rfl rfl rfl ti50 rfl (.k (.same rfl) (.k (.same rfl) (.k (.same rfl) .z)))) (zo rfl rfl) ?_))))
   rw[envOf,if_pos he,he]
   rfl
end Go.Proofs.YtpbalelbenmmbaaGreatDoor
namespace Go.Proofs.YtpbalelbenmmbaaGreatDoor
open Go.Ab
def rangeErr(x:Range):Int:=if¬((-1000000≤x.lo∧x.lo≤1000000)∧(-1000000≤x.hi∧x.hi≤1000000))then 2 else if x.lo≤x.hi then 0 else 9
def erowErr(p:Plan)(l:List Range):Int:=if l.length≠p.channels.length then 10 else(eachGo (fun _ x=>rangeErr x) 0 l).2
def envChk(p:Plan)(x:Envelope):Int×Int:=
 if¬(1≤x.parts∧x.parts≤20)then(0,2)else if trimErr x.trim x.parts≠0 then(0,trimErr x.trim x.parts)else if(x.rows.length:Int)≠p.ticks then(0,10)else eachGo (fun _ l=>erowErr p l) 0 x.rows
def bothErr(p:Plan)(x:Envelope)(r:Record):Int:=if planErr p≠0 then planErr p else if(envChk p x).2≠0 then(envChk p x).2 else(recChk p r).2
theorem envHead{p:Plan}{x:Envelope}(h:1≤x.parts∧x.parts≤20):envChk p x=if firstE [trimErr x.trim x.parts,unlessE (decide ((x.rows.length:Int)=p.ticks)) 10]≠0 then(0,firstE [trimErr x.trim x.parts,unlessE (decide ((x.rows.length:Int)=p.ticks)) 10])else eachGo (fun _ l=>erowErr p l) 0 x.rows:=by
 rw[envChk,if_neg (by omega),firstE2,ite_unless]
 by_cases h1:trimErr x.trim x.parts=0
 ·by_cases h2:(x.rows.length:Int)=p.ticks
  ·simp[h1,h2]
  ·simp[h1,h2]
 ·simp[h1]
theorem mon_range{i:Nat}{x:Range}:Ct Tryz.prog 324 [.int .i64 i,.agg x.cs] (.int .i64 (rangeErr x)):=by
 refine Ct.intro (rs:=[.tmp 4]) Tryz.func324 rfl Tryz.ntmps324 Tryz.results324 rfl rfl rfl fun w h=>?_
 refine kr (RK.c (zB (c:=3) rfl rfl) (kc (zi rfl rfl) (kD (kO ?_))))
 by_cases g8: -1000000≤x.lo∧x.lo≤1000000
 ·
  refine OK.regionDraw follows (.c (zf fi24_0 rfl) (.c (zl ti3 rfl rfl rfl rfl) (.c (S.call (mon_isValue) Tryz.call320 .none rfl (zc rfl .nil) rfl) (.c (zm rfl) (.c (S.bfield fi24_1 (.yes rfl rfl rfl (by first|rfl|exact decide_eq_true g8|exact decide_eq_false g8|(rw[decide_eq_true g8];rfl)|(rw[decide_eq_false g8];rfl)|simp[*])) rfl (zt rfl)) (.c (S.bload1 ti3 (.yes rfl rfl rfl (by first|rfl|exact decide_eq_true g8|exact decide_eq_false g8|(rw[decide_eq_true g8];rfl)|(rw[decide_eq_false g8];rfl)|simp[*])) rfl (zt rfl) rfl rfl rfl rfl) (.c (S.call (mon_isValue) Tryz.call320 (.yes rfl rfl rfl (by first|rfl|exact decide_eq_true g8|exact decide_eq_false g8|(rw[decide_eq_true g8];rfl)|(rw[decide_eq_false g8];rfl)|simp[*])) rfl (zc rfl .nil) rfl) (.c (S.pickT .none rfl (zt rfl) (zt rfl) (by first|rfl|exact decide_eq_true g8|exact decide_eq_false g8|(rw[decide_eq_true g8];rfl)|(rw[decide_eq_false g8];rfl)|simp[*])) (.c (S.call (monitor_unless) Tryz.call164 .none rfl (zc rfl (.cons (.cint rfl) .nil)) rfl) (.c (zf fi24_0 rfl) (.c (zl ti3 rfl rfl rfl rfl) (.c (zf fi24_1 rfl) (.c (zl ti3 rfl rfl rfl rfl) (.c (S.leq .none rfl (zt rfl) (zt rfl)) (.c (S.call (monitor_unless) Tryz.call164 .none rfl (zc rfl (.cons (.cint rfl) .nil)) rfl) (.c (S.mkSlice (k:=20) (rows:=[[_],[_]]) ai184 .none rfl (zc rfl (zc rfl .nil)) rfl rfl rfl rfl rfl rfl rfl) (.c (S.callL (monitor_first (l:=[_,_])) Tryz.call163 .none rfl (zc rfl .nil) (.cons (.p (.own rfl rfl) rfl) .nil) rfl) (.c (za rfl) .nil)))))))))))))))))) (by kernel_rfl) ?_
  refine Ab.D.code (OK.ret (Ret.r1 (zo rfl rfl) ?_))
  refine ret_i ?_
  simp[firstE2,unlessE]
  unfold rangeErr
  repeat' split
  all_goals omega
 ·
  refine OK.regionDraw follows (.c (zf fi24_0 rfl) (.c (zl ti3 rfl rfl rfl rfl) (.c (S.call (mon_isValue) Tryz.call320 .none rfl (zc rfl .nil) rfl) (.c (zm rfl) (.c (S.skip rfl rfl rfl (by first|rfl|exact decide_eq_true g8|exact decide_eq_false g8|(rw[decide_eq_true g8];rfl)|(rw[decide_eq_false g8];rfl)|simp[*]) rfl) (.c (S.skip rfl rfl rfl (by first|rfl|exact decide_eq_true g8|exact decide_eq_false g8|(rw[decide_eq_true g8];rfl)|(rw[decide_eq_false g8];rfl)|simp[*]) rfl) (.c (S.skip rfl rfl rfl (by first|rfl|exact decide_eq_true g8|exact decide_eq_false g8|(rw[decide_eq_true g8];rfl)|(rw[decide_eq_false g8];rfl)|simp[*]) rfl) (.c (S.pickF .none rfl (zt rfl) .cbool (by first|rfl|exact decide_eq_true g8|exact decide_eq_false g8|(rw[decide_eq_true g8];rfl)|(rw[decide_eq_false g8];rfl)|simp[*])) (.c (S.call (monitor_unless) Tryz.call164 .none rfl (zc rfl (.cons (.cint rfl) .nil)) rfl) (.c (zf fi24_0 rfl) (.c (zl ti3 rfl rfl rfl rfl) (.c (zf fi24_1 rfl) (.c (zl ti3 rfl rfl rfl rfl) (.c (S.leq .none rfl (zt rfl) (zt rfl)) (.c (S.call (monitor_unless) Tryz.call164 .none rfl (zc rfl (.cons (.cint rfl) .nil)) rfl) (.c (S.mkSlice (k:=20) (rows:=[[_],[_]]) ai184 .none rfl (zc rfl (zc rfl .nil)) rfl rfl rfl rfl rfl rfl rfl) (.c (S.callL (monitor_first (l:=[_,_])) Tryz.call163 .none rfl (zc rfl .nil) (.cons (.p (.own rfl rfl) rfl) .nil) rfl) (.c (za rfl) .nil)))))))))))))))))) (by kernel_rfl) ?_
  refine Ab.D.code (OK.ret (Ret.r1 (zo rfl rfl) ?_))
  refine ret_i ?_
  simp[firstE2,unlessE]
  unfold rangeErr
  repeat' split
  all_goals omega
theorem mon_erow{p:Plan}{i:Nat}{l:List Range}:Ct Tryz.prog 322 [.int .i64 i,.sl (l.map Range.cs),.eptr p.cs] (.int .i64 (erowErr p l)):=by
 refine Ct.intro (rs:=[.tmp 5]) Tryz.func322 rfl Tryz.ntmps322 Tryz.results322 rfl rfl rfl fun w h=>?_
 refine kr (kc (zi rfl rfl) (kD (kO (kr ?_))))
 refine kc (zm rfl) (kc (zk si305 rfl) (kc (S.field fi319_0 .none rfl (zt rfl) rfl) (kc (S.field fi105_0 .none rfl (zt rfl) rfl) (kc (zV ti103 rfl rfl) (kc (zk si103 rfl) (kc (S.neq .none rfl (zt rfl) (zt rfl)) (kD (kB rfl (fun c14=>?_) (fun c14=>?_)))))))))
 ·
  refine kr (kc (zi rfl rfl) (kD (OK.ret (Ret.r1 (zo rfl rfl) ?_))))
  refine ret_i ?_
  rw[erowErr,if_pos (by omega)]
 ·
  refine OK.skip (kp (kc (zm rfl) (kc (S.call (each_Range (l:=l) (g:=fun _ x=>rangeErr x) (caps:=[]) (fun i x _=>mon_range) Tryz.call324 ⟨rfl,rfl⟩) Tryz.call323 .none rfl (zc rfl (.cons .cfn .nil)) rfl) ?_)))
  refine kc (zm rfl) (kc (zX rfl rfl rfl) (kc (zX rfl rfl rfl) (kc (za rfl) (kc (za rfl) (kq (kc (zm rfl) (kc (za rfl) (kD (OK.ret (Ret.r1 (zo rfl rfl) ?_))))))))))
  refine ret_i ?_
  rw[erowErr,if_neg (by omega)]
theorem mon_envelopeErr{p:Plan}{x:Envelope}:Ct Tryz.prog 277 [.agg p.cs,.agg x.cs] (pair (envChk p x)):=by
 refine Ct.intro (rs:=[.tmp 4,.tmp 5]) Tryz.func277 rfl Tryz.ntmps277 Tryz.results277 rfl rfl rfl fun w h=>?_
 refine kr (RK.c (zB (c:=2) rfl rfl) (RK.c (zB (c:=3) rfl rfl) (kc (zi rfl rfl) (kc (zi rfl rfl) (kD (kO (kr ?_)))))))
 refine kc (zf fi50_0 rfl) (kc (zl ti3 rfl rfl rfl rfl) (kc (S.call (mon_within) Tryz.call168 .none rfl (zc rfl (.cons (.cint rfl) (.cons (.cint rfl) .nil))) rfl) (kc (S.notD .none rfl (zt rfl)) (kD (kB rfl (fun c10=>?_) (fun c10=>?_))))))
 ·
  have hx:¬(1≤x.parts∧x.parts≤20):=by simpa using c10
  refine kr (kc (zi rfl rfl) (kc (zi rfl rfl) (kD (OK.ret (Ret.r2 (zo rfl rfl) (zo rfl rfl) ?_)))))
  refine ret_p ?_
  rw[envChk,if_pos hx]
 ·
  have hx:1≤x.parts∧x.parts≤20:=by simpa using c10
  refine OK.skip (Ab.D.code (kO (kO (OK.regionDraw follows (.c (zf fi50_1 rfl) (.c (zl ti3 rfl rfl rfl rfl) (.c (zf fi50_0 rfl) (.c (zl ti3 rfl rfl rfl rfl) (.c (S.call (mon_trimErr (by omega)) Tryz.call247 .none rfl (zc rfl (zc rfl .nil)) rfl) (.c (zf fi50_2 rfl) (.c (zl ti48 rfl rfl rfl rfl) (.c (zk si48 rfl) (.c (zf fi319_0 rfl) (.c (zf fi105_1 rfl) (.c (zl ti3 rfl rfl rfl rfl) (.c (S.eql .none rfl (zt rfl) (zt rfl)) (.c (S.call (monitor_unless) Tryz.call164 .none rfl (zc rfl (.cons (.cint rfl) .nil)) rfl) (.c (S.mkSlice (k:=24) (rows:=[[_],[_]]) ai184 .none rfl (zc rfl (zc rfl .nil)) rfl rfl rfl rfl rfl rfl rfl) (.c (S.callL (monitor_first (l:=[_,_])) Tryz.call163 .none rfl (zc rfl .nil) (.cons (.p (.own rfl rfl) rfl) .nil) rfl) (.c (za rfl) .nil)))))))))))))))) (by kernel_rfl) ?_))))
  refine kp (kc (zm rfl) (kc (zN rfl rfl) (kD (kB rfl (fun c27=>?_) (fun c27=>?_)))))
  ·
   refine kr (kc (zm rfl) (kc (zi rfl rfl) (kc (za rfl) (kD (OK.ret (Ret.r2 (zo rfl rfl) (zo rfl rfl) ?_))))))
   refine ret_p ?_
   rw[envHead hx,if_pos c27]
  ·
   refine OK.skip (kp (kc (zf fi50_2 rfl) (kc (zl ti48 rfl rfl rfl rfl) (kc (S.makeFunc1 .none rfl (zt rfl) rfl) (kc (S.callL (each_List_Range (l:=x.rows) (g:=fun _ l=>erowErr p l) (caps:=[.eptr p.cs]) (fun i x _=>mon_erow) Tryz.call322 ⟨rfl,rfl⟩) Tryz.call321 .none rfl (zc rfl (zc rfl .nil)) (.cons (.same rfl) (.cons (.fn (.cons (.ptr rfl rfl rfl rfl) .nil)) .nil)) rfl) ?_)))))
   refine kc (zX rfl rfl rfl) (kc (zX rfl rfl rfl) (kc (za rfl) (kc (za rfl) (kD (OK.ret (Ret.r2 (zo rfl rfl) (zo rfl rfl) ?_))))))
   refine ret_p ?_
   rw[envHead hx,if_neg c27]
theorem mon_openBoth{p:Plan}{x:Envelope}{r:Record}:Ct Tryz.prog 230 [.agg p.cs,.agg x.cs,.agg r.cs] (.int .i64 (bothErr p x r)):=by
 refine Ct.intro (rs:=[.tmp 6]) Tryz.func230 rfl Tryz.ntmps230 Tryz.results230 rfl rfl rfl fun w h=>?_
 refine kr (RK.c (zB (c:=3) rfl rfl) (RK.c (zB (c:=4) rfl rfl) (RK.c (zB (c:=5) rfl rfl) (kc (zi rfl rfl) (kq (kc (zL ti105 rfl rfl rfl rfl) (kc (S.call (mon_open) Tryz.call228 .none rfl (zc rfl .nil) rfl) (kc (zm rfl) (kc (zX rfl rfl rfl) (kc (zX rfl rfl rfl) (RK.c (zA (c:=7) ze319 rfl) ?_)))))))))))
 refine kc (zS ti319 rfl rfl rfl rfl rfl rfl) (kc (za rfl) (kD (kO (kr ?_))))
 refine kc (zm rfl) (kc (zN rfl rfl) (kD (kB rfl (fun c17=>?_) (fun c17=>?_))))
 ·
  refine kr (kc (zm rfl) (kc (za rfl) (kD (OK.ret (Ret.r1 (zo rfl rfl) ?_)))))
  refine ret_i ?_
  rw[bothErr,if_pos c17]
 ·
  refine OK.skip (Ab.D.code (kO (kr ?_)))
  refine kc (zL ti319 rfl rfl rfl rfl) (kc (zL ti50 rfl rfl rfl rfl) (kc (S.call (mon_envelopeErr) Tryz.call277 .none rfl (zc rfl (zc rfl .nil)) rfl) (kc (zm rfl) (kc (zX rfl rfl rfl) (kc (zX rfl rfl rfl) (kc (za rfl) (kc (za rfl) (kq (kc (zm rfl) (kc (zN rfl rfl) (kD ?_)))))))))))
  refine kB rfl (fun c26=>?_) (fun c26=>?_)
  ·
   refine kr (kc (zm rfl) (kc (za rfl) (kD (OK.ret (Ret.r1 (zo rfl rfl) ?_)))))
   refine ret_i ?_
   rw[bothErr,if_neg c17,if_pos c26]
  ·
   refine OK.skip (kp (kc (zL ti319 rfl rfl rfl rfl) (kc (zL ti223 rfl rfl rfl rfl) (kc (S.call (mon_recordErr) Tryz.call278 .none rfl (zc rfl (zc rfl .nil)) rfl) (kc (zm rfl) (kc (zX rfl rfl rfl) (kc (zX rfl rfl rfl) (kc (za rfl) (kq (kc (zm rfl) (kc (za rfl) ?_)))))))))))
   refine kD (OK.ret (Ret.r1 (zo rfl rfl) ?_))
   refine ret_i ?_
   rw[bothErr,if_neg c17,if_neg c26]
end Go.Proofs.YtpbalelbenmmbaaGreatDoor
