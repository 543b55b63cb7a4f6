import Derived.Test.YtpbalelbenmmbaaGreatDoorHz
import Derived.Test.YtpbalelbenmmbaaGreatDoorTy
namespace Go.Proofs.YtpbalelbenmmbaaGreatDoor
open Go.Ab
def ints(l:List Int):X:=.sl (l.map fun n=>[.int .i64 n])
def texts(l:List (List UInt8)):X:=.sl (l.map fun s=>[.str s])
def firstE:List Int→Int
 |[]=>0
 |e::l=>if e≠0 then e else firstE l
theorem ret_b{a b:Bool}(h:a=b):X.bool a=X.bool b:=congrArg _ h
theorem ret_F{p:Prop}[Decidable p](h:¬p):X.bool false=X.bool (decide p):=by rw[decide_eq_false h]
theorem ret_T{p:Prop}[Decidable p](h:p):X.bool true=X.bool (decide p):=by rw[decide_eq_true h]
theorem ret_i{a b:Int}(h:a=b):X.int .i64 a=X.int .i64 b:=congrArg _ h
def unlessE(ok:Bool)(e:Int):Int:=if ok then 0 else e
theorem firstE_drop{l:List Int}{i:Nat}(h:i<l.length):firstE (l.drop i)=if l[i]≠0 then l[i]else firstE (l.drop (i+1)):=by
 rw[List.drop_eq_getElem_cons h,firstE]
theorem base_Within{n lo hi:Int}:Ct Tryz.prog 35 [.int .i64 n,.int .i64 lo,.int .i64 hi] (.bool (decide (lo≤n∧n≤hi))):=by
 refine Ct.intro (rs:=[.tmp 6]) Tryz.func35 rfl Tryz.ntmps35 Tryz.results35 rfl rfl rfl fun w h=>?_
 refine kr (kc (zb rfl) (kq (kc (zm rfl) (kc (zm rfl) (kc (S.leq .none rfl (zt rfl) (zt rfl)) (kc (zm rfl) (RK.splitD (t:=10) rfl (fun g10=>?_) (fun g10=>?_))))))))
 ·
  refine kc (S.move (zg rfl rfl) rfl (zt rfl)) (kc (S.move (zg rfl rfl) rfl (zt rfl)) (kc (S.leq (zg rfl rfl) rfl (zt rfl) (zt rfl)) (kc (S.pickT .none rfl (zt rfl) (zt rfl) rfl) (kc (za rfl) (kD (OK.ret (Ret.r1 (zo rfl rfl) ?_)))))))
  simp[*]
 ·
  refine kc (zQ rfl rfl) (kc (zQ rfl rfl) (kc (zQ rfl rfl) (kc (S.pickF .none rfl (zt rfl) .cbool rfl) (kc (za rfl) (kD (OK.ret (Ret.r1 (zo rfl rfl) ?_)))))))
  simp[*]
theorem mon_within{n lo hi:Int}:Ct Tryz.prog 168 [.int .i64 n,.int .i64 lo,.int .i64 hi] (.bool (decide (lo≤n∧n≤hi))):=by
 refine Ct.intro (rs:=[.tmp 6]) Tryz.func168 rfl Tryz.ntmps168 Tryz.results168 rfl rfl rfl fun w h=>?_
 refine kr (kc (zb rfl) (kq (kc (zm rfl) (kc (zm rfl) (kc (S.leq .none rfl (zt rfl) (zt rfl)) (kc (zm rfl) (RK.splitD (t:=10) rfl (fun g10=>?_) (fun g10=>?_))))))))
 ·
  refine kc (S.move (zg rfl rfl) rfl (zt rfl)) (kc (S.move (zg rfl rfl) rfl (zt rfl)) (kc (S.leq (zg rfl rfl) rfl (zt rfl) (zt rfl)) (kc (S.pickT .none rfl (zt rfl) (zt rfl) rfl) (kc (za rfl) (kD (OK.ret (Ret.r1 (zo rfl rfl) ?_)))))))
  simp[*]
 ·
  refine kc (zQ rfl rfl) (kc (zQ rfl rfl) (kc (zQ rfl rfl) (kc (S.pickF .none rfl (zt rfl) .cbool rfl) (kc (za rfl) (kD (OK.ret (Ret.r1 (zo rfl rfl) ?_)))))))
  simp[*]
theorem monitor_unless{ok:Bool}{e:Int}:Ct Tryz.prog 164 [.bool ok,.int .i64 e] (.int .i64 (unlessE ok e)):=by
 refine Ct.intro (rs:=[.tmp 4]) Tryz.func164 rfl Tryz.ntmps164 Tryz.results164 rfl rfl rfl fun w h=>?_
 refine kr (kc (zi rfl rfl) (kD (kO (kr ?_))))
 refine kc (zm rfl) (kD (OK.cond rfl rfl (fun c5=>?_) (fun c5=>?_)))
 ·
  refine kr (kc (zi rfl rfl) (kD (OK.ret (Ret.r1 (zo rfl rfl) ?_))))
  simp[unlessE, *]
 ·
  refine OK.skip (kp (kc (zm rfl) (kc (za rfl) (kD (OK.ret (Ret.r1 (zo rfl rfl) ?_))))))
  simp[unlessE, *]
theorem monitor_first{l:List Int}:Ct Tryz.prog 163 [ints l] (.int .i64 (firstE l)):=by
 refine Ct.intro (rs:=[.tmp 2]) Tryz.func163 rfl Tryz.ntmps163 Tryz.results163 rfl rfl rfl fun w h=>?_
 refine OK.slLen (rows:=l.map fun n=>[.int .i64 n]) (t:=0) rfl rfl fun hlen=>?_
 rw[List.length_map]at hlen
 unfold maxLen at hlen
 refine kr (kc (zi rfl rfl) (kD (kO (kr ?_))))
 refine kc (zm rfl) (kc (zk si184 rfl) (kc (S.move .none rfl (.cint rfl)) (kD (OK.block (OK.loop (G:=Nat) [] (fun i=>[(5,ints l),(6,.int .i64 l.length),(7,.int .i64 i)]) (fun i=>i≤l.length∧firstE l=firstE (l.drop i)) (fun i=>l.length - i) 0 ⟨Nat.zero_le _,rfl⟩ ⟨rfl,rfl,rfl,trivial⟩ (fun _=>rfl) ?_)))))
 rintro i ⟨hi,hf⟩
 refine kr (kc (S.lss .none rfl (zt rfl) (zt rfl)) (kD (kO (kB rfl (fun c8=>?_) (fun c8=>?_)))))
 ·
  refine OK.skip (Ab.D.code (kO (OK.block (kr (kc (S.indexM si184 .none rfl (zt rfl) (zt rfl) rfl (by omega) rfl) (kc (zV ti29 rfl rfl) (kc (za rfl) (kq (kc (zm rfl) (kc (zN rfl rfl) (kD ?_)))))))))))
  refine kB rfl (fun c12=>?_) (fun c12=>?_)
  ·
   refine kr (kc (zm rfl) (kc (za rfl) (kD (OK.ret (Ret.r1 (zo rfl rfl) ?_)))))
   rw[hf,firstE_drop (by omega)]
   simp_all
  ·
   refine OK.skip (Ab.D.blk (Ab.D.code (OK.reg ?_)))
   refine kc (zp rfl rfl (by omega)) (kc (zm rfl) (RK.nil (Ab.D.lp ⟨i+1,⟨by omega,?_⟩,(by omega),rfl,rfl,rfl,trivial⟩)))
   rw[hf,firstE_drop (by omega)]
   simp_all
 ·
  refine OK.exit rfl (kp (kc (zi rfl rfl) (kD (OK.ret (Ret.r1 (zo rfl rfl) ?_)))))
  have:i=l.length:=by omega
  subst this
  rw[hf,List.drop_length]
  rfl
theorem mon_isValue{n:Int}:Ct Tryz.prog 320 [.int .i64 n] (.bool (decide (-1000000≤n∧n≤1000000))):=by
 refine Ct.intro (rs:=[.tmp 2]) Tryz.func320 rfl Tryz.ntmps320 Tryz.results320 rfl rfl rfl fun w h=>?_
 refine kr (kc (zb rfl) (kq (kc (zm rfl) (kc (S.call (mon_within) Tryz.call168 .none rfl (zc rfl (.cons (.cint rfl) (.cons (.cint rfl) .nil))) rfl) (kc (za rfl) (kD (OK.ret (Ret.r1 (zo rfl rfl) ?_))))))))
 rfl
theorem base_Ints{a b:List Int}:Ct Tryz.prog 26 [ints a,ints b] (.bool (decide (a=b))):=by
 refine Ct.intro (rs:=[.tmp 4]) Tryz.func26 rfl Tryz.ntmps26 Tryz.results26 rfl rfl rfl fun w h=>?_
 refine OK.slLen (rows:=a.map fun n=>[.int .i64 n]) (t:=0) rfl rfl fun hlen=>?_
 rw[List.length_map]at hlen
 unfold maxLen at hlen
 refine kr (kc (zb rfl) (kD (kO (kr ?_))))
 refine kc (zm rfl) (kc (zk si47 rfl) (kc (zm rfl) (kc (zk si47 rfl) (kc (S.neq .none rfl (zt rfl) (zt rfl)) (kD (kB rfl (fun c10=>?_) (fun c10=>?_)))))))
 ·
  refine kr (kc (zb rfl) (kD (OK.ret (Ret.r1 (zo rfl rfl) ?_))))
  exact ret_F (fun e=>c10 (by rw[e]))
 ·
  have hl:a.length=b.length:=by omega
  refine OK.skip (Ab.D.code (kO (kr ?_)))
  refine kc (zi rfl rfl) (kD (OK.block (OK.loop (G:=Nat) [] (fun i=>[(0,ints a),(1,ints b),(5,.int .i64 i)]) (fun i=>i≤a.length∧a.take i=b.take i) (fun i=>a.length - i) 0 ⟨Nat.zero_le _,rfl⟩ ⟨rfl,rfl,rfl,trivial⟩ (fun _=>rfl) ?_)))
  rintro i ⟨hi,ht⟩
  refine OK.seq (kr ?_)
  refine kc (zm rfl) (kc (zm rfl) (kc (zk si47 rfl) (kc (S.lss .none rfl (zt rfl) (zt rfl)) (kD (kB rfl (fun c14=>?_) (fun c14=>?_))))))
  ·
   refine OK.skip (Ab.D.code (kO (OK.block (kO (OK.regionDraw follows (.c (zm rfl) (.c (zm rfl) (.c (S.indexM si47 .none rfl (zt rfl) (zt rfl) rfl (by omega) rfl) (.c (zV ti3 rfl rfl) (.c (zm rfl) (.c (zm rfl) (.c (S.indexM si47 .none rfl (zt rfl) (zt rfl) rfl (by omega) rfl) (.c (zV ti3 rfl rfl) (.c (S.neq .none rfl (zt rfl) (zt rfl)) .nil))))))))) (by kernel_rfl) ?_)))))
   refine Ab.D.code (kB rfl (fun c25=>?_) (fun c25=>?_))
   ·
    refine kr (kc (zb rfl) (kD (OK.ret (Ret.r1 (zo rfl rfl) ?_))))
    exact ret_F (fun e=>by subst e;exact c25 rfl)
   ·
    refine OK.skip (Ab.D.blk (Ab.D.code (OK.reg ?_)))
    refine kc (zm rfl) (kc (zp rfl rfl (by omega)) (kc (za rfl) (RK.nil (Ab.D.lp ⟨i+1,⟨by omega,?_⟩,(by omega),rfl,rfl,rfl,trivial⟩))))
    simp only[ne_eq,Decidable.not_not]at c25
    rw[List.take_succ_eq_append_getElem (by omega),List.take_succ_eq_append_getElem (by omega),ht,c25]
  ·
   refine OK.exit rfl (kp (kc (zb rfl) (kD (OK.ret (Ret.r1 (zo rfl rfl) ?_)))))
   have:i=a.length:=by omega
   subst this
   rw[List.take_length,hl,List.take_length]at ht
   exact ret_T ht
end Go.Proofs.YtpbalelbenmmbaaGreatDoor
namespace Go.Proofs.YtpbalelbenmmbaaGreatDoor
open Go.Ab
structure Pass where
 part:Int
 frm:Int
 til:Int
 deriving DecidableEq
def Pass.cs(x:Pass):List X:=[.int .i64 x.part,.int .i64 x.frm,.int .i64 x.til]
structure Event where
 kind:Int
 part:Int
 deriving DecidableEq
def Event.cs(x:Event):List X:=[.int .i64 x.kind,.int .i64 x.part]
structure Row where
 known:Bool
 values:List Int
 deriving DecidableEq
def Row.cs(x:Row):List X:=[.bool x.known,.sl (x.values.map fun n=>[.int .i64 n])]
structure Record where
 rows:List Row
 deriving DecidableEq
def Record.cs(x:Record):List X:=[.sl (x.rows.map Row.cs)]
structure Range where
 lo:Int
 hi:Int
 deriving DecidableEq
def Range.cs(x:Range):List X:=[.int .i64 x.lo,.int .i64 x.hi]
structure Frame where
 tick:Int
 values:List Int
 deriving DecidableEq
def Frame.cs(x:Frame):List X:=[.int .i64 x.tick,.sl (x.values.map fun n=>[.int .i64 n])]
structure Plan where
 channels:List (List UInt8)
 ticks:Int
 deriving DecidableEq
def Plan.cs(x:Plan):List X:=[.sl (x.channels.map fun s=>[.str s]),.int .i64 x.ticks]
structure Envelope where
 parts:Int
 trim:Int
 rows:List (List Range)
 deriving DecidableEq
def Envelope.cs(x:Envelope):List X:=[.int .i64 x.parts,.int .i64 x.trim,.sl (x.rows.map fun l=>[.sl (l.map Range.cs)])]
structure Deviation where
 tick:Int
 channel:Int
 by_:Int
 deriving DecidableEq
def Deviation.cs(x:Deviation):List X:=[.int .i64 x.tick,.int .i64 x.channel,.int .i64 x.by_]
structure Rule where
 target:Int
 slack:Int
 limit:Int
 deriving DecidableEq
def Rule.cs(x:Rule):List X:=[.int .i64 x.target,.int .i64 x.slack,.int .i64 x.limit]
structure Counts where
 inside:Int
 good:Int
 bad:Int
 deriving DecidableEq
def Counts.cs(x:Counts):List X:=[.int .i64 x.inside,.int .i64 x.good,.int .i64 x.bad]
structure Frac where
 num:Int
 den:Int
 deriving DecidableEq
def Frac.cs(x:Frac):List X:=[.int .i64 x.num,.int .i64 x.den]
def idxGo{α:Type}(g:α→Bool):Nat→List α→Int
 |_,[]=> -1
 |i,x::l=>if g x then i else idxGo g (i+1) l
theorem idxGo_drop{α:Type}(g:α→Bool){l:List α}{i:Nat}(h:i<l.length):idxGo g i (l.drop i)=if g l[i]then(i:Int)else idxGo g (i+1) (l.drop (i+1)):=by
 rw[List.drop_eq_getElem_cons h,idxGo]
theorem idxGo_any{α:Type}(g:α→Bool):∀(l:List α)(i:Nat),decide (0≤idxGo g i l)=l.any g
 |[],i=>by simp[idxGo]
 |x::l,i=>by
  rw[idxGo,List.any_cons,←idxGo_any g l (i+1)]
  cases g x<;>simp
def eachGo{α:Type}(g:Nat→α→Int):Nat→List α→Int×Int
 |_,[]=>(0,0)
 |i,x::l=>if g i x≠0 then(i,g i x)else eachGo g (i+1) l
theorem eachGo_drop{α:Type}(g:Nat→α→Int){l:List α}{i:Nat}(h:i<l.length):eachGo g i (l.drop i)=if g i l[i]≠0 then((i:Int),g i l[i])else eachGo g (i+1) (l.drop (i+1)):=by
 rw[List.drop_eq_getElem_cons h,eachGo]
def pair(p:Int×Int):X:=.tup [.int .i64 p.1,.int .i64 p.2]
abbrev CallOk(f:Nat):Prop:=∀args w,(callFunc f args).run Tryz.prog w=.ok (.enter f args) w
abbrev Clean(caps:List X):Prop:=caps.all (okP [])=true∧caps.all (fun u=>!notCell u)=true
theorem ret_p{a b:Int}{p:Int×Int}(h:(a,b)=p):X.tup [.int .i64 a,.int .i64 b]=pair p:=by subst h;rfl
theorem indexFunc_int{l:List Int}{fid:Nat}{caps:List X}{g:Int→Bool}(hf:∀x,x∈l→Ct Tryz.prog fid ([.int .i64 x]++caps) (.bool (g x)))(hcall:CallOk fid)(hc:Clean caps):Ct Tryz.prog 349 [.sl (l.map (fun n=>[.int .i64 n])),.fn fid caps] (.int .i64 (idxGo g 0 l)):=by
 refine Ct.intro (rs:=[.tmp 4]) Tryz.func349 rfl Tryz.ntmps349 Tryz.results349 rfl rfl rfl fun w h=>?_
 refine OK.slLen (rows:=l.map (fun n=>[.int .i64 n])) (t:=0) rfl rfl fun hlen=>?_
 rw[List.length_map]at hlen
 unfold maxLen at hlen
 refine kr (kc (zi rfl rfl) (kD (kO (kr ?_))))
 refine kc (zm rfl) (kc (zk si47 rfl) (kc (S.move .none rfl (.cint rfl)) (kD (OK.block (OK.loop (G:=Nat) [] (fun i=>[(0,.sl (l.map (fun n=>[.int .i64 n]))),(1,.fn fid caps),(6,.sl (l.map (fun n=>[.int .i64 n]))),(7,.int .i64 l.length),(8,.int .i64 i)]) (fun i=>i≤l.length∧idxGo g 0 l=idxGo g i (l.drop i)) (fun i=>l.length - i) 0 ⟨Nat.zero_le _,rfl⟩ ⟨rfl,rfl,rfl,rfl,rfl,trivial⟩ (fun _=>by simp[okKey,okT,okV,okC,okP,hc.1]) ?_)))))
 rintro i ⟨hi,hg⟩
 refine kr (kc (S.lss .none rfl (zt rfl) (zt rfl)) (kD (kO (kB rfl (fun c9=>?_) (fun c9=>?_)))))
 ·
  refine OK.skip (Ab.D.code (kO (OK.block (kr (kc (zm rfl) (kc (za rfl) (kq (kc (zm rfl) (kc (zm rfl) (kc (zm rfl) (kc (S.indexM si47 .none rfl (zt rfl) (zt rfl) rfl (by omega) rfl) ?_)))))))))))
  refine kc (zV ti3 rfl rfl) (kc (S.callv (hf _ (List.getElem_mem _)) hcall .none rfl (zt rfl) (zc rfl .nil) rfl hc.1 hc.2) (kD (OK.cond rfl rfl (fun c16=>?_) (fun c16=>?_))))
  ·
   refine kr (kc (zm rfl) (kc (za rfl) (kD (OK.ret (Ret.r1 (zo rfl rfl) ?_)))))
   rw[hg,idxGo_drop _ (by omega)]
   simp_all
  ·
   refine OK.skip (Ab.D.blk (Ab.D.code (OK.reg ?_)))
   refine kc (zp rfl rfl (by omega)) (kc (zm rfl) (RK.nil (Ab.D.lp ⟨i+1,⟨by omega,?_⟩,(by omega),rfl,rfl,rfl,rfl,rfl,trivial⟩)))
   rw[hg,idxGo_drop _ (by omega)]
   simp_all
 ·
  refine OK.exit rfl (kp (kc (zi rfl rfl) (kD (OK.ret (Ret.r1 (zo rfl rfl) ?_)))))
  have:i=l.length:=by omega
  subst this
  rw[hg,List.drop_length]
  rfl
theorem containsFunc_int{l:List Int}{fid:Nat}{caps:List X}{g:Int→Bool}(hf:∀x,x∈l→Ct Tryz.prog fid ([.int .i64 x]++caps) (.bool (g x)))(hcall:CallOk fid)(hc:Clean caps):Ct Tryz.prog 318 [.sl (l.map (fun n=>[.int .i64 n])),.fn fid caps] (.bool (l.any g)):=by
 refine Ct.intro (rs:=[.tmp 4]) Tryz.func318 rfl Tryz.ntmps318 Tryz.results318 rfl rfl rfl fun w h=>?_
 refine kr (kc (zb rfl) (kq (kc (zm rfl) (kc (zm rfl) (kc (S.call (indexFunc_int hf hcall hc) Tryz.call349 .none rfl (zc rfl (zc rfl .nil)) (by simp[okArg,okV,okC,okP,isTup,hc.1])) ?_)))))
 refine kc (S.geq .none rfl (zt rfl) (.cint rfl)) (kc (za rfl) (kD (OK.ret (Ret.r1 (zo rfl rfl) ?_))))
 exact ret_b (by rw[←idxGo_any g l 0])
theorem index_str{l:List (List UInt8)}{v:(List UInt8)}:Ct Tryz.prog 162 [.sl (l.map (fun s=>[.str s])),.str v] (.int .i64 (idxGo (fun x=>decide (v=x)) 0 l)):=by
 refine Ct.intro (rs:=[.tmp 4]) Tryz.func162 rfl Tryz.ntmps162 Tryz.results162 rfl rfl rfl fun w h=>?_
 refine OK.slLen (rows:=l.map (fun s=>[.str s])) (t:=0) rfl rfl fun hlen=>?_
 rw[List.length_map]at hlen
 unfold maxLen at hlen
 refine kr (kc (zi rfl rfl) (kD (kO (kr ?_))))
 refine kc (zm rfl) (kc (zk si103 rfl) (kc (S.move .none rfl (.cint rfl)) (kD (OK.block (OK.loop (G:=Nat) [] (fun i=>[(0,.sl (l.map (fun s=>[.str s]))),(1,.str v),(6,.sl (l.map (fun s=>[.str s]))),(7,.int .i64 l.length),(8,.int .i64 i)]) (fun i=>i≤l.length∧idxGo (fun x=>decide (v=x)) 0 l=idxGo (fun x=>decide (v=x)) i (l.drop i)) (fun i=>l.length - i) 0 ⟨Nat.zero_le _,rfl⟩ ⟨rfl,rfl,rfl,rfl,rfl,trivial⟩ (fun _=>rfl) ?_)))))
 rintro i ⟨hi,hg⟩
 refine kr (kc (S.lss .none rfl (zt rfl) (zt rfl)) (kD (kO (kB rfl (fun c9=>?_) (fun c9=>?_)))))
 ·
  refine OK.skip (Ab.D.code (kO (OK.block (kr (kc (zm rfl) (kc (za rfl) (kq (kc (zm rfl) (kc (zm rfl) (kc (zm rfl) (kc (S.indexM si103 .none rfl (zt rfl) (zt rfl) rfl (by omega) rfl) ?_)))))))))))
  refine kc (zV ti9 rfl rfl) (kc (S.seql .none rfl (zt rfl) (zt rfl)) (kD (kB rfl (fun c16=>?_) (fun c16=>?_))))
  ·
   refine kr (kc (zm rfl) (kc (za rfl) (kD (OK.ret (Ret.r1 (zo rfl rfl) ?_)))))
   rw[hg,idxGo_drop _ (by omega)]
   simp_all
  ·
   refine OK.skip (Ab.D.blk (Ab.D.code (OK.reg ?_)))
   refine kc (zp rfl rfl (by omega)) (kc (zm rfl) (RK.nil (Ab.D.lp ⟨i+1,⟨by omega,?_⟩,(by omega),rfl,rfl,rfl,rfl,rfl,trivial⟩)))
   rw[hg,idxGo_drop _ (by omega)]
   simp_all
 ·
  refine OK.exit rfl (kp (kc (zi rfl rfl) (kD (OK.ret (Ret.r1 (zo rfl rfl) ?_)))))
  have:i=l.length:=by omega
  subst this
  rw[hg,List.drop_length]
  rfl
theorem contains_str{l:List (List UInt8)}{v:List UInt8}:Ct Tryz.prog 105 [texts l,.str v] (.bool (l.any (fun x=>decide (v=x)))):=by
 refine Ct.intro (rs:=[.tmp 4]) Tryz.func105 rfl Tryz.ntmps105 Tryz.results105 rfl rfl rfl fun w h=>?_
 refine kr (kc (zb rfl) (kq (kc (zm rfl) (kc (zm rfl) (kc (S.call (index_str) Tryz.call162 .none rfl (zc rfl (zc rfl .nil)) rfl) (kc (S.geq .none rfl (zt rfl) (.cint rfl)) (kc (za rfl) (kD (OK.ret (Ret.r1 (zo rfl rfl) ?_))))))))))
 exact ret_b (by rw[←idxGo_any _ l 0])
theorem each_List_UInt8{l:List (List UInt8)}{fid:Nat}{caps:List X}{g:Nat→(List UInt8)→Int}(hf:∀i x,l[i]?=some x→Ct Tryz.prog fid ([.int .i64 i,.str x]++caps) (.int .i64 (g i x)))(hcall:CallOk fid)(hc:Clean caps):Ct Tryz.prog 165 [.sl (l.map (fun s=>[.str s])),.fn fid caps] (pair (eachGo g 0 l)):=by
 refine Ct.intro (rs:=[.tmp 4,.tmp 5]) Tryz.func165 rfl Tryz.ntmps165 Tryz.results165 rfl rfl rfl fun w h=>?_
 refine OK.slLen (rows:=l.map (fun s=>[.str s])) (t:=0) rfl rfl fun hlen=>?_
 rw[List.length_map]at hlen
 unfold maxLen at hlen
 refine kr (kc (zi rfl rfl) (kc (zi rfl rfl) (kD (kO (kr ?_)))))
 refine kc (zm rfl) (kc (zk si103 rfl) (kc (S.move .none rfl (.cint rfl)) (kD (OK.block (OK.loop (G:=Nat) [] (fun i=>[(1,.fn fid caps),(9,.sl (l.map (fun s=>[.str s]))),(10,.int .i64 l.length),(11,.int .i64 i)]) (fun i=>i≤l.length∧eachGo g 0 l=eachGo g i (l.drop i)) (fun i=>l.length - i) 0 ⟨Nat.zero_le _,rfl⟩ ⟨rfl,rfl,rfl,rfl,trivial⟩ (fun _=>by simp[okKey,okT,okV,okC,okP,hc.1]) ?_)))))
 rintro i ⟨hi,hg⟩
 refine kr (kc (S.lss .none rfl (zt rfl) (zt rfl)) (kD (kO (kB rfl (fun c12=>?_) (fun c12=>?_)))))
 ·
  refine OK.skip (Ab.D.code (kO (OK.block (kr (kc (zm rfl) (kc (S.indexM si103 .none rfl (zt rfl) (zt rfl) rfl (by omega) rfl) (kc (zV ti9 rfl rfl) (kc (za rfl) (kc (za rfl) (kq (kc (zm rfl) ?_)))))))))))
  refine kc (zm rfl) (kc (zm rfl) (kc (S.callv (hf i _ (List.getElem?_eq_getElem (by omega))) hcall .none rfl (zt rfl) (zc rfl (zc rfl .nil)) rfl hc.1 hc.2) ?_))
  refine kc (za rfl) (kq (kc (zm rfl) (kc (zN rfl rfl) (kD (kB rfl (fun c21=>?_) (fun c21=>?_))))))
  ·
   refine kr (kc (zm rfl) (kc (zm rfl) (kc (za rfl) (kc (za rfl) (kD (OK.ret (Ret.r2 (zo rfl rfl) (zo rfl rfl) ?_)))))))
   refine ret_p ?_
   rw[hg,eachGo_drop _ (by omega)]
   simp_all
  ·
   refine OK.skip (Ab.D.blk (Ab.D.code (OK.reg ?_)))
   refine kc (zp rfl rfl (by omega)) (kc (zm rfl) (RK.nil (Ab.D.lp ⟨i+1,⟨by omega,?_⟩,(by omega),rfl,rfl,rfl,rfl,trivial⟩)))
   rw[hg,eachGo_drop _ (by omega)]
   simp_all
 ·
  refine OK.exit rfl (kp (kc (zi rfl rfl) (kc (zi rfl rfl) (kD (OK.ret (Ret.r2 (zo rfl rfl) (zo rfl rfl) ?_))))))
  refine ret_p ?_
  have:i=l.length:=by omega
  subst this
  rw[hg,List.drop_length]
  rfl
theorem each_Row{l:List Row}{fid:Nat}{caps:List X}{g:Nat→Row→Int}(hf:∀i x,l[i]?=some x→Ct Tryz.prog fid ([.int .i64 i,.agg x.cs]++caps) (.int .i64 (g i x)))(hcall:CallOk fid)(hc:Clean caps):Ct Tryz.prog 325 [.sl (l.map Row.cs),.fn fid caps] (pair (eachGo g 0 l)):=by
 refine Ct.intro (rs:=[.tmp 4,.tmp 5]) Tryz.func325 rfl Tryz.ntmps325 Tryz.results325 rfl rfl rfl fun w h=>?_
 refine OK.slLen (rows:=l.map Row.cs) (t:=0) rfl rfl fun hlen=>?_
 rw[List.length_map]at hlen
 unfold maxLen at hlen
 refine kr (kc (zi rfl rfl) (kc (zi rfl rfl) (kD (kO (kr ?_)))))
 refine kc (zm rfl) (kc (zk si221 rfl) (kc (S.move .none rfl (.cint rfl)) (kD (OK.block (OK.loop (G:=Nat) [] (fun i=>[(1,.fn fid caps),(9,.sl (l.map Row.cs)),(10,.int .i64 l.length),(11,.int .i64 i)]) (fun i=>i≤l.length∧eachGo g 0 l=eachGo g i (l.drop i)) (fun i=>l.length - i) 0 ⟨Nat.zero_le _,rfl⟩ ⟨rfl,rfl,rfl,rfl,trivial⟩ (fun _=>by simp[okKey,okT,okV,okC,okP,hc.1]) ?_)))))
 rintro i ⟨hi,hg⟩
 refine kr (kc (S.lss .none rfl (zt rfl) (zt rfl)) (kD (kO (kB rfl (fun c12=>?_) (fun c12=>?_)))))
 ·
  refine OK.skip (Ab.D.code (kO (OK.block (kr (kc (zm rfl) (kc (S.indexM si221 .none rfl (zt rfl) (zt rfl) rfl (by omega) rfl) (kc (S.loadN ti303 .none rfl (zt rfl) rfl rfl) (RK.c (zA (c:=7) ze303 rfl) (kc (za rfl) (kc (zS ti303 rfl rfl rfl rfl rfl rfl) (kq ?_)))))))))))
  refine kc (zm rfl) (kc (zm rfl) (kc (zL ti303 rfl rfl rfl rfl) (kc (S.callv (hf i _ (List.getElem?_eq_getElem (by omega))) hcall .none rfl (zt rfl) (zc rfl (zc rfl .nil)) rfl hc.1 hc.2) ?_)))
  refine kc (za rfl) (kq (kc (zm rfl) (kc (zN rfl rfl) (kD (kB rfl (fun c21=>?_) (fun c21=>?_))))))
  ·
   refine kr (kc (zm rfl) (kc (zm rfl) (kc (za rfl) (kc (za rfl) (kD (OK.ret (Ret.r2 (zo rfl rfl) (zo rfl rfl) ?_)))))))
   refine ret_p ?_
   rw[hg,eachGo_drop _ (by omega)]
   simp_all
  ·
   refine OK.skip (Ab.D.blk (Ab.D.code (OK.reg ?_)))
   refine kc (zp rfl rfl (by omega)) (kc (zm rfl) (RK.nil (Ab.D.lp ⟨i+1,⟨by omega,?_⟩,(by omega),rfl,rfl,rfl,rfl,trivial⟩)))
   rw[hg,eachGo_drop _ (by omega)]
   simp_all
 ·
  refine OK.exit rfl (kp (kc (zi rfl rfl) (kc (zi rfl rfl) (kD (OK.ret (Ret.r2 (zo rfl rfl) (zo rfl rfl) ?_))))))
  refine ret_p ?_
  have:i=l.length:=by omega
  subst this
  rw[hg,List.drop_length]
  rfl
theorem each_Record{l:List Record}{fid:Nat}{caps:List X}{g:Nat→Record→Int}(hf:∀i x,l[i]?=some x→Ct Tryz.prog fid ([.int .i64 i,.agg x.cs]++caps) (.int .i64 (g i x)))(hcall:CallOk fid)(hc:Clean caps):Ct Tryz.prog 298 [.sl (l.map Record.cs),.fn fid caps] (pair (eachGo g 0 l)):=by
 refine Ct.intro (rs:=[.tmp 4,.tmp 5]) Tryz.func298 rfl Tryz.ntmps298 Tryz.results298 rfl rfl rfl fun w h=>?_
 refine OK.slLen (rows:=l.map Record.cs) (t:=0) rfl rfl fun hlen=>?_
 rw[List.length_map]at hlen
 unfold maxLen at hlen
 refine kr (kc (zi rfl rfl) (kc (zi rfl rfl) (kD (kO (kr ?_)))))
 refine kc (zm rfl) (kc (zk si226 rfl) (kc (S.move .none rfl (.cint rfl)) (kD (OK.block (OK.loop (G:=Nat) [] (fun i=>[(1,.fn fid caps),(9,.sl (l.map Record.cs)),(10,.int .i64 l.length),(11,.int .i64 i)]) (fun i=>i≤l.length∧eachGo g 0 l=eachGo g i (l.drop i)) (fun i=>l.length - i) 0 ⟨Nat.zero_le _,rfl⟩ ⟨rfl,rfl,rfl,rfl,trivial⟩ (fun _=>by simp[okKey,okT,okV,okC,okP,hc.1]) ?_)))))
 rintro i ⟨hi,hg⟩
 refine kr (kc (S.lss .none rfl (zt rfl) (zt rfl)) (kD (kO (kB rfl (fun c12=>?_) (fun c12=>?_)))))
 ·
  refine OK.skip (Ab.D.code (kO (OK.block (kr (kc (zm rfl) (kc (S.indexM si226 .none rfl (zt rfl) (zt rfl) rfl (by omega) rfl) (kc (S.loadN ti223 .none rfl (zt rfl) rfl rfl) (RK.c (zA (c:=7) ze223 rfl) (kc (za rfl) (kc (zS ti223 rfl rfl rfl rfl rfl rfl) (kq ?_)))))))))))
  refine kc (zm rfl) (kc (zm rfl) (kc (zL ti223 rfl rfl rfl rfl) (kc (S.callv (hf i _ (List.getElem?_eq_getElem (by omega))) hcall .none rfl (zt rfl) (zc rfl (zc rfl .nil)) rfl hc.1 hc.2) ?_)))
  refine kc (za rfl) (kq (kc (zm rfl) (kc (zN rfl rfl) (kD (kB rfl (fun c21=>?_) (fun c21=>?_))))))
  ·
   refine kr (kc (zm rfl) (kc (zm rfl) (kc (za rfl) (kc (za rfl) (kD (OK.ret (Ret.r2 (zo rfl rfl) (zo rfl rfl) ?_)))))))
   refine ret_p ?_
   rw[hg,eachGo_drop _ (by omega)]
   simp_all
  ·
   refine OK.skip (Ab.D.blk (Ab.D.code (OK.reg ?_)))
   refine kc (zp rfl rfl (by omega)) (kc (zm rfl) (RK.nil (Ab.D.lp ⟨i+1,⟨by omega,?_⟩,(by omega),rfl,rfl,rfl,rfl,trivial⟩)))
   rw[hg,eachGo_drop _ (by omega)]
   simp_all
 ·
  refine OK.exit rfl (kp (kc (zi rfl rfl) (kc (zi rfl rfl) (kD (OK.ret (Ret.r2 (zo rfl rfl) (zo rfl rfl) ?_))))))
  refine ret_p ?_
  have:i=l.length:=by omega
  subst this
  rw[hg,List.drop_length]
  rfl
theorem each_Range{l:List Range}{fid:Nat}{caps:List X}{g:Nat→Range→Int}(hf:∀i x,l[i]?=some x→Ct Tryz.prog fid ([.int .i64 i,.agg x.cs]++caps) (.int .i64 (g i x)))(hcall:CallOk fid)(hc:Clean caps):Ct Tryz.prog 323 [.sl (l.map Range.cs),.fn fid caps] (pair (eachGo g 0 l)):=by
 refine Ct.intro (rs:=[.tmp 4,.tmp 5]) Tryz.func323 rfl Tryz.ntmps323 Tryz.results323 rfl rfl rfl fun w h=>?_
 refine OK.slLen (rows:=l.map Range.cs) (t:=0) rfl rfl fun hlen=>?_
 rw[List.length_map]at hlen
 unfold maxLen at hlen
 refine kr (kc (zi rfl rfl) (kc (zi rfl rfl) (kD (kO (kr ?_)))))
 refine kc (zm rfl) (kc (zk si305 rfl) (kc (S.move .none rfl (.cint rfl)) (kD (OK.block (OK.loop (G:=Nat) [] (fun i=>[(1,.fn fid caps),(9,.sl (l.map Range.cs)),(10,.int .i64 l.length),(11,.int .i64 i)]) (fun i=>i≤l.length∧eachGo g 0 l=eachGo g i (l.drop i)) (fun i=>l.length - i) 0 ⟨Nat.zero_le _,rfl⟩ ⟨rfl,rfl,rfl,rfl,trivial⟩ (fun _=>by simp[okKey,okT,okV,okC,okP,hc.1]) ?_)))))
 rintro i ⟨hi,hg⟩
 refine kr (kc (S.lss .none rfl (zt rfl) (zt rfl)) (kD (kO (kB rfl (fun c12=>?_) (fun c12=>?_)))))
 ·
  refine OK.skip (Ab.D.code (kO (OK.block (kr (kc (zm rfl) (kc (S.indexM si305 .none rfl (zt rfl) (zt rfl) rfl (by omega) rfl) (kc (S.loadN ti24 .none rfl (zt rfl) rfl rfl) (RK.c (zA (c:=7) ze24 rfl) (kc (za rfl) (kc (zS ti24 rfl rfl rfl rfl rfl rfl) (kq ?_)))))))))))
  refine kc (zm rfl) (kc (zm rfl) (kc (zL ti24 rfl rfl rfl rfl) (kc (S.callv (hf i _ (List.getElem?_eq_getElem (by omega))) hcall .none rfl (zt rfl) (zc rfl (zc rfl .nil)) rfl hc.1 hc.2) ?_)))
  refine kc (za rfl) (kq (kc (zm rfl) (kc (zN rfl rfl) (kD (kB rfl (fun c21=>?_) (fun c21=>?_))))))
  ·
   refine kr (kc (zm rfl) (kc (zm rfl) (kc (za rfl) (kc (za rfl) (kD (OK.ret (Ret.r2 (zo rfl rfl) (zo rfl rfl) ?_)))))))
   refine ret_p ?_
   rw[hg,eachGo_drop _ (by omega)]
   simp_all
  ·
   refine OK.skip (Ab.D.blk (Ab.D.code (OK.reg ?_)))
   refine kc (zp rfl rfl (by omega)) (kc (zm rfl) (RK.nil (Ab.D.lp ⟨i+1,⟨by omega,?_⟩,(by omega),rfl,rfl,rfl,rfl,trivial⟩)))
   rw[hg,eachGo_drop _ (by omega)]
   simp_all
 ·
  refine OK.exit rfl (kp (kc (zi rfl rfl) (kc (zi rfl rfl) (kD (OK.ret (Ret.r2 (zo rfl rfl) (zo rfl rfl) ?_))))))
  refine ret_p ?_
  have:i=l.length:=by omega
  subst this
  rw[hg,List.drop_length]
  rfl
theorem each_List_Range{l:List (List Range)}{fid:Nat}{caps:List X}{g:Nat→(List Range)→Int}(hf:∀i x,l[i]?=some x→Ct Tryz.prog fid ([.int .i64 i,.sl (x.map Range.cs)]++caps) (.int .i64 (g i x)))(hcall:CallOk fid)(hc:Clean caps):Ct Tryz.prog 321 [.sl (l.map (fun l=>[.sl (l.map Range.cs)])),.fn fid caps] (pair (eachGo g 0 l)):=by
 refine Ct.intro (rs:=[.tmp 4,.tmp 5]) Tryz.func321 rfl Tryz.ntmps321 Tryz.results321 rfl rfl rfl fun w h=>?_
 refine OK.slLen (rows:=l.map (fun l=>[.sl (l.map Range.cs)])) (t:=0) rfl rfl fun hlen=>?_
 rw[List.length_map]at hlen
 unfold maxLen at hlen
 refine kr (kc (zi rfl rfl) (kc (zi rfl rfl) (kD (kO (kr ?_)))))
 refine kc (zm rfl) (kc (zk si48 rfl) (kc (S.move .none rfl (.cint rfl)) (kD (OK.block (OK.loop (G:=Nat) [] (fun i=>[(1,.fn fid caps),(9,.sl (l.map (fun l=>[.sl (l.map Range.cs)]))),(10,.int .i64 l.length),(11,.int .i64 i)]) (fun i=>i≤l.length∧eachGo g 0 l=eachGo g i (l.drop i)) (fun i=>l.length - i) 0 ⟨Nat.zero_le _,rfl⟩ ⟨rfl,rfl,rfl,rfl,trivial⟩ (fun _=>by simp[okKey,okT,okV,okC,okP,hc.1]) ?_)))))
 rintro i ⟨hi,hg⟩
 refine kr (kc (S.lss .none rfl (zt rfl) (zt rfl)) (kD (kO (kB rfl (fun c12=>?_) (fun c12=>?_)))))
 ·
  refine OK.skip (Ab.D.code (kO (OK.block (kr (kc (zm rfl) (kc (S.indexM si48 .none rfl (zt rfl) (zt rfl) rfl (by omega) rfl) (kc (zV ti305 rfl rfl) (kc (za rfl) (kc (za rfl) (kq (kc (zm rfl) ?_)))))))))))
  refine kc (zm rfl) (kc (zm rfl) (kc (S.callv (hf i _ (List.getElem?_eq_getElem (by omega))) hcall .none rfl (zt rfl) (zc rfl (zc rfl .nil)) rfl hc.1 hc.2) ?_))
  refine kc (za rfl) (kq (kc (zm rfl) (kc (zN rfl rfl) (kD (kB rfl (fun c21=>?_) (fun c21=>?_))))))
  ·
   refine kr (kc (zm rfl) (kc (zm rfl) (kc (za rfl) (kc (za rfl) (kD (OK.ret (Ret.r2 (zo rfl rfl) (zo rfl rfl) ?_)))))))
   refine ret_p ?_
   rw[hg,eachGo_drop _ (by omega)]
   simp_all
  ·
   refine OK.skip (Ab.D.blk (Ab.D.code (OK.reg ?_)))
   refine kc (zp rfl rfl (by omega)) (kc (zm rfl) (RK.nil (Ab.D.lp ⟨i+1,⟨by omega,?_⟩,(by omega),rfl,rfl,rfl,rfl,trivial⟩)))
   rw[hg,eachGo_drop _ (by omega)]
   simp_all
 ·
  refine OK.exit rfl (kp (kc (zi rfl rfl) (kc (zi rfl rfl) (kD (OK.ret (Ret.r2 (zo rfl rfl) (zo rfl rfl) ?_))))))
  refine ret_p ?_
  have:i=l.length:=by omega
  subst this
  rw[hg,List.drop_length]
  rfl
end Go.Proofs.YtpbalelbenmmbaaGreatDoor
