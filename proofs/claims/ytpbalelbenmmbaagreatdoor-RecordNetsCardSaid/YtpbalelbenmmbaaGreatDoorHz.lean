import Derived.Test.YtpbalelbenmmbaaGreatDoorFa
import Derived.Test.YtpbalelbenmmbaaGreatDoorFd
import Derived.Test.YtpbalelbenmmbaaGreatDoorFf
import Derived.Test.YtpbalelbenmmbaaGreatDoorFk
import Derived.Test.YtpbalelbenmmbaaGreatDoorFm
import Derived.Test.YtpbalelbenmmbaaGreatDoorFq
import Derived.Test.YtpbalelbenmmbaaGreatDoorFs
import Derived.Test.YtpbalelbenmmbaaGreatDoorFv
import Derived.Test.YtpbalelbenmmbaaGreatDoorFx
import Derived.Test.YtpbalelbenmmbaaGreatDoorFy
import Derived.Test.YtpbalelbenmmbaaGreatDoorGh
import Derived.Test.YtpbalelbenmmbaaGreatDoorGs
import Derived.Test.YtpbalelbenmmbaaGreatDoorGu
import Derived.Test.YtpbalelbenmmbaaGreatDoorHa
import Derived.Test.YtpbalelbenmmbaaGreatDoorHd
import Derived.Test.YtpbalelbenmmbaaGreatDoorHh
import Derived.Test.YtpbalelbenmmbaaGreatDoorHj
import Derived.Test.YtpbalelbenmmbaaGreatDoorHo
namespace Go.Ab
open Go.RowKit
abbrev dk(E:Env)(d:Nat):Bool:=Nat.blt d 1000&&Nat.blt d E.nt
def ck{α:Type}(b:Bool)(o:Option α):Option α:=match b with
 |true=>o
 |false=>none
theorem ck1{α:Type}{b:Bool}{o:Option α}{u:α}(h:ck b o=some u):b=true∧o=some u:=by
 cases b with
 |true=>exact⟨rfl,h⟩
 |false=>cases h
theorem ck2{α:Type}{a b:Bool}{o:Option α}{u:α}(h:ck (a&&b) o=some u):a=true∧b=true∧o=some u:=
 have h1:=ck1 h
 ⟨(Bool.and_eq_true _ _▸h1.1).1,(Bool.and_eq_true _ _▸h1.1).2,h1.2⟩
def gt(all:Array Oper)(j:Nat):Nat:=match(all[j]?).bind (·.dst)with
 |some t=>t
 |none=>1000
theorem gt_is{all:Array Oper}{j:Nat}(h:Nat.blt (gt all j) 1000=true):(all[j]?).bind (·.dst)=some (gt all j):=by
 unfold gt at h⊢
 cases e:(all[j]?).bind (·.dst)with
 |some t=>rfl
 |none=>rw[e]at h;cases h
section
variable{E:Env}{all:Array Oper}{s r r1 r2 rg:St}{d ty t p q j:Nat}{pos:String}{after:Array Edge}{guard:Option (Nat×Bool)}{x y z:Operand}{k:IntKind}{m n:Int}{a b:Bool}{u v:X}{o:Op}
theorem zt(h:ck (Nat.blt t 1000) (look s t)=some u):OpS s (.tmp t) u [(t,u)]:=.tmp (ck1 h).1 (ck1 h).2
theorem zg(h:ck (Nat.blt (gt all j) 1000) (look s (gt all j))=some (.bool a))(he:a=b):Gd all s (some (j,b)) [(gt all j,.bool a)]:=.yes (gt_is (ck1 h).1) (ck1 h).1 (ck1 h).2 he
theorem zm(h:ck (dk E d&&Nat.blt t 1000) (look s t)=some u):St1 E all ⟨some d,.move (.tmp t),ty,pos,after,none⟩ s [(t,u)] [(d,u)] []:=S.move .none (ck2 h).1 (.tmp (ck2 h).2.1 (ck2 h).2.2)
theorem za(h:ck (dk E d&&Nat.blt t 1000) (look s t)=some u):St1 E all ⟨some d,.assign (.tmp t),ty,pos,after,none⟩ s [(t,u)] [(d,u)] []:=S.assign .none (ck2 h).1 (.tmp (ck2 h).2.1 (ck2 h).2.2)
theorem zi(h:dk E d=true)(hk:k.wrap n=n):St1 E all ⟨some d,.assign (.const (.int k n)),ty,pos,after,none⟩ s [] [(d,.int k n)] []:=S.assign .none h (.cint hk)
theorem zb(h:dk E d=true):St1 E all ⟨some d,.assign (.const (.bool b)),ty,pos,after,none⟩ s [] [(d,.bool b)] []:=S.assign .none h .cbool
theorem zX{i:Nat}{us:List X}(h:ck (dk E d&&Nat.blt t 1000) (look s t)=some (.tup us))(hu:us[i]?=some u)(hn:isTup u=false):St1 E all ⟨some d,.extract (.tmp t) i,ty,pos,after,none⟩ s [(t,.tup us)] [(d,u)] []:=S.extract .none (ck2 h).1 (.tmp (ck2 h).2.1 (ck2 h).2.2) hu hn
theorem zQ(h:ck (dk E d&&Nat.blt (gt all j) 1000) (look s (gt all j))=some (.bool a))(hb:(a==b)=false):St1 E all ⟨some d,o,ty,pos,after,some (j,b)⟩ s [(gt all j,.bool a)] [(d,.tup [])] []:=S.skip (gt_is (ck2 h).2.1) (ck2 h).2.1 (ck2 h).2.2 hb (ck2 h).1
theorem zu(h:ck (dk E d&&Nat.blt (gt all j) 1000) (look s (gt all j))=some (.tup [])):St1 E all ⟨some d,o,ty,pos,after,some (j,b)⟩ s [(gt all j,.tup [])] [(d,.tup [])] []:=S.skipU (gt_is (ck2 h).2.1) (ck2 h).2.1 (ck2 h).2.2 (ck2 h).1
theorem zl{T sz c f:Nat}{us:List X}(ht:TyI E.P T false sz)(h:ck (dk E d&&Nat.blt t 1000) (look s t)=some (.ptr c f))(hb:ck (Nat.blt c 1000) (look s (1000+c))=some (.box us))(hu:us[f]?=some u)(hn:isAT u=false):St1 E all ⟨some d,.load T (.tmp t),ty,pos,after,none⟩ s [(t,.ptr c f),(1000+c,.box us)] [(d,u)] []:=S.bload1 ht .none (ck2 h).1 (.tmp (ck2 h).2.1 (ck2 h).2.2) (ck1 hb).1 (ck1 hb).2 hu hn
theorem zL{T n c f:Nat}{us us':List X}(ht:TyI E.P T true n)(h:ck (dk E d&&Nat.blt t 1000) (look s t)=some (.ptr c f))(hb:ck (Nat.blt c 1000) (look s (1000+c))=some (.box us))(hu:(us.drop f).take n=us')(hn:Nat.ble (f+n) us.length=true):St1 E all ⟨some d,.load T (.tmp t),ty,pos,after,none⟩ s [(t,.ptr c f),(1000+c,.box us)] [(d,.agg us')] []:=S.bloadN ht .none (ck2 h).1 (.tmp (ck2 h).2.1 (ck2 h).2.2) (ck1 hb).1 (ck1 hb).2 hu hn
theorem zf{T f c i g:Nat}(hf:FiI E.P T f g)(h:ck (dk E d&&Nat.blt t 1000) (look s t)=some (.ptr c i)):St1 E all ⟨some d,.fieldAddr T (.tmp t) f,ty,pos,after,none⟩ s [(t,.ptr c i)] [(d,.ptr c (i+g))] []:=S.bfield hf .none (ck2 h).1 (.tmp (ck2 h).2.1 (ck2 h).2.2)
theorem zr{T f c i g:Nat}(hf:FiI E.P T f g)(h:ck (dk E d&&Nat.blt t 1000) (look s t)=some (.raw (.pointer (some ⟨c,i,none⟩)))):St1 E all ⟨some d,.fieldAddr T (.tmp t) f,ty,pos,after,none⟩ s [(t,.raw (.pointer (some ⟨c,i,none⟩)))] [(d,.raw (.pointer (some ⟨c,i+g,none⟩)))] []:=S.rfield hf .none (ck2 h).1 (.tmp (ck2 h).2.1 (ck2 h).2.2)
theorem zn{v:Value}{ad:Addr}(h:ck (dk E d&&Nat.blt t 1000) (look s t)=some (.raw v))(hv:v=.pointer (some ad)):St1 E all ⟨some d,.nilCheck (.tmp t),ty,pos,after,none⟩ s [(t,.raw v)] [(d,.raw (.pointer (some ad)))] []:=S.rnil .none (ck2 h).1 (.tmp (ck2 h).2.1 (ck2 h).2.2) hv
theorem zV{T sz:Nat}{us:List X}(ht:TyI E.P T false sz)(h:ck (dk E d&&Nat.blt t 1000) (look s t)=some (.eptr us))(hu:us[0]?=some u):St1 E all ⟨some d,.load T (.tmp t),ty,pos,after,none⟩ s [(t,.eptr us)] [(d,u)] []:=S.load1 ht .none (ck2 h).1 (.tmp (ck2 h).2.1 (ck2 h).2.2) hu
theorem zp{t2 t3:Nat}(h:ck (dk E d&&Nat.blt t 1000) (look s t)=some (.int .i64 m))(hn:IntKind.i64.wrap n=n)(hr: -9223372036854775808≤m+n∧m+n≤9223372036854775807):St1 E all ⟨some d,.binOp .add t2 (.tmp t) (.const (.int .i64 n)) t3,ty,pos,after,none⟩ s [(t,.int .i64 m)] [(d,.int .i64 (m+n))] []:=S.add .none (ck2 h).1 (.tmp (ck2 h).2.1 (ck2 h).2.2) (.cint hn) (IntWalk.i64_in _ hr) (IntWalk.i64_in _ hr)
theorem zS{T n c f:Nat}{g:Bool}{us us':List X}(ht:TyI E.P T g n)(hx:ck (Nat.blt t 1000) (look s t)=some (.ptr c f))(hy:ck (Nat.blt p 1000) (look s p)=some u)(hb:ck (Nat.blt c 1000) (look s (1000+c))=some (.box us))(hu:(okSt u&&Nat.ble (f+n) us.length)=true)(hn:(cellsX u).length=n)(he:us.take f++(cellsX u++us.drop (f+n))=us'):St1 E all ⟨none,.store T (.tmp t) (.tmp p),ty,pos,after,none⟩ s [(t,.ptr c f),(p,u),(1000+c,.box us)] [(1000+c,.box us')] []:=S.store ht .none (zt hx) (zt hy) (ck1 hb).1 (ck1 hb).2 (Bool.and_eq_true _ _▸hu).1 hn (Bool.and_eq_true _ _▸hu).2 he
theorem zk{α:Type}{T e sz:Nat}{l:List α}{f:α→List X}(hs:SlI E.P T e sz)(h:ck (dk E d&&Nat.blt t 1000) (look s t)=some (.sl (l.map f))):St1 E all ⟨some d,.call {callee:=.builtin .len,args:=#[.tmp t],argTypes:=#[T]},ty,pos,after,none⟩ s [(t,.sl (l.map f))] [(d,.int .i64 l.length)] []:=S.lenM hs .none (ck2 h).1 (.tmp (ck2 h).2.1 (ck2 h).2.2)
theorem zN{p q:Nat}(h:ck (dk E d&&Nat.blt t 1000) (look s t)=some (.int k m))(hn:k.wrap n=n):St1 E all ⟨some d,.binOp .neq p (.tmp t) (.const (.int k n)) q,ty,pos,after,none⟩ s [(t,.int k m)] [(d,.bool (decide (m≠n)))] []:=S.neq .none (ck2 h).1 (.tmp (ck2 h).2.1 (ck2 h).2.2) (.cint hn)
theorem zE{p q:Nat}(h:ck (dk E d&&Nat.blt t 1000) (look s t)=some (.int k m))(hn:k.wrap n=n):St1 E all ⟨some d,.binOp .eql p (.tmp t) (.const (.int k n)) q,ty,pos,after,none⟩ s [(t,.int k m)] [(d,.bool (decide (m=n)))] []:=S.eql .none (ck2 h).1 (.tmp (ck2 h).2.1 (ck2 h).2.2) (.cint hn)
theorem zB{T c:Nat}(h:ck (dk E d&&Nat.blt t 1000) (look s t)=some u)(hu:(Nat.blt c 1000&&okSt u)=true)(h9:E.fs.contains c=false:=by rfl):St1 E all ⟨some d,.box T (.tmp t),ty,pos,after,none⟩ s [(t,u)] ((d,.ptr c 0)::[(1000+c,.box (cellsX u))]) [c]:=S.box (Bool.and_eq_true _ _▸hu).1 .none (ck2 h).1 (.tmp (ck2 h).2.1 (ck2 h).2.2) (Bool.and_eq_true _ _▸hu).2 h9
theorem zA{T c:Nat}{us:List X}(hz:ZeI E.P T us)(h:(dk E d&&Nat.blt c 1000)=true)(h9:E.fs.contains c=false:=by rfl):St1 E all ⟨some d,.alloc T,ty,pos,after,none⟩ s [] ((d,.ptr c 0)::[(1000+c,.box us)]) [c]:=S.alloc hz (Bool.and_eq_true _ _▸h).2 .none (Bool.and_eq_true _ _▸h).1 h9
theorem zc{os:List Operand}{us:List X}(h:ck (Nat.blt t 1000) (look s t)=some u)(hr:OpsS s os us r):OpsS s (.tmp t::os) (u::us) ((t,u)::r):=.cons (zt h) hr
theorem zo{U:X}(h:ck (Nat.blt t 1000) (look s t)=some U)(ho:(okC [] U&&!isAT U)=true):RetI E s (.tmp t) U:=by
 obtain⟨h1,h2⟩:=Bool.and_eq_true _ _▸ho
 have h3:isAT U=false:=by simpa using h2
 exact .tmp (ck1 h).1 (ck1 h).2 (.c (.same h1) h3) (tupAT h3)
end
section
variable{E:Env}{all:Array Oper}{l:List Oper}{U:List Nat}{s rd wr:St}{al:List Nat}{Q:Exit→List Nat→St→Prop}{k:List Kn}{o:Oper}{x y:Code}{id:Nat}
theorem kc(h:St1 E all o s rd wr [])(hr:RK E all l U (wr++s) Q):RK E all (o::l) U s Q:=RK.c h hr
theorem kn(h:den E Q k .normal U s):RK E all [] U s (den E Q k):=RK.nil h
theorem kD(h:OK E y (den E Q k) U s):RK E all [] U s (den E Q (.code y::k)):=RK.nil (Ab.D.code h)
theorem kO(h:OK E x (den E Q (.code y::k)) U s):OK E (.seq x y) (den E Q k) U s:=OK.seq h
theorem kr(h:RK E l.toArray l U s (den E Q (.code y::k))):OK E (.seq (.region id l.toArray false) y) (den E Q k) U s:=OK.seq (OK.reg h)
theorem kp(h:RK E l.toArray l U s (den E Q (.code y::k))):den E Q (.code (.seq (.region id l.toArray false) y)::k) .normal U s:=Ab.D.code (OK.seq (OK.reg h))
theorem kq(h:RK E l.toArray l U s (den E Q (.code y::k))):RK E all [] U s (den E Q (.code (.seq (.region id l.toArray false) y)::k)):=RK.nil (Ab.D.code (OK.seq (OK.reg h)))
theorem kB{t:Nat}{p:Prop}[Decidable p](h:ck (Nat.blt t 1000) (look s t)=some (.bool (decide p)))(hx:p→OK E x Q U s)(hy:¬p→OK E y Q U s):OK E (.cond (.tmp t) x y) Q U s:=OK.condD (ck1 h).1 (ck1 h).2 hx hy
end
end Go.Ab
