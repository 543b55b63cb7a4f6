import Derived.Test.YtkkbjdenehfpaaaGreatDoorHsN
set_option linter.all false
open List renaming length->R
namespace Go.Ab
open Go.RowKit
abbrev dk(E:Env)(d:Nat):Bool:=Nat.blt d 1000&&Nat.blt d E.nt
variable{α:Type}
def ck(b:Bool)(o:Option α):Option α:=match b with
 |true=>o
 |false=>none
def ck1{b:Bool}{o:Option α}{u:α}(h:ck b o=some u):b=true/\o=some u:=by
 cases b with
 |true=>exact⟨rfl,h⟩
 |false=>cases h
def ck2{a b:Bool}{o:Option α}{u:α}(h:ck (a&&b) o=some u):a=true/\b=true/\o=some u:=
 have c:=ck1 h
 ⟨(dv _ _▸c.1).1,(dv _ _▸c.1).2,c.2⟩
def gt(q0:Array Oper)(j:Nat):Nat:=match(q0[j]?).bind (·.dst)with
 |some t=>t
 |none=>1000
def gt_is{q0:Array Oper}{j:Nat}(h:Nat.blt (gt q0 j) 1000=true):(q0[j]?).bind (·.dst)=some (gt q0 j):=by
 unfold gt at h⊢;cases e:(q0[j]?).bind (·.dst)with
 |some t=>rfl
 |none=>rw[e]at h;cases h
variable{T c e f g i n sz:Nat}{us:bi}
variable{E:Env}{q0:Array Oper}{s r r1 r2 rg:St}{d ty t p q j:Nat}{v9:String}{v4:Array Edge}{jn:Option (Nat×Bool)}{x y z:Operand}{k:IntKind}{m:Int}{a b:Bool}{u v:X}{o:Op}
section
variable{n:Int}
def zt(h:ck (Nat.blt t 1000) (look s t)=some u):YO s (.tmp t) u [(t,u)]:=.tmp (ck1 h).1 (ck1 h).2
def zg(h:ck (Nat.blt (gt q0 j) 1000) (look s<|gt q0 j)=some (.bool a))(c:a=b):Gd q0 s (some (j,b)) [(gt q0 j,.bool a)]:=.yes (gt_is (ck1 h).1) (ck1 h).1 (ck1 h).2 c
def zm(h:ck (dk E d&&Nat.blt t 1000) (look s t)=some u):Zb E q0 ⟨some d,.move<|.tmp t,ty,v9,v4,none⟩ s [(t,u)] [(d,u)] []:=S.move .none (ck2 h).1<|.tmp (ck2 h).2.1 (ck2 h).2.2
def za(h:ck (dk E d&&Nat.blt t 1000) (look s t)=some u):Zb E q0 ⟨some d,.assign<|.tmp t,ty,v9,v4,none⟩ s [(t,u)] [(d,u)] []:=S.assign .none (ck2 h).1<|.tmp (ck2 h).2.1 (ck2 h).2.2
def zi(h:dk E d=true)(c:k.wrap n=n):Zb E q0 ⟨some d,.assign<|.const<|.int k n,ty,v9,v4,none⟩ s [] [(d,.int k n)] []:=S.assign .none h<|.Zg c
def zb(h:dk E d=true):Zb E q0 ⟨some d,.assign<|.const<|.bool b,ty,v9,v4,none⟩ s [] [(d,.bool b)] []:=S.assign .none h .Wx
def zX(h:ck (dk E d&&Nat.blt t 1000) (look s t)=some (.Yy us))(c:us[i]?=some u)(e:X4 u=false):Zb E q0 ⟨some d,.extract (.tmp t) i,ty,v9,v4,none⟩ s [(t,.Yy us)] [(d,u)] []:=S.extract .none (ck2 h).1 (.tmp (ck2 h).2.1 (ck2 h).2.2) c e
def zQ(h:ck (dk E d&&Nat.blt (gt q0 j) 1000) (look s<|gt q0 j)=some (.bool a))(c:(a==b)=false):Zb E q0 ⟨some d,o,ty,v9,v4,some (j,b)⟩ s [(gt q0 j,.bool a)] [(d,.Yy [])] []:=S.skip (gt_is (ck2 h).2.1) (ck2 h).2.1 (ck2 h).2.2 c (ck2 h).1
def zu(h:ck (dk E d&&Nat.blt (gt q0 j) 1000) (look s<|gt q0 j)=some (.Yy [])):Zb E q0 ⟨some d,o,ty,v9,v4,some (j,b)⟩ s [(gt q0 j,.Yy [])] [(d,.Yy [])] []:=S.fA (gt_is (ck2 h).2.1) (ck2 h).2.1 (ck2 h).2.2 (ck2 h).1
def zl(i:W5 E.P T false sz)(h:ck (dk E d&&Nat.blt t 1000) (look s t)=some (.ptr c f))(e:ck (Nat.blt c 1000) (look s<|1000+c)=some (.box us))(g:us[f]?=some u)(w:QL u=false):Zb E q0 ⟨some d,.load T<|.tmp t,ty,v9,v4,none⟩ s [(t,.ptr c f),(1000+c,.box us)] [(d,u)] []:=S.YH i .none (ck2 h).1 (.tmp (ck2 h).2.1 (ck2 h).2.2) (ck1 e).1 (ck1 e).2 g w
def zL{n:Nat}{e:bi}(w:W5 E.P T true n)(h:ck (dk E d&&Nat.blt t 1000) (look s t)=some (.ptr c f))(g:ck (Nat.blt c 1000) (look s<|1000+c)=some (.box us))(i:(us.drop f).take n=e)(A:Nat.ble (f+n) (R us)=true):Zb E q0 ⟨some d,.load T<|.tmp t,ty,v9,v4,none⟩ s [(t,.ptr c f),(1000+c,.box us)] [(d,.agg e)] []:=S.Hl w .none (ck2 h).1 (.tmp (ck2 h).2.1 (ck2 h).2.2) (ck1 g).1 (ck1 g).2 i A
def zf(e:XJ E.P T f g)(h:ck (dk E d&&Nat.blt t 1000) (look s t)=some (.ptr c i)):Zb E q0 ⟨some d,.fieldAddr T (.tmp t) f,ty,v9,v4,none⟩ s [(t,.ptr c i)] [(d,.ptr c<|i+g)] []:=S.VN e .none (ck2 h).1<|.tmp (ck2 h).2.1 (ck2 h).2.2
def zr(e:XJ E.P T f g)(h:ck (dk E d&&Nat.blt t 1000) (look s t)=some (.raw<|.pointer<|some ⟨c,i,none⟩)):Zb E q0 ⟨some d,.fieldAddr T (.tmp t) f,ty,v9,v4,none⟩ s [(t,.raw<|.pointer<|some ⟨c,i,none⟩)] [(d,.raw<|.pointer<|some ⟨c,i+g,none⟩)] []:=S.Ub e .none (ck2 h).1<|.tmp (ck2 h).2.1 (ck2 h).2.2
def zn{v:Value}{c:Addr}(h:ck (dk E d&&Nat.blt t 1000) (look s t)=some (.raw v))(e:v=.pointer (some c)):Zb E q0 ⟨some d,.nilCheck<|.tmp t,ty,v9,v4,none⟩ s [(t,.raw v)] [(d,.raw<|.pointer<|some c)] []:=S.qG .none (ck2 h).1 (.tmp (ck2 h).2.1 (ck2 h).2.2) e
def zV(e:W5 E.P T false sz)(h:ck (dk E d&&Nat.blt t 1000) (look s t)=some (.Yt us))(c:us[0]?=some u):Zb E q0 ⟨some d,.load T<|.tmp t,ty,v9,v4,none⟩ s [(t,.Yt us)] [(d,u)] []:=S.Q_ e .none (ck2 h).1 (.tmp (ck2 h).2.1 (ck2 h).2.2) c
def zp(h:ck (dk E d&&Nat.blt t 1000) (look s t)=some (.int .i64 m))(i:IntKind.i64.wrap n=n)(c: -9223372036854775808<=m+n/\m+n<=9223372036854775807):Zb E q0 ⟨some d,.binOp .add g (.tmp t) (.const<|.int .i64 n) e,ty,v9,v4,none⟩ s [(t,.int .i64 m)] [(d,.int .i64<|m+n)] []:=S.add .none (ck2 h).1 (.tmp (ck2 h).2.1 (ck2 h).2.2) (.Zg i) (mn _ c)<|mn _ c
def zS{n:Nat}{g:Bool}{e:bi}(B:W5 E.P T g n)(A:ck (Nat.blt t 1000) (look s t)=some (.ptr c f))(w:ck (Nat.blt p 1000) (look s p)=some u)(i:ck (Nat.blt c 1000) (look s<|1000+c)=some (.box us))(h:(Qj u&&Nat.ble (f+n) (R us))=true)(C:R (Yv u)=n)(D:us.take f++(Yv u++us.drop (f+n))=e):Zb E q0 ⟨none,.store T (.tmp t)<|.tmp p,ty,v9,v4,none⟩ s [(t,.ptr c f),(p,u),(1000+c,.box us)] [(1000+c,.box e)] []:=S.store B .none (zt A) (zt w) (ck1 i).1 (ck1 i).2 (dv _ _▸h).1 C (dv _ _▸h).2 D
def zk{l:List α}{f:α->bi}(hs:Qh E.P T e sz)(h:ck (dk E d&&Nat.blt t 1000) (look s t)=some (.sl<|l.map f)):Zb E q0 ⟨some d,.call {callee:=.builtin .len,args:=#[.tmp t],argTypes:=#[T]},ty,v9,v4,none⟩ s [(t,.sl<|l.map f)] [(d,.int .i64<|R l)] []:=S.OF hs .none (ck2 h).1<|.tmp (ck2 h).2.1 (ck2 h).2.2
def zN{p q:Nat}(h:ck (dk E d&&Nat.blt t 1000) (look s t)=some (.int k m))(c:k.wrap n=n):Zb E q0 ⟨some d,.binOp .neq p (.tmp t) (.const<|.int k n) q,ty,v9,v4,none⟩ s [(t,.int k m)] [(d,.bool<|decide<|m≠n)] []:=S.neq .none (ck2 h).1 (.tmp (ck2 h).2.1 (ck2 h).2.2)<|.Zg c
def zE{p q:Nat}(h:ck (dk E d&&Nat.blt t 1000) (look s t)=some (.int k m))(c:k.wrap n=n):Zb E q0 ⟨some d,.binOp .eql p (.tmp t) (.const<|.int k n) q,ty,v9,v4,none⟩ s [(t,.int k m)] [(d,.bool<|decide<|m=n)] []:=S.eql .none (ck2 h).1 (.tmp (ck2 h).2.1 (ck2 h).2.2)<|.Zg c
def zB(h:ck (dk E d&&Nat.blt t 1000) (look s t)=some u)(e:(Nat.blt c 1000&&Qj u)=true)(g:E.fs.contains c=false:=by rfl):Zb E q0 ⟨some d,.box T<|.tmp t,ty,v9,v4,none⟩ s [(t,u)] ((d,.ptr c 0)::[(1000+c,.box<|Yv u)]) [c]:=S.box (dv _ _▸e).1 .none (ck2 h).1 (.tmp (ck2 h).2.1 (ck2 h).2.2) (dv _ _▸e).2 g
def zA(e:Qi E.P T us)(h:(dk E d&&Nat.blt c 1000)=true)(g:E.fs.contains c=false:=by rfl):Zb E q0 ⟨some d,.alloc T,ty,v9,v4,none⟩ s [] ((d,.ptr c 0)::[(1000+c,.box us)]) [c]:=S.alloc e (dv _ _▸h).2 .none (dv _ _▸h).1 g
def zc{os:List Operand}(h:ck (Nat.blt t 1000) (look s t)=some u)(c:V5 s os us r):V5 s (.tmp t::os) (u::us)<|(t,u)::r:=.cons (zt h) c
def zo{U:X}(h:ck (Nat.blt t 1000) (look s t)=some U)(g:(Ky [] U&&!QL U)=true):NG E s (.tmp t) U:=by
 obtain⟨w,i⟩:=dv _ _▸g;have e:QL U=false:=by simpa using i
 exact .tmp (ck1 h).1 (ck1 h).2 (.c (.same w) e)<|rF e
def zC{os:List Operand}(h:k.wrap n=n)(c:V5 s os us r):V5 s (.const (.int k n)::os) (.int k n::us) r:=.cons (.Zg h) c
def zD(h:k.wrap n=n):V5 s [.const<|.int k n] [.int k n] []:=.cons (.Zg h) .nil
def zw{fs:bc}:∀{us:bi},us.all (Ky [])=true->Z1 (Qg fs s) us us
 |[],_=>trivial
 |_::_,h=>by rw[so,dv]at h;exact⟨.same h.1,zw h.2⟩
def zy{n:Nat}(h:ck (Nat.blt t 1000) (look s t)=some (.ptr c 0))(g:ck (Nat.blt c 1000) (look s<|1000+c)=some (.box us))(i:W5 E.P T true n)(e:(Nat.beq (R us) n&&us.all (Ky []))=true):NG E s (.cell t T)<|.agg us:=by
 rw[dv]at e;exact .XU (ck1 h).1 (ck1 h).2 (ck1 g).1 (ck1 g).2 i (Nat.eq_of_beq_eq_true e.1)<|zw e.2
end
variable{t:Nat}{qp:X}
variable{U:bc}
section
variable{l:List Oper}{rd wr:St}{al:bc}{Q:bo}{k:List Kn}{o:Oper}{x y:Code}{id:Nat}
def kc(h:Zb E q0 o s rd wr [])(e:RK E q0 l U (wr++s) Q):RK E q0 (o::l) U s Q:=RK.c h e
def kn(h:den E Q k .normal U s):RK E q0 [] U s<|den E Q k:=RK.nil h
def kD(h:OK E y (den E Q k) U s):RK E q0 [] U s<|den E Q<|.code y::k:=RK.nil<|Ab.D.code h
def kO(h:OK E x (den E Q<|.code y::k) U s):OK E (.seq x y) (den E Q k) U s:=OK.seq h
def kr(h:RK E l.toArray l U s<|den E Q<|.code y::k):OK E (.seq (.region id l.toArray false) y) (den E Q k) U s:=OK.seq<|OK.R3 h
def kR{u:X}(h:ck (Nat.blt t 1000) (look s t)=some u)(c:(Ky [] u&&!QL u)=true)(e:u=qp):OK E .ret (den E (Kb E [.tmp t] qp) k) U s:=OK.ret<|Y3.r1 (zo h c) e
def kS{u v:X}(h:ck (Nat.blt t 1000) (look s t)=some u)(g:(Ky [] u&&!QL u)=true)(w:ck (Nat.blt c 1000) (look s c)=some v)(e:(Ky [] v&&!QL v)=true)(i:.Yy [u,v]=qp):OK E .ret (den E (Kb E [.tmp t,.tmp c] qp) k) U s:=OK.ret<|Y3.r2 (zo h g) (zo w e) i
def kT{v:X}(h:ck (Nat.blt t 1000) (look s t)=some (.ptr c 0))(B:ck (Nat.blt c 1000) (look s<|1000+c)=some (.box us))(i:W5 E.P T true n)(w:(Nat.beq (R us) n&&us.all (Ky []))=true)(C:ck (Nat.blt e 1000) (look s e)=some v)(g:(Ky [] v&&!QL v)=true)(A:.Yy [.agg us,v]=qp):OK E .ret (den E (Kb E [.cell t T,.tmp e] qp) k) U s:=OK.ret<|Y3.r2 (zy h B i w) (zo C g) A
def kp(h:RK E l.toArray l U s<|den E Q<|.code y::k):den E Q (.code (.seq (.region id l.toArray false) y)::k) .normal U s:=Ab.D.code<|OK.seq<|OK.R3 h
def kq(h:RK E l.toArray l U s<|den E Q<|.code y::k):RK E q0 [] U s<|den E Q<|.code (.seq (.region id l.toArray false) y)::k:=RK.nil<|Ab.D.code<|OK.seq<|OK.R3 h
def kB{p:Prop}[Decidable p](h:ck (Nat.blt t 1000) (look s t)=some (.bool<|decide p))(e:p->OK E x Q U s)(c:¬p->OK E y Q U s):OK E (.cond (.tmp t) x y) Q U s:=OK.condD (ck1 h).1 (ck1 h).2 e c
end
section
variable{n:Int}{L:List Oper}{ar:bo}
def jm(h:ck (dk E d&&Nat.blt t 1000) (look s t)=some u)(c:RK E q0 L U ([(d,u)]++s) ar):RK E q0 (⟨some d,.move<|.tmp t,ty,v9,v4,none⟩::L) U s ar:=kc (zm h) c
def ja(h:ck (dk E d&&Nat.blt t 1000) (look s t)=some u)(c:RK E q0 L U ([(d,u)]++s) ar):RK E q0 (⟨some d,.assign<|.tmp t,ty,v9,v4,none⟩::L) U s ar:=kc (za h) c
def jQ(h:ck (dk E d&&Nat.blt (gt q0 j) 1000) (look s<|gt q0 j)=some (.bool a))(e:(a==b)=false)(c:RK E q0 L U ([(d,.Yy [])]++s) ar):RK E q0 (⟨some d,o,ty,v9,v4,some (j,b)⟩::L) U s ar:=kc (zQ h e) c
def ji(h:dk E d=true)(e:k.wrap n=n)(c:RK E q0 L U ([(d,.int k n)]++s) ar):RK E q0 (⟨some d,.assign<|.const<|.int k n,ty,v9,v4,none⟩::L) U s ar:=kc (zi h e) c
def jX(h:ck (dk E d&&Nat.blt t 1000) (look s t)=some (.Yy us))(c:us[i]?=some u)(g:X4 u=false)(e:RK E q0 L U ([(d,u)]++s) ar):RK E q0 (⟨some d,.extract (.tmp t) i,ty,v9,v4,none⟩::L) U s ar:=kc (zX h c g) e
def jb(h:dk E d=true)(c:RK E q0 L U ([(d,.bool b)]++s) ar):RK E q0 (⟨some d,.assign<|.const<|.bool b,ty,v9,v4,none⟩::L) U s ar:=kc (zb h) c
def jf(w:XJ E.P T f g)(h:ck (dk E d&&Nat.blt t 1000) (look s t)=some (.ptr c i))(e:RK E q0 L U ([(d,.ptr c<|i+g)]++s) ar):RK E q0 (⟨some d,.fieldAddr T (.tmp t) f,ty,v9,v4,none⟩::L) U s ar:=kc (zf w h) e
def ju(h:ck (dk E d&&Nat.blt (gt q0 j) 1000) (look s<|gt q0 j)=some (.Yy []))(c:RK E q0 L U ([(d,.Yy [])]++s) ar):RK E q0 (⟨some d,o,ty,v9,v4,some (j,b)⟩::L) U s ar:=kc (zu h) c
end
def O.{v}{α:Sort v}{a:α}:a=a:=rfl
section
variable{P:Program}{f:Nat}{fn:Func}{qf:Code}{vj:bi}{qp:X}{fs:bc}{rd wr:St}
def cI(A:P.funcs[f]?=some fn)(B:fn.body=some qf)(h:∀{w c},OK (TG P fn.ntmps [] w c) qf (den (TG P fn.ntmps [] w c) (Kb (TG P fn.ntmps [] w c) fn.results.toList qp) []) []<|Uj 0 vj)(i:(Nat.ble (R vj) fn.ntmps&&(vj.all (λx=>!X4 x)&&Nat.ble (R vj) 1000))=true:=by rfl):Ct P f vj qp:=
 have g:=dv _ _▸i;have e:=dv _ _▸g.2
 Ct.intro A B rfl rfl g.1 e.1 e.2 λ_ _=>h
def cT(A:P.funcs[f]?=some fn)(B:fn.body=some qf)(h:∀{w c},TM (TG P fn.ntmps [] w c)->OK (TG P fn.ntmps [] w c) qf (den (TG P fn.ntmps [] w c) (Kb (TG P fn.ntmps [] w c) fn.results.toList qp) []) [] (Uj 0 vj))(i:(Nat.ble (R vj) fn.ntmps&&(vj.all (λx=>!X4 x)&&Nat.ble (R vj) 1000))=true:=by rfl):Q7 P f vj qp:=
 have g:=dv _ _▸i;have e:=dv _ _▸g.2
 Q7.intro A B rfl rfl g.1 e.1 e.2 λ_ _=>h
def cG(A:P.funcs[f]?=some fn)(B:fn.body=some qf)(h:∀{w c},OK (TG P fn.ntmps fs w c) qf (den (TG P fn.ntmps fs w c) (k8 (TG P fn.ntmps fs w c) fn.results.toList wr qp) []) fs<|Uj 0 vj++rd)(i:(Nat.ble (R vj) fn.ntmps&&(vj.all (λx=>!X4 x)&&Nat.ble (R vj) 1000))=true:=by rfl)(hw:wr.all (SN fs)=true:=by rfl):Vi P f fs vj rd wr qp:=
 have g:=dv _ _▸i;have e:=dv _ _▸g.2
 Vi.intro A B rfl rfl g.1 e.1 e.2 hw λ_ _=>h
def cH(A:P.funcs[f]?=some fn)(B:fn.body=some qf)(h:∀{w c},TM (TG P fn.ntmps fs w c)->OK (TG P fn.ntmps fs w c) qf (den (TG P fn.ntmps fs w c) (k8 (TG P fn.ntmps fs w c) fn.results.toList wr qp) []) fs (Uj 0 vj++rd))(i:(Nat.ble (R vj) fn.ntmps&&(vj.all (λx=>!X4 x)&&Nat.ble (R vj) 1000))=true:=by rfl)(hw:wr.all (SN fs)=true:=by rfl):U_ P f fs vj rd wr qp:=
 have g:=dv _ _▸i;have e:=dv _ _▸g.2
 U_.intro A B rfl rfl g.1 e.1 e.2 hw λ_ _=>h
