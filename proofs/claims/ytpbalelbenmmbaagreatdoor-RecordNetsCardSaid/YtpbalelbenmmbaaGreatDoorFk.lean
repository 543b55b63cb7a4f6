import Derived.Lib.Strings
import Derived.Test.YtpbalelbenmmbaaGreatDoorFf
namespace Go.Ab
open Go.RowKit
structure StrI(P:Program)(t:Nat):Prop where
 und:P.underlying t=some .string
section
variable{E:Env}{all:Array Oper}{s r r1 r2 r3 rg:St}{d ty:Nat}{pos:String}{after:Array Edge}{guard:Option (Nat×Bool)}{x y z:Operand}
theorem S.notD{t:Nat}{p:Prop}[Decidable p](hg:Gd all s guard rg)(hd:(Nat.blt d 1000&&Nat.blt d E.nt)=true)(hx:OpS s x (.bool (decide p)) r):
  St1 E all ⟨some d,.unOp .not t x,ty,pos,after,guard⟩ s (rg++r) [(d,.bool (decide (¬p)))] []:=by
 have h:(!decide p)=decide (¬p):=by by_cases h:p<;>simp[h]
 rw[←h];exact S.not hg hd hx
theorem S.lenM{α:Type}{t e sz:Nat}{l:List α}{f:α→List X}(hs:SlI E.P t e sz)(hg:Gd all s guard rg)(hd:(Nat.blt d 1000&&Nat.blt d E.nt)=true)(hx:OpS s x (.sl (l.map f)) r):
  St1 E all ⟨some d,.call {callee:=.builtin .len,args:=#[x],argTypes:=#[t]},ty,pos,after,guard⟩ s (rg++r) [(d,.int .i64 l.length)] []:=by
 have:=S.len (ty:=ty) (pos:=pos) (after:=after) hs hg hd hx
 rwa [List.length_map]at this
theorem S.indexM{α:Type}{t e sz n:Nat}{l:List α}{f:α→List X}{i:Int}(hs:SlI E.P t e sz)(hg:Gd all s guard rg)(hd:(Nat.blt d 1000&&Nat.blt d E.nt)=true)(hx:OpS s x (.sl (l.map f)) r1)(hy:OpS s y (.int .i64 i) r2)
  (hi:i=n) (hn:n<l.length) (hsz:(f l[n]).length=sz):St1 E all ⟨some d,.indexAddr t x y,ty,pos,after,guard⟩ s (rg++(r1++r2)) [(d,.eptr (f l[n]))] []:=
 S.index (row:=f l[n]) hs hg hd hx hy (by omega) (by subst hi;simp[hn]) hsz
theorem sl_slice{c:Ctx}{rows:List (List X)}{a:Option Addr}{cap lo hi sz:Nat}(h:RepD c.h (.sl rows) (.slice a rows.length cap))(hsz:∀q∈rows,q.length=sz)(h1:lo≤hi)(h2:hi≤rows.length):
  RepD c.h (.sl ((rows.take hi).drop lo)) (.slice (if cap=lo then a else a.map (·.add (lo * sz))) (hi - lo) (cap - lo)):=by
 have hl:((rows.take hi).drop lo).length=hi - lo:=by simp;omega
 generalize hrr:(rows.take hi).drop lo=rr at hl⊢
 by_cases h0:hi - lo=0
 ·have:rr=[]:=List.eq_nil_of_length_eq_zero (by omega)
  subst this
  rw[h0]
  obtain⟨a',cap',hv,hle,hm,_⟩:=sl_of (c:=c) (RepD.toT h)
  cases hv
  exact .sl0 _ _ (by omega)
 ·obtain⟨a',cap',hv,hle,hm,hc⟩:=sl_of (c:=c) (RepD.toT h)
  cases hv
  rcases hc with rfl|⟨b,off,sz',vs,rfl,h3,h4,h5,h6⟩
  ·simp at h2;omega
  ·have hne:rows≠[]:=fun e=>by subst e;simp at h2;omega
   obtain⟨q,qs,hq⟩:=List.exists_cons_of_ne_nil hne
   have hss:sz'=sz:=by rw[←h3 q (by rw[hq];simp),hsz q (by rw[hq];simp)]
   subst hss
   rw[if_neg (by omega),←hl]
   have hfl:=flatten_length h3
   have hrl:rr.length * sz'=hi * sz' - lo * sz':=by rw[hl,Nat.sub_mul]
   have hat:rr.flatten=(rows.flatten.drop (lo * sz')).take (rr.length * sz'):=by
    subst hrr
    have key:∀(rows:List (List X))(n:Nat),(∀q∈rows,q.length=sz')→(rows.take n).flatten=rows.flatten.take (n * sz')∧(rows.drop n).flatten=rows.flatten.drop (n * sz'):=by
     intro rows
     induction rows with
     |nil=>intro n _;simp
     |cons r rows ih=>
      intro n hr
      cases n with
      |zero=>simp
      |succ n=>
       obtain⟨i1,i2⟩:=ih n fun q hq=>hr q (List.mem_cons_of_mem _ hq)
       have hrl:=hr r List.mem_cons_self
       have hm:(n+1) * sz'=r.length+n * sz':=by rw[Nat.add_mul,Nat.one_mul,hrl];omega
       constructor
       ·rw[List.take_succ_cons,List.flatten_cons,i1,List.flatten_cons,hm,List.take_append,Nat.add_sub_cancel_left,List.take_of_length_le (show r.length≤r.length+n * sz' by omega)]
       ·rw[List.drop_succ_cons,i2,List.flatten_cons,hm,List.drop_append,Nat.add_sub_cancel_left,List.drop_of_length_le (show r.length≤r.length+n * sz' by omega),List.nil_append]
    have ht:=(key rows hi h3).1
    rw[(key (rows.take hi) lo fun q hq=>h3 q (List.mem_of_mem_take hq)).2,ht,List.drop_take]
    congr 1
    simp only[List.length_drop,List.length_take,Nat.min_eq_left h2,Nat.sub_mul]
   have hbound:lo * sz'+rr.length * sz'≤vs.length:=by
    rw[←h4,hfl,hl,←Nat.add_mul];exact Nat.mul_le_mul_right _ (by omega)
   have e1:((⟨b,off,none⟩:Addr).add (lo * sz'))=⟨b,off+lo * sz',none⟩:=add_off b off (lo * sz')
   simp only[Option.map_some,e1]
   refine .sl rr b (off+lo * sz') (cap - lo) sz' ((vs.drop (lo * sz')).take (rr.length * sz')) (by omega) (by omega) ?_ ?_ ?_ ?_
   ·intro q hq;subst hrr;exact h3 q (List.mem_of_mem_take (List.mem_of_mem_drop hq))
   ·rw[hat,List.length_take,List.length_drop,List.length_take,List.length_drop,h4]
   ·intro i v hv
    rw[List.getElem?_take]at hv
    split at hv
    ·rw[List.getElem?_drop]at hv;rw[Nat.add_assoc];exact h5 _ _ hv
    ·cases hv
   ·intro i u v hu hv
    rw[hat,List.getElem?_take]at hu
    rw[List.getElem?_take]at hv
    split at hu
    ·rename_i hlt
     rw[if_pos hlt,List.getElem?_drop]at hv
     rw[List.getElem?_drop]at hu
     exact h6 _ _ _ hu hv
    ·cases hu
theorem S.slice{α:Type}{t e sz lo hi:Nat}{l l':List α}{f:α→List X}{il ih:Option Operand}(hs:SlI E.P t e sz)(hf:∀a,(f a).length=sz)(hg:Gd all s guard rg)(hd:(Nat.blt d 1000&&Nat.blt d E.nt)=true)(hx:OpS s x (.sl (l.map f)) r1)
  (h1:(il=none∧lo=0∧r2=[])∨∃o i,il=some o∧OpS s o (.int .i64 i) r2∧i=lo) (h2:(ih=none∧hi=l.length∧r3=[])∨∃o i,ih=some o∧OpS s o (.int .i64 i) r3∧i=hi) (hle:lo≤hi) (hle2:hi≤l.length) (hl':(l.take hi).drop lo=l'):
  St1 E all ⟨some d,.slice t x il ih none,ty,pos,after,guard⟩ s (rg++(r1++(r2++r3))) [(d,.sl (l'.map f))] []:=by
 have k1:Looks s r2:=by rcases h1 with⟨_,_,rfl⟩|⟨_,_,_,h,_⟩;trivial;exact h.looks
 have k2:Looks s r3:=by rcases h2 with⟨_,_,rfl⟩|⟨_,_,_,h,_⟩;trivial;exact h.looks
 subst hl'
 refine St1.val hg hd rfl (hx.looks.app (k1.app k2)) fun c A w hh hr=>?_
 have hrep:=hx.rep (c:=c) (a:=A) (w:=w) fun p hp=>hr p (by simp[hp])
 obtain⟨a,cap,hv,p1,p2,_⟩:=sl_of hrep
 rw[hv]at hrep
 have hD:RepD c.h (.sl (l.map f)) (.slice a (l.map f).length cap):=hrep
 have hsl:=sl_slice (lo:=lo) (hi:=hi) hD (fun q hq=>by obtain⟨a,_,rfl⟩:=List.mem_map.1 hq;exact hf a) hle (by simpa using hle2)
 rw[List.map_drop,List.map_take]
 refine⟨_,?_,RepD.toT hsl⟩
 rw[List.length_map]at p1 hv
 have hcap:hi≤cap:=by omega
 have kl:∀o i,OpS s o (.int .i64 i) r2→A.eval o=.int .i64 i:=fun o i h=>(int_of (h.rep (c:=c) (a:=A) (w:=w) fun p hp=>hr p (by simp[hp]))).1
 have kh:∀o i,OpS s o (.int .i64 i) r3→A.eval o=.int .i64 i:=fun o i h=>(int_of (h.rep (c:=c) (a:=A) (w:=w) fun p hp=>hr p (by simp[hp]))).1
 rcases h1 with⟨rfl,rfl,rfl⟩|⟨ol,il,rfl,e1,rfl⟩<;>rcases h2 with⟨rfl,rfl,rfl⟩|⟨oh,ih,rfl,e2,rfl⟩
 ·simp[execOp,hv,Instr.sliceAt,Instr.slice,run_underlying hs.und,Instr.sliceBounds,hs.size]
 ·simp[execOp,hv,kh _ _ e2,Instr.sliceAt,Instr.slice,run_underlying hs.und,Instr.sliceBounds,Instr.sliceBound,asIntOf,hs.size,hcap]
 ·have hlo2:lo≤l.length:=hle
  simp[execOp,hv,kl _ _ e1,Instr.sliceAt,Instr.slice,run_underlying hs.und,Instr.sliceBounds,Instr.sliceBound,asIntOf,hs.size,hlo2]
 ·simp[execOp,hv,kl _ _ e1,kh _ _ e2,Instr.sliceAt,Instr.slice,run_underlying hs.und,Instr.sliceBounds,Instr.sliceBound,asIntOf,hs.size,hcap,hle]
theorem S.seql{t t2:Nat}{l l':List UInt8}(hg:Gd all s guard rg)(hd:(Nat.blt d 1000&&Nat.blt d E.nt)=true)(hx:OpS s x (.str l) r1)(hy:OpS s y (.str l') r2):
  St1 E all ⟨some d,.binOp .eql t x y t2,ty,pos,after,guard⟩ s (rg++(r1++r2)) [(d,.bool (decide (l=l')))] []:=
 St1.val hg hd rfl (hx.looks.app hy.looks) fun c A w _ hr=>by
  have h1:=(str_of (hx.rep (c:=c) (a:=A) (w:=w) fun p hp=>hr p (by simp[hp]))).1
  have h2:=(str_of (hy.rep (c:=c) (a:=A) (w:=w) fun p hp=>hr p (by simp[hp]))).1
  refine⟨.bool (decide (l=l')),?_,RepD.toT (.bool _)⟩
  by_cases h:l=l'<;>simp[execOp,h1,h2,eqGuard,binOp,Op.stringOp,Lib.toList_data,h]
theorem S.sneq{t t2:Nat}{l l':List UInt8}(hg:Gd all s guard rg)(hd:(Nat.blt d 1000&&Nat.blt d E.nt)=true)(hx:OpS s x (.str l) r1)(hy:OpS s y (.str l') r2):
  St1 E all ⟨some d,.binOp .neq t x y t2,ty,pos,after,guard⟩ s (rg++(r1++r2)) [(d,.bool (decide (l≠l')))] []:=
 St1.val hg hd rfl (hx.looks.app hy.looks) fun c A w _ hr=>by
  have h1:=(str_of (hx.rep (c:=c) (a:=A) (w:=w) fun p hp=>hr p (by simp[hp]))).1
  have h2:=(str_of (hy.rep (c:=c) (a:=A) (w:=w) fun p hp=>hr p (by simp[hp]))).1
  refine⟨.bool (decide (l≠l')),?_,RepD.toT (.bool _)⟩
  by_cases h:l=l'<;>simp[execOp,h1,h2,eqGuard,binOp,Op.stringOp,Lib.toList_data,h]
theorem S.beql{t t2:Nat}{p q:Bool}(ht:E.P.underlying t=some .bool)(hg:Gd all s guard rg)(hd:(Nat.blt d 1000&&Nat.blt d E.nt)=true)(hx:OpS s x (.bool p) r1)(hy:OpS s y (.bool q) r2):
  St1 E all ⟨some d,.binOp .eql t x y t2,ty,pos,after,guard⟩ s (rg++(r1++r2)) [(d,.bool (decide (p=q)))] []:=
 St1.val hg hd rfl (hx.looks.app hy.looks) fun c A w _ hr=>by
  have h1:=bool_of (hx.rep (c:=c) (a:=A) (w:=w) fun p hp=>hr p (by simp[hp]))
  have h2:=bool_of (hy.rep (c:=c) (a:=A) (w:=w) fun p hp=>hr p (by simp[hp]))
  refine⟨.bool (decide (p=q)),?_,RepD.toT (.bool _)⟩
  have:=run_eql_bool (P:=E.P) (w:=w) t p q ht
  simp only[execOp,h1,h2,eqGuard,Sem.run_bind]
  simp[this]
  cases p<;>cases q<;>rfl
theorem S.stridx{t n:Nat}{l:List UInt8}{i:Int}(ht:StrI E.P t)(hg:Gd all s guard rg)(hd:(Nat.blt d 1000&&Nat.blt d E.nt)=true)(hx:OpS s x (.str l) r1)(hy:OpS s y (.int .i64 i) r2)(hi:i=n)(hn:n<l.length):
  St1 E all ⟨some d,.index t x y,ty,pos,after,guard⟩ s (rg++(r1++r2)) [(d,.int .u8 (l[n].toNat:Int))] []:=
 St1.val hg hd rfl (hx.looks.app hy.looks) fun c A w _ hr=>by
  have h1:=(str_of (hx.rep (c:=c) (a:=A) (w:=w) fun p hp=>hr p (by simp[hp]))).1
  have h2:=(int_of (hy.rep (c:=c) (a:=A) (w:=w) fun p hp=>hr p (by simp[hp]))).1
  subst hi
  refine⟨.int .u8 (l[n].toNat:Int),?_,RepD.toT (.int ?_)⟩
  ·have hsz:(⟨l.toArray⟩:ByteArray).size=l.length:=by show l.toArray.size=_;simp
   have hg:(⟨l.toArray⟩:ByteArray)[n]?=some l[n]:=by
    rw[getElem?_pos _ _ (by rw[hsz];exact hn)]
    rfl
   simp[execOp,h1,h2,Instr.index,asIntOf,run_underlying ht.und,hg]
  ·have:=l[n].toNat_lt
   exact IntWalk.u8_in _ ⟨by omega,by omega⟩
end
end Go.Ab
namespace Go.Ab
open Go.RowKit
inductive LendP(s:St):X→X→St→Prop
 |same {x:X}:okP [] x=true→LendP s x x []
 |own {k n sz:Nat} {rows:List (List X)}:look s (2000+k)=some (.arr sz rows)→rows.length=n→LendP s (.own k n) (.sl rows) [(2000+k,.arr sz rows)]
 |nils:LendP s .nils (.sl []) []
 |ptr {k off:Nat} {cells cells':List X}:Nat.blt k 1000=true→look s (1000+k)=some (.box cells)→cells.all okD=true→cells.drop off=cells'→LendP s (.ptr k off) (.eptr cells') [(1000+k,.box cells)]
inductive LendPs(s:St):List X→List X→St→Prop
 |nil:LendPs s [] [] []
 |cons {x y:X} {xs ys:List X} {r r':St}:LendP s x y r→LendPs s xs ys r'→LendPs s (x::xs) (y::ys) (r++r')
inductive LendV(s:St):X→X→St→Prop
 |p {x y:X} {r:St}:LendP s x y r→notCell x=false→LendV s x y r
 |same {x:X}:okArg x=true→LendV s x x []
 |fn {f:Nat} {caps caps':List X} {r:St}:LendPs s caps caps' r→LendV s (.fn f caps) (.fn f caps') r
 |agg {xs ys:List X} {r:St}:LendPs s xs ys r→xs.all (fun x=>!notCell x)=true→LendV s (.agg xs) (.agg ys) r
inductive LendVs(s:St):List X→List X→St→Prop
 |nil:LendVs s [] [] []
 |cons {x y:X} {xs ys:List X} {r r':St}:LendV s x y r→LendVs s xs ys r'→LendVs s (x::xs) (y::ys) (r++r')
theorem LendP.looks{s:St}{x y:X}{r:St}(h:LendP s x y r):Looks s r:=by
 cases h with
 |same _=>trivial
 |own h _=>exact⟨h,trivial⟩
 |nils=>trivial
 |ptr _ h _ _=>exact⟨h,trivial⟩
theorem LendPs.looks{s:St}{x y:List X}{r:St}(h:LendPs s x y r):Looks s r:=by
 induction h with
 |nil=>trivial
 |cons h _ ih=>exact h.looks.app ih
theorem LendV.looks{s:St}{x y:X}{r:St}(h:LendV s x y r):Looks s r:=by
 cases h with
 |p h _=>exact h.looks
 |same _=>trivial
 |fn h=>exact h.looks
 |agg h _=>exact h.looks
theorem LendVs.looks{s:St}{x y:List X}{r:St}(h:LendVs s x y r):Looks s r:=by
 induction h with
 |nil=>trivial
 |cons h _ ih=>exact h.looks.app ih
section
variable{E:Env}{U:List Nat}{c:Ctx}{a:Act}{w:World}{s:St}
abbrev lendM(w:World):Mem:=fun p=>w.cell? p
theorem LendP.rep(hb:Base E U c a w){x y:X}{r:St}{v:Value}(h:LendP s x y r)(hr:∀p∈r,Holds c a w p.1 p.2)(hx:RepP c x v):RepP (pureC (lendM w)) y v:=by
 cases h with
 |same ho=>exact(hx.cut ho).mono (ctx_cut_ext hb.hw)
 |nils=>
  have:v=.slice none 0 0:=hx
  subst this
  exact RepD.sl0 (h:=lendM w) none 0 (Nat.zero_le _)
 | @own k n sz rows hl hn=>
   obtain⟨hv,e,vs,h1,h2,h3,h4⟩:=arr_of (hr (2000+k,.arr sz rows) (by simp))
   obtain⟨_,m,hv',lv,e1,e2,e3⟩:=hx
   rw[h1]at e1
   cases e1
   rw[e3 hn.symm]
   have:RepD (lendM w) (.sl rows) hv:=RepD.of_owns h2 h3 h4 hb.hw fun b o hbk=>by
    rfl
   exact this
 | @ptr k off cells cells' hk hl hD hd=>
   subst hd
   rw[Nat.blt_eq]at hk
   obtain⟨b,h1,rfl⟩:=hx
   obtain⟨b',T,vs,h2,h3,h4⟩:=box_of (hr (1000+k,.box cells) (by simp)) hk
   rw[h1]at h2;cases h2
   have hds:=Ds_of h4 hD
   have:RepD (lendM w) (.eptr (cells.drop off)) (.pointer (some ⟨b,off,none⟩)):=by
    refine .eptr _ b off (vs.toList.drop off) (by have:=h4.length;simp at this⊢;omega) ?_ ?_
    ·intro i v hv
     rw[List.getElem?_drop]at hv
     show w.cell? _=_
     rw[cell_of_row w b (off+i) vs T (0,0) h3]
     simpa using hv
    ·intro i x v hx hv
     rw[List.getElem?_drop]at hx hv
     exact(hds.get hx hv).mono hb.hw
   exact this
theorem LendPs.rep(hb:Base E U c a w){xs ys:List X}{r:St}(h:LendPs s xs ys r):∀{vs:List Value},(∀p∈r,Holds c a w p.1 p.2)→All2 (RepP c) xs vs→All2 (RepP (pureC (lendM w))) ys vs:=by
 induction h with
 |nil=>intro vs _ h;exact(All2.nil_left h)▸trivial
 |cons h _ ih=>
  intro vs hr hx
  obtain⟨v,vs',rfl,h1,h2⟩:=hx.cons_left
  exact⟨h.rep hb (fun p hp=>hr p (List.mem_append_left _ hp)) h1,ih (fun p hp=>hr p (List.mem_append_right _ hp)) h2⟩
theorem P.toC{c:Ctx}{x:X}{v:Value}(h:RepP c x v)(hn:notCell x=false):RepC c x v:=by cases x<;>first|exact h|cases hn
theorem C.toP{c:Ctx}{x:X}{v:Value}(h:RepC c x v)(hn:notCell x=false):RepP c x v:=by cases x<;>first|exact h|cases hn
theorem P.toV{c:Ctx}{x:X}{v:Value}(h:RepP c x v)(hn:notCell x=false):RepV c x v:=by cases x<;>first|exact h|cases hn
theorem LendP.notCell{x y:X}{r:St}(h:LendP s x y r)(hx:notCell x=false):notCell y=false:=by
 cases h with
 |same _=>exact hx
 |own _ _=>rfl
 |nils=>rfl
 |ptr _ _ _ _=>rfl
theorem LendV.rep(hb:Base E U c a w){x y:X}{r:St}{v:Value}(h:LendV s x y r)(hr:∀p∈r,Holds c a w p.1 p.2)(hx:RepT c x v):RepV (pureC (lendM w)) y v:=by
 cases h with
 |p h hn=>
  have hp:RepP c x v:=by cases x<;>first|exact hx|cases hn
  exact P.toV (h.rep hb hr hp) (h.notCell hn)
 |same ho=>
  simp only[okArg,Bool.and_eq_true,Bool.not_eq_true']at ho
  exact((T.toV hx ho.2).cut ho.1).mono (ctx_cut_ext hb.hw)
 |fn h=>obtain⟨vs,h1,h2⟩:=hx;exact⟨vs,h1,h.rep hb hr h2⟩
 | @agg xs ys _ h hn=>
   obtain⟨vs,h1,h2⟩:=hx
   have hP:∀{xs:List X}{vs:List Value},All2 (RepC c) xs vs→xs.all (fun x=>!notCell x)=true→All2 (RepP c) xs vs:=by
    intro xs
    induction xs with
    |nil=>intro vs h _;exact(All2.nil_left h)▸trivial
    |cons x xs ih=>
     intro vs h ho
     obtain⟨v,vs',rfl,q1,q2⟩:=h.cons_left
     simp only[List.all_cons,Bool.and_eq_true,Bool.not_eq_true']at ho
     exact⟨C.toP q1 ho.1,ih q2 (by simpa using ho.2)⟩
   have hC:∀{xs ys:List X}{r:St}{vs:List Value},LendPs s xs ys r→xs.all (fun x=>!notCell x)=true→All2 (RepP (pureC (lendM w))) ys vs→All2 (RepC (pureC (lendM w))) ys vs:=by
    intro xs ys r vs hl
    induction hl generalizing vs with
    |nil=>intro _ h;exact(All2.nil_left h)▸trivial
    |cons h _ ih=>
     intro ho hx
     obtain⟨v,vs',rfl,q1,q2⟩:=hx.cons_left
     simp only[List.all_cons,Bool.and_eq_true,Bool.not_eq_true']at ho
     exact⟨P.toC q1 (h.notCell ho.1),ih (by simpa using ho.2) q2⟩
   exact⟨vs,h1,hC h hn (h.rep hb hr (hP h2 hn))⟩
theorem LendVs.rep(hb:Base E U c a w){xs ys:List X}{r:St}(h:LendVs s xs ys r):∀{vs:List Value},(∀p∈r,Holds c a w p.1 p.2)→All2 (RepT c) xs vs→All2 (RepV (pureC (lendM w))) ys vs:=by
 induction h with
 |nil=>intro vs _ h;exact(All2.nil_left h)▸trivial
 |cons h _ ih=>
  intro vs hr hx
  obtain⟨v,vs',rfl,h1,h2⟩:=hx.cons_left
  exact⟨h.rep hb (fun p hp=>hr p (List.mem_append_left _ hp)) h1,ih (fun p hp=>hr p (List.mem_append_right _ hp)) h2⟩
end
def scal1:X→Bool
 |.int _ _|.bool _|.str _=>true
 |_=>false
def scal:X→Bool
 |.tup xs=>xs.all scal1
 |x=>scal1 x
theorem scal1_any{c c':Ctx}{x:X}{v:Value}(hs:scal1 x=true)(h:RepV c x v):RepV c' x v:=by
 cases x<;>first|(cases h;first|exact RepD.int ‹_› |exact RepD.bool _|exact RepD.str _ ‹_›)|cases hs
theorem scal_any{c c':Ctx}{x:X}{v:Value}(hs:scal x=true)(h:RepT c x v):RepT c' x v:=by
 have all:∀{xs:List X}{vs:List Value},All2 (RepV c) xs vs→xs.all scal1=true→All2 (RepV c') xs vs:=by
  intro xs
  induction xs with
  |nil=>intro vs h _;exact(All2.nil_left h)▸trivial
  |cons x xs ih=>
   intro vs h ho
   obtain⟨v,vs',rfl,q1,q2⟩:=h.cons_left
   simp only[List.all_cons,Bool.and_eq_true]at ho
   exact⟨scal1_any ho.1 q1,ih q2 ho.2⟩
 cases x
 case tup xs=>obtain⟨vs,h1,h2⟩:=h;exact⟨vs,h1,all h2 hs⟩
 all_goals
  simp only[RepT]at h⊢
  exact scal1_any hs h
theorem step_callL{E:Env}{all:Array Oper}{s r rg:St}{d ty f:Nat}{pos:String}{after:Array Edge}{guard:Option (Nat×Bool)}{fo:Operand}{os:List Operand}{at_:Array TypeId}{ys caps:List X}{res:X}
  (hg:Gd all s guard rg) (hd:(Nat.blt d 1000&&Nat.blt d E.nt)=true) (hl:Looks s r) (hcall:∀args w,(callFunc f args).run E.P w=.ok (.enter f args) w) (hf:CtAt E f (ys++caps) res) (hs:scal res=true)
  (hargs:∀U c a w,Base E U c a w→(∀p∈r,Holds c a w p.1 p.2)→All2 (RepV (pureC (lendM w))) ys (os.map a.eval)∧∃cvs:List Value,a.eval fo=.func (.func f) #[] cvs.toArray∧All2 (RepV (pureC (lendM w))) caps cvs):
  St1 E all ⟨some d,.call {callee:=.value fo,args:=os.toArray,argTypes:=at_},ty,pos,after,guard⟩ s (rg++r) [(d,res)] []:=by
 simp only[Bool.and_eq_true,Nat.blt_eq]at hd
 refine⟨?_,hg.looks.app hl⟩
 intro U c a w hb hr _ next Q hn
 have hw:=hg.wanted (o:=⟨some d,.call {callee:=.value fo,args:=os.toArray,argTypes:=at_},ty,pos,after,guard⟩) (fun p hp=>hr p (List.mem_append_left _ hp))
 obtain⟨ha,cvs,hfo,hc⟩:=hargs U c a w hb fun p hp=>hr p (List.mem_append_right _ hp)
 unfold opIn
 rw[if_pos hw]
 refine⟨fun _ _=>trivial,?_⟩
 rw[Oper.semAt_eq _ _ _ fun cl he=>by cases he]
 have hrun:(execOp a.eval ⟨some d,.call {callee:=.value fo,args:=os.toArray,argTypes:=at_},ty,pos,after,guard⟩).run E.P w=.ok (.enter f (os.map a.eval++cvs).toArray) w:=by
  simp[execOp,resolve,hfo,Deferred.ofValue,invoke,hcall]
 rw[hrun]
 refine⟨(fun h=>by cases h),?_⟩
 have hcalls:=hf (lendM w) w (os.map a.eval++cvs) ⟨U,c,a,hb⟩ (fun p v hp=>hp) (ha.append hc)
 have h1:CallsIn E.F (0 - 1) E.P f (os.map a.eval++cvs).toArray w _:=(callsIn_wide (n:=0)).2 hcalls
 refine h1.mono ?_
 rintro e w' ⟨v,h',rfl,hB,_,_,_,hres⟩
 have hdt:d<a.tmps.size:=by rw[hb.nt];exact hd.2
 have hb':Base E U c a w':=hb.below_grow hB (Mem.le_refl _) (fun p v e=>.inl e) fun p v e=>by
  have h1:=hb.hw p v e
  have h2:p.block<w.heap.size:=block_lt_of_cell h1
  rw[hB.cell h2];exact h1
 refine hn c _ w' (hb'.put _ _) (Ext.refl c) ?_ ?_
 ·intro p hp
  simp only[List.mem_singleton]at hp
  subst hp
  unfold Holds
  rw[if_pos hd.1,getD_put hdt]
  exact scal_any hs hres
 ·intro key y hk hy
  have hne:d≠key:=hk (d,res) (by simp)
  by_cases h1:key<1000
  ·refine Holds.put ?_ hne v
   unfold Holds at hy⊢
   rw[if_pos h1]at hy⊢
   exact hy
  ·exact(Holds.below hb hB (Ext.refl c) (fun _ _ _ e=>e) rfl (fun _ _ e=>.inl e) hb'.hw h1 hy).put hne v
section
variable{E:Env}{all:Array Oper}{s r r1 r2 r3 rg:St}{d ty:Nat}{pos:String}{after:Array Edge}{guard:Option (Nat×Bool)}{x y z:Operand}
theorem S.callL{f:Nat}{os:List Operand}{at_:Array TypeId}{xs ys:List X}{res:X}(hf:Ct E.P f ys res)(hcall:∀args w,(callFunc f args).run E.P w=.ok (.enter f args) w)(hg:Gd all s guard rg)(hd:(Nat.blt d 1000&&Nat.blt d E.nt)=true)
  (ha:OpsS s os xs r) (hl:LendVs s xs ys r2) (hs:scal res=true):St1 E all ⟨some d,.call {callee:=.value (.func f),args:=os.toArray,argTypes:=at_},ty,pos,after,guard⟩ s (rg++(r++r2)) [(d,res)] []:=
 step_callL (caps:=[]) hg hd (ha.looks.app hl.looks) hcall (by simpa using hf.at) hs fun U c a w hb hr=>⟨hl.rep hb (fun p hp=>hr p (List.mem_append_right _ hp)) (ha.rep fun p hp=>hr p (List.mem_append_left _ hp)),[],rfl,trivial⟩
theorem S.callLT{f:Nat}{os:List Operand}{at_:Array TypeId}{xs ys:List X}{res:X}(hf:CtT E.P f ys res)(hT:TabOk E)(hcall:∀args w,(callFunc f args).run E.P w=.ok (.enter f args) w)(hg:Gd all s guard rg)(hd:(Nat.blt d 1000&&Nat.blt d E.nt)=true)
  (ha:OpsS s os xs r) (hl:LendVs s xs ys r2) (hs:scal res=true):St1 E all ⟨some d,.call {callee:=.value (.func f),args:=os.toArray,argTypes:=at_},ty,pos,after,guard⟩ s (rg++(r++r2)) [(d,res)] []:=
 step_callL (caps:=[]) hg hd (ha.looks.app hl.looks) hcall (by simpa using hf.at hT) hs fun U c a w hb hr=>⟨hl.rep hb (fun p hp=>hr p (List.mem_append_right _ hp)) (ha.rep fun p hp=>hr p (List.mem_append_left _ hp)),[],rfl,trivial⟩
end
end Go.Ab
