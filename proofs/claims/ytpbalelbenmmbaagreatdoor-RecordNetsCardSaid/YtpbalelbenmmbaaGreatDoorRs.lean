import Derived.Test.YtpbalelbenmmbaaGreatDoorHz
import Derived.Test.YtpbalelbenmmbaaGreatDoorGh
import Derived.Test.YtpbalelbenmmbaaGreatDoorHj
import Derived.Test.YtpbalelbenmmbaaGreatDoorMd
import Derived.Test.YtpbalelbenmmbaaGreatDoorRd
import Derived.Test.YtpbalelbenmmbaaGreatDoorRe
import Derived.Test.YtpbalelbenmmbaaGreatDoorRl
import Derived.Test.YtpbalelbenmmbaaGreatDoorRn
import Derived.Test.YtpbalelbenmmbaaGreatDoorSh
import Derived.Test.YtpbalelbenmmbaaGreatDoorTy
import Derived.Test.YtpbalelbenmmbaaGreatDoorWc
import Derived.Test.YtpbalelbenmmbaaGreatDoorWg
namespace Go.Proofs.YtpbalelbenmmbaaGreatDoor
open Go.Ab
def Ph.kind:Ph→Int|.mk k _ _ _ _ _=>k
def Ph.power:Ph→Int|.mk _ p _ _ _ _=>p
def Ph.law:Ph→Int|.mk _ _ l _ _ _=>l
def Ph.ticks:Ph→Int|.mk _ _ _ t _ _=>t
def Ph.kelvin:Ph→Int|.mk _ _ _ _ k _=>k
def Ph.body:Ph→List Ph|.mk _ _ _ _ _ b=>b
def Ph.zero:Ph:=.mk 0 0 0 0 0 []
def rcpNames:List (List UInt8):=[[104,101,97,116],[100,119,101,108,108],[113,117,101,110,99,104],[117,110,116,105,108],[99,111,111,108],[114,101,112,101,97,116]]
def isSign(b:UInt8):Bool:=b==32||b==59||b==40||b==41
def wordR(s:List UInt8):List UInt8×List UInt8:=(s.takeWhile fun b=>!isSign b,s.dropWhile fun b=>!isSign b)
def hasR(p s:List UInt8):Bool×List UInt8:=if p.isPrefixOf s then(true,s.drop p.length)else(false,s)
def kindR(s:List UInt8):Option Nat×List UInt8:=(ix (fun n=>decide ((wordR s).1=n)) rcpNames,(wordR s).2)
def numR(s:List UInt8):(Int×Bool)×List UInt8:=if(hasR [32] s).1=true then((atoiV (wordR (hasR [32] s).2).1,numOk (wordR (hasR [32] s).2).1 5),(wordR (hasR [32] s).2).2)else((0,false),(hasR [32] s).2)
def fieldsR:Nat→List Nat
 |0=>[1,3]
 |1=>[3]
 |2=>[2,3]
 |3=>[4,1,3]
 |4=>[4,2,3]
 |_=>[3]
def Ph.setF(p:Ph)(f:Nat)(n:Int):Ph:=match p,f with
 |.mk k _ l t e b,1=>.mk k n l t e b
 |.mk k w _ t e b,2=>.mk k w n t e b
 |.mk k w l _ e b,3=>.mk k w l n e b
 |.mk k w l t _ b,4=>.mk k w l t n b
 |p,_=>p
def Ph.setBody(p:Ph)(b:List Ph):Ph:=match p with|.mk k w l t e _=>.mk k w l t e b
def numsR:List Nat→Ph→List UInt8→Option Ph×List UInt8
 |[],p,s=>(some p,s)
 |f::fs,p,s=>if(numR s).1.2=true then numsR fs (p.setF f (numR s).1.1) (numR s).2 else(none,(numR s).2)
def phOr(ls:List UInt8→(List Ph×Bool)×List UInt8)(s:List UInt8):(Ph×Bool)×List UInt8:=
 match(kindR s).1 with
 |none=>((Ph.zero,false),(kindR s).2)
 |some k=>match(numsR (fieldsR k) (.mk k 0 0 0 0 []) (kindR s).2).1 with
  |none=>((Ph.zero,false),(numsR (fieldsR k) (.mk k 0 0 0 0 []) (kindR s).2).2)
  |some p=>
   let r:=(numsR (fieldsR k) (.mk k 0 0 0 0 []) (kindR s).2).2
   if k≠5 then((p,true),r)else if(hasR [32,40] r).1=false then((Ph.zero,false),(hasR [32,40] r).2)
   else
    let b:=ls (hasR [32,40] r).2
    if b.1.2=true then((p.setBody b.1.1,(hasR [41] b.2).1),(hasR [41] b.2).2)else((p.setBody b.1.1,false),b.2)
def lsG:Nat→List Ph→List UInt8→(List Ph×Bool)×List UInt8
 |0,_,s=>(([],false),s)
 |n+1,acc,s=>
  let p:=phOr (lsG n []) s
  if p.1.2=false then(([],false),p.2)
  else if(hasR [59] p.2).1=true then lsG n (acc++[p.1.1]) (hasR [59] p.2).2 else((acc++[p.1.1],true),(hasR [59] p.2).2)
def rightR(p:Ph):Bool:=match p.kind.toNat with
 |0=>decide (1≤p.power∧p.power≤10000)&&decide (1≤p.ticks∧p.ticks≤200)
 |1=>decide (1≤p.ticks∧p.ticks≤200)
 |2=>decide (0≤p.law∧p.law≤3)&&decide (1≤p.ticks∧p.ticks≤200)
 |3=>decide (200≤p.kelvin∧p.kelvin≤3000)&&(decide (1≤p.power∧p.power≤10000)&&decide (1≤p.ticks∧p.ticks≤200))
 |4=>decide (200≤p.kelvin∧p.kelvin≤3000)&&(decide (0≤p.law∧p.law≤3)&&decide (1≤p.ticks∧p.ticks≤200))
 |_=>decide (1≤p.ticks∧p.ticks≤10)
def cleanR(p:Ph):Bool:=match p.kind.toNat with
 |0=>decide (p.law=0)&&decide (p.kelvin=0)&&decide (p.body.length=0)
 |1=>decide (p.power=0)&&decide (p.law=0)&&decide (p.kelvin=0)&&decide (p.body.length=0)
 |2=>decide (p.power=0)&&decide (p.kelvin=0)&&decide (p.body.length=0)
 |3=>decide (p.law=0)&&decide (p.body.length=0)
 |4=>decide (p.power=0)&&decide (p.body.length=0)
 |_=>decide (p.power=0)&&decide (p.law=0)&&decide (p.kelvin=0)
def listR(g:Ph→Int)(l:List Ph):Int×Int:=if l.length=0 then(0,10)else if 12<l.length then(0,8)else eachGo (fun _ p=>g p) 0 l
def phaseE:Nat→Ph→Int
 |d,p=>if¬(0≤p.kind∧p.kind≤5)then 15 else if firstE [unlessE (cleanR p) 3,unlessE (rightR p) 2]≠0 then firstE [unlessE (cleanR p) 3,unlessE (rightR p) 2]else if p.kind≠5 then 0 else match d with
  |0=>16
  |d+1=>(listR (phaseE d) p.body).2
def flatG:Nat→List Ph→List Ph
 |0,l=>l
 |d+1,l=>l.flatMap fun p=>if p.kind=5 then(List.replicate p.ticks.toNat (flatG d p.body)).flatten else [p]
def flatT(l:List Ph):List Ph:=(flatG 4 l).take 61
def isColdT(k:Int):Bool:=decide (k=2)||decide (k=4)
def chkR(l:List Ph):Int:=if(listR (phaseE 3) l).2≠0 then(listR (phaseE 3) l).2 else firstE [unlessE (decide (((flatT l).length:Int)≤60)) 8,unlessE (isColdT ((flatT l).getLast?.map Ph.kind|>.getD 0)) 20]
def rcpP(s:List UInt8):List Ph×Int:=if 2000<s.length then([],8)else
 let r:=lsG (s.length+1) [] s
 if r.1.2=false∨r.2≠[]then([],7)else if chkR r.1.1≠0 then([],chkR r.1.1)else(r.1.1,0)
def recipeT(H:House)(name rest:List UInt8):HE:=
 if nameOk name=false then(H,4)else
 let e:=firstE [(rcpP rest).2,unlessE (decide ((H.vers.length:Int)<6)) 16]
 if e≠0 then(H,e)else
 let n:=match(H.vIx name).bind (H.vers[·]?)with|some q=>q.1.ver+1|none=>1
 ({H with vers:=H.vers++[(⟨name,n,(rcpP rest).1⟩,H.entries)]},0)
structure Indent where
 depth:Int
 diag:Int
 lo:Int
 hi:Int
 deriving DecidableEq
def Indent.cs(x:Indent):List X:=[.int .i64 x.depth,.int .i64 x.diag,.int .i64 x.lo,.int .i64 x.hi]
def rowR(n:Nat)(p:List UInt8):Option (List Int):=if((splitC 32 p).all fun w=>numOk w 7)&&decide ((splitC 32 p).length=n)then some ((splitC 32 p).map atoiV)else none
def rowsR(n:Nat)(s:List UInt8):List (List Int)×Int:=if 60000<s.length then([],8)else match gath (rowR n) (splitC 59 s)with|some l=>(l,0)|none=>([],7)
def indentOf(l:List Int):Indent:=⟨l.getD 0 0,l.getD 1 0,l.getD 2 0,l.getD 3 0⟩
def isHardT(n:Int):Bool:=decide (0≤n∧n≤2000)
def isDepthT(n:Int):Bool:=decide (1≤n∧n≤10000)
def indentE(i:Nat)(b x:Indent):Int:=
 let e:=firstE [unlessE (isDepthT x.depth&&isDepthT x.diag&&isHardT x.lo&&isHardT x.hi) 2,unlessE (decide (x.lo≤x.hi)) 9]
 if e≠0 then e else if i=0 then unlessE (decide (2 * x.depth≥5 * x.diag)) 17 else unlessE (decide (x.depth - b.depth≥3 * max x.diag b.diag)) 17
def travE(l:List Indent):Int×Int:=if firstE [unlessE (decide ((l.length:Int)≥2)) 10,unlessE (decide ((l.length:Int)≤20)) 8]≠0 then(0,firstE [unlessE (decide ((l.length:Int)≥2)) 10,unlessE (decide ((l.length:Int)≤20)) 8])else eachGo (fun i x=>indentE i (l.getD (i - 1) x) x) 0 l
def travP(s:List UInt8):List Indent×Int:=
 let r:=rowsR 4 s
 let e:=if r.2=0 then(travE (r.1.map indentOf)).2 else r.2
 if e≠0 then([],e)else(r.1.map indentOf,0)
def lowestT(n d:Int):Frac:=⟨n.tdiv (gcdT n d),d.tdiv (gcdT n d)⟩
def fallsT(l:List (Int×Int))(limit:Int):Frac×Bool:=match ix (fun p:Int×Int=>decide (p.2<limit)) l with
 |none=>(⟨0,0⟩,false)
 |some 0=>(lowestT (l.getD 0 (0,0)).1 1,true)
 |some (i+1)=>
  let a:=l.getD (i+1) (0,0);let b:=l.getD i (0,0)
  (lowestT (a.1 * (b.2 - a.2)+(b.1 - a.1) * (limit - a.2)) (b.2 - a.2),true)
def lowerT(l:List Indent):List (Int×Int):=l.map fun x=>(x.depth,x.lo)
def upperT(l:List Indent):List (Int×Int):=l.map fun x=>(x.depth,x.hi)
def caseT(l:List Indent)(limit:Int):Span×Int:=
 let e:=firstE [(travE l).2,unlessE (isHardT limit) 2]
 if e≠0 then(Span.zero,e)else if((upperT l).getD 0 (0,0)).2<limit then(Span.zero,12)else if(fallsT (upperT l) limit).2=false then(Span.zero,21)
 else(⟨(fallsT (lowerT l) limit).1,(fallsT (upperT l) limit).1⟩,0)
def House.outside(H:House)(d:Span):Bool:=!(!decide (d.lo.num<H.net.lo * d.lo.den)&&!decide (d.hi.num>H.net.hi * d.hi.den))
def House.markAll(H:House)(i:Nat):House:={H with parts:=H.parts.map fun q=>if decide (q.1.rcp=(H.p i).rcp)&&decide (q.1.ver=(H.p i).ver)&&isHereT q.1 then({q.1 with marked:=true},q.2++[H.entries])else q}
def sectT(rest:List UInt8)(H:House)(i:Nat):HE:=
 if(H.p i).place≠1 then(H,20)else if(travP rest).2≠0 then(H,(travP rest).2)else
 let c:=caseT (travP rest).1 H.net.limit
 if c.2≠0 then(H,c.2)else
 let H1:=H.setP i fun p=>{p with place:=4,depth:=c.1}
 (if H.outside c.1 then H1.markAll i else H1,0)
end Go.Proofs.YtpbalelbenmmbaaGreatDoor
namespace Go.Proofs.YtpbalelbenmmbaaGreatDoor
open Go.Ab
def FrOk(plan:Plan)(l:List Frame):Prop:=(∀f∈l,frameE plan f=0)∧∀(i j:Nat)(a b:Frame),l[i]?=some a→l[j]?=some b→a.tick=b.tick→i=j
theorem FrOk.nil(plan:Plan):FrOk plan []:=by
 refine⟨fun f h=>?_,fun i j a b h _ _=>?_⟩
 ·cases h
 ·simp at h
end Go.Proofs.YtpbalelbenmmbaaGreatDoor
namespace Go.Proofs.YtpbalelbenmmbaaGreatDoor
open Go.Ab
def peopleIx(n:Net)(by_:List UInt8):Option Nat:=ix (fun p:Person=>decide (p.name=by_)) n.people
def House.head(H:House)(x:Entry):Int:=firstE [unlessE (decide (H.entries<60)) 8,unlessE (peopleIx H.net x.by_).isSome 6,unlessE (decide (0≤x.at_∧x.at_≤1000000000000)) 2,unlessE (decide (x.at_≥H.time)) 9,unlessE (decide ((x.text.length:Int)≤600)) 8,unlessE (x.text.all isPrint) 3,unlessE (verbIx (cutC 32 x.text).1).isSome 7]
def effT(k:Nat)(H:House)(L:Line):HE:=match k with
 |0=>(H,0)
 |1=>startT H L.num L.rcp L.coil
 |2=>frameT H (parseF L.rest).1 (parseF L.rest).2
 |3=>endT H
 |4=>aboutT H L.num goodT
 |5=>aboutT H L.num badT
 |6=>coilT H L.coil L.num
 |7=>repairT H L.coil
 |8=>aboutT H L.num markT
 |9=>aboutT H L.num (sectT L.rest)
 |10=>recipeT H L.rcp L.rest
 |11=>aboutT H L.num modelT
 |_=>learnT H L.num
def House.tail(H:House)(x:Entry)(i k:Nat):Int:=firstE [unlessE (decide ((H.net.people[i]?.map Person.role).getD 0≥roles.getD k 0)) 18,unlessE (parseT x.text (kinds.getD k [])).2 7]
def enterT(H:House)(x:Entry):HE:=
 if H.head x≠0 then(H,H.head x)else match peopleIx H.net x.by_,verbIx (cutC 32 x.text).1 with
 |some i,some k=>
  if H.tail x i k≠0 then(H,H.tail x i k)else
  let r:=effT k H (lineT x.text).1
  if r.2≠0 then r else({r.1 with time:=x.at_,entries:=r.1.entries+1},0)
 |_,_=>(H,7)
theorem idx_some{α:Type}(g:α→Bool)(l:List α):decide (idxGo g 0 l≥0)=(ix g l).isSome:=by
 rw[idx_ix]
 cases ix g l with
 |none=>rfl
 |some j=>simp
theorem head_eq(A:HA)(x:Entry):A.plain.head x=firstE [unlessE (decide (A.entries<60)) 8,unlessE (decide (idxGo (fun p:Person=>decide (p.name=x.by_)) 0 A.net.people≥0)) 6,unlessE (decide (0≤x.at_∧x.at_≤1000000000000)) 2,unlessE (decide (x.at_≥A.time)) 9,unlessE (decide ((x.text.length:Int)≤600)) 8,unlessE (!!(x.text.all isPrint)) 3,unlessE (verbIx (cutC 32 x.text).1).isSome 7]:=by
 rw[idx_some,Bool.not_not];rfl
theorem first7{a b c d e f:Bool}:firstE [unlessE a 8,unlessE b 6,unlessE c 2,unlessE d 9,unlessE e 8,unlessE f 3,unlessE false 7]≠0:=by
 cases a<;>cases b<;>cases c<;>cases d<;>cases e<;>cases f<;>decide
theorem first7_0{a b c d e f g:Bool}(h:firstE [unlessE a 8,unlessE b 6,unlessE c 2,unlessE d 9,unlessE e 8,unlessE f 3,unlessE g 7]=0):a=true∧b=true∧c=true∧d=true∧e=true∧f=true∧g=true:=by
 cases a<;>cases b<;>cases c<;>cases d<;>cases e<;>cases f<;>cases g<;>first|exact absurd h (by decide)|exact⟨rfl,rfl,rfl,rfl,rfl,rfl,rfl⟩
theorem first2b{a b:Bool}(h:firstE [unlessE a 18,unlessE b 7]=0):a=true∧b=true:=by
 cases a<;>cases b<;>first|exact absurd h (by decide)|exact⟨rfl,rfl⟩
theorem head_0{H:House}{x:Entry}(h:H.head x=0):H.entries<60∧(peopleIx H.net x.by_).isSome=true∧(0≤x.at_∧x.at_≤1000000000000)∧x.at_≥H.time∧(x.text.length:Int)≤600∧x.text.all isPrint=true∧(verbIx (cutC 32 x.text).1).isSome=true:=by
 obtain⟨h1,h2,h3,h4,h5,h6,h7⟩:=first7_0 h
 exact⟨of_decide_eq_true h1,h2,of_decide_eq_true h3,of_decide_eq_true h4,of_decide_eq_true h5,h6,h7⟩
theorem kinds_ok(k:Nat):(kinds.getD k []).length≤3∧∀b∈kinds.getD k [],b.toNat<128:=by
 by_cases h:k<13
 ·match k,h with
  |0,_=>decide
  |1,_=>decide
  |2,_=>decide
  |3,_=>decide
  |4,_=>decide
  |5,_=>decide
  |6,_=>decide
  |7,_=>decide
  |8,_=>decide
  |9,_=>decide
  |10,_=>decide
  |11,_=>decide
  |12,_=>decide
 ·have e:kinds.getD k []=[]:=by
   unfold List.getD
   rw[List.getElem?_eq_none (by show 13≤k;omega)];rfl
  rw[e]
  exact⟨by decide,fun b hb=>by cases hb⟩
theorem cut_rest{c:UInt8}{l:List UInt8}:(cutC c l).2.1=[]∨∃n,(cutC c l).2.1=l.drop n:=by
 by_cases h:0≤Lib.indexByte l c
 ·rw[cut_T h];exact .inr ⟨_,rfl⟩
 ·rw[cut_F h];exact .inl rfl
theorem cut_first{c:UInt8}{l:List UInt8}:∃n,(cutC c l).1=l.take n:=by
 by_cases h:0≤Lib.indexByte l c
 ·rw[cut_T h];exact⟨_,rfl⟩
 ·rw[cut_F h];exact⟨l.length,by rw[List.take_length]⟩
structure Of(t l:List UInt8):Prop where
 len:l.length≤t.length
 sub:∀b∈l,b∈t
theorem Of.nil(t:List UInt8):Of t []:=⟨Nat.zero_le _,fun b h=>by cases h⟩
theorem Of.refl(t:List UInt8):Of t t:=⟨Nat.le_refl _,fun _ h=>h⟩
theorem Of.trans{a b c:List UInt8}(h:Of a b)(k:Of b c):Of a c:=⟨Nat.le_trans k.len h.len,fun x hx=>h.sub x (k.sub x hx)⟩
theorem Of.take(t:List UInt8)(n:Nat):Of t (t.take n):=⟨List.length_take_le' _ _,fun _ h=>List.mem_of_mem_take h⟩
theorem Of.drop(t:List UInt8)(n:Nat):Of t (t.drop n):=⟨by rw[List.length_drop];omega,fun _ h=>List.mem_of_mem_drop h⟩
theorem Of.rest(c:UInt8)(t:List UInt8):Of t (cutC c t).2.1:=by
 rcases cut_rest (c:=c) (l:=t)with h|⟨n,h⟩
 ·rw[h];exact .nil t
 ·rw[h];exact .drop t n
theorem Of.first(c:UInt8)(t:List UInt8):Of t (cutC c t).1:=by
 obtain⟨n,h⟩:=cut_first (c:=c) (l:=t)
 rw[h];exact .take t n
theorem Of.split(c:UInt8){t w:List UInt8}(h:w∈splitC c t):Of t w:=by
 have key:∀(n:Nat)(t:List UInt8),t.length≤n→∀w∈splitC c t,Of t w:=by
  intro n
  induction n with
  |zero=>
   intro t ht w hw
   have:t=[]:=List.eq_nil_of_length_eq_zero (by omega)
   subst this
   rw[cut_split]at hw
   split at hw
   ·rename_i h2
    exact absurd h2 (by rw[show(cutC c ([]:List UInt8)).2.2=false from rfl];decide)
   ·rw[List.mem_singleton]at hw
    subst hw
    exact .refl _
  |succ n ih=>
   intro t ht w hw
   rw[cut_split]at hw
   split at hw
   ·rename_i h2
    rw[List.mem_cons]at hw
    rcases hw with rfl|hw
    ·exact .first c t
    ·refine(Of.rest c t).trans (ih _ ?_ w hw)
     by_cases hi:0≤Lib.indexByte t c
     ·rw[cut_T hi,List.length_drop]
      have:t≠[]:=fun e=>by subst e;simp[Lib.indexByte]at hi
      have:=List.length_pos_iff.2 this
      omega
     ·rw[cut_F hi]at h2;cases h2
   ·rw[List.mem_singleton]at hw
    subst hw
    exact .refl _
 exact key _ t (Nat.le_refl _) w h
theorem getDOf{t:List UInt8}{L:List (List UInt8)}(h:∀w∈L,Of t w)(i:Nat):Of t (L.getD i []):=by
 unfold List.getD
 cases e:L[i]? with
 |none=>exact .nil t
 |some w=>exact h w (List.mem_of_getElem? e)
theorem line_of(t:List UInt8):Of t (lineT t).1.rest∧Of t (lineT t).1.rcp∧Of t (lineT t).1.coil:=by
 have hr:=Of.rest 32 t
 have hs:∀w∈splitC 32 (cutC 32 t).2.1,Of t w:=fun w hw=>hr.trans (.split 32 hw)
 have g:=fun i=>getDOf hs i
 have h1:=hr.trans (Of.first 32 (cutC 32 t).2.1)
 have h2:=hr.trans (Of.rest 32 (cutC 32 t).2.1)
 have h0:=Of.nil t
 unfold lineT
 dsimp only
 repeat' split
 all_goals first
  |exact⟨hr,h0,h0⟩
  |exact⟨hr,g 1,g 2⟩
  |exact⟨hr,h0,g 0⟩
  |exact⟨hr,h0,hr⟩
  |exact⟨h2,h0,h0⟩
  |exact⟨h2,h1,h0⟩
def CaseB(n:Net):Prop:=(0≤n.lo∧n.lo≤10000)∧(0≤n.hi∧n.hi≤10000)
def EffOk(k:Nat):Prop:=∀{A:HA}{m:Int},A.Ok m→m+2≤1000→planErr A.plan=0→CaseB A.net→∀{L:Line},(L.rest.length≤600∧L.rcp.length≤600∧L.coil.length≤600∧L.rest.all isPrint=true)→
 CtGT Tryz.prog (fnOf k) [] [.raw (pV A.b),.agg (wordsOf k L).cs] [(3000,.res (HeapJ A.mem))] [(3000,.res (JX A.b (effT k A.plain L).1 (m+2)))] (.int .i64 (effT k A.plain L).2)
theorem eff_call{k:Nat}(h:k<13):∀args w,(callFunc (fnOf k) args).run Tryz.prog w=.ok (.enter (fnOf k) args) w:=by
 match k,h with
 |0,_=>exact Tryz.call111
 |1,_=>exact Tryz.call112
 |2,_=>exact Tryz.call113
 |3,_=>exact Tryz.call114
 |4,_=>exact Tryz.call115
 |5,_=>exact Tryz.call116
 |6,_=>exact Tryz.call117
 |7,_=>exact Tryz.call118
 |8,_=>exact Tryz.call119
 |9,_=>exact Tryz.call120
 |10,_=>exact Tryz.call121
 |11,_=>exact Tryz.call122
 |12,_=>exact Tryz.call123
theorem eff_1:EffOk 1:=fun hok hm _ _ _ _=>(rec_start hok hm).toT
theorem eff_2:EffOk 2:=fun hok hm hp _ _ hl=>rec_frame hok hm hl.1 hp
theorem eff_3:EffOk 3:=fun hok hm _ _ _ _=>(rec_end hok hm).toT
theorem eff_4:EffOk 4:=fun hok hm _ _ _ _=>rec_good hok hm
theorem eff_6:EffOk 6:=fun hok hm _ _ _ _=>(rec_newCoil hok hm).toT
theorem eff_11:EffOk 11:=fun hok hm _ _ _ _=>rec_model hok hm
theorem eff_12:EffOk 12:=fun hok hm _ _ _ _=>(rec_learn hok hm).toT
theorem about_ent{H:House}{n:Int}{f:House→Nat→HE}(hf:∀i,(f H i).1.entries=H.entries):(aboutT H n f).1.entries=H.entries:=by
 unfold aboutT
 split
 ·rfl
 ·rename_i i _
  split
  ·exact hf i
  ·exact hf i
theorem effT_ent(k:Nat)(H:House)(L:Line):(effT k H L).1.entries=H.entries:=by
 have hs:∀r i,(sectT r H i).1.entries=H.entries:=fun r i=>by
  unfold sectT
  dsimp only
  repeat' split
  all_goals rfl
 have hg:∀i,(goodT H i).1.entries=H.entries:=fun i=>by unfold goodT;split<;>rfl
 have hb:∀i,(badT H i).1.entries=H.entries:=fun i=>by unfold badT;split<;>rfl
 have hk:∀i,(markT H i).1.entries=H.entries:=fun i=>by unfold markT;split<;>rfl
 have hm:∀i,(modelT H i).1.entries=H.entries:=fun i=>by unfold modelT;dsimp only;split<;>rfl
 unfold effT
 split
 ·rfl
 ·unfold startT;dsimp only;repeat' split
  all_goals rfl
 ·unfold frameT;repeat' split
  all_goals rfl
 ·unfold endT;split<;>rfl
 ·exact about_ent hg
 ·exact about_ent hb
 ·unfold coilT;dsimp only;split<;>rfl
 ·unfold repairT;repeat' split
  all_goals rfl
 ·exact about_ent hk
 ·exact about_ent (hs _)
 ·unfold recipeT;dsimp only;repeat' split
  all_goals rfl
 ·exact about_ent hm
 ·unfold learnT;split<;>rfl
theorem enterT_h{H:House}{x:Entry}(h:H.head x≠0):enterT H x=(H,H.head x):=by unfold enterT;rw[if_pos h]
theorem enterT_t{H:House}{x:Entry}{i k:Nat}(h:H.head x=0)(hi:peopleIx H.net x.by_=some i)(hk:verbIx (cutC 32 x.text).1=some k)(h2:H.tail x i k≠0):enterT H x=(H,H.tail x i k):=by
 unfold enterT;rw[if_neg (by rw[h];decide),hi,hk];dsimp only;rw[if_pos h2]
theorem enterT_e{H:House}{x:Entry}{i k:Nat}(h:H.head x=0)(hi:peopleIx H.net x.by_=some i)(hk:verbIx (cutC 32 x.text).1=some k)(h2:H.tail x i k=0)(h3:(effT k H (lineT x.text).1).2≠0):enterT H x=effT k H (lineT x.text).1:=by
 unfold enterT;rw[if_neg (by rw[h];decide),hi,hk];dsimp only;rw[if_neg (by rw[h2];decide),if_pos h3]
theorem enterT_0{H:House}{x:Entry}{i k:Nat}(h:H.head x=0)(hi:peopleIx H.net x.by_=some i)(hk:verbIx (cutC 32 x.text).1=some k)(h2:H.tail x i k=0)(h3:(effT k H (lineT x.text).1).2=0):enterT H x=({(effT k H (lineT x.text).1).1 with time:=x.at_,entries:=(effT k H (lineT x.text).1).1.entries+1},0):=by
 unfold enterT;rw[if_neg (by rw[h];decide),hi,hk];dsimp only;rw[if_neg (by rw[h2];decide),if_neg (by rw[h3];decide)]
theorem rec_enter1{p:Person}{x:Entry}:Ct Tryz.prog 73 [.agg p.cs,.eptr x.cs] (.bool (decide (p.name=x.by_))):=by
 refine Ct.intro (rs:=[.tmp 3]) Tryz.func73 rfl Tryz.ntmps73 Tryz.results73 rfl rfl rfl fun w h=>?_
 refine kr (RK.c (zB (c:=2) rfl rfl) (kc (zb rfl) (kq (kc (zf fi102_0 rfl) (kc (zl ti9 rfl rfl rfl rfl) (kc (S.field fi37_1 .none rfl (zt rfl) rfl) (kc (zV ti9 rfl rfl) (kc (S.seql .none rfl (zt rfl) (zt rfl)) (kc (za rfl) (kD (OK.ret (Ret.r1 (zo rfl rfl) ?_))))))))))))
 rfl
theorem rec_ixPerson{l:List Person}{x:Entry}:Ct Tryz.prog 72 [.sl (l.map Person.cs),.fn 73 [.eptr x.cs]] (.int .i64 (idxGo (fun p:Person=>decide (p.name=x.by_)) 0 l)):=by
 refine Ct.intro (rs:=[.tmp 4]) Tryz.func72 rfl Tryz.ntmps72 Tryz.results72 rfl rfl rfl fun w h=>?_
 refine OK.slLen (rows:=l.map Person.cs) (t:=0) rfl rfl fun hlen=>?_
 rw[List.length_map]at hlen
 unfold maxLen at hlen
 refine kr (kc (zi rfl rfl) (kD (kO (kr ?_))))
 refine kc (zm rfl) (kc (zk si22 rfl) (kc (S.move .none rfl (.cint rfl)) (kD (OK.block (OK.loop (G:=Nat) [] (fun i=>[(0,.sl (l.map Person.cs)),(1,.fn 73 [.eptr x.cs]),(7,.int .i64 l.length),(8,.int .i64 i)]) (fun i=>i≤l.length∧idxGo (fun p:Person=>decide (p.name=x.by_)) 0 l=idxGo (fun p:Person=>decide (p.name=x.by_)) i (l.drop i)) (fun i=>l.length - i) 0 ⟨Nat.zero_le _,rfl⟩ ⟨rfl,rfl,rfl,rfl,trivial⟩ (fun _=>rfl) ?_)))))
 rintro i ⟨hi,hg⟩
 refine kr (kc (S.lss .none rfl (zt rfl) (zt rfl)) (kD (kO (kB rfl (fun c9=>?_) (fun c9=>?_)))))
 ·
  have hil:i<l.length:=by omega
  refine OK.skip (Ab.D.code (kO (OK.block (kr (kc (zm rfl) (kc (za rfl) (kq (kc (zm rfl) (kc (zm rfl) (kc (zm rfl) (kc (S.indexM (n:=i) si22 .none rfl (zt rfl) (zt rfl) rfl (by omega) rfl) ?_)))))))))))
  refine kc (S.loadN ti102 .none rfl (zt rfl) rfl rfl) (kc (S.callv (rec_enter1 (p:=l[i]) (x:=x)) Tryz.call73 .none rfl (zt rfl) (zc rfl .nil) rfl rfl rfl) (kD (kB rfl (fun c16=>?_) (fun c16=>?_))))
  ·
   refine kr (kc (zm rfl) (kc (za rfl) (kD (OK.ret (Ret.r1 (zo rfl rfl) ?_)))))
   refine ret_i ?_
   rw[hg,idxGo_drop _ (by omega)]
   simp_all
  ·
   refine OK.skip (Ab.D.blk (Ab.D.code (OK.reg ?_)))
   refine kc (zp rfl rfl (by omega)) (kc (zm rfl) (RK.nil (Ab.D.lp ⟨i+1,⟨by omega,?_⟩,(by omega),rfl,rfl,rfl,rfl,trivial⟩)))
   rw[hg,idxGo_drop _ (by omega)]
   simp_all
 ·
  refine OK.exit rfl (kp (kc (zi rfl rfl) (kD (OK.ret (Ret.r1 (zo rfl rfl) ?_)))))
  refine ret_i ?_
  have:i=l.length:=by omega
  subst this
  rw[hg,List.drop_length]
  rfl
set_option maxHeartbeats 4000000 in
theorem rec_enter{A:HA}{m:Int}(hok:A.Ok m)(hm:m+2≤1000)(hpe:planErr A.plan=0)(hce:CaseB A.net){x:Entry}(hx:x.text.length≤100000)(hE:∀k,verbIx (cutC 32 x.text).1=some k→EffOk k):CtGT Tryz.prog 46 [] [.raw (pV A.b),.agg x.cs] [(3000,.res (HeapJ A.mem))] [(3000,.res (JX A.b (enterT A.plain x).1 (m+2)))] (.int .i64 (enterT A.plain x).2):=by
 refine CtGT.intro (rs:=[.tmp 4]) Tryz.func46 rfl Tryz.ntmps46 Tryz.results46 rfl rfl rfl rfl fun w h hT=>?_
 refine kr (RK.c (zB (c:=3) rfl rfl) (kc (zi rfl rfl) (kD (kO (OK.freezeP [] [(0,.raw (pV A.b)),(3000,.res (HeapJ A.mem))] 3 rfl rfl rfl rfl rfl rfl ⟨rfl,rfl,trivial⟩ rfl (OK.reg (kc (zm rfl) (kc (zn rfl rfl) (kc (zr fi130_0 rfl) (kc (zr fi107_0 rfl) (kc (zr fi26_0 rfl) ?_)))))))))))
 refine kc (S.rload1 ti22 .none rfl (zt rfl) rfl (HeapJ.ld1 (k:=.house) rfl rfl (.same _))) (kc (S.makeFunc1 .none rfl (zt rfl) rfl) (kc (S.call (rec_ixPerson (l:=A.net.people) (x:=x)) Tryz.call72 .none rfl (zc rfl (zc rfl .nil)) rfl) (kc (za rfl) (kq (kc (S.assign .none rfl .cfn) (kq (kc (S.field fi37_2 .none rfl (zt rfl) rfl) (kc (zV ti9 rfl rfl) (kc (S.call (str_Cut (l:=x.text) (c:=32) hx) Tryz.call75 .none rfl (zc rfl (.cons (.cstr (l:=[32]) rfl (by decide)) .nil)) rfl) (kc (zm rfl) (kc (zX rfl rfl rfl) ?_)))))))))))
 refine kc (zX rfl rfl rfl) (kc (zX rfl rfl rfl) (kc (za rfl) (kc (za rfl) (kc (za rfl) (kD (kO ?_))))))
 rcases hk:verbIx (cutC 32 x.text).1 with _|k
 ·
  have hhd:=head_eq A x
  rw[hk]at hhd
  refine OK.reg (kc (zm rfl) (kc (S.call (rec_cmdN hk) Tryz.call76 .none rfl (zc rfl .nil) rfl) (kc (zm rfl) (kc (zX rfl rfl rfl) (kc (zX rfl rfl rfl) (RK.c (zA (c:=10) ze165 rfl) (kc (zS ti165 rfl rfl rfl rfl rfl rfl) (kc (za rfl) (kD (kO (OK.regionDraw follows (.c (zm rfl) (.c (zn rfl rfl) (.c (zr fi130_7 rfl) (.c (S.rload1 ti3 .none rfl (zt rfl) rfl (HeapJ.ld1 (k:=.house) rfl rfl (.same _))) (.c (S.lss .none rfl (zt rfl) (.cint rfl)) (.c (S.call (record_unless) Tryz.call58 .none rfl (zc rfl (.cons (.cint rfl) .nil)) rfl) (.c (zm rfl) (.c (S.geq .none rfl (zt rfl) (.cint rfl)) (.c (S.call (record_unless) Tryz.call58 .none rfl (zc rfl (.cons (.cint rfl) .nil)) rfl) (.c (S.field fi37_0 .none rfl (zt rfl) rfl) (.c (zV ti3 rfl rfl) (.c (S.call (rec_within) Tryz.call55 .none rfl (zc rfl (.cons (.cint rfl) (.cons (.cint rfl) .nil))) rfl) (.c (S.call (record_unless) Tryz.call58 .none rfl (zc rfl (.cons (.cint rfl) .nil)) rfl) (.c (S.field fi37_0 .none rfl (zt rfl) rfl) (.c (zV ti3 rfl rfl) (.c (zm rfl) (.c (zn rfl rfl) (.c (zr fi130_8 rfl) (.c (S.rload1 ti3 .none rfl (zt rfl) rfl (HeapJ.ld1 (k:=.house) rfl rfl (.same _))) (.c (S.geq .none rfl (zt rfl) (zt rfl)) (.c (S.call (record_unless) Tryz.call58 .none rfl (zc rfl (.cons (.cint rfl) .nil)) rfl) (.c (S.field fi37_2 .none rfl (zt rfl) rfl) (.c (zV ti9 rfl rfl) (.c (S.slen Tryz.underlying9 .none rfl (zt rfl)) (.c (S.leq .none rfl (zt rfl) (.cint rfl)) (.c (S.call (record_unless) Tryz.call58 .none rfl (zc rfl (.cons (.cint rfl) .nil)) rfl) (.c (S.field fi37_2 .none rfl (zt rfl) rfl) (.c (zV ti9 rfl rfl) (.c (zm rfl) (.c (S.call (rec_ContainsFunc hx) Tryz.call77 .none rfl (zc rfl (zc rfl .nil)) rfl) (.c (S.not .none rfl (zt rfl)) (.c (S.call (record_unless) Tryz.call58 .none rfl (zc rfl (.cons (.cint rfl) .nil)) rfl) (.c (zm rfl) (.c (S.call (record_unless) Tryz.call58 .none rfl (zc rfl (.cons (.cint rfl) .nil)) rfl) (.c (S.mkSlice (k:=71) (rows:=[[_],[_],[_],[_],[_],[_],[_]]) ai184 .none rfl (zc rfl (zc rfl (zc rfl (zc rfl (zc rfl (zc rfl (zc rfl .nil))))))) rfl rfl rfl rfl rfl rfl rfl) (.c (S.callL (record_first (l:=[_,_,_,_,_,_,_])) Tryz.call57 .none rfl (zc rfl .nil) (.cons (.p (.own rfl rfl) rfl) .nil) rfl) (.c (za rfl) .nil))))))))))))))))))))))))))))))))))))) (by kernel_rfl) ?_)))))))))))
  refine Ab.D.code (kO (kr ?_))
  refine kc (zm rfl) (kc (zN rfl rfl) (kD (kB rfl (fun c74=>?_) (fun c74=>?_))))
  ·
   have hne:A.plain.head x≠0:=by rw[hhd];exact c74
   have hT0:=enterT_h hne
   refine kr (kc (zm rfl) (kc (za rfl) (kD ?_)))
   have hT:=hT0
   refine OK.resTo (J':=JX A.b (enterT A.plain x).1 (m+2)) rfl (JX.stable _ _ _) (fun h Y w hj=>HA.jx hok (by omega) hm (by rw[hT]) hj) ?_
   refine OK.ret ⟨Ret.r1 (zo rfl rfl) ?_,rfl,trivial⟩
   rw[hT0,hhd]
   rfl
  ·
   exact absurd first7 c74
 ·
  have hhd:=head_eq A x
  rw[hk]at hhd
  have hk13:k<13:=(ix_some hk).1
  refine OK.reg (kc (zm rfl) (kc (S.call (rec_cmdS hk) Tryz.call76 .none rfl (zc rfl .nil) rfl) (kc (zm rfl) (kc (zX rfl rfl rfl) (kc (zX rfl rfl rfl) (RK.c (zA (c:=10) ze165 rfl) (kc (zS ti165 rfl rfl rfl rfl rfl rfl) (kc (za rfl) (kD (kO (OK.regionDraw follows (.c (zm rfl) (.c (zn rfl rfl) (.c (zr fi130_7 rfl) (.c (S.rload1 ti3 .none rfl (zt rfl) rfl (HeapJ.ld1 (k:=.house) rfl rfl (.same _))) (.c (S.lss .none rfl (zt rfl) (.cint rfl)) (.c (S.call (record_unless) Tryz.call58 .none rfl (zc rfl (.cons (.cint rfl) .nil)) rfl) (.c (zm rfl) (.c (S.geq .none rfl (zt rfl) (.cint rfl)) (.c (S.call (record_unless) Tryz.call58 .none rfl (zc rfl (.cons (.cint rfl) .nil)) rfl) (.c (S.field fi37_0 .none rfl (zt rfl) rfl) (.c (zV ti3 rfl rfl) (.c (S.call (rec_within) Tryz.call55 .none rfl (zc rfl (.cons (.cint rfl) (.cons (.cint rfl) .nil))) rfl) (.c (S.call (record_unless) Tryz.call58 .none rfl (zc rfl (.cons (.cint rfl) .nil)) rfl) (.c (S.field fi37_0 .none rfl (zt rfl) rfl) (.c (zV ti3 rfl rfl) (.c (zm rfl) (.c (zn rfl rfl) (.c (zr fi130_8 rfl) (.c (S.rload1 ti3 .none rfl (zt rfl) rfl (HeapJ.ld1 (k:=.house) rfl rfl (.same _))) (.c (S.geq .none rfl (zt rfl) (zt rfl)) (.c (S.call (record_unless) Tryz.call58 .none rfl (zc rfl (.cons (.cint rfl) .nil)) rfl) (.c (S.field fi37_2 .none rfl (zt rfl) rfl) (.c (zV ti9 rfl rfl) (.c (S.slen Tryz.underlying9 .none rfl (zt rfl)) (.c (S.leq .none rfl (zt rfl) (.cint rfl)) (.c (S.call (record_unless) Tryz.call58 .none rfl (zc rfl (.cons (.cint rfl) .nil)) rfl) (.c (S.field fi37_2 .none rfl (zt rfl) rfl) (.c (zV ti9 rfl rfl) (.c (zm rfl) (.c (S.call (rec_ContainsFunc hx) Tryz.call77 .none rfl (zc rfl (zc rfl .nil)) rfl) (.c (S.not .none rfl (zt rfl)) (.c (S.call (record_unless) Tryz.call58 .none rfl (zc rfl (.cons (.cint rfl) .nil)) rfl) (.c (zm rfl) (.c (S.call (record_unless) Tryz.call58 .none rfl (zc rfl (.cons (.cint rfl) .nil)) rfl) (.c (S.mkSlice (k:=71) (rows:=[[_],[_],[_],[_],[_],[_],[_]]) ai184 .none rfl (zc rfl (zc rfl (zc rfl (zc rfl (zc rfl (zc rfl (zc rfl .nil))))))) rfl rfl rfl rfl rfl rfl rfl) (.c (S.callL (record_first (l:=[_,_,_,_,_,_,_])) Tryz.call57 .none rfl (zc rfl .nil) (.cons (.p (.own rfl rfl) rfl) .nil) rfl) (.c (za rfl) .nil))))))))))))))))))))))))))))))))))))) (by kernel_rfl) ?_)))))))))))
  refine Ab.D.code (kO (kr ?_))
  refine kc (zm rfl) (kc (zN rfl rfl) (kD (kB rfl (fun c74=>?_) (fun c74=>?_))))
  ·
   have hne:A.plain.head x≠0:=by rw[hhd];exact c74
   have hT0:=enterT_h hne
   refine kr (kc (zm rfl) (kc (za rfl) (kD ?_)))
   have hT:=hT0
   refine OK.resTo (J':=JX A.b (enterT A.plain x).1 (m+2)) rfl (JX.stable _ _ _) (fun h Y w hj=>HA.jx hok (by omega) hm (by rw[hT]) hj) ?_
   refine OK.ret ⟨Ret.r1 (zo rfl rfl) ?_,rfl,trivial⟩
   rw[hT0,hhd]
   rfl
  ·
   have h0:A.plain.head x=0:=by rw[hhd];exact Decidable.not_not.1 c74
   obtain⟨q1,q2,q3,q4,q5,q6,q7⟩:=head_0 h0
   obtain⟨i,hi⟩:=Option.isSome_iff_exists.1 q2
   have hil:i<A.net.people.length:=(ix_some hi).1
   have hii:idxGo (fun p:Person=>decide (p.name=x.by_)) 0 A.net.people=(i:Int):=by rw[idx_ix,show ix (fun p:Person=>decide (p.name=x.by_)) A.net.people=some i from hi]
   obtain⟨lo1,lo2,lo3⟩:=line_of x.text
   have hL:(lineT x.text).1.rest.length≤600∧(lineT x.text).1.rcp.length≤600∧(lineT x.text).1.coil.length≤600∧(lineT x.text).1.rest.all isPrint=true:=⟨by have:=lo1.len;omega,by have:=lo2.len;omega,by have:=lo3.len;omega,List.all_eq_true.2 fun b hb=>List.all_eq_true.1 q6 b (lo1.sub b hb)⟩
   have htl:A.plain.tail x i k=firstE [unlessE (decide (A.net.people[i].role≥roles.getD k 0)) 18,unlessE (parseT x.text (kinds.getD k [])).2 7]:=by unfold House.tail;rw[show A.plain.net.people[i]?=some A.net.people[i]from List.getElem?_eq_getElem hil];rfl
   refine OK.skip (kp (kc (S.field fi37_2 .none rfl (zt rfl) rfl) (kc (zV ti9 rfl rfl) (kc (zf fi165_1 rfl) (kc (zl ti9 rfl rfl rfl rfl) (kc (S.callT (rec_parse (text:=x.text) (ks:=kinds.getD k []) hx (kinds_ok k)) hT Tryz.call78 .none rfl (zc rfl (zc rfl .nil)) rfl) (kc (zm rfl) (kc (zX rfl rfl rfl) (kc (zX rfl rfl rfl) (RK.c (zA (c:=13) ze170 rfl) (kc (zS ti170 rfl rfl rfl rfl rfl rfl) ?_)))))))))))
   refine kc (za rfl) (kD (kO (kO (OK.regionDraw follows (.c (zm rfl) (.c (zn rfl rfl) (.c (zr fi130_0 rfl) (.c (zr fi107_0 rfl) (.c (zr fi26_0 rfl) (.c (S.rload1 ti22 .none rfl (zt rfl) rfl (HeapJ.ld1 (k:=.house) rfl rfl (.same _))) (.c (zm rfl) (.c (S.indexM (n:=i) si22 .none rfl (zt rfl) (zt rfl) hii hil rfl) (.c (S.field fi102_1 .none rfl (zt rfl) rfl) (.c (zV ti3 rfl rfl) (.c (zf fi165_0 rfl) (.c (zl ti3 rfl rfl rfl rfl) (.c (S.geq .none rfl (zt rfl) (zt rfl)) (.c (S.call (record_unless) Tryz.call58 .none rfl (zc rfl (.cons (.cint rfl) .nil)) rfl) (.c (zm rfl) (.c (S.call (record_unless) Tryz.call58 .none rfl (zc rfl (.cons (.cint rfl) .nil)) rfl) (.c (S.mkSlice (k:=100) (rows:=[[_],[_]]) ai184 .none rfl (zc rfl (zc rfl .nil)) rfl rfl rfl rfl rfl rfl rfl) (.c (S.callL (record_first (l:=[_,_])) Tryz.call57 .none rfl (zc rfl .nil) (.cons (.p (.own rfl rfl) rfl) .nil) rfl) (.c (za rfl) .nil))))))))))))))))))) (by kernel_rfl) ?_))))
   refine kp (kc (zm rfl) (kc (zN rfl rfl) (kD (kB rfl (fun c103=>?_) (fun c103=>?_)))))
   ·
    have hn2:A.plain.tail x i k≠0:=by rw[htl];exact c103
    have hT0:=enterT_t h0 hi hk hn2
    refine kr (kc (zm rfl) (kc (za rfl) (kD ?_)))
    have hT:=hT0
    refine OK.resTo (J':=JX A.b (enterT A.plain x).1 (m+2)) rfl (JX.stable _ _ _) (fun h Y w hj=>HA.jx hok (by omega) hm (by rw[hT]) hj) ?_
    refine OK.ret ⟨Ret.r1 (zo rfl rfl) ?_,rfl,trivial⟩
    rw[hT0,htl]
   ·
    have h2:A.plain.tail x i k=0:=by rw[htl];exact Decidable.not_not.1 c103
    obtain⟨_,hrt⟩:=first2b (Decidable.not_not.1 c103)
    obtain⟨tx1,tx2⟩:=text_eq hk
    have hws:=tx2 (tx1▸hrt)
    rw[hws]
    refine OK.skip (Ab.D.code (kO (kr ?_)))
    refine kc (zf fi165_2 rfl) (kc (zl ti163 rfl rfl rfl rfl) (kc (zm rfl) (kc (zL ti170 rfl rfl rfl rfl) (RK.c (S.callvJ (((hE k hk hok hm hpe hce hL).atJ hT (HeapJ.stable _))) (JX.stable _ _ _) (eff_call hk13) .none rfl (zt rfl) (zc rfl (zc rfl .nil)) rfl rfl rfl rfl) (kc (za rfl) (kq (kc (zm rfl) (kc (zN rfl rfl) (kD (kB rfl (fun c111=>?_) (fun c111=>?_)))))))))))
    ·
     have hT0:=enterT_e h0 hi hk h2 c111
     refine kr (kc (zm rfl) (kc (za rfl) (kD ?_)))
     refine OK.resTo (J':=JX A.b (enterT A.plain x).1 (m+2)) rfl (JX.stable _ _ _) (fun h Y w hj=>by rw[hT0];exact hj) ?_
     refine OK.ret ⟨Ret.r1 (zo rfl rfl) ?_,rfl,trivial⟩
     rw[hT0]
    ·
     have hr0:(effT k A.plain (lineT x.text).1).2=0:=Decidable.not_not.1 c111
     have hT0:=enterT_0 h0 hi hk h2 hr0
     refine OK.resJX rfl fun A1 hb1 hpl1 hok1=>?_
     have he1:A1.entries=A.entries:=(congrArg House.entries hpl1).trans (effT_ent k A.plain _)
     have hen:=hok1.en
     have q1b:A.entries<60:=q1
     rw[←hb1]
     refine OK.skip (kp (kc (zm rfl) (kc (S.field fi37_0 .none rfl (zt rfl) rfl) (kc (zV ti3 rfl rfl) (kc (zn rfl rfl) (kc (zr fi130_8 rfl) (kc (S.hstore (xs':=({A1 with time:=x.at_}:HA).cs) (.house) ti3 .none (zt rfl) (zt rfl) rfl rfl rfl rfl rfl rfl rfl) (kq (kc (zm rfl) (kc (zn rfl rfl) (kc (zr fi130_7 rfl) ?_)))))))))))
     refine kc (S.rload1 (u:=.int .i64 A1.entries) ti3 .none rfl (zt rfl) rfl (HeapJ.ld1 (k:=.house) (HM.set_same _ _ _) rfl (.same _))) (kc (zp rfl rfl (by omega)) (kc (zn rfl rfl) (kc (zr fi130_7 rfl) (kc (S.hstore (xs':=({A1 with time:=x.at_,entries:=A1.entries+1}:HA).cs) (.house) ti3 .none (zt rfl) (zt rfl) rfl (HM.set_same _ _ _) rfl rfl rfl rfl rfl) (kD (kO ?_))))))
     rw[HM.set_set]
     refine OK.house1 (A1:={A1 with time:=x.at_,entries:=A1.entries+1}) hok1 rfl rfl ⟨rfl,rfl⟩ ⟨rfl,rfl⟩ ⟨rfl,rfl⟩ ⟨rfl,rfl⟩ (by dsimp only;omega) fun hok2=>?_
     refine OK.reg (kc (zi rfl rfl) (kD ?_))
     refine OK.resTo (J':=JX A1.b (enterT A.plain x).1 (m+2)) rfl (JX.stable _ _ _) (fun h Y w hj=>jx_of hok2 (by omega) hm rfl (by rw[hT0,←hpl1];rfl) hj) ?_
     refine OK.ret ⟨Ret.r1 (zo rfl rfl) ?_,rfl,trivial⟩
     rw[hT0]
end Go.Proofs.YtpbalelbenmmbaaGreatDoor
