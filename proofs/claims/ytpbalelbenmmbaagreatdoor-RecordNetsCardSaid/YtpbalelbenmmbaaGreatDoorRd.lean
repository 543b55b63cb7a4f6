import Derived.Test.YtpbalelbenmmbaaGreatDoorGh
import Derived.Test.YtpbalelbenmmbaaGreatDoorHj
import Derived.Test.YtpbalelbenmmbaaGreatDoorRk
import Derived.Test.YtpbalelbenmmbaaGreatDoorTy
namespace Go.Proofs.YtpbalelbenmmbaaGreatDoor
open Go.Ab
theorem ixGo_map{α β:Type}(f:α→β)(g:β→Bool):∀(l:List α)(i:Nat),ixGo g i (l.map f)=ixGo (fun x=>g (f x)) i l
 |[],_=>rfl
 |x::l,i=>by simp only[List.map_cons,ixGo,ixGo_map f g l (i+1)]
theorem lastIx_map{α β:Type}(f:α→β)(g:β→Bool)(l:List α):lastIx g (l.map f)=lastIx (fun x=>g (f x)) l:=by
 unfold lastIx ix
 rw[←List.map_reverse,ixGo_map,List.length_map]
theorem lastIx_some{α:Type}{g:α→Bool}{l:List α}{j:Nat}(h:lastIx g l=some j):∃hj:j<l.length,g l[j]=true:=by
 unfold lastIx at h
 cases hi:ix g l.reverse with
 |none=>rw[hi]at h;cases h
 |some i=>
  rw[hi]at h
  cases h
  obtain⟨h1,h2⟩:=ix_some hi
  rw[List.length_reverse]at h1
  rw[List.getElem_reverse]at h2
  exact⟨show l.length - 1 - i<l.length by omega,h2⟩
abbrev HE:=House×Int
def House.pIx(H:House)(n:Int):Option Nat:=ix (fun q=>decide (q.1.num=n)) H.parts
def House.cIx(H:House)(n:List UInt8):Option Nat:=ix (fun q=>decide (q.1.name=n)) H.coils
def House.vIx(H:House)(n:List UInt8):Option Nat:=lastIx (fun q=>decide (q.1.name=n)) H.vers
def House.uIx(H:House):Option Nat:=ix (fun q=>decide (q.1.place=0)) H.parts
theorem HA.pIx_plain(A:HA)(n:Int):A.plain.pIx n=ix (fun v=>decide (v.p.num=n)) A.parts:=ixGo_map (fun v:PartA=>(v.p,v.es)) _ _ _
theorem HA.cIx_plain(A:HA)(n:List UInt8):A.plain.cIx n=ix (fun v=>decide (v.c.name=n)) A.coils:=ixGo_map (fun v:CoilA=>(v.c,v.entry)) _ _ _
theorem HA.vIx_plain(A:HA)(n:List UInt8):A.plain.vIx n=lastIx (fun v=>decide (v.r.name=n)) A.vers:=lastIx_map (fun v:VerA=>(v.r,v.entry)) _ _
theorem HA.uIx_plain(A:HA):A.plain.uIx=ix (fun v=>decide (v.p.place=0)) A.parts:=ixGo_map (fun v:PartA=>(v.p,v.es)) _ _ _
def aboutT(H:House)(n:Int)(f:House→Nat→HE):HE:=match H.pIx n with
 |none=>(H,6)
 |some i=>if(f H i).2=0 then((f H i).1.addE i,0)else f H i
def goodT(H:House)(i:Nat):HE:=if mayT (H.p i)then(H.setP i fun p=>{p with place:=2},0)else(H,24)
def badT(H:House)(i:Nat):HE:=if(H.p i).place=1 then(H.setP i fun p=>{p with place:=3},0)else(H,20)
def markT(H:House)(i:Nat):HE:=if isHereT (H.p i)&&!(H.p i).marked then(H.setP i fun p=>{p with marked:=true},0)else(H,20)
def coilT(H:House)(name:List UInt8)(life:Int):HE:=
 let e:=firstE [unlessE (nameOk name) 4,unlessE (H.cIx name).isNone 5,unlessE (decide (1≤life∧life≤1000)) 2,unlessE (decide ((H.coils.length:Int)<4)) 16]
 if e=0 then({H with coils:=H.coils++[(⟨name,life,0⟩,H.entries)]},0)else(H,e)
def House.busy(H:House)(name:List UInt8):Bool:=match H.uIx with
 |some i=>decide ((H.p i).coil=name)
 |none=>false
def repairT(H:House)(name:List UInt8):HE:=match H.cIx name with
 |none=>(H,6)
 |some j=>if H.busy name then(H,17)else({H with coils:=H.coils.modify j fun q=>({q.1 with shots:=0},q.2)},0)
def startT(H:House)(n:Int)(r c:List UInt8):HE:=
 let e:=firstE [unlessE (decide (n≤1000000)) 2,unlessE (H.pIx n).isNone 5,unlessE ((H.vIx r).isSome&&(H.cIx c).isSome) 6,unlessE H.uIx.isNone 17]
 if e≠0 then(H,e)else match(H.vIx r).bind (H.vers[·]?),H.cIx c with
 |some v,some j=>match H.coils[j]? with
  |some q=>
   let e2:=firstE [unlessE (decide (q.1.shots<q.1.life)) 22,unlessE (decide ((H.parts.length:Int)<12)) 16]
   if e2≠0 then(H,e2)else({H with coils:=H.coils.modify j fun q=>({q.1 with shots:=q.1.shots+1},q.2),parts:=H.parts++[(⟨n,v.1.name,v.1.ver,q.1.name,[],0,false,0,false,Span.zero⟩,[v.2,q.2,H.entries])]},0)
  |none=>(H,6)
 |_,_=>(H,6)
end Go.Proofs.YtpbalelbenmmbaaGreatDoor
