import Derived.Test.YtpbalelbenmmbaaGreatDoorGh
import Derived.Test.YtpbalelbenmmbaaGreatDoorHj
import Derived.Test.YtpbalelbenmmbaaGreatDoorTy
import Derived.Test.YtpbalelbenmmbaaGreatDoorWa
namespace Go.Proofs.YtpbalelbenmmbaaGreatDoor
open Go.Ab
inductive Ph where
 |mk (kind power law ticks kelvin:Int) (body:List Ph)
def Ph.cs:Ph→List X
 |.mk kind power law ticks kelvin body=>[.int .i64 kind,.int .i64 power,.int .i64 law,.int .i64 ticks,.int .i64 kelvin,.sl (body.map Ph.cs)]
structure Person where
 name:List UInt8
 role:Int
 deriving DecidableEq
def Person.cs(x:Person):List X:=[.str x.name,.int .i64 x.role]
structure Net where
 people:List Person
 plan:List UInt8
 limit:Int
 lo:Int
 hi:Int
 deriving DecidableEq
def Net.cs(x:Net):List X:=[.sl (x.people.map Person.cs),.str x.plan,.int .i64 x.limit,.int .i64 x.lo,.int .i64 x.hi]
structure Entry where
 at_:Int
 by_:List UInt8
 text:List UInt8
 deriving DecidableEq
def Entry.cs(x:Entry):List X:=[.int .i64 x.at_,.str x.by_,.str x.text]
structure Span where
 lo:Frac
 hi:Frac
 deriving DecidableEq
def Span.cs(x:Span):List X:=[.int .i64 x.lo.num,.int .i64 x.lo.den,.int .i64 x.hi.num,.int .i64 x.hi.den]
def Span.zero:Span:=⟨⟨0,0⟩,⟨0,0⟩⟩
structure Rec where
 name:List UInt8
 ver:Int
 phases:List Ph
def Rec.cs(x:Rec):List X:=[.str x.name,.int .i64 x.ver,.sl (x.phases.map Ph.cs)]
structure Coil where
 name:List UInt8
 life:Int
 shots:Int
 deriving DecidableEq
def Coil.cs(x:Coil):List X:=[.str x.name,.int .i64 x.life,.int .i64 x.shots]
structure Part where
 num:Int
 rcp:List UInt8
 ver:Int
 coil:List UInt8
 frames:List Frame
 place:Int
 judged:Bool
 verdict:Int
 marked:Bool
 depth:Span
 deriving DecidableEq
def Part.cells(x:Part)(fr:X):List X:=[.int .i64 x.num,.str x.rcp,.int .i64 x.ver,.str x.coil,fr,.int .i64 x.place,.bool x.judged,.int .i64 x.verdict,.bool x.marked,.int .i64 x.depth.lo.num,.int .i64 x.depth.lo.den,.int .i64 x.depth.hi.num,.int .i64 x.depth.hi.den]
def Part.cs(x:Part):List X:=x.cells (.sl (x.frames.map Frame.cs))
structure State where
 recipes:List Rec
 coils:List Coil
 parts:List Part
 models:List Int
 env:Envelope
def State.cs(x:State):List X:=[.sl (x.recipes.map Rec.cs),.sl (x.coils.map Coil.cs),.sl (x.parts.map Part.cs),.sl (x.models.map fun n=>[.int .i64 n]),.int .i64 x.env.parts,.int .i64 x.env.trim,.sl (x.env.rows.map fun l=>[.sl (l.map Range.cs)])]
structure House where
 net:Net
 plan:Plan
 vers:List (Rec×Int)
 coils:List (Coil×Int)
 parts:List (Part×List Int)
 models:List Nat
 env:Envelope
 learned:Bool
 entries:Int
 time:Int
abbrev Hd:=Option (Nat×Nat)
def Hd.v(q:Hd)(n:Nat):Value:=match q with
 |none=>.slice none 0 0
 |some q=>.slice (some ⟨q.1,0,none⟩) n q.2
abbrev pV(b:Nat):Value:=.pointer (some ⟨b,0,none⟩)
structure VerA where
 b:Nat
 r:Rec
 entry:Int
def VerA.cs(v:VerA):List X:=[.str v.r.name,.int .i64 v.r.ver,.sl (v.r.phases.map Ph.cs),.int .i64 v.entry]
structure CoilA where
 b:Nat
 c:Coil
 entry:Int
def CoilA.cs(v:CoilA):List X:=[.str v.c.name,.int .i64 v.c.life,.int .i64 v.c.shots,.int .i64 v.entry]
structure PartA where
 b:Nat
 fh:Hd
 eh:Hd
 p:Part
 es:List Int
def PartA.cs(v:PartA):List X:=v.p.cells (.raw (v.fh.v v.p.frames.length))++[.raw (v.eh.v v.es.length)]
structure HA where
 b:Nat
 net:Net
 plan:Plan
 vh:Hd
 vers:List VerA
 ch:Hd
 coils:List CoilA
 ph:Hd
 parts:List PartA
 mh:Hd
 models:List Nat
 env:Envelope
 learned:Bool
 entries:Int
 time:Int
def HA.cs(A:HA):List X:=A.net.cs++A.plan.cs++[.raw (A.vh.v A.vers.length),.raw (A.ch.v A.coils.length),.raw (A.ph.v A.parts.length),.raw (A.mh.v A.models.length),.int .i64 A.env.parts,.int .i64 A.env.trim,.sl (A.env.rows.map fun l=>[.sl (l.map Range.cs)]),.bool A.learned,.int .i64 A.entries,.int .i64 A.time]
inductive Key where
 |house
 |vs
 |cs
 |ps
 |ms
 |v (i:Nat)
 |c (i:Nat)
 |p (i:Nat)
 |f (i:Nat)
 |e (i:Nat)
 deriving DecidableEq
def HA.pb(A:HA)(i:Nat):Nat:=(A.parts[i]?.map PartA.b).getD 0
def vRow(v:VerA):List X:=[.raw (pV v.b)]
def cRow(v:CoilA):List X:=[.raw (pV v.b)]
def pRow(v:PartA):List X:=[.raw (pV v.b)]
def HA.mem(A:HA):HM Key
 |.house=>some (A.b,.box A.cs)
 |.vs=>A.vh.map fun q=>(q.1,.gro 1 q.2 (A.vers.map vRow))
 |.cs=>A.ch.map fun q=>(q.1,.gro 1 q.2 (A.coils.map cRow))
 |.ps=>A.ph.map fun q=>(q.1,.gro 1 q.2 (A.parts.map pRow))
 |.ms=>A.mh.map fun q=>(q.1,.gro 1 q.2 (A.models.map fun i=>[.raw (pV (A.pb i))]))
 |.v i=>A.vers[i]?.map fun v=>(v.b,.box v.cs)
 |.c i=>A.coils[i]?.map fun v=>(v.b,.box v.cs)
 |.p i=>A.parts[i]?.map fun v=>(v.b,.box v.cs)
 |.f i=>A.parts[i]?.bind fun v=>v.fh.map fun q=>(q.1,.gro 2 q.2 (v.p.frames.map Frame.cs))
 |.e i=>A.parts[i]?.bind fun v=>v.eh.map fun q=>(q.1,.row 1 q.2 (intRows v.es))
def HA.plain(A:HA):House:=⟨A.net,A.plan,A.vers.map fun v=>(v.r,v.entry),A.coils.map fun v=>(v.c,v.entry),A.parts.map fun v=>(v.p,v.es),A.models,A.env,A.learned,A.entries,A.time⟩
structure HA.Ok(A:HA)(m:Int):Prop where
 vh:A.vh=none→A.vers=[]
 ch:A.ch=none→A.coils=[]
 ph:A.ph=none→A.parts=[]
 mh:A.mh=none→A.models=[]
 fh:∀v∈A.parts,v.fh=none→v.p.frames=[]
 eh:∀v∈A.parts,v.eh=none→v.es=[]
 m0:0≤m∧m≤1000
 en:0≤A.entries∧A.entries≤60
 lv:(A.vers.length:Int)≤m
 lc:(A.coils.length:Int)≤m
 lp:(A.parts.length:Int)≤m
 lm:(A.models.length:Int)≤m
 lf:∀v∈A.parts,(v.p.frames.length:Int)≤m
 le:∀v∈A.parts,(v.es.length:Int)≤m+3
 mi:∀i∈A.models,i<A.parts.length
 cl:∀v∈A.coils,0≤v.c.shots∧v.c.shots≤1000∧v.c.life≤1000
 vb:∀v∈A.vers,0≤v.r.ver∧v.r.ver≤m
 pl:∀v∈A.parts,0≤v.p.place∧v.p.place≤4
 nl:∀v∈A.parts,v.p.rcp.length≤12∧v.p.coil.length≤12
 vn:∀v∈A.vers,v.r.name.length≤12
 cn:∀v∈A.coils,v.c.name.length≤12
theorem HA.Ok.more{A:HA}{m m':Int}(h:A.Ok m)(hm:m≤m')(h1:m'≤1000):A.Ok m':=
 ⟨h.vh,h.ch,h.ph,h.mh,h.fh,h.eh,⟨by have:=h.m0;omega,h1⟩,h.en,by have:=h.lv;omega,by have:=h.lc;omega,by have:=h.lp;omega,by have:=h.lm;omega,fun v hv=>by have:=h.lf v hv;omega,fun v hv=>by have:=h.le v hv;omega,h.mi,h.cl,fun v hv=>by have:=h.vb v hv;omega,h.pl,h.nl,h.vn,h.cn⟩
def JX(b:Nat)(H:House)(m:Int):Mem→(Nat→Prop)→World→Prop:=fun h Y w=>∃A:HA,(A.b=b∧A.plain=H∧A.Ok m)∧HeapJ A.mem h Y w
theorem JX.stable(b:Nat)(H:House)(m:Int):Stable (JX b H m):=Stable.ex fun _=>HeapJ.stable _
def JP(A:HA)(H:House)(m:Int):Mem→(Nat→Prop)→World→Prop:=fun h Y w=>∃A':HA,(A'.Ok m∧A'.b=A.b∧A'.pb=A.pb∧A'.parts.length=A.parts.length∧A'.plain=H)∧HeapJ A'.mem h Y w
theorem JP.stable(A:HA)(H:House)(m:Int):Stable (JP A H m):=Stable.ex fun _=>HeapJ.stable _
theorem OK.resJX{E:Env}{U:List Nat}{s:St}{code:Code}{Q:Exit→List Nat→St→Prop}{b:Nat}{H:House}{m:Int}(hl:Ab.look s 3000=some (.res (JX b H m)))(h:∀A:HA,A.b=b→A.plain=H→A.Ok m→OK E code Q U ((3000,.res (HeapJ A.mem))::s)):OK E code Q U s:=
 OK.resAll (J:=fun A:HA=>HeapJ A.mem) hl (fun _=>HeapJ.stable _) fun A hA=>h A hA.1 hA.2.1 hA.2.2
theorem OK.resJP{E:Env}{U:List Nat}{s:St}{code:Code}{Q:Exit→List Nat→St→Prop}{A0:HA}{H:House}{m:Int}(hl:Ab.look s 3000=some (.res (JP A0 H m)))(h:∀A:HA,A.Ok m→A.b=A0.b→A.pb=A0.pb→A.parts.length=A0.parts.length→A.plain=H→OK E code Q U ((3000,.res (HeapJ A.mem))::s)):OK E code Q U s:=
 OK.resAll (J:=fun A:HA=>HeapJ A.mem) hl (fun _=>HeapJ.stable _) fun A hA=>h A hA.1 hA.2.1 hA.2.2.1 hA.2.2.2.1 hA.2.2.2.2
theorem gro_of{M:HM Key}{k:Key}{q:Hd}{n sz:Nat}{rows:List (List X)}(hM:M k=q.map fun q=>(q.1,.gro sz q.2 rows))(hn:rows.length=n)(h0:q=none→rows=[]):GroIs M k (q.v n) sz rows:=by
 subst hn
 cases q with
 |none=>rw[h0 rfl];exact .inl ⟨rfl,rfl,hM⟩
 |some q=>exact .inr ⟨q.1,q.2,rfl,hM⟩
theorem row_of{M:HM Key}{k:Key}{q:Hd}{n sz:Nat}{rows:List (List X)}(hM:M k=q.map fun q=>(q.1,.row sz q.2 rows))(hn:rows.length=n)(h0:q=none→rows=[]):RowIs M k (q.v n) sz rows:=by
 subst hn
 cases q with
 |none=>rw[h0 rfl];exact .inl ⟨rfl,rfl,hM⟩
 |some q=>exact .inr ⟨q.1,q.2,rfl,hM⟩
section
variable{A:HA}{m:Int}
theorem HA.Ok.vs(h:A.Ok m):GroIs A.mem .vs (A.vh.v A.vers.length) 1 (A.vers.map vRow):=gro_of rfl (List.length_map ..) fun e=>by rw[h.vh e];rfl
theorem HA.Ok.cs(h:A.Ok m):GroIs A.mem .cs (A.ch.v A.coils.length) 1 (A.coils.map cRow):=gro_of rfl (List.length_map ..) fun e=>by rw[h.ch e];rfl
theorem HA.Ok.ps(h:A.Ok m):GroIs A.mem .ps (A.ph.v A.parts.length) 1 (A.parts.map pRow):=gro_of rfl (List.length_map ..) fun e=>by rw[h.ph e];rfl
theorem HA.Ok.ms(h:A.Ok m):GroIs A.mem .ms (A.mh.v A.models.length) 1 (A.models.map fun i=>[.raw (pV (A.pb i))]):=gro_of rfl (List.length_map ..) fun e=>by rw[h.mh e];rfl
theorem HA.Ok.fs(h:A.Ok m){i:Nat}(hi:i<A.parts.length):GroIs A.mem (.f i) (A.parts[i].fh.v A.parts[i].p.frames.length) 2 (A.parts[i].p.frames.map Frame.cs):=
 gro_of (by show(A.parts[i]?.bind _)=_;rw[List.getElem?_eq_getElem hi];rfl) (List.length_map ..) fun e=>by rw[h.fh _ (List.getElem_mem hi) e];rfl
theorem HA.Ok.es(h:A.Ok m){i:Nat}(hi:i<A.parts.length):RowIs A.mem (.e i) (A.parts[i].eh.v A.parts[i].es.length) 1 (intRows A.parts[i].es):=
 row_of (by show(A.parts[i]?.bind _)=_;rw[List.getElem?_eq_getElem hi];rfl) (List.length_map ..) fun e=>by rw[h.eh _ (List.getElem_mem hi) e];rfl
theorem HA.atC{i:Nat}(hi:i<A.coils.length):A.mem (.c i)=some (A.coils[i].b,.box A.coils[i].cs):=by show(A.coils[i]?.map _)=_;rw[List.getElem?_eq_getElem hi];rfl
theorem HA.atP{i:Nat}(hi:i<A.parts.length):A.mem (.p i)=some (A.parts[i].b,.box A.parts[i].cs):=by show(A.parts[i]?.map _)=_;rw[List.getElem?_eq_getElem hi];rfl
end
end Go.Proofs.YtpbalelbenmmbaaGreatDoor
namespace Go.Proofs.YtpbalelbenmmbaaGreatDoor
open Go.Ab
section
variable{A:HA}
abbrev Sub(M M':HM Key):Prop:=∀k p,M k=some p→M' k=some p
theorem map_set_same{α β:Type}(f:α→β){l:List α}{i:Nat}{x:α}(hi:i<l.length)(h:f x=f l[i]):(l.set i x).map f=l.map f:=by
 rw[List.map_set,h]
 refine List.ext_getElem? fun j=>?_
 rw[List.getElem?_set]
 split
 ·rename_i e;subst e;rw[List.length_map,if_pos hi,List.getElem?_map,List.getElem?_eq_getElem hi];rfl
 ·rfl
def HA.setC(A:HA)(j:Nat)(v:CoilA):HA:={A with coils:=A.coils.set j v}
theorem HA.setC_sub{j:Nat}(hj:j<A.coils.length){v:CoilA}(hb:v.b=A.coils[j].b):Sub (A.setC j v).mem (A.mem.set (.c j) (some (v.b,.box v.cs))):=by
 intro k p hk
 cases k with
 |c i=>
  by_cases e:i=j
  ·subst e
   rw[HM.set_same,←hk]
   show _=(A.coils.set i v)[i]?.map _
   rw[List.getElem?_set_self hj];rfl
  ·rw[HM.set_other _ _ (fun h=>e (Key.c.inj h)),←hk]
   show(A.coils[i]?.map _)=((A.coils.set j v)[i]?.map _)
   rw[List.getElem?_set_ne (fun h=>e h.symm)]
 |cs=>
  rw[HM.set_other _ _ (fun h=>by cases h),←hk]
  show A.ch.map _=A.ch.map _
  congr 1
  funext q
  show(q.1,HK.gro 1 q.2 (A.coils.map cRow))=(q.1,HK.gro 1 q.2 ((A.coils.set j v).map cRow))
  rw[map_set_same cRow hj (by show [X.raw (pV v.b)]=_;rw[hb];rfl)]
 |house=>
  rw[HM.set_other _ _ (fun h=>by cases h),←hk]
  show some (A.b,HK.box A.cs)=some (A.b,HK.box (A.setC j v).cs)
  simp only[HA.cs,HA.setC,List.length_set]
 |_=>rw[HM.set_other _ _ (fun h=>by cases h),←hk];rfl
def HA.setP(A:HA)(i:Nat)(v:PartA):HA:={A with parts:=A.parts.set i v}
theorem HA.setP_pb{i:Nat}(hi:i<A.parts.length){v:PartA}(hb:v.b=A.parts[i].b):(A.setP i v).pb=A.pb:=by
 funext j
 show((A.parts.set i v)[j]?.map PartA.b).getD 0=(A.parts[j]?.map PartA.b).getD 0
 by_cases e:j=i
 ·subst e;rw[List.getElem?_set_self hi,List.getElem?_eq_getElem hi];exact hb
 ·rw[List.getElem?_set_ne (fun h=>e h.symm)]
theorem HA.setP_sub{i:Nat}(hi:i<A.parts.length){v:PartA}(hb:v.b=A.parts[i].b){M:HM Key}(hp:M (.p i)=some (v.b,.box v.cs))(hf:M (.f i)=v.fh.map fun q=>(q.1,.gro 2 q.2 (v.p.frames.map Frame.cs)))(he:M (.e i)=v.eh.map fun q=>(q.1,.row 1 q.2 (intRows v.es)))
  (ho:∀k,k≠.p i→k≠.f i→k≠.e i→M k=A.mem k):Sub (A.setP i v).mem M:=by
 have hat:(A.parts.set i v)[i]?=some v:=List.getElem?_set_self hi
 have hne:∀j,j≠i→(A.parts.set i v)[j]?=A.parts[j]?:=fun j e=>List.getElem?_set_ne (fun h=>e h.symm)
 intro k p hk
 cases k with
 |p j=>
  by_cases e:j=i
  ·subst e
   rw[hp,←hk]
   show _=(A.parts.set j v)[j]?.map _
   rw[hat];rfl
  ·rw[ho _ (fun h=>e (Key.p.inj h)) (fun h=>by cases h) (fun h=>by cases h),←hk]
   show A.parts[j]?.map _=(A.parts.set i v)[j]?.map _
   rw[hne j e]
 |f j=>
  by_cases e:j=i
  ·subst e
   rw[hf,←hk]
   show _=(A.parts.set j v)[j]?.bind _
   rw[hat];rfl
  ·rw[ho _ (fun h=>by cases h) (fun h=>e (Key.f.inj h)) (fun h=>by cases h),←hk]
   show A.parts[j]?.bind _=(A.parts.set i v)[j]?.bind _
   rw[hne j e]
 |e j=>
  by_cases e:j=i
  ·subst e
   rw[he,←hk]
   show _=(A.parts.set j v)[j]?.bind _
   rw[hat];rfl
  ·rw[ho _ (fun h=>by cases h) (fun h=>by cases h) (fun h=>e (Key.e.inj h)),←hk]
   show A.parts[j]?.bind _=(A.parts.set i v)[j]?.bind _
   rw[hne j e]
 |ps=>
  rw[ho _ (fun h=>by cases h) (fun h=>by cases h) (fun h=>by cases h),←hk]
  show A.ph.map _=A.ph.map _
  congr 1
  funext q
  show(q.1,HK.gro 1 q.2 (A.parts.map pRow))=(q.1,HK.gro 1 q.2 ((A.parts.set i v).map pRow))
  rw[map_set_same pRow hi (by show [X.raw (pV v.b)]=_;rw[hb];rfl)]
 |ms=>
  rw[ho _ (fun h=>by cases h) (fun h=>by cases h) (fun h=>by cases h),←hk]
  show A.mh.map _=A.mh.map _
  congr 1
  funext q
  show(q.1,HK.gro 1 q.2 (A.models.map fun i=>[X.raw (pV (A.pb i))]))=(q.1,HK.gro 1 q.2 (A.models.map fun j=>[X.raw (pV ((A.setP i v).pb j))]))
  rw[A.setP_pb hi hb]
 |house=>
  rw[ho _ (fun h=>by cases h) (fun h=>by cases h) (fun h=>by cases h),←hk]
  show some (A.b,HK.box A.cs)=some (A.b,HK.box (A.setP i v).cs)
  simp only[HA.cs,HA.setP,List.length_set]
 |_=>rw[ho _ (fun h=>by cases h) (fun h=>by cases h) (fun h=>by cases h),←hk];rfl
theorem HA.house_sub{A':HA}(hb:A'.b=A.b)(h1:A'.vh=A.vh∧A'.vers=A.vers)(h2:A'.ch=A.ch∧A'.coils=A.coils)(h3:A'.ph=A.ph∧A'.parts=A.parts)(h4:A'.mh=A.mh∧A'.models=A.models):Sub A'.mem (A.mem.set .house (some (A.b,.box A'.cs))):=by
 obtain⟨b,net,plan,vh,vers,ch,coils,ph,parts,mh,models,env,learned,entries,time⟩:=A'
 obtain⟨rfl,rfl⟩:=h1
 obtain⟨rfl,rfl⟩:=h2
 obtain⟨rfl,rfl⟩:=h3
 obtain⟨rfl,rfl⟩:=h4
 cases hb
 intro k p hk
 cases k with
 |house=>rw[HM.set_same,←hk];rfl
 |_=>rw[HM.set_other _ _ (fun h=>by cases h),←hk];rfl
def HA.newC(A:HA)(v:CoilA)(q:Nat×Nat):HA:={A with coils:=A.coils++[v],ch:=some q}
theorem HA.newC_sub{v:CoilA}{q:Nat×Nat}:Sub (A.newC v q).mem (((A.mem.set (.c A.coils.length) (some (v.b,.box v.cs))).set .cs (some (q.1,.gro 1 q.2 (A.coils.map cRow++[[.raw (pV v.b)]])))).set .house (some (A.b,.box (A.newC v q).cs))):=by
 intro k p hk
 cases k with
 |house=>rw[HM.set_same,←hk];rfl
 |cs=>
  rw[HM.set_other _ _ (fun h=>by cases h),HM.set_same,←hk]
  show _=some (q.1,HK.gro 1 q.2 ((A.coils++[v]).map cRow))
  rw[List.map_append];rfl
 |c i=>
  rw[HM.set_other _ _ (fun h=>by cases h),HM.set_other _ _ (fun h=>by cases h)]
  by_cases e:i=A.coils.length
  ·subst e
   rw[HM.set_same,←hk]
   show _=(A.coils++[v])[A.coils.length]?.map _
   rw[List.getElem?_append_right (Nat.le_refl _),Nat.sub_self];rfl
  ·rw[HM.set_other _ _ (fun h=>e (Key.c.inj h)),←hk]
   show A.coils[i]?.map _=(A.coils++[v])[i]?.map _
   rcases Nat.lt_or_ge i A.coils.length with h1|h1
   ·rw[List.getElem?_append_left h1]
   ·rw[List.getElem?_eq_none h1,List.getElem?_eq_none (by rw[List.length_append,List.length_singleton];omega)]
 |_=>rw[HM.set_other _ _ (fun h=>by cases h),HM.set_other _ _ (fun h=>by cases h),HM.set_other _ _ (fun h=>by cases h),←hk];rfl
def HA.newV(A:HA)(v:VerA)(q:Nat×Nat):HA:={A with vers:=A.vers++[v],vh:=some q}
theorem HA.newV_sub{v:VerA}{q:Nat×Nat}:Sub (A.newV v q).mem (((A.mem.set (.v A.vers.length) (some (v.b,.box v.cs))).set .vs (some (q.1,.gro 1 q.2 (A.vers.map vRow++[[.raw (pV v.b)]])))).set .house (some (A.b,.box (A.newV v q).cs))):=by
 intro k p hk
 cases k with
 |house=>rw[HM.set_same,←hk];rfl
 |vs=>
  rw[HM.set_other _ _ (fun h=>by cases h),HM.set_same,←hk]
  show _=some (q.1,HK.gro 1 q.2 ((A.vers++[v]).map vRow))
  rw[List.map_append];rfl
 |v i=>
  rw[HM.set_other _ _ (fun h=>by cases h),HM.set_other _ _ (fun h=>by cases h)]
  by_cases e:i=A.vers.length
  ·subst e
   rw[HM.set_same,←hk]
   show _=(A.vers++[_])[A.vers.length]?.map _
   rw[List.getElem?_append_right (Nat.le_refl _),Nat.sub_self];rfl
  ·rw[HM.set_other _ _ (fun h=>e (Key.v.inj h)),←hk]
   show A.vers[i]?.map _=(A.vers++[_])[i]?.map _
   rcases Nat.lt_or_ge i A.vers.length with h1|h1
   ·rw[List.getElem?_append_left h1]
   ·rw[List.getElem?_eq_none h1,List.getElem?_eq_none (by rw[List.length_append,List.length_singleton];omega)]
 |_=>rw[HM.set_other _ _ (fun h=>by cases h),HM.set_other _ _ (fun h=>by cases h),HM.set_other _ _ (fun h=>by cases h),←hk];rfl
def HA.newM(A:HA)(i:Nat)(q:Nat×Nat):HA:={A with models:=A.models++[i],mh:=some q}
theorem HA.newM_sub{i:Nat}{q:Nat×Nat}:Sub (A.newM i q).mem ((A.mem.set .ms (some (q.1,.gro 1 q.2 ((A.models.map fun i=>[.raw (pV (A.pb i))])++[[.raw (pV (A.pb i))]])))).set .house (some (A.b,.box (A.newM i q).cs))):=by
 intro k p hk
 cases k with
 |house=>rw[HM.set_same,←hk];rfl
 |ms=>
  rw[HM.set_other _ _ (fun h=>by cases h),HM.set_same,←hk]
  show _=some (q.1,HK.gro 1 q.2 ((A.models++[i]).map fun j=>[X.raw (pV ((A.newM i q).pb j))]))
  rw[List.map_append];rfl
 |_=>rw[HM.set_other _ _ (fun h=>by cases h),HM.set_other _ _ (fun h=>by cases h),←hk];rfl
def HA.newP(A:HA)(v:PartA)(q:Nat×Nat):HA:={A with parts:=A.parts++[v],ph:=some q}
theorem HA.newP_sub{m:Int}(hok:A.Ok m){v:PartA}{q qe:Nat×Nat}(hf:v.fh=none)(he:v.eh=some qe):Sub (A.newP v q).mem ((((A.mem.set (.e A.parts.length) (some (qe.1,.row 1 qe.2 (intRows v.es)))).set (.p A.parts.length) (some (v.b,.box v.cs))).set .ps (some (q.1,.gro 1 q.2 (A.parts.map pRow++[[.raw (pV v.b)]])))).set .house (some (A.b,.box (A.newP v q).cs))):=by
 have hge:∀i,i≠A.parts.length→(A.parts++[v])[i]?=A.parts[i]?:=by
  intro i e
  rcases Nat.lt_or_ge i A.parts.length with h1|h1
  ·rw[List.getElem?_append_left h1]
  ·rw[List.getElem?_eq_none h1,List.getElem?_eq_none (by rw[List.length_append,List.length_singleton];omega)]
 have hat:(A.parts++[v])[A.parts.length]?=some v:=by rw[List.getElem?_append_right (Nat.le_refl _),Nat.sub_self];rfl
 intro k p hk
 cases k with
 |house=>rw[HM.set_same,←hk];rfl
 |ps=>
  rw[HM.set_other _ _ (fun h=>by cases h),HM.set_same,←hk]
  show _=some (q.1,HK.gro 1 q.2 ((A.parts++[v]).map pRow))
  rw[List.map_append];rfl
 |p i=>
  rw[HM.set_other _ _ (fun h=>by cases h),HM.set_other _ _ (fun h=>by cases h)]
  by_cases e:i=A.parts.length
  ·subst e
   rw[HM.set_same,←hk]
   show _=(A.parts++[v])[A.parts.length]?.map _
   rw[hat];rfl
  ·rw[HM.set_other _ _ (fun h=>e (Key.p.inj h)),HM.set_other _ _ (fun h=>by cases h),←hk]
   show A.parts[i]?.map _=(A.parts++[v])[i]?.map _
   rw[hge i e]
 |e i=>
  rw[HM.set_other _ _ (fun h=>by cases h),HM.set_other _ _ (fun h=>by cases h),HM.set_other _ _ (fun h=>by cases h)]
  by_cases e:i=A.parts.length
  ·subst e
   rw[HM.set_same,←hk]
   show _=(A.parts++[v])[A.parts.length]?.bind _
   rw[hat]
   show _=v.eh.map _
   rw[he];rfl
  ·rw[HM.set_other _ _ (fun h=>e (Key.e.inj h)),←hk]
   show A.parts[i]?.bind _=(A.parts++[v])[i]?.bind _
   rw[hge i e]
 |f i=>
  rw[HM.set_other _ _ (fun h=>by cases h),HM.set_other _ _ (fun h=>by cases h),HM.set_other _ _ (fun h=>by cases h),HM.set_other _ _ (fun h=>by cases h),←hk]
  show A.parts[i]?.bind _=(A.parts++[v])[i]?.bind _
  by_cases e:i=A.parts.length
  ·subst e
   rw[hat,List.getElem?_eq_none (Nat.le_refl _)]
   show none=v.fh.map _
   rw[hf];rfl
  ·rw[hge i e]
 |ms=>
  rw[HM.set_other _ _ (fun h=>by cases h),HM.set_other _ _ (fun h=>by cases h),HM.set_other _ _ (fun h=>by cases h),HM.set_other _ _ (fun h=>by cases h),←hk]
  show A.mh.map _=A.mh.map _
  congr 1
  funext q'
  show(q'.1,HK.gro 1 q'.2 (A.models.map fun i=>[X.raw (pV (A.pb i))]))=(q'.1,HK.gro 1 q'.2 (A.models.map fun j=>[X.raw (pV ((A.newP v q).pb j))]))
  congr 2
  refine List.map_congr_left fun j hj=>?_
  show [X.raw (pV ((A.parts[j]?.map PartA.b).getD 0))]=[X.raw (pV (((A.parts++[v])[j]?.map PartA.b).getD 0))]
  rw[hge j (by have:=hok.mi j hj;omega)]
 |_=>rw[HM.set_other _ _ (fun h=>by cases h),HM.set_other _ _ (fun h=>by cases h),HM.set_other _ _ (fun h=>by cases h),HM.set_other _ _ (fun h=>by cases h),←hk];rfl
end
end Go.Proofs.YtpbalelbenmmbaaGreatDoor
