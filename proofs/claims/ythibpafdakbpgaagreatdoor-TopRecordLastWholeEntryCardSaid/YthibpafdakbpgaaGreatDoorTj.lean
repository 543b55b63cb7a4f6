import Derived.Test.YthibpafdakbpgaaGreatDoorUj
set_option linter.all false
namespace Go.Proofs.YthibpafdakbpgaaGreatDoor
open Go.Ab
variable{xs:bi}
def u5(h:Shape (.st<|.cons .str<|.cons (.int .i64) .nil) xs):∃p:Ze,xs=p.cs:=by
 obtain⟨a,b,rfl,⟨s,rfl⟩,c,d,rfl,⟨n,rfl⟩,rfl⟩:=h;exact⟨⟨s,n⟩,rfl⟩
def cW(h:Shape (.cons (.sl<|.st<|.cons .str<|.cons (.int .i64) .nil)<|.cons .str<|.cons (.int .i64)<|.cons (.st<|.cons (.int .i64)<|.cons (.int .i64) .nil) .nil) xs):∃p:Net,xs=p.cs:=by
 obtain⟨a,b,rfl,⟨vj,rfl,i⟩,c,d,rfl,⟨s,rfl⟩,e,f,rfl,⟨n,rfl⟩,g,k,rfl,⟨u,v,rfl,⟨lo,rfl⟩,y,z,rfl,⟨hi,rfl⟩,rfl⟩,rfl⟩:=h;obtain⟨l,rfl⟩:=EF (f:=Ze.cs) λr h=>u5<|i r h;exact⟨⟨l,s,n,lo,hi⟩,rfl⟩
def qT(h:Shape (.cons (.int .i64)<|.cons .str<|.cons .str .nil) xs):∃p:Entry,xs=p.cs:=by
 obtain⟨a,b,rfl,⟨n,rfl⟩,c,d,rfl,⟨s,rfl⟩,e,f,rfl,⟨t,rfl⟩,rfl⟩:=h;exact⟨⟨n,s,t⟩,rfl⟩
theorem AB{x:X}(h:Shape (.sl<|.st<|.cons (.int .i64)<|.cons .str<|.cons .str .nil) [x]):∃l:List Entry,x=.sl (l.map Entry.cs):=by
 obtain⟨vj,b,a⟩:=h;cases b;obtain⟨l,rfl⟩:=EF (f:=Entry.cs) λr h=>qT<|a r h;grind
