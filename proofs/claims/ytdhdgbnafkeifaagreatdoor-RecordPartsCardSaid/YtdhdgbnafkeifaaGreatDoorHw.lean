import Derived.WalkKit
universe u
set_option linter.all false
namespace Go.Ab
def Zz{p:Prop}[inst:Decidable p]:p->decide p=true:=decide_eq_true
def Zy{p:Prop}[inst:Decidable p]:¬p->decide p=false:=decide_eq_false
theorem Zx{α β:Type}{a:List α}(f:α->β):(a.map f).length=a.length:=List.length_map f
def Zw(a b:Bool):((a&&b)=true)=(a=true/\b=true):=Bool.and_eq_true a b
def Zv{α:Type}{l:List α}{i:Nat}(h:i<l.length):l[i]?=some l[i]:=List.getElem?_eq_getElem h
def Zu{p:Prop}[inst:Decidable p]:¬¬p↔p:=Decidable.not_not
def Zt{α:Type}{l:List α}{n:Nat}(h:n<l.length):l[n]∈l:=List.getElem_mem h
def Zs{α:Type}{a bs:List α}:(a++bs).length=a.length+bs.length:=List.length_append
def Zr(n:Nat):0<=n:=Nat.zero_le n
def Zq(n:Nat):n<=n:=Nat.le_refl n
def Zp{p:Prop}(h:p):¬¬p:=not_not_intro h
def Zo:True:=trivial
def Zn{c:Prop}{h:Decidable c}(a:c){α:Sort u}{t e:α}:ite c t e=t:=if_pos a
def Zm{c:Prop}{h:Decidable c}(a:¬c){α:Sort u}{t e:α}:ite c t e=e:=if_neg a
def ca:=@IntWalk.i64_in
def ce:=@List.mem_of_getElem?
def co:=@List.drop_length
def dE:=@List.map_append
def ci:=@List.drop_eq_getElem_cons
def dT:=@List.take_succ_eq_append_getElem
def dC:=@of_decide_eq_true
def df:=@List.mem_singleton
def db:=@Nat.blt_eq
def dg:=@List.mem_cons_of_mem
def dj:=@List.all_eq_true
def eQ:=@congrArg
def dl:=@Nat.lt_of_lt_of_le
def dp:=@List.mem_cons_self
def eI:=@List.mem_map
def dq:=@List.getElem?_eq_some_iff
def dt:=@Array.getElem?_eq_some_iff
def dv:=@List.mem_append_left
def eK:=@List.take_of_length_le
def ed:=@List.mem_cons
def gn:=@List.length_take
def ee:=@List.all_cons
def im:=@Bool.or_eq_true
def fa:=@List.contains_iff_mem
def jn:=@decide_eq_true_eq
def fw:=@List.map_cons
def lx:=@Bool.true_and
def lL:=@Bool.false_and
def fj:=@Option.isSome_iff_exists
def ge:=@List.length_cons
def ft:=@List.eq_nil_of_length_eq_zero
def fv:=@List.mem_append_right
def ub:=@decide_eq_false_iff_not
def gc:=@Nat.le_trans
def nb:=@List.drop_of_length_le
def mp:=@List.length_drop
def gg:=@Bool.and_eq_true
def rk:=@Bool.or_eq_false_iff
def gk:=@Nat.zero_add
def hK:=@List.length_set
def ib:=@List.getElem_cons_zero
def ii:=@Nat.ble_eq
def lA:=@Bool.not_eq_true'
def io:=@List.take_append_drop
def UO:=@Bool.and_eq_false_iff
def ip:=@List.getElem_of_mem
def lw:=@List.append_nil
def lh:=@List.getElem?_map
def ln:=@of_decide_eq_false
def lO:=@List.append_assoc
def li:=@Nat.mul_le_mul_right
def ll:=@List.getElem?_drop
def na:=@List.cons.injEq
def ly:=@List.getElem?_append_left
def ma:=@List.getElem?_take
def mf:=@Nat.add_sub_cancel_left
def mx:=@Nat.lt_or_ge
def ml:=@List.not_mem_nil
def md:=@List.cons_append
def mn:=@Option.map_eq_some_iff
def mr:=@List.flatten_cons
def mv:=@List.ext_getElem?
def pu:=@List.length_singleton
def ne:=@List.map_congr_left
def no:=@List.singleton_append
def np:=@List.take_append_of_le_length
def wx:=@List.map_nil
def wl:=@decide_eq_true_iff
def ww:=@List.length_pos_iff
def yk:=@List.map_map
def wy:=@Nat.succ_pos
def xc:=@List.getElem_cons_succ
def Pb:=@Option.bind_some
def UI:=@List.drop_zero
def xf:=@Decidable.byContradiction
def xi:=@List.mem_or_eq_of_mem_set
def xt:=@Nat.add_mul
def xv:=@Nat.beq_refl
def yi:=@List.foldl_cons
def BE:=@List.length_nil
def yv:=@Nat.pow_le_pow_right
def AC:=@List.getElem?_set
def By:=@Prod.mk.injEq
def AI:=@List.flatten_append
def wt:=@List.map_eq_nil_iff
def AN:=@List.pairwise_cons
def AS:=@Nat.add_zero
def AT:=@Int.tmod_lt_of_pos
def wp:=@List.nil_append
def At:=@Option.some.inj
def BY:=@Int.tmod_nonneg
def Ax:=@List.getElem?_eq_none
def DO:=@List.getElem?_append_right
def Do:=@Option.some.injEq
def EQ:=@Bool.eq_false_iff
def FS:=@List.pairwise_iff_getElem
def GE:=@List.mergeSort_perm
def wn:=@IntWalk.u8_in
def GT:=@Bool.false_eq_true
def Ha:=@List.length_modify
def Fr:=@Nat.succ_mul
def Hb:=@List.length_replicate
def Hc:=@List.map_set
def MY:=@Bool.and_false
def Hk:=@List.range'_succ
def Hm:=@List.map_toArray
def Hn:=@List.getElem?_of_mem
def IF:=@World.cell?_of_block
def IM:=@List.getElem_map
def IN:=@Nat.one_mul
def IR:=@List.flatMap_append
def IS:=@Bool.eq_iff_iff
def IT:=@List.range_succ
def If:=@Int.zero_mul
def Ix:=@Int.mul_nonneg
def JC:=@List.getElem?_replicate
def SB:=@List.length_eq_zero_iff
def JN:=@World.ownsRow_nil
def JV:=@Nat.le_mul_of_pos_left
def JW:=@Bool.and_true
def JY:=@List.take_append
def JZ:=@Array.getElem?_toList
def Jp:=@List.length_filter_le
def Jq:=@List.eq_nil_iff_forall_not_mem
def Jr:=@Bool.true_or
def KY:=@Int.mul_comm
def KZ:=@List.all_append
def Kd:=@UInt8.toNat_inj
def LA:=@List.count_le_length
def LB:=@List.mem_of_mem_drop
def LQ:=@Nat.not_lt_zero
def Lk:=@Int.mul_le_mul_of_nonneg_left
def Ly:=@Int.toNat_of_nonneg
def NE:=@List.countP_append
def Nj:=@Nat.eq_zero_or_pos
def Nm:=@List.map_singleton
def nz:=@List.any_cons
def PK:=@List.size_toArray
def PQ:=@Classical.byContradiction
def Pd:=@List.drop_append
def Pi:=@List.any_eq_true
def Ps:=@List.eq_of_mem_replicate
def QO:=@Nat.le_of_not_lt
def QP:=@List.all_nil
def QQ:=@Nat.lt_succ_self
def QR:=@Nat.sub_self
def QS:=@Nat.le_mul_of_pos_right
def RD:=@Option.bind_eq_some_iff
def SC:=@List.pairwise_mergeSort
def So:=@Option.map_some
def pA:=@List.filter_map
def Sp:=@List.find?_cons
def Sr:=@Int.add_mul
def LR:=@Int.mul_pos
def pB:=@List.drop_drop
def TC:=@Array.getElem?_append
def TK:=@not_or
def UG:=@List.drop_take
def MI:=@UInt8.toNat_lt
def UN:=@List.countP_eq_length
def UV:=@Nat.not_le
def Vg:=@List.mem_iff_getElem
def WF:=@List.replicate_succ'
def WL:=@List.replicate_succ
def WP:=@List.countP_eq_zero
def ka:=@List.length_reverse
def km:=@List.set_set
def kv:=@Ne.symm
def kw:=@Int.mul_one
abbrev ba:=List UInt8
abbrev bc:=List Nat
abbrev bd:=List Int
def I{P:Prop}(h:P:=by omega):P:=h
def N{P:Prop}(h:P:=by first|rfl|simp<;>omega):P:=h
def C{P:Prop}(h:P:=by decide):P:=h
def V{P:Prop}(h:P:=by kernel_rfl):P:=h
def F{P:Prop}(h:P:=by simp):P:=h
def W{P:Prop}(h:P:=by first|rfl|exact decide_eq_true (by assumption)|exact decide_eq_false (by assumption)|simp[*]):P:=h
def Z{P:Prop}(h:P:=by intro h;cases h):P:=h
