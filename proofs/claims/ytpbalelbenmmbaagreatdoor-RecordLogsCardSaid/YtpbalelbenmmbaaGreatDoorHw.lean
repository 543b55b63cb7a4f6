import Derived.WalkKit
universe u
set_option linter.all false
namespace Go.Ab
def Zz{p:Prop}[inst:Decidable p]:p->decide p=true:=decide_eq_true
theorem Zy{p:Prop}[inst:Decidable p]:¬p->decide p=false:=decide_eq_false
theorem Zx{α β:Type}{as:List α}(f:α->β):(as.map f).length=as.length:=List.length_map f
def Zw(a b:Bool):((a&&b)=true)=(a=true/\b=true):=Bool.and_eq_true a b
def Zv{α:Type}{l:List α}{i:Nat}(h:i<l.length):l[i]?=some l[i]:=List.getElem?_eq_getElem h
def Zu{p:Prop}[inst:Decidable p]:¬¬p↔p:=Decidable.not_not
def Zt{α:Type}{l:List α}{n:Nat}(h:n<l.length):l[n]∈l:=List.getElem_mem h
def Zs{α:Type}{as bs:List α}:(as++bs).length=as.length+bs.length:=List.length_append
def Zr(n:Nat):0<=n:=Nat.zero_le n
def Zq(n:Nat):n<=n:=Nat.le_refl n
def Zp{p:Prop}(h:p):¬¬p:=not_not_intro h
def Zo:True:=trivial
def Zn{c:Prop}{h:Decidable c}(hc:c){α:Sort u}{t e:α}:ite c t e=t:=if_pos hc
def Zm{c:Prop}{h:Decidable c}(hnc:¬c){α:Sort u}{t e:α}:ite c t e=e:=if_neg hnc
def ca:=@IntWalk.i64_in
def ce:=@List.mem_of_getElem?
def ci:=@List.drop_eq_getElem_cons
def co:=@List.drop_length
def dC:=@of_decide_eq_true
def dE:=@List.map_append
def dT:=@List.take_succ_eq_append_getElem
def db:=@Nat.blt_eq
def df:=@List.mem_singleton
def dg:=@List.mem_cons_of_mem
def dj:=@List.all_eq_true
def dl:=@Nat.lt_of_lt_of_le
def dp:=@List.mem_cons_self
def dq:=@List.getElem?_eq_some_iff
def dt:=@Array.getElem?_eq_some_iff
def dv:=@List.mem_append_left
def eI:=@List.mem_map
def eK:=@List.take_of_length_le
def eQ:=@congrArg
def ed:=@List.mem_cons
def ee:=@List.all_cons
def fa:=@List.contains_iff_mem
def fj:=@Option.isSome_iff_exists
def fp:=@List.take_length
def ft:=@List.eq_nil_of_length_eq_zero
def fv:=@List.mem_append_right
def fw:=@List.map_cons
def gc:=@Nat.le_trans
def ge:=@List.length_cons
def gg:=@Bool.and_eq_true
def gk:=@Nat.zero_add
def gn:=@List.length_take
def hK:=@List.length_set
def ib:=@List.getElem_cons_zero
def ii:=@Nat.ble_eq
def im:=@Bool.or_eq_true
def io:=@List.take_append_drop
def ip:=@List.getElem_of_mem
def jn:=@decide_eq_true_eq
def lA:=@Bool.not_eq_true'
def lL:=@Bool.false_and
def lO:=@List.append_assoc
def lh:=@List.getElem?_map
def li:=@Nat.mul_le_mul_right
def ll:=@List.getElem?_drop
def ln:=@of_decide_eq_false
def lw:=@List.append_nil
def lx:=@Bool.true_and
def ly:=@List.getElem?_append_left
def ma:=@List.getElem?_take
def md:=@List.cons_append
def mf:=@Nat.add_sub_cancel_left
def ml:=@List.not_mem_nil
def mn:=@Option.map_eq_some_iff
def mp:=@List.length_drop
def mr:=@List.flatten_cons
def mv:=@List.ext_getElem?
def mx:=@Nat.lt_or_ge
def na:=@List.cons.injEq
def nb:=@List.drop_of_length_le
def ne:=@List.map_congr_left
def no:=@List.singleton_append
def np:=@List.take_append_of_le_length
def nz:=@List.length_pos_iff
def pA:=@List.getElem_cons_succ
def pB:=@Decidable.byContradiction
def pD:=@List.mem_or_eq_of_mem_set
def pa:=@Nat.add_mul
def pd:=@Nat.beq_refl
def pf:=@List.foldl_cons
def pi:=@Nat.pow_le_pow_right
def pj:=@List.getElem?_set
def pk:=@List.flatten_append
def pm:=@List.pairwise_cons
def po:=@Nat.add_zero
def pp:=@Nat.succ_pos
def pr:=@Int.tmod_lt_of_pos
def pt:=@List.nil_append
def pu:=@List.length_singleton
def pv:=@List.getElem?_eq_none
def pw:=@Int.tmod_nonneg
def qD:=@Prod.mk.injEq
def qk:=@List.getElem?_append_right
def ra:=@Option.some.injEq
def rb:=@Bool.eq_false_iff
def rk:=@Bool.or_eq_false_iff
def rl:=@List.pairwise_iff_getElem
def rm:=@List.map_nil
def rn:=@List.map_map
def rp:=@List.mergeSort_perm
def rv:=@List.map_eq_nil_iff
def rx:=@IntWalk.u8_in
def sT:=@Bool.false_eq_true
def sa:=@List.length_modify
def sb:=@Nat.succ_mul
def sc:=@List.length_replicate
def sf:=@List.map_set
def sg:=@List.range'_succ
def sk:=@List.map_toArray
def so:=@List.getElem?_of_mem
def ta:=@World.cell?_of_block
def ti:=@List.getElem_map
def tl:=@Nat.one_mul
def tm:=@List.flatMap_append
def tn:=@Option.some.inj
def tp:=@List.range_succ
def tt:=@Int.mul_nonneg
def tz:=@List.getElem?_replicate
def ub:=@decide_eq_false_iff_not
def uf:=@World.ownsRow_nil
def ui:=@Nat.le_mul_of_pos_left
def ul:=@Bool.and_true
def un:=@List.take_append
def ut:=@Array.getElem?_toList
def vd:=@List.length_filter_le
def vp:=@List.eq_nil_iff_forall_not_mem
def vx:=@Bool.true_or
def wT:=@Bool.eq_iff_iff
def wa:=@UInt8.toNat_inj
def wc:=@List.count_le_length
def wi:=@List.mem_of_mem_drop
def wl:=@Nat.not_lt_zero
def wn:=@Int.mul_le_mul_of_nonneg_left
def wp:=@Int.toNat_of_nonneg
def wt:=@Bool.and_false
def ww:=@List.countP_append
def wx:=@Nat.eq_zero_or_pos
def wy:=@List.map_singleton
def xc:=@List.size_toArray
def xf:=@Classical.byContradiction
def xi:=@Option.bind_some
def xt:=@List.drop_append
def xv:=@List.any_eq_true
def yi:=@List.eq_of_mem_replicate
def yk:=@Nat.le_of_not_lt
def yv:=@List.all_nil
def AC:=@Nat.lt_succ_self
def AI:=@Nat.sub_self
def AN:=@Nat.le_mul_of_pos_right
def AS:=@Option.bind_eq_some_iff
def AT:=@List.length_eq_zero_iff
def At:=@List.pairwise_mergeSort
def Ax:=@Option.map_some
def BE:=@List.length_nil
def BY:=@List.find?_cons
def By:=@Int.add_mul
def Do:=@List.drop_drop
def EQ:=@Array.getElem?_append
def FS:=@not_or
def Fr:=@List.drop_take
def GE:=@UInt8.toNat_lt
def GT:=@List.drop_zero
def Ha:=@List.countP_eq_length
def Hb:=@Bool.and_eq_false_iff
def Hc:=@Nat.not_le
def Hk:=@List.mem_iff_getElem
def Hm:=@List.replicate_succ'
def Hn:=@List.replicate_succ
def IR:=@List.countP_eq_zero
def If:=@List.length_reverse
def Ix:=@List.set_set
def JN:=@Ne.symm
def Kd:=@Int.mul_one
abbrev ba:=List UInt8
abbrev bc:=List Nat
abbrev bd:=List Int
def I{P:Prop}(h:P:=by omega):P:=h
def N{P:Prop}(h:P:=by first|rfl|simp<;>omega):P:=h
def C{P:Prop}(h:P:=by decide):P:=h
def V{P:Prop}(h:P:=by kernel_rfl):P:=h
def F{P:Prop}(h:P:=by simp):P:=h
def W{P:Prop}(h:P:=by first|rfl|exact decide_eq_true (by assumption)|exact decide_eq_false (by assumption)|simp[*]):P:=h
def Z{P:Prop}(h:P:=by intro h;cases h):P:=h
