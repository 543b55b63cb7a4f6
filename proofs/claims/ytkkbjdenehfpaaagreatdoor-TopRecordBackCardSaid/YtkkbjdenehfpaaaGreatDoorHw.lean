import Derived.WalkKit
universe u
set_option linter.all false
namespace Go.Ab
variable{p:Prop}
def Zz[inst:Decidable p]:p->decide p=true:=decide_eq_true
theorem Zy[inst:Decidable p]:¬p->decide p=false:=decide_eq_false
variable{α:Type}
theorem Zx{β:Type}{a:List α}(f:α->β):(a.map f).length=a.length:=List.length_map f
def Zw(a b:Bool):((a&&b)=true)=(a=true/\b=true):=Bool.and_eq_true a b
def Zv{l:List α}{i:Nat}(h:i<l.length):l[i]?=some l[i]:=List.getElem?_eq_getElem h
def Zu[inst:Decidable p]:¬¬p↔p:=Decidable.not_not
def Zt{l:List α}{n:Nat}(h:n<l.length):l[n]∈l:=List.getElem_mem h
def Zs{a bs:List α}:(a++bs).length=a.length+bs.length:=List.length_append
def Zr(n:Nat):0<=n:=Nat.zero_le n
def Zq(n:Nat):n<=n:=Nat.le_refl n
def Zp(h:p):¬¬p:=not_not_intro h
def Zo:True:=trivial
def Zn{c:Prop}{h:Decidable c}(a:c){α:Sort u}{t e:α}:ite c t e=t:=if_pos a
def Zm{c:Prop}{h:Decidable c}(a:¬c){α:Sort u}{t e:α}:ite c t e=e:=if_neg a
def mn:=@IntWalk.i64_in
def mr:=@List.mem_of_getElem?
def ne:=@List.map_append
def pf:=@of_decide_eq_true
def mv:=@List.take_succ_eq_append_getElem
def da:=@List.drop_length
def np:=@List.drop_eq_getElem_cons
def pi:=@List.mem_singleton
def rp:=@Nat.lt_of_lt_of_le
def ae:=@List.getElem?_eq_some_iff
def rn:=@congrArg
def rx:=@List.mem_map
def rb:=@Nat.blt_eq
def rl:=@List.mem_cons_of_mem
def bj:=@List.all_eq_true
def rv:=@List.mem_cons_self
def sk:=@Option.isSome_iff_exists
def sb:=@List.mem_append_left
def sa:=@Array.getElem?_eq_some_iff
def sc:=@List.length_take
def de:=@decide_eq_true_eq
def sf:=@List.mem_cons
def sg:=@List.take_of_length_le
def so:=@List.all_cons
def ta:=@List.map_cons
def ti:=@Bool.or_eq_true
def tl:=@List.contains_iff_mem
def tn:=@Bool.true_and
def dp:=@List.getElem?_map
def tt:=@List.length_cons
def tp:=@Bool.false_and
def ui:=@List.mem_append_right
def tz:=@List.eq_nil_of_length_eq_zero
def m6:=@List.getElem?_append_left
def wc:=@Nat.zero_add
def ul:=@decide_eq_false_iff_not
def di:=@Nat.le_trans
def ut:=@List.drop_of_length_le
def vd:=@List.length_drop
def dv:=@Bool.and_eq_true
def wa:=@Bool.or_eq_false_iff
def dg:=@of_decide_eq_false
def dl:=@List.getElem_of_mem
def a7:=@List.take_append_drop
def zd:=@Bool.not_eq_true'
def i8:=@List.append_nil
def wi:=@List.length_set
def Kp:=@List.getElem_cons_zero
def ky:=@Nat.ble_eq
def a8:=@Bool.and_eq_false_iff
def aγ:=@Option.some.inj
def P2:=@List.ext_getElem?
def fw:=@List.map_map
def bπ:=@Nat.not_lt_zero
def H5:=@List.cons_append
def m7:=@List.append_assoc
def m8:=@Nat.mul_le_mul_right
def dj:=@List.getElem?_modify
def m9:=@List.getElem?_drop
def w7:=@Nat.lt_or_ge
def v6:=@List.cons.injEq
def aκ:=@List.getElem?_append_right
def H2:=@List.map_nil
def H0:=@List.getElem?_take
def aμ:=@List.length_modify
def R0:=@List.length_singleton
def H3:=@Nat.add_sub_cancel_left
def H4:=@List.not_mem_nil
def M2:=@Option.map_eq_some_iff
def aε:=@List.take_append_of_le_length
def P1:=@List.flatten_cons
def aθ:=@Nat.succ_pos
def aβ:=@List.map_congr_left
def aδ:=@List.singleton_append
def aζ:=@decide_eq_true_iff
def bδ:=@Int.tmod_lt_of_pos
def aα:=@List.drop_zero
def aη:=@List.length_pos_iff
def aι:=@List.getElem_cons_succ
def bξ:=@Bool.false_eq_true
def bζ:=@List.getElem?_eq_none
def aν:=@Decidable.byContradiction
def aξ:=@List.mem_or_eq_of_mem_set
def aρ:=@Nat.add_mul
def aσ:=@Nat.beq_refl
def bε:=@List.nil_append
def aτ:=@List.foldl_cons
def cφ:=@Option.map_some
def aυ:=@List.length_nil
def aφ:=@Nat.pow_le_pow_right
def aχ:=@List.getElem?_set
def aψ:=@Prod.mk.injEq
def aω:=@List.flatten_append
def bμ:=@List.mergeSort_perm
def bα:=@List.map_eq_nil_iff
def dq:=@List.getElem?_eraseIdx
def bβ:=@List.pairwise_cons
def bγ:=@Nat.add_zero
def dδ:=@Nat.sub_self
def ft:=@Nat.le_of_lt
def bη:=@Int.tmod_nonneg
def bθ:=@Option.some.injEq
def bι:=@Bool.eq_false_iff
def aπ:=@List.pairwise_iff_getElem
def dρ:=@Option.isNone_iff_eq_none
def bφ:=@Option.bind_some
def bκ:=@List.getElem_map
def dζ:=@Int.toNat_of_nonneg
def bν:=@IntWalk.u8_in
def cδ:=@Bool.eq_iff_iff
def cε:=@List.range_succ
def bρ:=@Nat.succ_mul
def bσ:=@List.length_replicate
def bτ:=@List.map_set
def bυ:=@Bool.and_false
def dt:=@List.take_zero
def eK:=@List.filter_cons
def bχ:=@List.range'_succ
def bψ:=@List.map_toArray
def bω:=@List.getElem?_of_mem
def cα:=@World.cell?_of_block
def cβ:=@Nat.one_mul
def cγ:=@List.flatMap_append
def eQ:=@Int.natCast_nonneg
def dι:=@List.map_singleton
def cζ:=@Int.zero_mul
def cη:=@Int.mul_nonneg
def cθ:=@List.getElem?_replicate
def cι:=@List.length_eq_zero_iff
def eα:=@List.pairwise_mergeSort
def cκ:=@World.ownsRow_nil
def cμ:=@Nat.le_mul_of_pos_left
def cν:=@Bool.and_true
def cξ:=@List.take_append
def dτ:=@List.any_eq_true
def cπ:=@Nat.lt_succ_self
def cρ:=@Array.getElem?_toList
def cτ:=@List.eq_nil_iff_forall_not_mem
def cυ:=@Bool.true_or
def cχ:=@Int.mul_comm
def cψ:=@List.all_append
def cω:=@UInt8.toNat_inj
def dα:=@List.count_le_length
def dβ:=@List.mem_of_mem_drop
def dε:=@Int.mul_le_mul_of_nonneg_left
def ee:=@List.mem_range
def dη:=@List.countP_append
def dθ:=@Nat.eq_zero_or_pos
def pv:=@List.getD_eq_getElem?_getD
def dν:=@List.size_toArray
def dπ:=@Classical.byContradiction
def eη:=@not_or
def dσ:=@List.drop_append
def dυ:=@List.eq_of_mem_replicate
def dφ:=@Nat.le_of_not_lt
def dχ:=@List.all_nil
def dψ:=@Nat.le_mul_of_pos_right
def dω:=@Option.bind_eq_some_iff
def pA:=@List.filter_map
def fa:=@List.mem_filter
def eβ:=@List.find?_cons
def eγ:=@Int.add_mul
def eδ:=@Int.mul_pos
def fe:=@List.filter_eq_nil_iff
def eε:=@List.drop_drop
def eζ:=@Array.getElem?_append
def eθ:=@List.drop_take
def ra:=@List.take_take
def eκ:=@List.countP_eq_length
def cσ:=@List.length_filter_le
def eμ:=@Nat.not_le
def dγ:=@List.mem_iff_getElem
def eξ:=@List.replicate_succ'
def fg:=@Bool.false_or
def fj:=@Bool.not_not
def eυ:=@List.set_set
def ik:=@Prod.ext
abbrev ba:=List UInt8
abbrev bc:=List Nat
abbrev bd:=List Int
variable{P:Prop}
def I(h:P:=by omega):P:=h
def N(h:P:=by first|rfl|simp<;>omega):P:=h
def C(h:P:=by decide):P:=h
def V(h:P:=by kernel_rfl):P:=h
def F(h:P:=by simp):P:=h
def W(h:P:=by first|rfl|exact decide_eq_true (by assumption)|exact decide_eq_false (by assumption)|simp[*]):P:=h
def Z(h:P:=by intro h;cases h):P:=h
