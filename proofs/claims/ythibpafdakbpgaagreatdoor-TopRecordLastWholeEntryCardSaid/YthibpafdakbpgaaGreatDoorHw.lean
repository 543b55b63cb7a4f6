import Derived.WalkKit
universe u
set_option linter.all false
namespace Go.Ab
variable{p:Prop}
def Zz[inst:Decidable p]:p->decide p=true:=decide_eq_true
theorem Zy[inst:Decidable p]:¬p->decide p=false:=decide_eq_false
variable{α:Type}
theorem Zx{β:Type}{a:List α}(f:α->β):(a.map f).length=a.length:=List.length_map f
def Zw(a b:Bool):((a&&b)=true)=(a=true/\b=true):=Bool.and_eq_true a b
def Zv{l:List α}{i:Nat}(h:i<l.length):l[i]?=some l[i]:=List.getElem?_eq_getElem h
def Zu[inst:Decidable p]:¬¬p↔p:=Decidable.not_not
def Zt{l:List α}{n:Nat}(h:n<l.length):l[n]∈l:=List.getElem_mem h
def Zs{a bs:List α}:(a++bs).length=a.length+bs.length:=List.length_append
def Zr(n:Nat):0<=n:=Nat.zero_le n
def Zq(n:Nat):n<=n:=Nat.le_refl n
def Zp(h:p):¬¬p:=not_not_intro h
def Zo:True:=trivial
def Zn{c:Prop}{h:Decidable c}(a:c){α:Sort u}{t e:α}:ite c t e=t:=if_pos a
def Zm{c:Prop}{h:Decidable c}(a:¬c){α:Sort u}{t e:α}:ite c t e=e:=if_neg a
def mn:=@IntWalk.i64_in
def mr:=@List.mem_of_getElem?
def np:=@List.drop_eq_getElem_cons
def mv:=@List.take_succ_eq_append_getElem
def ne:=@List.map_append
def sc:=@List.length_take
def da:=@List.drop_length
def rn:=@congrArg
def pf:=@of_decide_eq_true
def rv:=@List.mem_cons_self
def rl:=@List.mem_cons_of_mem
def pi:=@List.mem_singleton
def tt:=@List.length_cons
def rb:=@Nat.blt_eq
def rm:=@List.all_eq_true
def rp:=@Nat.lt_of_lt_of_le
def rx:=@List.mem_map
def sf:=@List.mem_cons
def sT:=@List.getElem?_eq_some_iff
def sa:=@Array.getElem?_eq_some_iff
def sb:=@List.mem_append_left
def sg:=@List.take_of_length_le
def vd:=@List.length_drop
def de:=@decide_eq_true_eq
def di:=@Nat.le_trans
def ti:=@Bool.or_eq_true
def so:=@List.all_cons
def m7:=@List.append_assoc
def tl:=@List.contains_iff_mem
def a7:=@List.take_append_drop
def aυ:=@List.length_nil
def sk:=@Option.isSome_iff_exists
def ui:=@List.mem_append_right
def ta:=@List.map_cons
def tn:=@Bool.true_and
def tp:=@Bool.false_and
def tz:=@List.eq_nil_of_length_eq_zero
def wc:=@Nat.zero_add
def i8:=@List.append_nil
def ul:=@decide_eq_false_iff_not
def H5:=@List.cons_append
def dv:=@Bool.and_eq_true
def wa:=@Bool.or_eq_false_iff
def wi:=@List.length_set
def R0:=@List.length_singleton
def Kp:=@List.getElem_cons_zero
def ut:=@List.drop_of_length_le
def zd:=@Bool.not_eq_true'
def ky:=@Nat.ble_eq
def a8:=@Bool.and_eq_false_iff
def m6:=@List.getElem?_append_left
def dl:=@List.getElem_of_mem
def m8:=@Nat.mul_le_mul_right
def H4:=@List.not_mem_nil
def dp:=@List.getElem?_map
def a6:=@of_decide_eq_false
def bδ:=@Int.tmod_lt_of_pos
def H3:=@Nat.add_sub_cancel_left
def w7:=@Nat.lt_or_ge
def P1:=@List.flatten_cons
def bθ:=@Option.some.injEq
def m9:=@List.getElem?_drop
def aκ:=@List.getElem?_append_right
def aε:=@List.take_append_of_le_length
def H0:=@List.getElem?_take
def aα:=@List.drop_zero
def aδ:=@List.singleton_append
def v6:=@List.cons.injEq
def M2:=@Option.map_eq_some_iff
def P2:=@List.ext_getElem?
def bε:=@List.nil_append
def pv:=@List.getD_eq_getElem?_getD
def aθ:=@Nat.succ_pos
def ed:=@List.isPrefixOf_iff_prefix
def bα:=@List.map_eq_nil_iff
def aβ:=@List.map_congr_left
def aγ:=@Option.some.inj
def aξ:=@List.mem_or_eq_of_mem_set
def aσ:=@Nat.beq_refl
def aζ:=@decide_eq_true_iff
def bν:=@IntWalk.u8_in
def aω:=@List.flatten_append
def aη:=@List.length_pos_iff
def H2:=@List.map_nil
def aι:=@List.getElem_cons_succ
def fv:=@Int.lt_tmod_of_pos
def aν:=@Decidable.byContradiction
def aρ:=@Nat.add_mul
def aτ:=@List.foldl_cons
def fw:=@List.map_map
def aφ:=@Nat.pow_le_pow_right
def eν:=@List.mem_of_mem_take
def aχ:=@List.getElem?_set
def fx:=@List.drop_append_of_le_length
def bβ:=@List.pairwise_cons
def bγ:=@Nat.add_zero
def bζ:=@List.getElem?_eq_none
def bη:=@Int.tmod_nonneg
def aψ:=@Prod.mk.injEq
def gc:=@Int.toNat_natCast
def bι:=@Bool.eq_false_iff
def aπ:=@List.pairwise_iff_getElem
def dα:=@List.count_le_length
def ge:=@List.getElem_append_right
def bρ:=@Nat.succ_mul
def bμ:=@List.mergeSort_perm
def cγ:=@List.flatMap_append
def bξ:=@Bool.false_eq_true
def cδ:=@Bool.eq_iff_iff
def cω:=@UInt8.toNat_inj
def aμ:=@List.length_modify
def gg:=@Nat.min_eq_left
def gk:=@List.drop_eq_nil_of_le
def hK:=@List.count_eq_zero_of_not_mem
def ib:=@List.count_append
def eι:=@UInt8.toNat_lt
def bσ:=@List.length_replicate
def bτ:=@List.map_set
def dδ:=@Nat.sub_self
def bυ:=@Bool.and_false
def ic:=@List.take_left
def bφ:=@Option.bind_some
def bχ:=@List.range'_succ
def bψ:=@List.map_toArray
def cξ:=@List.take_append
def bω:=@List.getElem?_of_mem
def cα:=@World.cell?_of_block
def bκ:=@List.getElem_map
def dγ:=@List.mem_iff_getElem
def cβ:=@Nat.one_mul
def ie:=@List.take_succ_cons
def cε:=@List.range_succ
def bπ:=@Nat.not_lt_zero
def dθ:=@Nat.eq_zero_or_pos
def cζ:=@Int.zero_mul
def cη:=@Int.mul_nonneg
def cθ:=@List.getElem?_replicate
def cι:=@List.length_eq_zero_iff
def cκ:=@World.ownsRow_nil
def cμ:=@Nat.le_mul_of_pos_left
def ii:=@List.set_eq_take_append_cons_drop
def cν:=@Bool.and_true
def ik:=@Prod.ext
def cρ:=@Array.getElem?_toList
def cσ:=@List.length_filter_le
def cτ:=@List.eq_nil_iff_forall_not_mem
def cυ:=@Bool.true_or
def cχ:=@Int.mul_comm
def dβ:=@List.mem_of_mem_drop
def im:=@Bool.and_eq_true_iff
def dε:=@Int.mul_le_mul_of_nonneg_left
def dζ:=@Int.toNat_of_nonneg
def dη:=@List.countP_append
def dι:=@List.map_singleton
def io:=@List.take_length_add_append
def PH:=@Int.tmod_eq_emod_of_nonneg
def dν:=@List.size_toArray
def PP:=@List.flatMap_cons
def dπ:=@Classical.byContradiction
def dσ:=@List.drop_append
def dτ:=@List.any_eq_true
def dυ:=@List.eq_of_mem_replicate
def dφ:=@Nat.le_of_not_lt
def dχ:=@List.all_nil
def cπ:=@Nat.lt_succ_self
def ip:=@List.getElem_append_left
def dψ:=@Nat.le_mul_of_pos_right
def dω:=@Option.bind_eq_some_iff
def eα:=@List.pairwise_mergeSort
def iv:=@List.getElem?_cons_zero
def jn:=@List.getElem?_cons_succ
def cφ:=@Option.map_some
def eβ:=@List.find?_cons
def eγ:=@Int.add_mul
def eδ:=@Int.mul_pos
def js:=@List.getElem?_set_self
def eε:=@List.drop_drop
def eζ:=@Array.getElem?_append
def eη:=@not_or
def eθ:=@List.drop_take
def lA:=@List.eq_nil_or_concat
def lL:=@List.concat_eq_append
def ra:=@List.take_take
def eκ:=@List.countP_eq_length
def lO:=@List.drop_left
def eμ:=@Nat.not_le
def eξ:=@List.replicate_succ'
def lh:=@Nat.add_assoc
def li:=@List.cons.inj
def eυ:=@List.set_set
def lj:=@Int.add_zero
abbrev ba:=List UInt8
abbrev bc:=List Nat
abbrev bd:=List Int
variable{P:Prop}
def I(h:P:=by omega):P:=h
def N(h:P:=by first|rfl|simp<;>omega):P:=h
def C(h:P:=by decide):P:=h
def V(h:P:=by kernel_rfl):P:=h
def F(h:P:=by simp):P:=h
def W(h:P:=by first|rfl|exact decide_eq_true (by assumption)|exact decide_eq_false (by assumption)|simp[*]):P:=h
def Z(h:P:=by intro h;cases h):P:=h
