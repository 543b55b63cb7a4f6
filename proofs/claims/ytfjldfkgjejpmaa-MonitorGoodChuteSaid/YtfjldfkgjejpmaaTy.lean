/-
  Facts on the types of this translation.
-/
import Derived.Test.YtfjldfkgjejpmaaFr
import Derived.Test.YtfjldfkgjejpmaaProg
namespace Go.Proofs.Ytfjldfkgjejpmaa
open Go.Ab
theorem follows : Try.prog.follows .mixedOrders = true := by kernel_rfl
theorem ai112 : ApI Try.prog 112 111 2 16 := ⟨Try.underlying112, ⟨Try.t111, _, by kernel_rfl, rfl, rfl, rfl, rfl⟩, by decide, ⟨Try.sizeOf111, _, Try.zeroValue111, rfl⟩⟩
theorem ai152 : ApI Try.prog 152 23 1 24 := ⟨Try.underlying152, ⟨Try.t23, _, by kernel_rfl, rfl, rfl, rfl, rfl⟩, by decide, ⟨Try.sizeOf23, _, Try.zeroValue23, rfl⟩⟩
theorem ai155 : ApI Try.prog 155 25 1 8 := ⟨Try.underlying155, ⟨Try.t25, _, by kernel_rfl, rfl, rfl, rfl, rfl⟩, by decide, ⟨Try.sizeOf25, _, Try.zeroValue25, rfl⟩⟩
theorem ai22 : ApI Try.prog 22 108 3 24 := ⟨Try.underlying22, ⟨Try.t108, _, by kernel_rfl, rfl, rfl, rfl, rfl⟩, by decide, ⟨Try.sizeOf108, _, Try.zeroValue108, rfl⟩⟩
theorem ai23 : ApI Try.prog 23 3 1 8 := ⟨Try.underlying23, ⟨Try.t3, _, by kernel_rfl, rfl, rfl, rfl, rfl⟩, by decide, ⟨Try.sizeOf3, _, Try.zeroValue3, rfl⟩⟩
theorem ai40 : ApI Try.prog 40 124 2 16 := ⟨Try.underlying40, ⟨Try.t124, _, by kernel_rfl, rfl, rfl, rfl, rfl⟩, by decide, ⟨Try.sizeOf124, _, Try.zeroValue124, rfl⟩⟩
theorem ai51 : ApI Try.prog 51 9 1 16 := ⟨Try.underlying51, ⟨Try.t9, _, by kernel_rfl, rfl, rfl, rfl, rfl⟩, by decide, ⟨Try.sizeOf9, _, Try.zeroValue9, rfl⟩⟩
theorem ai54 : ApI Try.prog 54 127 2 32 := ⟨Try.underlying54, ⟨Try.t127, _, by kernel_rfl, rfl, rfl, rfl, rfl⟩, by decide, ⟨Try.sizeOf127, _, Try.zeroValue127, rfl⟩⟩
theorem ai71 : ApI Try.prog 71 89 2 16 := ⟨Try.underlying71, ⟨Try.t89, _, by kernel_rfl, rfl, rfl, rfl, rfl⟩, by decide, ⟨Try.sizeOf89, _, Try.zeroValue89, rfl⟩⟩
theorem ai91 : ApI Try.prog 91 112 1 24 := ⟨Try.underlying91, ⟨Try.t112, _, by kernel_rfl, rfl, rfl, rfl, rfl⟩, by decide, ⟨Try.sizeOf112, _, Try.zeroValue112, rfl⟩⟩
theorem ai97 : ApI Try.prog 97 56 1 24 := ⟨Try.underlying97, ⟨Try.t56, _, by kernel_rfl, rfl, rfl, rfl, rfl⟩, by decide, ⟨Try.sizeOf56, _, Try.zeroValue56, rfl⟩⟩
theorem ai99 : ApI Try.prog 99 115 3 24 := ⟨Try.underlying99, ⟨Try.t115, _, by kernel_rfl, rfl, rfl, rfl, rfl⟩, by decide, ⟨Try.sizeOf115, _, Try.zeroValue115, rfl⟩⟩
theorem bu104 : BuI Try.prog 104 [.int .i64 (0), .int .i64 (0)] (fun i => ([(0, 1), (1, 1)] : List (Nat × Nat)).toArray[i]?) := ⟨by intro parts; kernel_rfl⟩
theorem bu108 : BuI Try.prog 108 [.int .i64 (0), .int .i64 (0), .int .i64 (0)] (fun i => ([(0, 1), (1, 1), (2, 1)] : List (Nat × Nat)).toArray[i]?) := ⟨by intro parts; kernel_rfl⟩
theorem bu111 : BuI Try.prog 111 [.int .i64 (0), .int .i64 (0)] (fun i => ([(0, 1), (1, 1)] : List (Nat × Nat)).toArray[i]?) := ⟨by intro parts; kernel_rfl⟩
theorem bu115 : BuI Try.prog 115 [.int .i64 (0), .int .i64 (0), .int .i64 (0)] (fun i => ([(0, 1), (1, 1), (2, 1)] : List (Nat × Nat)).toArray[i]?) := ⟨by intro parts; kernel_rfl⟩
theorem bu124 : BuI Try.prog 124 [.int .i64 (0), .int .i64 (0)] (fun i => some (i * 1, 1)) := ⟨by intro parts; kernel_rfl⟩
theorem bu127 : BuI Try.prog 127 [.bool false, .slice none 0 0] (fun i => ([(0, 1), (1, 1)] : List (Nat × Nat)).toArray[i]?) := ⟨by intro parts; kernel_rfl⟩
theorem bu129 : BuI Try.prog 129 [.slice none 0 0, .int .i64 (0)] (fun i => ([(0, 2)] : List (Nat × Nat)).toArray[i]?) := ⟨by intro parts; kernel_rfl⟩
theorem bu142 : BuI Try.prog 142 [.map none, .int .i64 (0), .int .i64 (0)] (fun i => ([(0, 1), (1, 1), (2, 1)] : List (Nat × Nat)).toArray[i]?) := ⟨by intro parts; kernel_rfl⟩
theorem bu169 : BuI Try.prog 169 [.bool false, .bool false, .bool false] (fun i => ([(0, 1), (1, 1), (2, 1)] : List (Nat × Nat)).toArray[i]?) := ⟨by intro parts; kernel_rfl⟩
theorem bu39 : BuI Try.prog 39 [.int .i64 (0), .int .i64 (0), .int .i64 (0)] (fun i => ([(0, 1), (1, 1), (2, 1)] : List (Nat × Nat)).toArray[i]?) := ⟨by intro parts; kernel_rfl⟩
theorem bu53 : BuI Try.prog 53 [.slice none 0 0, .int .i64 (0)] (fun i => ([(0, 1), (1, 1)] : List (Nat × Nat)).toArray[i]?) := ⟨by intro parts; kernel_rfl⟩
theorem bu73 : BuI Try.prog 73 [.int .i64 (0), .int .i64 (0), .int .i64 (0)] (fun i => ([(0, 1), (1, 1), (2, 1)] : List (Nat × Nat)).toArray[i]?) := ⟨by intro parts; kernel_rfl⟩
theorem bu93 : BuI Try.prog 93 [.int .i64 (0), .int .i64 (0), .slice none 0 0] (fun i => ([(0, 1), (1, 1), (2, 1)] : List (Nat × Nat)).toArray[i]?) := ⟨by intro parts; kernel_rfl⟩
theorem eq104 : EqI Try.prog 104 2 := EqI.mk_struct (T := 3) (by kernel_rfl) Try.underlying104 (by kernel_rfl) (by kernel_rfl) Try.underlying3 Try.isAgg3
theorem eq111 : EqI Try.prog 111 2 := EqI.mk_struct (T := 3) (by kernel_rfl) Try.underlying111 (by kernel_rfl) (by kernel_rfl) Try.underlying3 Try.isAgg3
theorem eq115 : EqI Try.prog 115 3 := EqI.mk_struct (T := 3) (by kernel_rfl) Try.underlying115 (by kernel_rfl) (by kernel_rfl) Try.underlying3 Try.isAgg3
theorem eq73 : EqI Try.prog 73 3 := EqI.mk_struct (T := 3) (by kernel_rfl) Try.underlying73 (by kernel_rfl) (by kernel_rfl) Try.underlying3 Try.isAgg3
theorem fi108_0 : FiI Try.prog 108 0 0 := ⟨_, _, _, Try.underlying108, rfl, rfl, by decide, Try.sizeOf3⟩
theorem fi108_1 : FiI Try.prog 108 1 1 := ⟨_, _, _, Try.underlying108, rfl, rfl, by decide, Try.sizeOf3⟩
theorem fi108_2 : FiI Try.prog 108 2 2 := ⟨_, _, _, Try.underlying108, rfl, rfl, by decide, Try.sizeOf3⟩
theorem fi111_0 : FiI Try.prog 111 0 0 := ⟨_, _, _, Try.underlying111, rfl, rfl, by decide, Try.sizeOf3⟩
theorem fi111_1 : FiI Try.prog 111 1 1 := ⟨_, _, _, Try.underlying111, rfl, rfl, by decide, Try.sizeOf3⟩
theorem fi127_0 : FiI Try.prog 127 0 0 := ⟨_, _, _, Try.underlying127, rfl, rfl, by decide, Try.sizeOf4⟩
theorem fi127_1 : FiI Try.prog 127 1 1 := ⟨_, _, _, Try.underlying127, rfl, rfl, by decide, Try.sizeOf23⟩
theorem fi129_0 : FiI Try.prog 129 0 0 := ⟨_, _, _, Try.underlying129, rfl, rfl, by decide, Try.sizeOf53⟩
theorem fi142_0 : FiI Try.prog 142 0 0 := ⟨_, _, _, Try.underlying142, rfl, rfl, by decide, Try.sizeOf140⟩
theorem fi142_1 : FiI Try.prog 142 1 1 := ⟨_, _, _, Try.underlying142, rfl, rfl, by decide, Try.sizeOf3⟩
theorem fi142_2 : FiI Try.prog 142 2 2 := ⟨_, _, _, Try.underlying142, rfl, rfl, by decide, Try.sizeOf3⟩
theorem fi169_0 : FiI Try.prog 169 0 0 := ⟨_, _, _, Try.underlying169, rfl, rfl, by decide, Try.sizeOf4⟩
theorem fi169_1 : FiI Try.prog 169 1 1 := ⟨_, _, _, Try.underlying169, rfl, rfl, by decide, Try.sizeOf4⟩
theorem fi169_2 : FiI Try.prog 169 2 2 := ⟨_, _, _, Try.underlying169, rfl, rfl, by decide, Try.sizeOf4⟩
theorem fi39_0 : FiI Try.prog 39 0 0 := ⟨_, _, _, Try.underlying39, rfl, rfl, by decide, Try.sizeOf3⟩
theorem fi39_1 : FiI Try.prog 39 1 1 := ⟨_, _, _, Try.underlying39, rfl, rfl, by decide, Try.sizeOf3⟩
theorem fi39_2 : FiI Try.prog 39 2 2 := ⟨_, _, _, Try.underlying39, rfl, rfl, by decide, Try.sizeOf3⟩
theorem fi53_0 : FiI Try.prog 53 0 0 := ⟨_, _, _, Try.underlying53, rfl, rfl, by decide, Try.sizeOf51⟩
theorem fi53_1 : FiI Try.prog 53 1 1 := ⟨_, _, _, Try.underlying53, rfl, rfl, by decide, Try.sizeOf3⟩
theorem fi56_0 : FiI Try.prog 56 0 0 := ⟨_, _, _, Try.underlying56, rfl, rfl, by decide, Try.sizeOf54⟩
theorem fi73_0 : FiI Try.prog 73 0 0 := ⟨_, _, _, Try.underlying73, rfl, rfl, by decide, Try.sizeOf3⟩
theorem fi73_1 : FiI Try.prog 73 1 1 := ⟨_, _, _, Try.underlying73, rfl, rfl, by decide, Try.sizeOf3⟩
theorem fi73_2 : FiI Try.prog 73 2 2 := ⟨_, _, _, Try.underlying73, rfl, rfl, by decide, Try.sizeOf3⟩
theorem fi84_0 : FiI Try.prog 84 0 0 := ⟨_, _, _, Try.underlying84, rfl, rfl, by decide, Try.sizeOf4⟩
theorem fi84_1 : FiI Try.prog 84 1 1 := ⟨_, _, _, Try.underlying84, rfl, rfl, by decide, Try.sizeOf4⟩
theorem fi84_2 : FiI Try.prog 84 2 2 := ⟨_, _, _, Try.underlying84, rfl, rfl, by decide, Try.sizeOf4⟩
theorem fi84_3 : FiI Try.prog 84 3 3 := ⟨_, _, _, Try.underlying84, rfl, rfl, by decide, Try.sizeOf3⟩
theorem fi89_0 : FiI Try.prog 89 0 0 := ⟨_, _, _, Try.underlying89, rfl, rfl, by decide, Try.sizeOf3⟩
theorem fi89_1 : FiI Try.prog 89 1 1 := ⟨_, _, _, Try.underlying89, rfl, rfl, by decide, Try.sizeOf3⟩
theorem fi93_0 : FiI Try.prog 93 0 0 := ⟨_, _, _, Try.underlying93, rfl, rfl, by decide, Try.sizeOf3⟩
theorem fi93_1 : FiI Try.prog 93 1 1 := ⟨_, _, _, Try.underlying93, rfl, rfl, by decide, Try.sizeOf3⟩
theorem fi93_2 : FiI Try.prog 93 2 2 := ⟨_, _, _, Try.underlying93, rfl, rfl, by decide, Try.sizeOf91⟩
theorem si112 : SlI Try.prog 112 111 2 := ⟨Try.underlying112, Try.sizeOf111⟩
theorem si152 : SlI Try.prog 152 23 1 := ⟨Try.underlying152, Try.sizeOf23⟩
theorem si155 : SlI Try.prog 155 25 1 := ⟨Try.underlying155, Try.sizeOf25⟩
theorem si201 : SlI Try.prog 201 5 1 := ⟨Try.underlying201, Try.sizeOf5⟩
theorem si22 : SlI Try.prog 22 108 3 := ⟨Try.underlying22, Try.sizeOf108⟩
theorem si23 : SlI Try.prog 23 3 1 := ⟨Try.underlying23, Try.sizeOf3⟩
theorem si40 : SlI Try.prog 40 124 2 := ⟨Try.underlying40, Try.sizeOf124⟩
theorem si51 : SlI Try.prog 51 9 1 := ⟨Try.underlying51, Try.sizeOf9⟩
theorem si54 : SlI Try.prog 54 127 2 := ⟨Try.underlying54, Try.sizeOf127⟩
theorem si71 : SlI Try.prog 71 89 2 := ⟨Try.underlying71, Try.sizeOf89⟩
theorem si91 : SlI Try.prog 91 112 1 := ⟨Try.underlying91, Try.sizeOf112⟩
theorem si97 : SlI Try.prog 97 56 1 := ⟨Try.underlying97, Try.sizeOf56⟩
theorem si99 : SlI Try.prog 99 115 3 := ⟨Try.underlying99, Try.sizeOf115⟩
theorem str9 : StrI Try.prog 9 := ⟨Try.underlying9⟩
theorem ti104 : TyI Try.prog 104 true 2 := ⟨Try.isAgg104, Try.sizeOf104⟩
theorem ti108 : TyI Try.prog 108 true 3 := ⟨Try.isAgg108, Try.sizeOf108⟩
theorem ti111 : TyI Try.prog 111 true 2 := ⟨Try.isAgg111, Try.sizeOf111⟩
theorem ti112 : TyI Try.prog 112 false 1 := ⟨Try.isAgg112, Try.sizeOf112⟩
theorem ti115 : TyI Try.prog 115 true 3 := ⟨Try.isAgg115, Try.sizeOf115⟩
theorem ti124 : TyI Try.prog 124 true 2 := ⟨Try.isAgg124, Try.sizeOf124⟩
theorem ti127 : TyI Try.prog 127 true 2 := ⟨Try.isAgg127, Try.sizeOf127⟩
theorem ti129 : TyI Try.prog 129 true 2 := ⟨Try.isAgg129, Try.sizeOf129⟩
theorem ti140 : TyI Try.prog 140 false 1 := ⟨Try.isAgg140, Try.sizeOf140⟩
theorem ti169 : TyI Try.prog 169 true 3 := ⟨Try.isAgg169, Try.sizeOf169⟩
theorem ti23 : TyI Try.prog 23 false 1 := ⟨Try.isAgg23, Try.sizeOf23⟩
theorem ti25 : TyI Try.prog 25 false 1 := ⟨Try.isAgg25, Try.sizeOf25⟩
theorem ti3 : TyI Try.prog 3 false 1 := ⟨Try.isAgg3, Try.sizeOf3⟩
theorem ti39 : TyI Try.prog 39 true 3 := ⟨Try.isAgg39, Try.sizeOf39⟩
theorem ti4 : TyI Try.prog 4 false 1 := ⟨Try.isAgg4, Try.sizeOf4⟩
theorem ti5 : TyI Try.prog 5 false 1 := ⟨Try.isAgg5, Try.sizeOf5⟩
theorem ti51 : TyI Try.prog 51 false 1 := ⟨Try.isAgg51, Try.sizeOf51⟩
theorem ti53 : TyI Try.prog 53 true 2 := ⟨Try.isAgg53, Try.sizeOf53⟩
theorem ti54 : TyI Try.prog 54 false 1 := ⟨Try.isAgg54, Try.sizeOf54⟩
theorem ti56 : TyI Try.prog 56 true 1 := ⟨Try.isAgg56, Try.sizeOf56⟩
theorem ti73 : TyI Try.prog 73 true 3 := ⟨Try.isAgg73, Try.sizeOf73⟩
theorem ti84 : TyI Try.prog 84 true 4 := ⟨Try.isAgg84, Try.sizeOf84⟩
theorem ti89 : TyI Try.prog 89 true 2 := ⟨Try.isAgg89, Try.sizeOf89⟩
theorem ti9 : TyI Try.prog 9 false 1 := ⟨Try.isAgg9, Try.sizeOf9⟩
theorem ti91 : TyI Try.prog 91 false 1 := ⟨Try.isAgg91, Try.sizeOf91⟩
theorem ti93 : TyI Try.prog 93 true 3 := ⟨Try.isAgg93, Try.sizeOf93⟩
theorem ti99 : TyI Try.prog 99 false 1 := ⟨Try.isAgg99, Try.sizeOf99⟩
theorem ze104 : ZeI Try.prog 104 [.int .i64 (0), .int .i64 (0)] := ⟨_, Try.zeroValue104, rfl, rfl⟩
theorem ze108 : ZeI Try.prog 108 [.int .i64 (0), .int .i64 (0), .int .i64 (0)] := ⟨_, Try.zeroValue108, rfl, rfl⟩
theorem ze111 : ZeI Try.prog 111 [.int .i64 (0), .int .i64 (0)] := ⟨_, Try.zeroValue111, rfl, rfl⟩
theorem ze115 : ZeI Try.prog 115 [.int .i64 (0), .int .i64 (0), .int .i64 (0)] := ⟨_, Try.zeroValue115, rfl, rfl⟩
theorem ze124 : ZeI Try.prog 124 [.int .i64 (0), .int .i64 (0)] := ⟨_, Try.zeroValue124, rfl, rfl⟩
theorem ze127 : ZeI Try.prog 127 [.bool false, .nils] := ⟨_, Try.zeroValue127, rfl, rfl⟩
theorem ze129 : ZeI Try.prog 129 [.nils, .int .i64 (0)] := ⟨_, Try.zeroValue129, rfl, rfl⟩
theorem ze53 : ZeI Try.prog 53 [.nils, .int .i64 (0)] := ⟨_, Try.zeroValue53, rfl, rfl⟩
theorem ze56 : ZeI Try.prog 56 [.nils] := ⟨_, Try.zeroValue56, rfl, rfl⟩
theorem ze73 : ZeI Try.prog 73 [.int .i64 (0), .int .i64 (0), .int .i64 (0)] := ⟨_, Try.zeroValue73, rfl, rfl⟩
theorem ze84 : ZeI Try.prog 84 [.bool false, .bool false, .bool false, .int .i64 (0)] := ⟨_, Try.zeroValue84, rfl, rfl⟩
theorem ze89 : ZeI Try.prog 89 [.int .i64 (0), .int .i64 (0)] := ⟨_, Try.zeroValue89, rfl, rfl⟩
theorem ze93 : ZeI Try.prog 93 [.int .i64 (0), .int .i64 (0), .nils] := ⟨_, Try.zeroValue93, rfl, rfl⟩
end Go.Proofs.Ytfjldfkgjejpmaa
