import Derived.Test.YtpfepjgnojfppaaGreatDoorGh
import Derived.Test.YtpfepjgnojfppaaGreatDoorKo
import Derived.Test.YtpfepjgnojfppaaGreatDoorTz
namespace Go.Proofs.YtpfepjgnojfppaaGreatDoor
open Go.Ab
abbrev Q := List Basket × Option (List Share) × Int
def fS (s : Share) : Bool := decide (s.lot.length ≤ 30)
def fB (b : Basket) : Bool := decide (b.shares.length ≤ 10) && b.shares.all fS
def fewB (l : List Basket) : Bool := decide (l.length ≤ 65) && l.all fB
theorem fB_T {b : Basket} {k : Nat} (h1 : b.shares.length ≤ 10) (hg : b.shares.all fS = (b.shares.drop k).all fS) (hk : k = b.shares.length) : fB b = true := by unfold fB; rw [decide_eq_true h1, hg, hk, List.drop_length]; rfl
theorem fB_10 {b : Basket} (h : ¬ b.shares.length ≤ 10) : fB b = false := by unfold fB; rw [decide_eq_false h]; rfl
theorem fB_30 {b : Basket} {k : Nat} (hk : k < b.shares.length) (hg : b.shares.all fS = (b.shares.drop k).all fS) (h : ¬ b.shares[k].lot.length ≤ 30) : fB b = false := by
  unfold fB
  rw [hg, all_dropG _ hk, show fS b.shares[k] = false from decide_eq_false h]
  simp
theorem fewB_at {l : List Basket} {i : Nat} (hg : l.all fB = (l.drop i).all fB) (hi : i < l.length) (h : fB l[i] = false) : false = fewB l := by unfold fewB; rw [hg, all_dropG _ hi, h, Bool.false_and, Bool.and_false]
theorem fewB_end {l : List Basket} {i : Nat} (h65 : l.length ≤ 65) (hg : l.all fB = (l.drop i).all fB) (hi : i = l.length) : true = fewB l := by unfold fewB; rw [hg, hi, List.drop_length, decide_eq_true h65]; rfl
theorem share_pneq {x y : Share} : (!plEq [.s x.lot, .i x.parts] [.s y.lot, .i y.parts]) = decide (x ≠ y) := by
  cases x
  cases y
  simp [plEq, Pl.eq, Share.mk.injEq]
theorem same_len {a b : List Basket} (h : a.length ≠ b.length) : false = decide (a = b) := (decide_eq_false fun e => h (by rw [e])).symm
theorem same_at {a b : List Basket} {i : Nat} (h1 : i < a.length) (h2 : i < b.length) (h : a[i] ≠ b[i]) : false = decide (a = b) := (decide_eq_false fun e => h (by subst e; rfl)).symm
theorem same_at2 {x y : Basket} {k : Nat} (h1 : k < x.shares.length) (h2 : k < y.shares.length) (h : x.shares[k] ≠ y.shares[k]) : x ≠ y := fun e => h (by subst e; rfl)
theorem same_row {x y : Basket} (hl : x.shares.length = y.shares.length) (h : ∀ (k : Nat) (h1 : k < x.shares.length) (h2 : k < y.shares.length), x.shares[k] = y.shares[k]) : x = y := by
  cases x
  cases y
  simp only [Basket.mk.injEq]
  exact List.ext_getElem hl h
theorem same_end {a b : List Basket} (hl : a.length = b.length) (h : ∀ (k : Nat) (h1 : k < a.length) (h2 : k < b.length), a[k] = b[k]) : true = decide (a = b) := (decide_eq_true (List.ext_getElem hl h)).symm
theorem law9_fewBaskets {l : List Basket} : Ct Tryz.prog 30 [.sl (l.map Basket.cs)] (.bool (fewB l)) := by
 refine Ct.intro (rs := [.tmp 2]) Tryz.func30 rfl Tryz.ntmps30 Tryz.results30 rfl rfl rfl fun w h => ?_
 refine OK.slLen (rows := l.map Basket.cs) (t := 0) rfl rfl fun hlen => ?_
 rw [List.length_map] at hlen
 unfold maxLen at hlen
 refine OK.seq (OK.reg ?_)
 refine RK.c (S.assign .none rfl .cbool) ?_
 refine RK.nil (Ab.D.code (OK.seq (OK.seq (OK.reg ?_))))
 refine RK.c (S.move .none rfl (.tmp rfl rfl)) ?_
 refine RK.c (S.lenM si50 .none rfl (.tmp rfl rfl)) ?_
 refine RK.c (S.gtr .none rfl (.tmp rfl rfl) (.cint rfl)) ?_
 refine RK.nil (Ab.D.code ?_)
 refine OK.condD rfl rfl (fun c7 => ?_) (fun c7 => ?_)
 ·
  refine OK.seq (OK.reg ?_)
  refine RK.c (S.assign .none rfl .cbool) ?_
  refine RK.nil (Ab.D.code ?_)
  refine OK.ret (Ret.r1 (.tmp rfl rfl (.c (.same rfl) rfl) rfl) ?_)
  refine ret_b ?_
  unfold fewB
  rw [decide_eq_false (by omega)]
  rfl
 ·
  refine OK.skip ?_
  refine Ab.D.code (OK.seq (OK.seq (OK.reg ?_)))
  refine RK.c (S.assign .none rfl (.cint rfl)) ?_
  refine RK.nil (Ab.D.code ?_)
  refine OK.block ?_
  refine OK.loop (G := Nat) [] (fun i => [(0, .sl (l.map Basket.cs)), (3, .int .i64 i)]) (fun i => i ≤ l.length ∧ l.all fB = (l.drop i).all fB) (fun i => l.length - i) 0 ⟨Nat.zero_le _, rfl⟩ ⟨rfl, rfl, trivial⟩ (fun _ => rfl) ?_
  rintro i ⟨hi, hg⟩
  refine OK.seq (OK.seq (OK.reg ?_))
  refine RK.c (S.move .none rfl (.tmp rfl rfl)) ?_
  refine RK.c (S.move .none rfl (.tmp rfl rfl)) ?_
  refine RK.c (S.lenM si50 .none rfl (.tmp rfl rfl)) ?_
  refine RK.c (S.lss .none rfl (.tmp rfl rfl) (.tmp rfl rfl)) ?_
  refine RK.nil (Ab.D.code ?_)
  refine OK.condD rfl rfl (fun c11 => ?_) (fun c11 => ?_)
  ·
   refine OK.skip ?_
   refine Ab.D.code ?_
   refine OK.seq ?_
   refine OK.block ?_
   refine OK.seq (OK.seq (OK.reg ?_))
   refine RK.c (S.move .none rfl (.tmp rfl rfl)) ?_
   refine RK.c (S.move .none rfl (.tmp rfl rfl)) ?_
   refine RK.c (S.indexM (n := i) si50 .none rfl (.tmp rfl rfl) (.tmp rfl rfl) rfl (by omega) rfl) ?_
   refine RK.c (S.field fi71_0 .none rfl (.tmp rfl rfl) rfl) ?_
   refine RK.c (S.load1 ti69 .none rfl (.tmp rfl rfl) rfl) ?_
   refine RK.c (S.lenM si69 .none rfl (.tmp rfl rfl)) ?_
   refine RK.c (S.gtr .none rfl (.tmp rfl rfl) (.cint rfl)) ?_
   refine RK.nil (Ab.D.code ?_)
   refine OK.condD rfl rfl (fun c20 => ?_) (fun c20 => ?_)
   ·
    refine OK.seq (OK.reg ?_)
    refine RK.c (S.assign .none rfl .cbool) ?_
    refine RK.nil (Ab.D.code ?_)
    refine OK.ret (Ret.r1 (.tmp rfl rfl (.c (.same rfl) rfl) rfl) ?_)
    exact ret_b (fewB_at hg (by omega) (fB_10 (by omega)))
   ·
    refine OK.skip ?_
    refine Ab.D.code (OK.seq (OK.reg ?_))
    refine RK.c (S.assign .none rfl (.cint rfl)) ?_
    refine RK.nil (Ab.D.code ?_)
    refine OK.block ?_
    refine OK.loop (G := Nat) [] (fun k => [(0, .sl (l.map Basket.cs)), (3, .int .i64 i), (4, .int .i64 k)]) (fun k => k ≤ l[i].shares.length ∧ l[i].shares.all fS = (l[i].shares.drop k).all fS) (fun k => l[i].shares.length - k) 0 ⟨Nat.zero_le _, rfl⟩ ⟨rfl, rfl, rfl, trivial⟩ (fun _ => rfl) ?_
    rintro k ⟨hk, hg2⟩
    refine OK.seq (OK.seq (OK.reg ?_))
    refine RK.c (S.move .none rfl (.tmp rfl rfl)) ?_
    refine RK.c (S.move .none rfl (.tmp rfl rfl)) ?_
    refine RK.c (S.move .none rfl (.tmp rfl rfl)) ?_
    refine RK.c (S.indexM (n := i) si50 .none rfl (.tmp rfl rfl) (.tmp rfl rfl) rfl (by omega) rfl) ?_
    refine RK.c (S.field fi71_0 .none rfl (.tmp rfl rfl) rfl) ?_
    refine RK.c (S.load1 ti69 .none rfl (.tmp rfl rfl) rfl) ?_
    refine RK.c (S.lenM si69 .none rfl (.tmp rfl rfl)) ?_
    refine RK.c (S.lss .none rfl (.tmp rfl rfl) (.tmp rfl rfl)) ?_
    refine RK.nil (Ab.D.code ?_)
    refine OK.condD rfl rfl (fun c28 => ?_) (fun c28 => ?_)
    ·
     refine OK.skip ?_
     refine Ab.D.code ?_
     refine OK.seq ?_
     refine OK.block ?_
     refine OK.seq (OK.reg ?_)
     refine RK.c (S.move .none rfl (.tmp rfl rfl)) ?_
     refine RK.c (S.move .none rfl (.tmp rfl rfl)) ?_
     refine RK.c (S.indexM (n := i) si50 .none rfl (.tmp rfl rfl) (.tmp rfl rfl) rfl (by omega) rfl) ?_
     refine RK.c (S.field fi71_0 .none rfl (.tmp rfl rfl) rfl) ?_
     refine RK.c (S.load1 ti69 .none rfl (.tmp rfl rfl) rfl) ?_
     refine RK.c (S.move .none rfl (.tmp rfl rfl)) ?_
     refine RK.c (S.indexM (n := k) si69 .none rfl (.tmp rfl rfl) (.tmp rfl rfl) rfl (by omega) rfl) ?_
     refine RK.c (S.field fi73_0 .none rfl (.tmp rfl rfl) rfl) ?_
     refine RK.c (S.load1 ti9 .none rfl (.tmp rfl rfl) rfl) ?_
     refine RK.c (S.slen Tryz.underlying9 .none rfl (.tmp rfl rfl)) ?_
     refine RK.c (S.gtr .none rfl (.tmp rfl rfl) (.cint rfl)) ?_
     refine RK.nil (Ab.D.code ?_)
     refine OK.condD rfl rfl (fun c41 => ?_) (fun c41 => ?_)
     ·
      refine OK.seq (OK.reg ?_)
      refine RK.c (S.assign .none rfl .cbool) ?_
      refine RK.nil (Ab.D.code ?_)
      refine OK.ret (Ret.r1 (.tmp rfl rfl (.c (.same rfl) rfl) rfl) ?_)
      exact ret_b (fewB_at hg (by omega) (fB_30 (k := k) (by omega) hg2 (by omega)))
     ·
      refine OK.skip ?_
      refine Ab.D.blk ?_
      refine Ab.D.code (OK.reg ?_)
      refine RK.c (S.move .none rfl (.tmp rfl rfl)) ?_
      refine RK.c (S.add .none rfl (.tmp rfl rfl) (.cint rfl) (IntWalk.i64_in _ (by omega)) (IntWalk.i64_in _ (by omega))) ?_
      refine RK.c (S.assign .none rfl (.tmp rfl rfl)) ?_
      refine RK.nil ?_
      refine Ab.D.lp ⟨k + 1, ⟨by omega, ?_⟩, (by omega), rfl, rfl, rfl, trivial⟩
      rw [hg2, all_dropG _ (by omega), show fS l[i].shares[k] = true from decide_eq_true (by omega), Bool.true_and]
    ·
     refine OK.exit rfl ?_
     refine Ab.D.blk ?_
     refine Ab.D.code (OK.reg ?_)
     refine RK.c (S.move .none rfl (.tmp rfl rfl)) ?_
     refine RK.c (S.add .none rfl (.tmp rfl rfl) (.cint rfl) (IntWalk.i64_in _ (by omega)) (IntWalk.i64_in _ (by omega))) ?_
     refine RK.c (S.assign .none rfl (.tmp rfl rfl)) ?_
     refine RK.nil ?_
     refine Ab.D.lp ⟨i + 1, ⟨by omega, ?_⟩, (by omega), rfl, rfl, trivial⟩
     rw [hg, all_dropG _ (by omega), fB_T (by omega) hg2 (by omega), Bool.true_and]
  ·
   refine OK.exit rfl ?_
   refine Ab.D.code (OK.seq (OK.reg ?_))
   refine RK.c (S.assign .none rfl .cbool) ?_
   refine RK.nil (Ab.D.code ?_)
   refine OK.ret (Ret.r1 (.tmp rfl rfl (.c (.same rfl) rfl) rfl) ?_)
   exact ret_b (fewB_end (by omega) hg (by omega))
theorem ref9_SameBaskets {a b : List Basket} (hal : a.length ≤ 100000) (hai : ∀ x ∈ a, x.shares.length ≤ 100000) : Ct Tryz.prog 39 [.sl (a.map Basket.cs), .sl (b.map Basket.cs)] (.bool (decide (a = b))) := by
 refine Ct.intro (rs := [.tmp 4]) Tryz.func39 rfl Tryz.ntmps39 Tryz.results39 rfl rfl rfl fun w h => ?_
 refine OK.seq (OK.reg ?_)
 refine RK.c (S.assign .none rfl .cbool) ?_
 refine RK.nil (Ab.D.code (OK.seq (OK.seq (OK.reg ?_))))
 refine RK.c (S.move .none rfl (.tmp rfl rfl)) ?_
 refine RK.c (S.lenM si50 .none rfl (.tmp rfl rfl)) ?_
 refine RK.c (S.move .none rfl (.tmp rfl rfl)) ?_
 refine RK.c (S.lenM si50 .none rfl (.tmp rfl rfl)) ?_
 refine RK.c (S.neq .none rfl (.tmp rfl rfl) (.tmp rfl rfl)) ?_
 refine RK.nil (Ab.D.code ?_)
 refine OK.condD rfl rfl (fun c11 => ?_) (fun c11 => ?_)
 ·
  refine OK.seq (OK.reg ?_)
  refine RK.c (S.assign .none rfl .cbool) ?_
  refine RK.nil (Ab.D.code ?_)
  refine OK.ret (Ret.r1 (.tmp rfl rfl (.c (.same rfl) rfl) rfl) ?_)
  exact ret_b (same_len (by omega))
 ·
  have hll : a.length = b.length := by omega
  refine OK.skip ?_
  refine Ab.D.code (OK.seq (OK.seq (OK.reg ?_)))
  refine RK.c (S.assign .none rfl (.cint rfl)) ?_
  refine RK.nil (Ab.D.code ?_)
  refine OK.block ?_
  refine OK.loop (G := Nat) [] (fun i => [(0, .sl (a.map Basket.cs)), (1, .sl (b.map Basket.cs)), (5, .int .i64 i)]) (fun i => i ≤ a.length ∧ ∀ (m : Nat) (h1 : m < a.length) (h2 : m < b.length), m < i → a[m] = b[m]) (fun i => a.length - i) 0 ⟨Nat.zero_le _, fun m _ _ h => absurd h (by omega)⟩ ⟨rfl, rfl, rfl, trivial⟩ (fun _ => rfl) ?_
  rintro i ⟨hi, hg⟩
  refine OK.seq (OK.seq (OK.reg ?_))
  refine RK.c (S.move .none rfl (.tmp rfl rfl)) ?_
  refine RK.c (S.move .none rfl (.tmp rfl rfl)) ?_
  refine RK.c (S.lenM si50 .none rfl (.tmp rfl rfl)) ?_
  refine RK.c (S.lss .none rfl (.tmp rfl rfl) (.tmp rfl rfl)) ?_
  refine RK.nil (Ab.D.code ?_)
  refine OK.condD rfl rfl (fun c15 => ?_) (fun c15 => ?_)
  ·
   have hia : i < a.length := by omega
   have hib : i < b.length := by omega
   have hli := hai _ (List.getElem_mem hia)
   refine OK.skip ?_
   refine Ab.D.code ?_
   refine OK.seq ?_
   refine OK.block ?_
   refine OK.seq ?_
   refine OK.seq ?_
   refine OK.regionDraw follows (.c (S.move .none rfl (.tmp rfl rfl))
    (.c (S.move .none rfl (.tmp rfl rfl))
    (.c (S.indexM (n := i) si50 .none rfl (.tmp rfl rfl) (.tmp rfl rfl) rfl (by omega) rfl)
    (.c (S.field fi71_0 .none rfl (.tmp rfl rfl) rfl)
    (.c (S.load1 ti69 .none rfl (.tmp rfl rfl) rfl)
    (.c (S.lenM si69 .none rfl (.tmp rfl rfl))
    (.c (S.move .none rfl (.tmp rfl rfl))
    (.c (S.move .none rfl (.tmp rfl rfl))
    (.c (S.indexM (n := i) si50 .none rfl (.tmp rfl rfl) (.tmp rfl rfl) rfl (by omega) rfl)
    (.c (S.field fi71_0 .none rfl (.tmp rfl rfl) rfl)
    (.c (S.load1 ti69 .none rfl (.tmp rfl rfl) rfl)
    (.c (S.lenM si69 .none rfl (.tmp rfl rfl))
    (.c (S.neq .none rfl (.tmp rfl rfl) (.tmp rfl rfl))
    .nil))))))))))))) (by kernel_rfl) ?_
   refine Ab.D.code ?_
   refine OK.condD rfl rfl (fun c30 => ?_) (fun c30 => ?_)
   ·
    refine OK.seq (OK.reg ?_)
    refine RK.c (S.assign .none rfl .cbool) ?_
    refine RK.nil (Ab.D.code ?_)
    refine OK.ret (Ret.r1 (.tmp rfl rfl (.c (.same rfl) rfl) rfl) ?_)
    exact ret_b (same_at hia hib fun e => c30 (by rw [e]))
   ·
    have hsl : a[i].shares.length = b[i].shares.length := by omega
    refine OK.skip ?_
    refine Ab.D.code (OK.seq (OK.reg ?_))
    refine RK.c (S.assign .none rfl (.cint rfl)) ?_
    refine RK.nil (Ab.D.code ?_)
    refine OK.block ?_
    refine OK.loop (G := Nat) [] (fun k => [(0, .sl (a.map Basket.cs)), (1, .sl (b.map Basket.cs)), (5, .int .i64 i), (6, .int .i64 k)]) (fun k => k ≤ a[i].shares.length ∧ ∀ (m : Nat) (h1 : m < a[i].shares.length) (h2 : m < b[i].shares.length), m < k → a[i].shares[m] = b[i].shares[m]) (fun k => a[i].shares.length - k) 0 ⟨Nat.zero_le _, fun m _ _ h => absurd h (by omega)⟩ ⟨rfl, rfl, rfl, rfl, trivial⟩ (fun _ => rfl) ?_
    rintro k ⟨hk, hg2⟩
    refine OK.seq (OK.seq (OK.reg ?_))
    refine RK.c (S.move .none rfl (.tmp rfl rfl)) ?_
    refine RK.c (S.move .none rfl (.tmp rfl rfl)) ?_
    refine RK.c (S.move .none rfl (.tmp rfl rfl)) ?_
    refine RK.c (S.indexM (n := i) si50 .none rfl (.tmp rfl rfl) (.tmp rfl rfl) rfl (by omega) rfl) ?_
    refine RK.c (S.field fi71_0 .none rfl (.tmp rfl rfl) rfl) ?_
    refine RK.c (S.load1 ti69 .none rfl (.tmp rfl rfl) rfl) ?_
    refine RK.c (S.lenM si69 .none rfl (.tmp rfl rfl)) ?_
    refine RK.c (S.lss .none rfl (.tmp rfl rfl) (.tmp rfl rfl)) ?_
    refine RK.nil (Ab.D.code ?_)
    refine OK.condD rfl rfl (fun c38 => ?_) (fun c38 => ?_)
    ·
     have hka : k < a[i].shares.length := by omega
     have hkb : k < b[i].shares.length := by omega
     refine OK.skip ?_
     refine Ab.D.code ?_
     refine OK.seq ?_
     refine OK.block ?_
     refine OK.seq ?_
     refine OK.regionDraw follows (.c (S.move .none rfl (.tmp rfl rfl))
      (.c (S.move .none rfl (.tmp rfl rfl))
      (.c (S.indexM (n := i) si50 .none rfl (.tmp rfl rfl) (.tmp rfl rfl) rfl (by omega) rfl)
      (.c (S.field fi71_0 .none rfl (.tmp rfl rfl) rfl)
      (.c (S.load1 ti69 .none rfl (.tmp rfl rfl) rfl)
      (.c (S.move .none rfl (.tmp rfl rfl))
      (.c (S.indexM (n := k) si69 .none rfl (.tmp rfl rfl) (.tmp rfl rfl) rfl (by omega) rfl)
      (.c (S.loadN ti73 .none rfl (.tmp rfl rfl) rfl rfl)
      (.c (S.move .none rfl (.tmp rfl rfl))
      (.c (S.move .none rfl (.tmp rfl rfl))
      (.c (S.indexM (n := i) si50 .none rfl (.tmp rfl rfl) (.tmp rfl rfl) rfl (by omega) rfl)
      (.c (S.field fi71_0 .none rfl (.tmp rfl rfl) rfl)
      (.c (S.load1 ti69 .none rfl (.tmp rfl rfl) rfl)
      (.c (S.move .none rfl (.tmp rfl rfl))
      (.c (S.indexM (n := k) si69 .none rfl (.tmp rfl rfl) (.tmp rfl rfl) rfl (by omega) rfl)
      (.c (S.loadN ti73 .none rfl (.tmp rfl rfl) rfl rfl)
      (.c (S.pneq (b := decide (a[i].shares[k] ≠ b[i].shares[k])) [.s [], .i 0] [.s a[i].shares[k].lot, .i a[i].shares[k].parts] [.s b[i].shares[k].lot, .i b[i].shares[k].parts] eqp73 .none rfl (.tmp rfl rfl) (.tmp rfl rfl) rfl rfl rfl rfl share_pneq)
      .nil))))))))))))))))) (by kernel_rfl) ?_
     refine Ab.D.code ?_
     refine OK.condD rfl rfl (fun c57 => ?_) (fun c57 => ?_)
     ·
      refine OK.seq (OK.reg ?_)
      refine RK.c (S.assign .none rfl .cbool) ?_
      refine RK.nil (Ab.D.code ?_)
      refine OK.ret (Ret.r1 (.tmp rfl rfl (.c (.same rfl) rfl) rfl) ?_)
      exact ret_b (same_at hia hib (same_at2 hka hkb c57))
     ·
      refine OK.skip ?_
      refine Ab.D.blk ?_
      refine Ab.D.code (OK.reg ?_)
      refine RK.c (S.move .none rfl (.tmp rfl rfl)) ?_
      refine RK.c (S.add .none rfl (.tmp rfl rfl) (.cint rfl) (IntWalk.i64_in _ (by omega)) (IntWalk.i64_in _ (by omega))) ?_
      refine RK.c (S.assign .none rfl (.tmp rfl rfl)) ?_
      refine RK.nil ?_
      refine Ab.D.lp ⟨k + 1, ⟨by omega, fun m h1 h2 h => by rcases Nat.lt_or_ge m k with q | q; exact hg2 m h1 h2 q; obtain rfl : m = k := (by omega); exact Decidable.not_not.1 c57⟩, (by omega), rfl, rfl, rfl, rfl, trivial⟩
    ·
     refine OK.exit rfl ?_
     refine Ab.D.blk ?_
     refine Ab.D.code (OK.reg ?_)
     refine RK.c (S.move .none rfl (.tmp rfl rfl)) ?_
     refine RK.c (S.add .none rfl (.tmp rfl rfl) (.cint rfl) (IntWalk.i64_in _ (by omega)) (IntWalk.i64_in _ (by omega))) ?_
     refine RK.c (S.assign .none rfl (.tmp rfl rfl)) ?_
     refine RK.nil ?_
     refine Ab.D.lp ⟨i + 1, ⟨by omega, fun m h1 h2 h => by rcases Nat.lt_or_ge m i with q | q; exact hg m h1 h2 q; obtain rfl : m = i := (by omega); exact same_row hsl fun n q1 q2 => hg2 n q1 q2 (by omega)⟩, (by omega), rfl, rfl, rfl, trivial⟩
  ·
   refine OK.exit rfl ?_
   refine Ab.D.code (OK.seq (OK.reg ?_))
   refine RK.c (S.assign .none rfl .cbool) ?_
   refine RK.nil (Ab.D.code ?_)
   refine OK.ret (Ret.r1 (.tmp rfl rfl (.c (.same rfl) rfl) rfl) ?_)
   exact ret_b (same_end hll fun k h1 h2 => hg k h1 h2 (by omega))
end Go.Proofs.YtpfepjgnojfppaaGreatDoor
