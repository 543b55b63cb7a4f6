import Derived.Test.YtpmglnphhhlbdaaGreatDoorFs
import Derived.Test.YtpmglnphhhlbdaaGreatDoorSh
import Derived.Test.YtpmglnphhhlbdaaGreatDoorWp
namespace Go.Proofs.YtpmglnphhhlbdaaGreatDoor
open Go.Ab
theorem sorted_asc (l : List Int) : (sorted l).Pairwise (fun x y => x ≤ y) := by
  have := List.pairwise_mergeSort (le := fun x y : Int => decide (x ≤ y)) (by intro a b c h1 h2; simp only [decide_eq_true_eq] at *; omega) (by intro a b; simp only [Bool.or_eq_true, decide_eq_true_eq]; omega) l
  exact this.imp (by simp)
def before (l : List Int) (x : Int) (i k : Nat) : Nat := (l.take k).countP (fun y => decide (y < x)) + ((l.take k).take i).countP fun y => decide (y = x)
structure LearnedX where
  records : List Record
  trim : Int
def LearnedX.cs (x : LearnedX) : List X := [.sl (x.records.map Record.cs), .int .i64 x.trim]
theorem ref_TrimErr {t n : Int} (hn : -1000000000000 ≤ n ∧ n ≤ 1000000000000) : Ct Tryz.prog 78 [.int .i64 t, .int .i64 n] (.int .i64 (trimErr t n)) := by
 refine Ct.intro (rs := [.tmp 4]) Tryz.func78 rfl Tryz.ntmps78 Tryz.results78 rfl rfl rfl fun w h => ?_
 refine OK.seq (OK.reg ?_)
 refine RK.c (S.assign .none rfl (.cint rfl)) ?_
 refine RK.nil (Ab.D.code (OK.seq (OK.seq (OK.reg ?_))))
 refine RK.c (S.move .none rfl (.tmp rfl rfl)) ?_
 refine RK.c (S.move .none rfl (.tmp rfl rfl)) ?_
 refine RK.c (S.sub .none rfl (.tmp rfl rfl) (.cint rfl) (IntWalk.i64_in _ (by omega)) (IntWalk.i64_in _ (by omega))) ?_
 refine RK.c (S.quo .none rfl (.tmp rfl rfl) (.cint rfl) (by decide) (IntWalk.i64_in _ (tdiv2_bd hn)) (IntWalk.i64_in _ (tdiv2_bd hn))) ?_
 refine RK.c (S.call (base_Within) Tryz.call74 .none rfl (.cons (.tmp rfl rfl) (.cons (.cint rfl) (.cons (.tmp rfl rfl) .nil))) rfl) ?_
 refine RK.c (S.notD .none rfl (.tmp rfl rfl)) ?_
 refine RK.nil (Ab.D.code ?_)
 refine OK.condD rfl rfl (fun c10 => ?_) (fun c10 => ?_)
 ·
  refine OK.seq (OK.reg ?_)
  refine RK.c (S.assign .none rfl (.cint rfl)) ?_
  refine RK.nil (Ab.D.code ?_)
  refine OK.ret (Ret.r1 (.tmp rfl rfl (.c (.same rfl) rfl) rfl) ?_)
  refine ret_i ?_
  rw [trimErr, if_neg (by simpa using c10)]
 ·
  refine OK.skip ?_
  refine Ab.D.code (OK.seq (OK.reg ?_))
  refine RK.c (S.assign .none rfl (.cint rfl)) ?_
  refine RK.nil (Ab.D.code ?_)
  refine OK.ret (Ret.r1 (.tmp rfl rfl (.c (.same rfl) rfl) rfl) ?_)
  refine ret_i ?_
  rw [trimErr, if_pos (by simpa using c10)]
theorem ref_RecordsErr {p : Plan} {l : List Record} (hp : planErr p = 0) : Ct Tryz.prog 77 [.agg p.cs, .sl (l.map Record.cs)] (.int .i64 (recsErr p l)) := by
 refine Ct.intro (rs := [.tmp 4]) Tryz.func77 rfl Tryz.ntmps77 Tryz.results77 rfl rfl rfl fun w h => ?_
 have hpp := planErr_0 hp
 refine OK.seq (OK.reg ?_)
 refine RK.c (S.box (k := 2) rfl .none rfl (.tmp rfl rfl) rfl) ?_
 refine RK.c (S.assign .none rfl (.cint rfl)) ?_
 refine RK.nil (Ab.D.code (OK.seq (OK.seq (OK.reg ?_))))
 refine RK.c (S.move .none rfl (.tmp rfl rfl)) ?_
 refine RK.c (S.lenM si63 .none rfl (.tmp rfl rfl)) ?_
 refine RK.c (S.eql .none rfl (.tmp rfl rfl) (.cint rfl)) ?_
 refine RK.nil (Ab.D.code ?_)
 refine OK.condD rfl rfl (fun c9 => ?_) (fun c9 => ?_)
 ·
  refine OK.seq (OK.reg ?_)
  refine RK.c (S.assign .none rfl (.cint rfl)) ?_
  refine RK.nil (Ab.D.code ?_)
  refine OK.ret (Ret.r1 (.tmp rfl rfl (.c (.same rfl) rfl) rfl) ?_)
  refine ret_i ?_
  rw [recsErr, if_pos (by omega)]
 ·
  refine OK.skip ?_
  refine Ab.D.code (OK.seq (OK.seq (OK.reg ?_)))
  refine RK.c (S.move .none rfl (.tmp rfl rfl)) ?_
  refine RK.c (S.lenM si63 .none rfl (.tmp rfl rfl)) ?_
  refine RK.c (S.gtr .none rfl (.tmp rfl rfl) (.cint rfl)) ?_
  refine RK.nil (Ab.D.code ?_)
  refine OK.condD rfl rfl (fun c12 => ?_) (fun c12 => ?_)
  ·
   refine OK.seq (OK.reg ?_)
   refine RK.c (S.assign .none rfl (.cint rfl)) ?_
   refine RK.nil (Ab.D.code ?_)
   refine OK.ret (Ret.r1 (.tmp rfl rfl (.c (.same rfl) rfl) rfl) ?_)
   refine ret_i ?_
   rw [recsErr, if_neg (by omega), if_pos (by omega)]
  ·
   have hrc : recsErr p l = (eachGo (fun _ r => recsErr1 p r) 0 l).2 := by rw [recsErr, if_neg (by omega), if_neg (by omega)]
   refine OK.skip ?_
   refine Ab.D.code (OK.seq (OK.seq (OK.reg ?_)))
   refine RK.c (S.assign .none rfl (.cint rfl)) ?_
   refine RK.nil (Ab.D.code ?_)
   refine OK.block ?_
   refine OK.loop (G := Nat) [2] (fun i => [(1, .sl (l.map Record.cs)), (2, .ptr 2 0), (1002, .box p.cs), (5, .int .i64 i)]) (fun i => i ≤ l.length ∧ eachGo (fun _ r => recsErr1 p r) 0 l = eachGo (fun _ r => recsErr1 p r) i (l.drop i)) (fun i => l.length - i) 0 ⟨Nat.zero_le _, rfl⟩ ⟨rfl, rfl, rfl, rfl, trivial⟩ (fun _ => rfl) ?_
   rintro i ⟨hi, hg⟩
   refine OK.seq (OK.seq (OK.reg ?_))
   refine RK.c (S.move .none rfl (.tmp rfl rfl)) ?_
   refine RK.c (S.move .none rfl (.tmp rfl rfl)) ?_
   refine RK.c (S.lenM si63 .none rfl (.tmp rfl rfl)) ?_
   refine RK.c (S.lss .none rfl (.tmp rfl rfl) (.tmp rfl rfl)) ?_
   refine RK.nil (Ab.D.code ?_)
   refine OK.condD rfl rfl (fun c16 => ?_) (fun c16 => ?_)
   ·
    refine OK.skip ?_
    refine Ab.D.code ?_
    refine OK.seq ?_
    refine OK.block ?_
    refine OK.seq ?_
    refine OK.seq ?_
    refine OK.regionDraw follows (.c (S.bloadN ti24 .none rfl (.tmp rfl rfl) rfl rfl rfl rfl)
     (.c (S.move .none rfl (.tmp rfl rfl))
     (.c (S.move .none rfl (.tmp rfl rfl))
     (.c (S.indexM si63 .none rfl (.tmp rfl rfl) (.tmp rfl rfl) rfl (by omega) rfl)
     (.c (S.loadN ti75 .none rfl (.tmp rfl rfl) rfl rfl)
     (.c (S.call (ref_RecordErr) Tryz.call126 .none rfl (.cons (.tmp rfl rfl) (.cons (.tmp rfl rfl) .nil)) rfl)
     (.c (S.assign .none rfl (.tmp rfl rfl))
     .nil))))))) (by kernel_rfl) ?_
    refine Ab.D.code (OK.seq (OK.reg ?_))
    refine RK.c (S.move .none rfl (.tmp rfl rfl)) ?_
    refine RK.c (S.neq .none rfl (.tmp rfl rfl) (.cint rfl)) ?_
    refine RK.nil (Ab.D.code ?_)
    refine OK.condD rfl rfl (fun c26 => ?_) (fun c26 => ?_)
    ·
     refine OK.seq (OK.reg ?_)
     refine RK.c (S.move .none rfl (.tmp rfl rfl)) ?_
     refine RK.c (S.assign .none rfl (.tmp rfl rfl)) ?_
     refine RK.nil (Ab.D.code ?_)
     refine OK.ret (Ret.r1 (.tmp rfl rfl (.c (.same rfl) rfl) rfl) ?_)
     have e : recsErr1 p l[i] = (recChk p l[i]).2 := by rw [recsErr1, if_pos c26]
     refine ret_i ?_
     rw [hrc, hg, eachGo_drop _ (by omega), if_pos (by rw [e]; exact c26)]
     exact e.symm
    ·
     have hz : (recChk p l[i]).2 = 0 := Decidable.not_not.1 c26
     have hrl := recChk_len hz
     refine OK.skip ?_
     refine Ab.D.code (OK.seq (OK.reg ?_))
     refine RK.c (S.move .none rfl (.tmp rfl rfl)) ?_
     refine RK.c (S.move .none rfl (.tmp rfl rfl)) ?_
     refine RK.c (S.indexM si63 .none rfl (.tmp rfl rfl) (.tmp rfl rfl) rfl (by omega) rfl) ?_
     refine RK.c (S.loadN ti75 .none rfl (.tmp rfl rfl) rfl rfl) ?_
     refine RK.c (S.call (ref_Lost (by omega)) Tryz.call127 .none rfl (.cons (.tmp rfl rfl) .nil) rfl) ?_
     refine RK.c (S.lenM si25 .none rfl (.tmp rfl rfl)) ?_
     refine RK.c (S.gtr .none rfl (.tmp rfl rfl) (.cint rfl)) ?_
     refine RK.nil (Ab.D.code ?_)
     refine OK.condD rfl rfl (fun c34 => ?_) (fun c34 => ?_)
     ·
      refine OK.seq (OK.reg ?_)
      refine RK.c (S.assign .none rfl (.cint rfl)) ?_
      refine RK.nil (Ab.D.code ?_)
      refine OK.ret (Ret.r1 (.tmp rfl rfl (.c (.same rfl) rfl) rfl) ?_)
      have e : recsErr1 p l[i] = 14 := by rw [recsErr1, if_neg c26, if_neg (by omega)]
      refine ret_i ?_
      rw [hrc, hg, eachGo_drop _ (by omega), if_pos (by rw [e]; decide)]
      exact e.symm
     ·
      refine OK.skip ?_
      refine Ab.D.blk ?_
      refine Ab.D.code (OK.reg ?_)
      refine RK.c (S.move .none rfl (.tmp rfl rfl)) ?_
      refine RK.c (S.add .none rfl (.tmp rfl rfl) (.cint rfl) (IntWalk.i64_in _ (by omega)) (IntWalk.i64_in _ (by omega))) ?_
      refine RK.c (S.assign .none rfl (.tmp rfl rfl)) ?_
      refine RK.nil ?_
      refine Ab.D.lp ⟨i + 1, ⟨by omega, ?_⟩, (by omega), rfl, rfl, rfl, rfl, trivial⟩
      have e : recsErr1 p l[i] = 0 := by rw [recsErr1, if_neg c26, if_pos (by omega)]
      rw [hg, eachGo_drop _ (by omega), e]
      rfl
   ·
    refine OK.exit rfl ?_
    refine Ab.D.code (OK.seq (OK.reg ?_))
    refine RK.c (S.assign .none rfl (.cint rfl)) ?_
    refine RK.nil (Ab.D.code ?_)
    refine OK.ret (Ret.r1 (.tmp rfl rfl (.c (.same rfl) rfl) rfl) ?_)
    refine ret_i ?_
    rw [hrc, hg, show i = l.length by omega, List.drop_length]
    rfl
theorem ref_CopyRecords {l : List Record} (hl : l.length ≤ 100000) (hr : ∀ (i : Nat) (h : i < l.length), l[i].rows.length ≤ 100000) (hv : ∀ (i : Nat) (h : i < l.length) (k : Nat) (h2 : k < l[i].rows.length), l[i].rows[k].values.length ≤ 100000) : Ct Tryz.prog 33 [.sl (l.map Record.cs)] (.sl (l.map Record.cs)) := by
 refine Ct.intro (rs := [.tmp 2]) Tryz.func33 rfl Tryz.ntmps33 Tryz.results33 rfl rfl rfl fun w h => ?_
 refine OK.seq (OK.reg ?_)
 refine RK.c (S.assign .none rfl .cnil) ?_
 refine RK.nil (Ab.D.code (OK.seq (OK.reg ?_)))
 refine RK.c (S.nilOwn (k := 3) (sz := 1) .none rfl) ?_
 refine RK.nil (Ab.D.code (OK.seq (OK.seq (OK.reg ?_))))
 refine RK.c (S.assign .none rfl (.cint rfl)) ?_
 refine RK.nil (Ab.D.code ?_)
 refine OK.block ?_
 refine OK.loop (G := Nat) [3] (fun i => [(0, .sl (l.map Record.cs)), (3, .own 3 i), (2003, .arr 1 ((l.take i).map Record.cs)), (4, .int .i64 i)]) (fun i => i ≤ l.length) (fun i => l.length - i) 0 (Nat.zero_le _) ⟨rfl, (lk_own (by first | rfl | (simp; done) | (simp; omega))), (lk_arr (by first | rfl | (simp; done) | (simp; omega))), rfl, trivial⟩ (fun _ => rfl) ?_
 rintro i hi
 refine OK.seq (OK.seq (OK.reg ?_))
 refine RK.c (S.move .none rfl (.tmp rfl rfl)) ?_
 refine RK.c (S.move .none rfl (.tmp rfl rfl)) ?_
 refine RK.c (S.lenM si63 .none rfl (.tmp rfl rfl)) ?_
 refine RK.c (S.lss .none rfl (.tmp rfl rfl) (.tmp rfl rfl)) ?_
 refine RK.nil (Ab.D.code ?_)
 refine OK.condD rfl rfl (fun c8 => ?_) (fun c8 => ?_)
 ·
  refine OK.skip ?_
  refine Ab.D.code ?_
  refine OK.seq ?_
  refine OK.block ?_
  refine OK.reg ?_
  refine RK.c (S.move .none rfl (.tmp rfl rfl)) ?_
  refine RK.c (S.move .none rfl (.tmp rfl rfl)) ?_
  refine RK.c (S.move .none rfl (.tmp rfl rfl)) ?_
  refine RK.c (S.indexM si63 .none rfl (.tmp rfl rfl) (.tmp rfl rfl) rfl (by omega) rfl) ?_
  refine RK.c (S.loadN ti75 .none rfl (.tmp rfl rfl) rfl rfl) ?_
  refine RK.c (S.call (ref_CopyRecord (hr i (by omega)) (hv i (by omega))) Tryz.call39 .none rfl (.cons (.tmp rfl rfl) .nil) rfl) ?_
  refine RK.c (S.mkSlice (k := 17) (rows := [[_]]) ai63 .none rfl (.cons (.tmp rfl rfl) .nil) rfl rfl rfl rfl rfl rfl rfl) ?_
  refine RK.c (S.append ai63 .none rfl (.tmp rfl rfl) rfl (by simp; omega) (.tmp rfl rfl) rfl (by first | rfl | (simp; done) | (simp; omega)) (by omega) (by simp only [maxLen]; omega)) ?_
  refine RK.c (S.assign .none rfl (.tmp rfl rfl)) ?_
  refine RK.nil ?_
  refine Ab.D.blk ?_
  refine Ab.D.code (OK.reg ?_)
  refine RK.c (S.move .none rfl (.tmp rfl rfl)) ?_
  refine RK.c (S.add .none rfl (.tmp rfl rfl) (.cint rfl) (IntWalk.i64_in _ (by omega)) (IntWalk.i64_in _ (by omega))) ?_
  refine RK.c (S.assign .none rfl (.tmp rfl rfl)) ?_
  refine RK.nil ?_
  refine Ab.D.lp ⟨i + 1, (by omega), (by omega), rfl, (lk_own (by first | rfl | (simp; done) | (simp; omega))), (lk_arr (by rw [← take_snoc (by omega), List.map_append]; rfl)), rfl, trivial⟩
 ·
  refine OK.exit rfl ?_
  refine Ab.D.code (OK.seq (OK.reg ?_))
  refine RK.c (S.move .none rfl (.tmp rfl rfl)) ?_
  refine RK.c (S.assign .none rfl (.tmp rfl rfl)) ?_
  refine RK.nil (Ab.D.code ?_)
  refine OK.ret (Ret.r1 (.tmp rfl rfl (.c (.own rfl rfl (by first | rfl | (simp; done) | (simp; omega))) rfl) rfl) ?_)
  rw [show i = l.length by omega, List.take_length]
end Go.Proofs.YtpmglnphhhlbdaaGreatDoor
namespace Go.Proofs.YtpmglnphhhlbdaaGreatDoor
open Go.Ab
theorem dv_none {L : List Deviation} {q : Bool} (h : iterG (Ab.stepG (fun (_ : Bool) (_ : Deviation) => (true, some Code.ret))) (false, none) L = ((q, none), true)) : L = [] ∧ q = false := by
  cases L with
  | nil => simp only [iterG, Prod.mk.injEq] at h; exact ⟨rfl, h.1.1.symm⟩
  | cons d L => simp [iterG, Ab.stepG] at h
theorem dv_some {L : List Deviation} {q : Bool} {cd : Code} (h : (iterG (Ab.stepG (fun (_ : Bool) (_ : Deviation) => (true, some Code.ret))) (false, none) L).1 = (q, some cd)) : L ≠ [] ∧ q = true ∧ cd = .ret := by
  cases L with
  | nil => simp [iterG] at h
  | cons d L =>
    simp [iterG, Ab.stepG] at h
    exact ⟨by simp, h.1, h.2.symm⟩
def verdT (x : Envelope) (r : Record) : Int := if (devT x r).length ≠ 0 then 2 else if (lostT r).length ≠ 0 then 1 else 0
theorem trimErr_2 {t n : Int} (h : trimErr t n ≠ 0) : trimErr t n = 2 := by
  unfold trimErr at *
  split
  · rename_i h1; rw [if_pos h1] at h; exact absurd rfl h
  · rfl
theorem rows_drop {α : Type} (g : α → Int) {l : List α} {j : Nat} (h : j < l.length) (hg : eachGo (fun _ x => g x) 0 l = eachGo (fun _ x => g x) j (l.drop j)) (e : g l[j] = 0) : eachGo (fun _ x => g x) 0 l = eachGo (fun _ x => g x) (j + 1) (l.drop (j + 1)) := by
  rw [hg, eachGo_drop _ h, if_neg (by rw [e]; simp)]
theorem rows_hit {α : Type} (g : α → Int) {l : List α} {j : Nat} {q : Int} (h : j < l.length) (hg : eachGo (fun _ x => g x) 0 l = eachGo (fun _ x => g x) j (l.drop j)) (e : g l[j] = q) (hq : q ≠ 0) : eachGo (fun _ x => g x) 0 l = ((j : Int), q) := by
  rw [hg, eachGo_drop _ h, if_pos (by rw [e]; exact hq), e]
theorem mon_deviates {x : Envelope} {r : Record} (hf : FitT x r) (hrl : r.rows.length ≤ 100000) (hvl : ∀ (i : Nat) (h : i < r.rows.length), r.rows[i].values.length ≤ 100000) : Ct Tryz.prog 91 [.agg x.cs, .agg r.cs] (.bool (decide ((devT x r).length ≠ 0))) := by
  refine Ct.intro (rs := [.cell 4 4]) Tryz.func91 rfl Tryz.ntmps91 Tryz.results91 rfl rfl rfl fun w h => ?_
  refine OK.seq (OK.reg ?_)
  refine RK.c (S.box (k := 2) rfl .none rfl (.tmp rfl rfl) rfl) ?_
  refine RK.c (S.box (k := 3) rfl .none rfl (.tmp rfl rfl) rfl) ?_
  refine RK.c (S.alloc (k := 4) ze4 rfl .none rfl) ?_
  refine RK.nil (Ab.D.code (OK.seq (OK.seq (OK.reg ?_))))
  refine RK.c (S.bloadN ti30 .none rfl (.tmp rfl rfl) rfl rfl rfl rfl) ?_
  refine RK.c (S.bloadN ti75 .none rfl (.tmp rfl rfl) rfl rfl rfl rfl) ?_
  refine RK.c (S.call (mon_deviations) Tryz.call95 .none rfl (.cons (.tmp rfl rfl) (.cons (.tmp rfl rfl) .nil)) rfl) ?_
  refine RK.nil (Ab.D.code ?_)
  refine OK.block ?_
  refine OK.rangeFunc (ps := [8]) (encs := (fun d => [.agg (Deviation.cs d)])) (L := (devT x r)) [4] [(4, .ptr 4 0)] (fun q => [(1004, .box [.bool q])]) false (fun (_ : Bool) (_ : Deviation) => (true, some Code.ret)) ((fun J g s0 Φ hst hcb => mon_devs1 hf hrl hvl J g s0 Φ hst hcb)) Tryz.call134 (.inl rfl) (.tmp rfl rfl) rfl rfl ⟨rfl, rfl, trivial⟩ (fun _ => rfl) (fun _ => rfl) (fun _ => rfl) (fun _ => rfl) (fun _ => rfl) (by decide) rfl ?_ ?_ ?_
  · rintro i x q hx hq lr c0 w0 p1 p2 hR1 hR2
    refine OK.skipQ ?_
    refine ⟨rfl, ?_⟩
    refine OK.block ?_
    refine OK.seq (OK.reg ?_)
    refine RK.c (S.store ti4 .none (.tmp rfl rfl) .cbool rfl rfl rfl rfl rfl rfl) ?_
    refine RK.nil (Ab.D.code ?_)
    refine OK.ret ?_
    exact ⟨rfl, rfl, trivial⟩
  · rintro q hq
    obtain ⟨hL, hq0⟩ := dv_none hq
    subst hq0
    refine Ab.D.blk ?_
    refine Ab.D.code (OK.seq (OK.reg ?_))
    refine RK.c (S.store ti4 .none (.tmp rfl rfl) .cbool rfl rfl rfl rfl rfl rfl) ?_
    refine RK.nil (Ab.D.code ?_)
    refine OK.ret (Ret.r1 (.cell1 rfl rfl rfl rfl ti4 (.same rfl) rfl) ?_)
    rw [hL]
    rfl
  · rintro q cd hq
    obtain ⟨hL, hq1, hcd⟩ := dv_some hq
    subst hq1
    subst hcd
    refine OK.ret (Ret.r1 (.cell1 rfl rfl rfl rfl ti4 (.same rfl) rfl) ?_)
    rw [decide_eq_true (by simpa using hL)]
theorem mon_VerdictOf {p : Plan} {x : Envelope} {r : Record} : Ct Tryz.prog 38 [.agg p.cs, .agg x.cs, .agg r.cs] (.tup [.int .i64 (if bothErr p x r = 0 then verdT x r else 0), .int .i64 (bothErr p x r)]) := by
 refine Ct.intro (rs := [.tmp 6, .tmp 7]) Tryz.func38 rfl Tryz.ntmps38 Tryz.results38 rfl rfl rfl fun w h => ?_
 refine OK.seq (OK.reg ?_)
 refine RK.c (S.box (k := 3) rfl .none rfl (.tmp rfl rfl) rfl) ?_
 refine RK.c (S.box (k := 4) rfl .none rfl (.tmp rfl rfl) rfl) ?_
 refine RK.c (S.box (k := 5) rfl .none rfl (.tmp rfl rfl) rfl) ?_
 refine RK.c (S.assign .none rfl (.cint rfl)) ?_
 refine RK.c (S.assign .none rfl (.cint rfl)) ?_
 refine RK.nil (Ab.D.code (OK.seq (OK.seq (OK.reg ?_))))
 refine RK.c (S.bloadN ti24 .none rfl (.tmp rfl rfl) rfl rfl rfl rfl) ?_
 refine RK.c (S.bloadN ti30 .none rfl (.tmp rfl rfl) rfl rfl rfl rfl) ?_
 refine RK.c (S.bloadN ti75 .none rfl (.tmp rfl rfl) rfl rfl rfl rfl) ?_
 refine RK.c (S.call (mon_openBoth) Tryz.call90 .none rfl (.cons (.tmp rfl rfl) (.cons (.tmp rfl rfl) (.cons (.tmp rfl rfl) .nil))) rfl) ?_
 refine RK.c (S.assign .none rfl (.tmp rfl rfl)) ?_
 refine RK.nil (Ab.D.code (OK.seq (OK.reg ?_)))
 refine RK.c (S.move .none rfl (.tmp rfl rfl)) ?_
 refine RK.c (S.neq .none rfl (.tmp rfl rfl) (.cint rfl)) ?_
 refine RK.nil (Ab.D.code ?_)
 refine OK.condD rfl rfl (fun c14 => ?_) (fun c14 => ?_)
 ·
  refine OK.seq (OK.reg ?_)
  refine RK.c (S.move .none rfl (.tmp rfl rfl)) ?_
  refine RK.c (S.assign .none rfl (.cint rfl)) ?_
  refine RK.c (S.assign .none rfl (.tmp rfl rfl)) ?_
  refine RK.nil (Ab.D.code ?_)
  refine OK.ret (Ret.r2 (.tmp rfl rfl (.c (.same rfl) rfl) rfl) (.tmp rfl rfl (.c (.same rfl) rfl) rfl) ?_)
  rw [if_neg (show ¬ bothErr p x r = 0 from c14)]
 ·
  have he : bothErr p x r = 0 := by omega
  have hb := both_of he
  have hbr := hb.rows
  refine OK.skip ?_
  refine Ab.D.code ?_
  refine OK.seq ?_
  refine OK.block ?_
  refine OK.seq (OK.reg ?_)
  refine RK.c (S.bloadN ti30 .none rfl (.tmp rfl rfl) rfl rfl rfl rfl) ?_
  refine RK.c (S.bloadN ti75 .none rfl (.tmp rfl rfl) rfl rfl rfl rfl) ?_
  refine RK.c (S.call (mon_deviates hb.fit (by omega) (fun i h => by have := hb.vals i h; omega)) Tryz.call91 .none rfl (.cons (.tmp rfl rfl) (.cons (.tmp rfl rfl) .nil)) rfl) ?_
  refine RK.c (S.assign .none rfl (.tmp rfl rfl)) ?_
  refine RK.nil (Ab.D.code ?_)
  refine OK.cond rfl rfl (fun c16 => ?_) (fun c16 => ?_)
  ·
   refine OK.seq (OK.reg ?_)
   refine RK.c (S.assign .none rfl (.cint rfl)) ?_
   refine RK.c (S.assign .none rfl (.cint rfl)) ?_
   refine RK.nil (Ab.D.code ?_)
   refine OK.ret (Ret.r2 (.tmp rfl rfl (.c (.same rfl) rfl) rfl) (.tmp rfl rfl (.c (.same rfl) rfl) rfl) ?_)
   rw [if_pos he, he, verdT, if_pos (of_decide_eq_true c16)]
  ·
   refine OK.seq (OK.reg ?_)
   refine RK.c (S.bloadN ti75 .none rfl (.tmp rfl rfl) rfl rfl rfl rfl) ?_
   refine RK.c (S.call (mon_lost (by omega)) Tryz.call92 .none rfl (.cons (.tmp rfl rfl) .nil) rfl) ?_
   refine RK.c (S.lenM si25 .none rfl (.tmp rfl rfl)) ?_
   refine RK.c (S.gtr .none rfl (.tmp rfl rfl) (.cint rfl)) ?_
   refine RK.c (S.assign .none rfl (.tmp rfl rfl)) ?_
   refine RK.nil (Ab.D.code ?_)
   refine OK.condD rfl rfl (fun c20 => ?_) (fun c20 => ?_)
   ·
    refine OK.seq (OK.reg ?_)
    refine RK.c (S.assign .none rfl (.cint rfl)) ?_
    refine RK.c (S.assign .none rfl (.cint rfl)) ?_
    refine RK.nil (Ab.D.code ?_)
    refine OK.ret (Ret.r2 (.tmp rfl rfl (.c (.same rfl) rfl) rfl) (.tmp rfl rfl (.c (.same rfl) rfl) rfl) ?_)
    rw [if_pos he, he, verdT, if_neg (of_decide_eq_false c16), if_pos (by omega)]
   ·
    refine OK.skip ?_
    refine Ab.D.blk ?_
    refine Ab.D.code (OK.seq (OK.reg ?_))
    refine RK.c (S.assign .none rfl (.cint rfl)) ?_
    refine RK.c (S.assign .none rfl (.cint rfl)) ?_
    refine RK.nil (Ab.D.code ?_)
    refine OK.ret (Ret.r2 (.tmp rfl rfl (.c (.same rfl) rfl) rfl) (.tmp rfl rfl (.c (.same rfl) rfl) rfl) ?_)
    rw [if_pos he, he, verdT, if_neg (of_decide_eq_false c16), if_neg (by omega)]
theorem ref_CheckEnvelope {p : Plan} {x : Envelope} : Ct Tryz.prog 76 [.agg p.cs, .agg x.cs] (pair (envChk p x)) := by
 refine Ct.intro (rs := [.tmp 4, .tmp 5]) Tryz.func76 rfl Tryz.ntmps76 Tryz.results76 rfl rfl rfl fun w h => ?_
 refine OK.aggLen 1 2 (x.rows.map (fun l => [X.sl (l.map Range.cs)])) rfl rfl rfl fun hlen => ?_
 rw [List.length_map] at hlen
 unfold maxLen at hlen
 refine OK.aggLen 0 0 (p.channels.map fun s => [.str s]) rfl rfl rfl fun hlenp => ?_
 rw [List.length_map] at hlenp
 unfold maxLen at hlenp
 refine OK.seq (OK.reg ?_)
 refine RK.c (S.box (k := 2) rfl .none rfl (.tmp rfl rfl) rfl) ?_
 refine RK.c (S.box (k := 3) rfl .none rfl (.tmp rfl rfl) rfl) ?_
 refine RK.c (S.assign .none rfl (.cint rfl)) ?_
 refine RK.c (S.assign .none rfl (.cint rfl)) ?_
 refine RK.nil (Ab.D.code (OK.seq (OK.seq (OK.reg ?_))))
 refine RK.c (S.bfield fi30_0 .none rfl (.tmp rfl rfl)) ?_
 refine RK.c (S.bload1 ti3 .none rfl (.tmp rfl rfl) rfl rfl rfl rfl) ?_
 refine RK.c (S.call (base_Within) Tryz.call74 .none rfl (.cons (.tmp rfl rfl) (.cons (.cint rfl) (.cons (.cint rfl) .nil))) rfl) ?_
 refine RK.c (S.notD .none rfl (.tmp rfl rfl)) ?_
 refine RK.c (S.move .none rfl (.tmp rfl rfl)) ?_
 refine RK.splitD (t := 13) rfl (fun g13 => ?_) (fun g13 => ?_)
 ·
  refine RK.c (S.skip rfl rfl rfl rfl rfl) ?_
  refine RK.c (S.skip rfl rfl rfl rfl rfl) ?_
  refine RK.c (S.skip rfl rfl rfl rfl rfl) ?_
  refine RK.c (S.skip rfl rfl rfl rfl rfl) ?_
  refine RK.c (S.skip rfl rfl rfl rfl rfl) ?_
  refine RK.c (S.skip rfl rfl rfl rfl rfl) ?_
  refine RK.c (S.pickT .none rfl (.tmp rfl rfl) .cbool rfl) ?_
  refine RK.nil (Ab.D.code ?_)
  refine OK.condT rfl rfl rfl ?_
  refine OK.seq (OK.reg ?_)
  refine RK.c (S.assign .none rfl (.cint rfl)) ?_
  refine RK.c (S.assign .none rfl (.cint rfl)) ?_
  refine RK.nil (Ab.D.code ?_)
  refine OK.ret (Ret.r2 (.tmp rfl rfl (.c (.same rfl) rfl) rfl) (.tmp rfl rfl (.c (.same rfl) rfl) rfl) ?_)
  refine ret_p ?_
  rw [envChk, if_pos (by simpa using g13)]
 ·
  refine RK.c (S.bfield fi30_1 (.yes rfl rfl rfl rfl) rfl (.tmp rfl rfl)) ?_
  refine RK.c (S.bload1 ti3 (.yes rfl rfl rfl rfl) rfl (.tmp rfl rfl) rfl rfl rfl rfl) ?_
  refine RK.c (S.bfield fi30_0 (.yes rfl rfl rfl rfl) rfl (.tmp rfl rfl)) ?_
  refine RK.c (S.bload1 ti3 (.yes rfl rfl rfl rfl) rfl (.tmp rfl rfl) rfl rfl rfl rfl) ?_
  refine RK.c (S.call (ref_TrimErr (by omega)) Tryz.call78 (.yes rfl rfl rfl rfl) rfl (.cons (.tmp rfl rfl) (.cons (.tmp rfl rfl) .nil)) rfl) ?_
  refine RK.c (S.neq (.yes rfl rfl rfl rfl) rfl (.tmp rfl rfl) (.cint rfl)) ?_
  refine RK.c (S.pickF .none rfl (.tmp rfl rfl) (.tmp rfl rfl) rfl) ?_
  refine RK.nil (Ab.D.code ?_)
  refine OK.condD rfl rfl (fun c20 => ?_) (fun c20 => ?_)
  ·
   refine OK.seq (OK.reg ?_)
   refine RK.c (S.assign .none rfl (.cint rfl)) ?_
   refine RK.c (S.assign .none rfl (.cint rfl)) ?_
   refine RK.nil (Ab.D.code ?_)
   refine OK.ret (Ret.r2 (.tmp rfl rfl (.c (.same rfl) rfl) rfl) (.tmp rfl rfl (.c (.same rfl) rfl) rfl) ?_)
   refine ret_p ?_
   rw [envChk, if_neg (by omega), if_pos c20, trimErr_2 c20]
  ·
   refine OK.skip ?_
   refine Ab.D.code (OK.seq (OK.seq (OK.reg ?_)))
   refine RK.c (S.bfield fi30_2 .none rfl (.tmp rfl rfl)) ?_
   refine RK.c (S.bload1 ti28 .none rfl (.tmp rfl rfl) rfl rfl rfl rfl) ?_
   refine RK.c (S.lenM si28 .none rfl (.tmp rfl rfl)) ?_
   refine RK.c (S.bfield fi24_1 .none rfl (.tmp rfl rfl)) ?_
   refine RK.c (S.bload1 ti3 .none rfl (.tmp rfl rfl) rfl rfl rfl rfl) ?_
   refine RK.c (S.neq .none rfl (.tmp rfl rfl) (.tmp rfl rfl)) ?_
   refine RK.nil (Ab.D.code ?_)
   refine OK.condD rfl rfl (fun c26 => ?_) (fun c26 => ?_)
   ·
    refine OK.seq (OK.reg ?_)
    refine RK.c (S.assign .none rfl (.cint rfl)) ?_
    refine RK.c (S.assign .none rfl (.cint rfl)) ?_
    refine RK.nil (Ab.D.code ?_)
    refine OK.ret (Ret.r2 (.tmp rfl rfl (.c (.same rfl) rfl) rfl) (.tmp rfl rfl (.c (.same rfl) rfl) rfl) ?_)
    refine ret_p ?_
    rw [envChk, if_neg (by omega), if_neg c20, if_pos c26]
   ·
    have hpt : 1 ≤ x.parts ∧ x.parts ≤ 20 := by simpa using g13
    have hrc : envChk p x = eachGo (fun _ l => erowErr p l) 0 x.rows := by rw [envChk, if_neg (by omega), if_neg (by omega), if_neg (by omega)]
    refine OK.skip ?_
    refine Ab.D.code (OK.seq (OK.seq (OK.reg ?_)))
    refine RK.c (S.assign .none rfl (.cint rfl)) ?_
    refine RK.nil (Ab.D.code ?_)
    refine OK.block ?_
    refine OK.loop (G := Nat) [2, 3] (fun i => [(2, .ptr 2 0), (1002, .box p.cs), (3, .ptr 3 0), (1003, .box x.cs), (6, .int .i64 i)]) (fun i => i ≤ x.rows.length ∧ eachGo (fun _ l => erowErr p l) 0 x.rows = eachGo (fun _ l => erowErr p l) i (x.rows.drop i)) (fun i => x.rows.length - i) 0 ⟨Nat.zero_le _, rfl⟩ ⟨rfl, rfl, rfl, rfl, rfl, trivial⟩ (fun _ => rfl) ?_
    rintro i ⟨hi, hg⟩
    refine OK.seq (OK.seq (OK.reg ?_))
    refine RK.c (S.move .none rfl (.tmp rfl rfl)) ?_
    refine RK.c (S.bfield fi30_2 .none rfl (.tmp rfl rfl)) ?_
    refine RK.c (S.bload1 ti28 .none rfl (.tmp rfl rfl) rfl rfl rfl rfl) ?_
    refine RK.c (S.lenM si28 .none rfl (.tmp rfl rfl)) ?_
    refine RK.c (S.lss .none rfl (.tmp rfl rfl) (.tmp rfl rfl)) ?_
    refine RK.nil (Ab.D.code ?_)
    refine OK.condD rfl rfl (fun c31 => ?_) (fun c31 => ?_)
    ·
     refine OK.skip ?_
     refine Ab.D.code ?_
     refine OK.seq ?_
     refine OK.block ?_
     refine OK.seq ?_
     refine OK.seq ?_
     refine OK.regionDraw follows (.c (S.bfield fi30_2 .none rfl (.tmp rfl rfl))
      (.c (S.bload1 ti28 .none rfl (.tmp rfl rfl) rfl rfl rfl rfl)
      (.c (S.move .none rfl (.tmp rfl rfl))
      (.c (S.indexM si28 .none rfl (.tmp rfl rfl) (.tmp rfl rfl) rfl (by omega) rfl)
      (.c (S.load1 ti114 .none rfl (.tmp rfl rfl) rfl)
      (.c (S.lenM si114 .none rfl (.tmp rfl rfl))
      (.c (S.bfield fi24_0 .none rfl (.tmp rfl rfl))
      (.c (S.bload1 ti22 .none rfl (.tmp rfl rfl) rfl rfl rfl rfl)
      (.c (S.lenM si22 .none rfl (.tmp rfl rfl))
      (.c (S.neq .none rfl (.tmp rfl rfl) (.tmp rfl rfl))
      .nil)))))))))) (by kernel_rfl) ?_
     refine Ab.D.code ?_
     refine OK.condD rfl rfl (fun c43 => ?_) (fun c43 => ?_)
     ·
      refine OK.seq (OK.reg ?_)
      refine RK.c (S.move .none rfl (.tmp rfl rfl)) ?_
      refine RK.c (S.assign .none rfl (.tmp rfl rfl)) ?_
      refine RK.c (S.assign .none rfl (.cint rfl)) ?_
      refine RK.nil (Ab.D.code ?_)
      refine OK.ret (Ret.r2 (.tmp rfl rfl (.c (.same rfl) rfl) rfl) (.tmp rfl rfl (.c (.same rfl) rfl) rfl) ?_)
      have e : erowErr p x.rows[i] = 10 := by rw [erowErr, if_pos (by omega)]
      exact ret_p (by rw [hrc, rows_hit (erowErr p) (by omega) hg e (by decide)])
     ·
      refine OK.skip ?_
      refine Ab.D.code (OK.seq (OK.reg ?_))
      refine RK.c (S.assign .none rfl (.cint rfl)) ?_
      refine RK.nil (Ab.D.code ?_)
      refine OK.block ?_
      refine OK.loop (G := Nat) [2, 3] (fun j => [(2, .ptr 2 0), (1002, .box p.cs), (3, .ptr 3 0), (1003, .box x.cs), (6, .int .i64 i), (7, .int .i64 j)]) (fun j => j ≤ x.rows[i].length ∧ eachGo (fun _ y => rangeErr y) 0 x.rows[i] = eachGo (fun _ y => rangeErr y) j (x.rows[i].drop j)) (fun j => x.rows[i].length - j) 0 ⟨Nat.zero_le _, rfl⟩ ⟨rfl, rfl, rfl, rfl, rfl, rfl, trivial⟩ (fun _ => rfl) ?_
      rintro j ⟨hj, hv⟩
      refine OK.seq (OK.seq (OK.reg ?_))
      refine RK.c (S.move .none rfl (.tmp rfl rfl)) ?_
      refine RK.c (S.bfield fi30_2 .none rfl (.tmp rfl rfl)) ?_
      refine RK.c (S.bload1 ti28 .none rfl (.tmp rfl rfl) rfl rfl rfl rfl) ?_
      refine RK.c (S.move .none rfl (.tmp rfl rfl)) ?_
      refine RK.c (S.indexM si28 .none rfl (.tmp rfl rfl) (.tmp rfl rfl) rfl (by omega) rfl) ?_
      refine RK.c (S.load1 ti114 .none rfl (.tmp rfl rfl) rfl) ?_
      refine RK.c (S.lenM si114 .none rfl (.tmp rfl rfl)) ?_
      refine RK.c (S.lss .none rfl (.tmp rfl rfl) (.tmp rfl rfl)) ?_
      refine RK.nil (Ab.D.code ?_)
      refine OK.condD rfl rfl (fun c52 => ?_) (fun c52 => ?_)
      ·
       refine OK.skip ?_
       refine Ab.D.code ?_
       refine OK.seq ?_
       refine OK.block ?_
       refine OK.seq (OK.reg ?_)
       refine RK.c (S.bfield fi30_2 .none rfl (.tmp rfl rfl)) ?_
       refine RK.c (S.bload1 ti28 .none rfl (.tmp rfl rfl) rfl rfl rfl rfl) ?_
       refine RK.c (S.move .none rfl (.tmp rfl rfl)) ?_
       refine RK.c (S.indexM si28 .none rfl (.tmp rfl rfl) (.tmp rfl rfl) rfl (by omega) rfl) ?_
       refine RK.c (S.load1 ti114 .none rfl (.tmp rfl rfl) rfl) ?_
       refine RK.c (S.move .none rfl (.tmp rfl rfl)) ?_
       refine RK.c (S.indexM si114 .none rfl (.tmp rfl rfl) (.tmp rfl rfl) rfl (by omega) rfl) ?_
       refine RK.c (S.loadN ti113 .none rfl (.tmp rfl rfl) rfl rfl) ?_
       refine RK.c (S.alloc (k := 8) ze113 rfl .none rfl) ?_
       refine RK.c (S.store ti113 .none (.tmp rfl rfl) (.tmp rfl rfl) rfl rfl rfl rfl rfl rfl) ?_
       refine RK.nil (Ab.D.code (OK.seq (OK.seq (OK.reg ?_))))
       refine RK.c (S.bfield fi113_0 .none rfl (.tmp rfl rfl)) ?_
       refine RK.c (S.bload1 ti3 .none rfl (.tmp rfl rfl) rfl rfl rfl rfl) ?_
       refine RK.c (S.call (ref_isValue) Tryz.call75 .none rfl (.cons (.tmp rfl rfl) .nil) rfl) ?_
       refine RK.c (S.notD .none rfl (.tmp rfl rfl)) ?_
       refine RK.c (S.move .none rfl (.tmp rfl rfl)) ?_
       refine RK.splitD (t := 67) rfl (fun g67 => ?_) (fun g67 => ?_)
       ·
        refine RK.c (S.skip rfl rfl rfl rfl rfl) ?_
        refine RK.c (S.skip rfl rfl rfl rfl rfl) ?_
        refine RK.c (S.skip rfl rfl rfl rfl rfl) ?_
        refine RK.c (S.skip rfl rfl rfl rfl rfl) ?_
        refine RK.c (S.pickT .none rfl (.tmp rfl rfl) .cbool rfl) ?_
        refine RK.nil (Ab.D.code ?_)
        refine OK.condT rfl rfl rfl ?_
        refine OK.seq (OK.reg ?_)
        refine RK.c (S.move .none rfl (.tmp rfl rfl)) ?_
        refine RK.c (S.assign .none rfl (.tmp rfl rfl)) ?_
        refine RK.c (S.assign .none rfl (.cint rfl)) ?_
        refine RK.nil (Ab.D.code ?_)
        refine OK.ret (Ret.r2 (.tmp rfl rfl (.c (.same rfl) rfl) rfl) (.tmp rfl rfl (.c (.same rfl) rfl) rfl) ?_)
        have e : erowErr p x.rows[i] = 2 := by rw [erowErr, if_neg (by omega), rows_hit rangeErr (by omega) hv (show rangeErr x.rows[i][j] = 2 by (rw [rangeErr, if_pos (by omega)])) (by decide)]
        exact ret_p (by rw [hrc, rows_hit (erowErr p) (by omega) hg e (by decide)])
       ·
        refine RK.c (S.bfield fi113_1 (.yes rfl rfl rfl rfl) rfl (.tmp rfl rfl)) ?_
        refine RK.c (S.bload1 ti3 (.yes rfl rfl rfl rfl) rfl (.tmp rfl rfl) rfl rfl rfl rfl) ?_
        refine RK.c (S.call (ref_isValue) Tryz.call75 (.yes rfl rfl rfl rfl) rfl (.cons (.tmp rfl rfl) .nil) rfl) ?_
        refine RK.c (S.notD (.yes rfl rfl rfl rfl) rfl (.tmp rfl rfl)) ?_
        refine RK.c (S.pickF .none rfl (.tmp rfl rfl) (.tmp rfl rfl) rfl) ?_
        refine RK.nil (Ab.D.code ?_)
        refine OK.condD rfl rfl (fun c72 => ?_) (fun c72 => ?_)
        ·
         refine OK.seq (OK.reg ?_)
         refine RK.c (S.move .none rfl (.tmp rfl rfl)) ?_
         refine RK.c (S.assign .none rfl (.tmp rfl rfl)) ?_
         refine RK.c (S.assign .none rfl (.cint rfl)) ?_
         refine RK.nil (Ab.D.code ?_)
         refine OK.ret (Ret.r2 (.tmp rfl rfl (.c (.same rfl) rfl) rfl) (.tmp rfl rfl (.c (.same rfl) rfl) rfl) ?_)
         have e : erowErr p x.rows[i] = 2 := by rw [erowErr, if_neg (by omega), rows_hit rangeErr (by omega) hv (show rangeErr x.rows[i][j] = 2 by (rw [rangeErr, if_pos (fun h => c72 h.2)])) (by decide)]
         exact ret_p (by rw [hrc, rows_hit (erowErr p) (by omega) hg e (by decide)])
        ·
         refine OK.skip ?_
         refine Ab.D.code (OK.seq (OK.reg ?_))
         refine RK.c (S.bfield fi113_0 .none rfl (.tmp rfl rfl)) ?_
         refine RK.c (S.bload1 ti3 .none rfl (.tmp rfl rfl) rfl rfl rfl rfl) ?_
         refine RK.c (S.bfield fi113_1 .none rfl (.tmp rfl rfl)) ?_
         refine RK.c (S.bload1 ti3 .none rfl (.tmp rfl rfl) rfl rfl rfl rfl) ?_
         refine RK.c (S.gtr .none rfl (.tmp rfl rfl) (.tmp rfl rfl)) ?_
         refine RK.nil (Ab.D.code ?_)
         refine OK.condD rfl rfl (fun c78 => ?_) (fun c78 => ?_)
         ·
          refine OK.seq (OK.reg ?_)
          refine RK.c (S.move .none rfl (.tmp rfl rfl)) ?_
          refine RK.c (S.assign .none rfl (.tmp rfl rfl)) ?_
          refine RK.c (S.assign .none rfl (.cint rfl)) ?_
          refine RK.nil (Ab.D.code ?_)
          refine OK.ret (Ret.r2 (.tmp rfl rfl (.c (.same rfl) rfl) rfl) (.tmp rfl rfl (.c (.same rfl) rfl) rfl) ?_)
          have e : erowErr p x.rows[i] = 9 := by rw [erowErr, if_neg (by omega), rows_hit rangeErr (by omega) hv (show rangeErr x.rows[i][j] = 9 by (rw [rangeErr, if_neg (fun h => h ⟨Decidable.not_not.1 g67, Decidable.not_not.1 c72⟩), if_neg (by omega)])) (by decide)]
          exact ret_p (by rw [hrc, rows_hit (erowErr p) (by omega) hg e (by decide)])
         ·
          refine OK.skip ?_
          refine Ab.D.blk ?_
          refine Ab.D.code (OK.reg ?_)
          refine RK.c (S.move .none rfl (.tmp rfl rfl)) ?_
          refine RK.c (S.add .none rfl (.tmp rfl rfl) (.cint rfl) (IntWalk.i64_in _ (by omega)) (IntWalk.i64_in _ (by omega))) ?_
          refine RK.c (S.assign .none rfl (.tmp rfl rfl)) ?_
          refine RK.nil ?_
          refine Ab.D.lp ⟨j + 1, ⟨by omega, ?_⟩, (by omega), rfl, rfl, rfl, rfl, rfl, rfl, trivial⟩
          have h1 : -1000000 ≤ x.rows[i][j].lo ∧ x.rows[i][j].lo ≤ 1000000 := by simpa using g67
          have h2 : -1000000 ≤ x.rows[i][j].hi ∧ x.rows[i][j].hi ≤ 1000000 := by simpa using c72
          exact rows_drop rangeErr (by omega) hv (by rw [rangeErr, if_neg (by omega), if_pos (by omega)])
      ·
       refine OK.exit rfl ?_
       refine Ab.D.blk ?_
       refine Ab.D.code (OK.reg ?_)
       refine RK.c (S.move .none rfl (.tmp rfl rfl)) ?_
       refine RK.c (S.add .none rfl (.tmp rfl rfl) (.cint rfl) (IntWalk.i64_in _ (by omega)) (IntWalk.i64_in _ (by omega))) ?_
       refine RK.c (S.assign .none rfl (.tmp rfl rfl)) ?_
       refine RK.nil ?_
       refine Ab.D.lp ⟨i + 1, ⟨by omega, ?_⟩, (by omega), rfl, rfl, rfl, rfl, rfl, trivial⟩
       have e : erowErr p x.rows[i] = 0 := by rw [erowErr, if_neg (by omega), hv, show j = x.rows[i].length by omega, List.drop_length]; rfl
       exact rows_drop (erowErr p) (by omega) hg e
    ·
     refine OK.exit rfl ?_
     refine Ab.D.code (OK.seq (OK.reg ?_))
     refine RK.c (S.assign .none rfl (.cint rfl)) ?_
     refine RK.c (S.assign .none rfl (.cint rfl)) ?_
     refine RK.nil (Ab.D.code ?_)
     refine OK.ret (Ret.r2 (.tmp rfl rfl (.c (.same rfl) rfl) rfl) (.tmp rfl rfl (.c (.same rfl) rfl) rfl) ?_)
     exact ret_p (by rw [hrc, hg, show i = x.rows.length by omega, List.drop_length]; rfl)
theorem base_CopyRanges {l : List Range} (hlen : l.length ≤ 100000) : Ct Tryz.prog 57 [.sl (l.map Range.cs)] (.sl (l.map Range.cs)) := by
 refine Ct.intro (rs := [.tmp 2]) Tryz.func57 rfl Tryz.ntmps57 Tryz.results57 rfl rfl rfl fun w h => ?_
 refine OK.seq (OK.reg ?_)
 refine RK.c (S.assign .none rfl .cnil) ?_
 refine RK.nil (Ab.D.code (OK.seq (OK.reg ?_)))
 refine RK.c (S.mkSlice (k := 3) (rows := []) ai114 .none rfl .nil rfl rfl rfl rfl rfl rfl rfl) ?_
 refine RK.c (S.move .none rfl (.tmp rfl rfl)) ?_
 refine RK.c (S.appendSl ai114 .none rfl (.tmp rfl rfl) rfl (by first | rfl | (simp; done) | (simp; omega)) (.tmp rfl rfl) (by intro q hq; obtain ⟨b, _, rfl⟩ := List.mem_map.1 hq; rfl) rfl (by simp only [List.length_map]; omega) (by simp only [maxLen, List.length_map]; omega)) ?_
 refine RK.c (S.assign .none rfl (.tmp rfl rfl)) ?_
 refine RK.nil (Ab.D.code ?_)
 refine OK.ret (Ret.r1 (.tmp rfl rfl (.c (.own rfl rfl (by first | rfl | (simp; done) | (simp; omega))) rfl) rfl) ?_)
 rfl
theorem ref_CopyEnvelope {x : Envelope} (hlen : x.rows.length ≤ 100000) (hvl : ∀ (i : Nat) (h : i < x.rows.length), x.rows[i].length ≤ 100000) : Ct Tryz.prog 14 [.agg x.cs] (.agg x.cs) := by
 refine Ct.intro (rs := [.cell 2 30]) Tryz.func14 rfl Tryz.ntmps14 Tryz.results14 rfl rfl rfl fun w h => ?_
 refine OK.seq (OK.reg ?_)
 refine RK.c (S.box (k := 1) rfl .none rfl (.tmp rfl rfl) rfl) ?_
 refine RK.c (S.alloc (k := 2) ze30 rfl .none rfl) ?_
 refine RK.nil (Ab.D.code (OK.seq (OK.reg ?_)))
 refine RK.c (S.bfield fi30_0 .none rfl (.tmp rfl rfl)) ?_
 refine RK.c (S.bload1 ti3 .none rfl (.tmp rfl rfl) rfl rfl rfl rfl) ?_
 refine RK.c (S.bfield fi30_1 .none rfl (.tmp rfl rfl)) ?_
 refine RK.c (S.bload1 ti3 .none rfl (.tmp rfl rfl) rfl rfl rfl rfl) ?_
 refine RK.c (S.build bu30 rfl .none rfl (.cons (.tmp rfl rfl) (.cons (.tmp rfl rfl) .nil)) rfl rfl) ?_
 refine RK.c (S.alloc (k := 3) ze30 rfl .none rfl) ?_
 refine RK.c (S.store ti30 .none (.tmp rfl rfl) (.tmp rfl rfl) rfl rfl rfl rfl rfl rfl) ?_
 refine RK.nil (Ab.D.code (OK.seq (OK.seq (OK.reg ?_))))
 refine RK.c (S.assign .none rfl (.cint rfl)) ?_
 refine RK.nil (Ab.D.code ?_)
 refine OK.block ?_
 refine OK.boxOwn 3 2 890 1 rfl rfl rfl rfl rfl ?_
 refine OK.loop (G := Nat) [1, 2, 3, 890] (fun i => [(1, .ptr 1 0), (1001, .box x.cs), (2, .ptr 2 0), (1002, .box [.int .i64 0, .int .i64 0, .nils]), (3, .ptr 3 0), (1003, .box [.int .i64 x.parts, .int .i64 x.trim, .own 890 i]), (2890, .arr 1 ((x.rows.take i).map (fun l => [X.sl (l.map Range.cs)]))), (4, .int .i64 i)]) (fun i => i ≤ x.rows.length) (fun i => x.rows.length - i) 0 (Nat.zero_le _) ⟨rfl, rfl, rfl, rfl, rfl, rfl, (lk_arr (by first | rfl | (simp; done) | (simp; omega))), rfl, trivial⟩ (fun _ => rfl) ?_
 rintro i hi
 refine OK.seq (OK.seq (OK.reg ?_))
 refine RK.c (S.move .none rfl (.tmp rfl rfl)) ?_
 refine RK.c (S.bfield fi30_2 .none rfl (.tmp rfl rfl)) ?_
 refine RK.c (S.bload1 ti28 .none rfl (.tmp rfl rfl) rfl rfl rfl rfl) ?_
 refine RK.c (S.lenM si28 .none rfl (.tmp rfl rfl)) ?_
 refine RK.c (S.lss .none rfl (.tmp rfl rfl) (.tmp rfl rfl)) ?_
 refine RK.nil (Ab.D.code ?_)
 refine OK.condD rfl rfl (fun c14 => ?_) (fun c14 => ?_)
 ·
  have hvli := hvl i (by omega)
  refine OK.skip ?_
  refine Ab.D.code ?_
  refine OK.seq ?_
  refine OK.block ?_
  refine OK.regionDraw follows (.c (S.bfield fi30_2 .none rfl (.tmp rfl rfl))
   (.c (S.bload1 ti28 .none rfl (.tmp rfl rfl) rfl rfl rfl rfl)
   (.c (S.bfield fi30_2 .none rfl (.tmp rfl rfl))
   (.c (S.bload1 ti28 .none rfl (.tmp rfl rfl) rfl rfl rfl rfl)
   (.c (S.move .none rfl (.tmp rfl rfl))
   (.c (S.indexM si28 .none rfl (.tmp rfl rfl) (.tmp rfl rfl) rfl (by omega) rfl)
   (.c (S.load1 ti114 .none rfl (.tmp rfl rfl) rfl)
   (.c (S.call (base_CopyRanges (l := x.rows[i]) hvli) Tryz.call57 .none rfl (.cons (.tmp rfl rfl) .nil) rfl)
   (.c (S.mkSlice (k := 25) (rows := [[_]]) ai28 .none rfl (.cons (.tmp rfl rfl) .nil) rfl rfl rfl rfl rfl rfl rfl)
   (.c (S.append ai28 .none rfl (.tmp rfl rfl) rfl (by first | (simp; done) | (simp; omega)) (.tmp rfl rfl) rfl (by first | rfl | (simp; done) | (simp; omega)) (by omega) (by simp only [maxLen]; omega))
   (.c (S.bfield fi30_2 .none rfl (.tmp rfl rfl))
   (.c (S.store ti28 .none (.tmp rfl rfl) (.tmp rfl rfl) rfl rfl rfl rfl rfl rfl)
   .nil)))))))))))) (by kernel_rfl) ?_
  refine Ab.D.blk ?_
  refine Ab.D.code (OK.reg ?_)
  refine RK.c (S.move .none rfl (.tmp rfl rfl)) ?_
  refine RK.c (S.add .none rfl (.tmp rfl rfl) (.cint rfl) (IntWalk.i64_in _ (by omega)) (IntWalk.i64_in _ (by omega))) ?_
  refine RK.c (S.assign .none rfl (.tmp rfl rfl)) ?_
  refine RK.nil ?_
  refine Ab.D.lp ⟨i + 1, (by omega), (by omega), rfl, rfl, rfl, rfl, rfl, rfl, (lk_arr (by rw [← take_snoc (by omega)]; simp only [List.map_append, List.map_cons, List.map_nil])), rfl, trivial⟩
 ·
  refine OK.exit rfl ?_
  refine Ab.D.code (OK.seq (OK.reg ?_))
  refine RK.c (S.bloadN ti30 .none rfl (.tmp rfl rfl) rfl rfl rfl rfl) ?_
  refine RK.c (S.store ti30 .none (.tmp rfl rfl) (.tmp rfl rfl) rfl rfl rfl rfl rfl rfl) ?_
  refine RK.nil (Ab.D.code ?_)
  refine OK.ret (Ret.r1 (.cellN rfl rfl rfl rfl ti30 rfl (.k (.same rfl) (.k (.same rfl) (.k (.own rfl rfl (by first | rfl | (simp; done) | (simp; omega))) .z)))) ?_)
  rw [show i = x.rows.length by omega, List.take_length]
  rfl
end Go.Proofs.YtpmglnphhhlbdaaGreatDoor
namespace Go.Proofs.YtpmglnphhhlbdaaGreatDoor
open Go.Ab
theorem recs_key {p : Plan} {l : List Record} (h : recsErr p l = 0) : (1 ≤ l.length ∧ l.length ≤ 20) ∧ ∀ (k : Nat) (hk : k < l.length), (recChk p l[k]).2 = 0 ∧ (lostT l[k]).length = 0 := by
  unfold recsErr at h
  split at h
  · contradiction
  · split at h
    · contradiction
    · have h1 := eachGo_all _ l 0 h
      refine ⟨by omega, fun k hk => ?_⟩
      have h2 := h1 k hk
      unfold recsErr1 at h2
      split at h2
      · contradiction
      · split at h2
        · exact ⟨by omega, ‹_›⟩
        · contradiction
theorem eachGo_zero {α : Type} (g : Nat → α → Int) : ∀ (l : List α) (i : Nat), (∀ (j : Nat) (h : j < l.length), g (i + j) l[j] = 0) → eachGo g i l = (0, 0)
  | [], _, _ => rfl
  | x :: l, i, h => by
    have h0 := h 0 (by simp)
    simp only [Nat.add_zero, List.getElem_cons_zero] at h0
    rw [eachGo, if_neg (by rw [h0]; simp)]
    refine eachGo_zero g l (i + 1) fun j hj => ?_
    have := h (j + 1) (by simpa using hj)
    rw [List.getElem_cons_succ] at this
    rw [← this]
    congr 1
    omega
theorem col_get {l : List Record} {t c k : Nat} (hk : k < l.length) (h1 : t < l[k].rows.length) (h2 : c < l[k].rows[t].values.length) : (col l t c)[k]'(by rw [col_len]; exact hk) = l[k].rows[t].values[c] := by
  unfold col
  rw [List.getElem_map]
  simp [List.getD, List.getElem?_eq_getElem h1, List.getElem?_eq_getElem h2]
structure LearnT (p : Plan) (l : List Record) : Prop where
  plan : planErr p = 0
  len : 1 ≤ l.length ∧ l.length ≤ 20
  chk : ∀ (k : Nat) (hk : k < l.length), (recChk p l[k]).2 = 0 ∧ (lostT l[k]).length = 0
  whole : WholeT p l
theorem learn_of {p : Plan} {l : List Record} (hp : planErr p = 0) (h : recsErr p l = 0) : LearnT p l := ⟨hp, (recs_key h).1, (recs_key h).2, whole_of h⟩
theorem col_val {p : Plan} {l : List Record} (h : LearnT p l) {t c : Nat} (ht : (t : Int) < p.ticks) (hc : c < p.channels.length) : ∀ v ∈ col l t c, -1000000 ≤ v ∧ v ≤ 1000000 := by
  intro v hv
  obtain ⟨k, hk, rfl⟩ := List.getElem_of_mem hv
  rw [col_len] at hk
  have h1 : t < l[k].rows.length := by have := h.whole.rows k hk; omega
  have h2 : c < l[k].rows[t].values.length := by have := h.whole.vals k hk t h1; omega
  rw [col_get hk h1 h2]
  exact (row_ok ((rec_rows (h.chk k hk).1).2 t h1)).2.2 c h2
theorem sorted_val {p : Plan} {l : List Record} (h : LearnT p l) {t c n : Nat} (ht : (t : Int) < p.ticks) (hc : c < p.channels.length) (hn : n < (sorted (col l t c)).length) : -1000000 ≤ (sorted (col l t c))[n] ∧ (sorted (col l t c))[n] ≤ 1000000 :=
  col_val h ht hc _ ((List.mergeSort_perm (col l t c) _).mem_iff.1 (List.getElem_mem hn))
theorem asc_le {s : List Int} (hs : s.Pairwise fun x y => x ≤ y) {i j : Nat} (h : i ≤ j) (hj : j < s.length) : s[i] ≤ s[j] := by
  rcases Nat.lt_or_ge i j with h1 | h1
  · exact List.pairwise_iff_getElem.1 hs i j (by omega) hj h1
  · have : i = j := by omega
    subst this
    exact Int.le_refl _
theorem row_get {p : Plan} {l : List Record} {trim : Int} {t c : Nat} (hc : c < (rowT p l trim t).length) : (rowT p l trim t)[c] = rangeT l trim t c := by
  simp [rowT]
theorem row_len (p : Plan) (l : List Record) (trim : Int) (t : Nat) : (rowT p l trim t).length = p.channels.length := by simp [rowT]
theorem env_get {p : Plan} {l : List Record} {trim : Int} {t : Nat} (ht : t < (envT p l trim).rows.length) : (envT p l trim).rows[t] = rowT p l trim t := by
  simp [envT]
theorem env_len (p : Plan) (l : List Record) (trim : Int) : (envT p l trim).rows.length = p.ticks.toNat := by simp [envT]
theorem learn_valid {p : Plan} {l : List Record} {trim : Int} (h : LearnT p l) (ht : trimErr trim l.length = 0) : envChk p (envT p l trim) = (0, 0) := by
  have hl := h.len
  have hp := planErr_0 h.plan
  have htr := trimErr_0 (by omega) ht
  have e1 : (envT p l trim).parts = l.length := rfl
  have e2 : (envT p l trim).trim = trim := rfl
  unfold envChk
  rw [e1, e2, if_neg (by omega), if_neg (by omega), env_len, if_neg (by omega)]
  refine eachGo_zero _ _ 0 fun t htl => ?_
  rw [env_get htl]
  rw [env_len] at htl
  unfold erowErr
  rw [row_len, if_neg (by omega)]
  have : eachGo (fun _ x => rangeErr x) 0 (rowT p l trim t) = (0, 0) := by
    refine eachGo_zero _ _ 0 fun c hc => ?_
    show rangeErr _ = 0
    rw [row_get hc]
    rw [row_len] at hc
    have hcl := col_len l t c
    have hsl := sorted_len (col l t c)
    have v1 := sorted_val h (show (t : Int) < p.ticks by omega) hc (show trim.toNat < _ by omega)
    have v2 := sorted_val h (show (t : Int) < p.ticks by omega) hc (show l.length - 1 - trim.toNat < _ by omega)
    have v3 := asc_le (sorted_asc (col l t c)) (show trim.toNat ≤ l.length - 1 - trim.toNat by omega) (by omega)
    unfold rangeErr rangeT
    rw [getD_of (by omega), getD_of (by omega)]
    rw [if_neg (by simp only; omega), if_pos v3]
  rw [this]
end Go.Proofs.YtpmglnphhhlbdaaGreatDoor
