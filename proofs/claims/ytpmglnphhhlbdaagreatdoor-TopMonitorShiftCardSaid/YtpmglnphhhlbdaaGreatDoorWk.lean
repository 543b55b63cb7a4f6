import Derived.Test.YtpmglnphhhlbdaaGreatDoorSh
import Derived.Test.YtpmglnphhhlbdaaGreatDoorWf
namespace Go.Proofs.YtpmglnphhhlbdaaGreatDoor
open Go.Ab
theorem eachGo_all {α : Type} (g : Nat → α → Int) : ∀ (l : List α) (i : Nat), (eachGo g i l).2 = 0 → ∀ (j : Nat) (h : j < l.length), g (i + j) l[j] = 0
  | [], _, _, j, h => by simp at h
  | x :: l, i, he, j, h => by
    rw [eachGo] at he
    split at he
    · rename_i hc; exact absurd he hc
    · rename_i hc
      cases j with
      | zero => simpa using hc
      | succ j =>
        have := eachGo_all g l (i + 1) he j (by simpa using h)
        rw [List.getElem_cons_succ, ← this]
        congr 1
        omega
theorem lostGo_nil : ∀ (l : List Row) (i : Nat), (lostGo i l).length = 0 → ∀ x ∈ l, x.known = true
  | [], _, _, x, hx => by cases hx
  | y :: l, i, h, x, hx => by
    rw [lostGo] at h
    split at h
    · rename_i hy
      rcases List.mem_cons.1 hx with rfl | hx
      · exact hy
      · exact lostGo_nil l (i + 1) h x hx
    · simp at h
structure WholeT (p : Plan) (l : List Record) : Prop where
  rows : ∀ (k : Nat) (h : k < l.length), (l[k].rows.length : Int) = p.ticks
  vals : ∀ (k : Nat) (h : k < l.length) (i : Nat) (h2 : i < l[k].rows.length), l[k].rows[i].values.length = p.channels.length
theorem whole_of {p : Plan} {l : List Record} (h : recsErr p l = 0) : WholeT p l := by
  unfold recsErr at h
  split at h
  · contradiction
  · split at h
    · contradiction
    · have h1 := eachGo_all _ l 0 h
      have key : ∀ (k : Nat) (h : k < l.length), (recChk p l[k]).2 = 0 ∧ (lostT l[k]).length = 0 := by
        intro k hk
        have h2 := h1 k hk
        unfold recsErr1 at h2
        split at h2
        · contradiction
        · split at h2
          · exact ⟨by omega, ‹_›⟩
          · contradiction
      refine ⟨fun k hk => recChk_len (key k hk).1, fun k hk i hi => ?_⟩
      obtain ⟨h3, h4⟩ := key k hk
      have h5 := recChk_len h3
      unfold recChk at h3
      rw [if_neg (by omega)] at h3
      have h6 := eachGo_all _ _ 0 h3 i hi
      have h7 := lostGo_nil _ 0 h4 _ (List.getElem_mem hi)
      unfold rowErr at h6
      rw [if_pos h7] at h6
      unfold valuesErr at h6
      split at h6
      · contradiction
      · omega
def col (l : List Record) (t c : Nat) : List Int := l.map fun r => ((r.rows.getD t ⟨false, []⟩).values.getD c 0)
def sorted (l : List Int) : List Int := l.mergeSort fun x y => decide (x ≤ y)
def rangeT (l : List Record) (trim : Int) (t c : Nat) : Range := ⟨(sorted (col l t c)).getD trim.toNat 0, (sorted (col l t c)).getD (l.length - 1 - trim.toNat) 0⟩
def rowT (p : Plan) (l : List Record) (trim : Int) (t : Nat) : List Range := (List.range p.channels.length).map fun c => rangeT l trim t c
def envT (p : Plan) (l : List Record) (trim : Int) : Envelope := ⟨l.length, trim, (List.range p.ticks.toNat).map fun t => rowT p l trim t⟩
def envErr (p : Plan) (l : List Record) (trim : Int) : Int := if openRecs p l ≠ 0 then openRecs p l else trimErr trim l.length
def envOf (p : Plan) (l : List Record) (trim : Int) : Envelope := if envErr p l trim = 0 then envT p l trim else ⟨0, 0, []⟩
theorem openRecs_0 {p : Plan} {l : List Record} (h : openRecs p l = 0) : planErr p = 0 ∧ (1 ≤ l.length ∧ l.length ≤ 20) ∧ WholeT p l := by
  unfold openRecs at h
  split at h
  · contradiction
  · refine ⟨by omega, ?_, whole_of h⟩
    unfold recsErr at h
    split at h
    · contradiction
    · split at h
      · contradiction
      · omega
theorem sorted_len (l : List Int) : (sorted l).length = l.length := sort_len l
theorem col_len (l : List Record) (t c : Nat) : (col l t c).length = l.length := by simp [col]
theorem col_snoc {l : List Record} {k t c : Nat} (h : k < l.length) (h1 : t < l[k].rows.length) (h2 : c < l[k].rows[t].values.length) : col (l.take k) t c ++ [l[k].rows[t].values[c]] = col (l.take (k + 1)) t c := by
  have e : (l[k].rows.getD t ⟨false, []⟩).values.getD c 0 = l[k].rows[t].values[c] := by simp [List.getD, List.getElem?_eq_getElem h1, List.getElem?_eq_getElem h2]
  rw [← take_snoc h]
  simp only [col, List.map_append, List.map_cons, List.map_nil, e]
theorem getD_of {l : List Int} {i : Nat} (h : i < l.length) : l.getD i 0 = l[i] := by simp [List.getD, h]
theorem mon_envelope {p : Plan} {l : List Record} {trim : Int} (hp : planErr p = 0) (hl : 1 ≤ l.length ∧ l.length ≤ 1000) (hw : WholeT p l) (ht : 0 ≤ trim ∧ 2 * trim ≤ l.length - 1) : Ct Tryz.prog 81 [.agg p.cs, .sl (l.map Record.cs), .int .i64 trim] (.agg (envT p l trim).cs) := by
 refine Ct.intro (rs := [.cell 6 30]) Tryz.func81 rfl Tryz.ntmps81 Tryz.results81 rfl rfl rfl fun w h => ?_
 have hpp := planErr_0 hp
 refine OK.seq (OK.reg ?_)
 refine RK.c (S.box (k := 3) rfl .none rfl (.tmp rfl rfl) rfl) ?_
 refine RK.c (S.alloc (k := 6) ze30 rfl .none rfl) ?_
 refine RK.nil (Ab.D.code (OK.seq (OK.reg ?_)))
 refine RK.c (S.move .none rfl (.tmp rfl rfl)) ?_
 refine RK.c (S.lenM si63 .none rfl (.tmp rfl rfl)) ?_
 refine RK.c (S.move .none rfl (.tmp rfl rfl)) ?_
 refine RK.c (S.build bu30 rfl .none rfl (.cons (.tmp rfl rfl) (.cons (.tmp rfl rfl) .nil)) rfl rfl) ?_
 refine RK.c (S.alloc (k := 7) ze30 rfl .none rfl) ?_
 refine RK.c (S.store ti30 .none (.tmp rfl rfl) (.tmp rfl rfl) rfl rfl rfl rfl rfl rfl) ?_
 refine RK.nil (Ab.D.code (OK.seq (OK.seq (OK.reg ?_))))
 refine RK.c (S.bfield fi150_0 .none rfl (.tmp rfl rfl)) ?_
 refine RK.c (S.bfield fi24_1 .none rfl (.tmp rfl rfl)) ?_
 refine RK.c (S.bload1 ti3 .none rfl (.tmp rfl rfl) rfl rfl rfl rfl) ?_
 refine RK.c (S.move .none rfl (.cint rfl)) ?_
 refine RK.nil (Ab.D.code ?_)
 refine OK.block ?_
 refine OK.boxOwn 7 2 900 1 rfl rfl rfl rfl rfl ?_
 refine OK.loop (G := Nat) [3, 6, 7, 900] (fun i => [(1, .sl (l.map Record.cs)), (2, .int .i64 trim), (3, .ptr 3 0), (1003, .box p.cs), (6, .ptr 6 0), (1006, .box [.int .i64 0, .int .i64 0, .nils]), (7, .ptr 7 0), (1007, .box [.int .i64 l.length, .int .i64 trim, .own 900 i]), (2900, .arr 1 ((List.range i).map (fun t => [X.sl ((rowT p l trim t).map Range.cs)]))), (20, .int .i64 p.ticks), (21, .int .i64 i)]) (fun i => (i : Int) ≤ p.ticks) (fun i => p.ticks.toNat - i) 0 (by omega) ⟨rfl, rfl, rfl, rfl, rfl, rfl, rfl, rfl, (lk_arr (by first | rfl | (simp; done) | (simp; omega))), rfl, rfl, trivial⟩ (fun _ => rfl) ?_
 rintro i hi
 refine OK.seq (OK.reg ?_)
 refine RK.c (S.lss .none rfl (.tmp rfl rfl) (.tmp rfl rfl)) ?_
 refine RK.nil (Ab.D.code ?_)
 refine OK.seq ?_
 refine OK.condD rfl rfl (fun c22 => ?_) (fun c22 => ?_)
 ·
  refine OK.skip ?_
  refine Ab.D.code ?_
  refine OK.seq ?_
  refine OK.block ?_
  refine OK.seq (OK.reg ?_)
  refine RK.c (S.move .none rfl (.tmp rfl rfl)) ?_
  refine RK.c (S.assign .none rfl (.tmp rfl rfl)) ?_
  refine RK.nil (Ab.D.code (OK.seq (OK.reg ?_)))
  refine RK.c (S.nilOwn (k := 9) (sz := 2) .none rfl) ?_
  refine RK.nil (Ab.D.code (OK.seq (OK.seq (OK.reg ?_))))
  refine RK.c (S.bfield fi150_0 .none rfl (.tmp rfl rfl)) ?_
  refine RK.c (S.bfield fi24_0 .none rfl (.tmp rfl rfl)) ?_
  refine RK.c (S.bload1 ti22 .none rfl (.tmp rfl rfl) rfl rfl rfl rfl) ?_
  refine RK.c (S.lenM si22 .none rfl (.tmp rfl rfl)) ?_
  refine RK.c (S.move .none rfl (.cint rfl)) ?_
  refine RK.nil (Ab.D.code ?_)
  refine OK.block ?_
  refine OK.loop (G := Nat) [3, 6, 7, 900, 9] (fun c => [(1, .sl (l.map Record.cs)), (2, .int .i64 trim), (3, .ptr 3 0), (1003, .box p.cs), (6, .ptr 6 0), (1006, .box [.int .i64 0, .int .i64 0, .nils]), (7, .ptr 7 0), (1007, .box [.int .i64 l.length, .int .i64 trim, .own 900 i]), (2900, .arr 1 ((List.range i).map (fun t => [X.sl ((rowT p l trim t).map Range.cs)]))), (20, .int .i64 p.ticks), (21, .int .i64 i), (8, .int .i64 i), (9, .own 9 c), (2009, .arr 2 ((List.range c).map fun c => (rangeT l trim i c).cs)), (27, .int .i64 p.channels.length), (28, .int .i64 c)]) (fun c => c ≤ p.channels.length) (fun c => p.channels.length - c) 0 (Nat.zero_le _) ⟨rfl, rfl, rfl, rfl, rfl, rfl, rfl, rfl, (lk_arr (by first | rfl | (simp; done) | (simp; omega))), rfl, rfl, rfl, (lk_own (by first | rfl | (simp; done) | (simp; omega))), (lk_arr (by first | rfl | (simp; done) | (simp; omega))), rfl, rfl, trivial⟩ (fun _ => rfl) ?_
  rintro c hc
  refine OK.seq (OK.reg ?_)
  refine RK.c (S.lss .none rfl (.tmp rfl rfl) (.tmp rfl rfl)) ?_
  refine RK.nil (Ab.D.code ?_)
  refine OK.seq ?_
  refine OK.condD rfl rfl (fun c29 => ?_) (fun c29 => ?_)
  ·
   refine OK.skip ?_
   refine Ab.D.code ?_
   refine OK.seq ?_
   refine OK.block ?_
   refine OK.seq (OK.reg ?_)
   refine RK.c (S.move .none rfl (.tmp rfl rfl)) ?_
   refine RK.c (S.assign .none rfl (.tmp rfl rfl)) ?_
   refine RK.nil (Ab.D.code (OK.seq (OK.reg ?_)))
   refine RK.c (S.nilOwn (k := 11) (sz := 1) .none rfl) ?_
   refine RK.nil (Ab.D.code (OK.seq (OK.seq (OK.reg ?_))))
   refine RK.c (S.move .none rfl (.tmp rfl rfl)) ?_
   refine RK.c (S.lenM si63 .none rfl (.tmp rfl rfl)) ?_
   refine RK.c (S.move .none rfl (.cint rfl)) ?_
   refine RK.nil (Ab.D.code ?_)
   refine OK.block ?_
   refine OK.loop (G := Nat) [3, 6, 7, 900, 9, 11] (fun k => [(1, .sl (l.map Record.cs)), (2, .int .i64 trim), (3, .ptr 3 0), (1003, .box p.cs), (6, .ptr 6 0), (1006, .box [.int .i64 0, .int .i64 0, .nils]), (7, .ptr 7 0), (1007, .box [.int .i64 l.length, .int .i64 trim, .own 900 i]), (2900, .arr 1 ((List.range i).map (fun t => [X.sl ((rowT p l trim t).map Range.cs)]))), (20, .int .i64 p.ticks), (21, .int .i64 i), (8, .int .i64 i), (9, .own 9 c), (2009, .arr 2 ((List.range c).map fun c => (rangeT l trim i c).cs)), (27, .int .i64 p.channels.length), (28, .int .i64 c), (10, .int .i64 c), (11, .own 11 k), (2011, .arr 1 ((col (l.take k) i c).map fun n => [.int .i64 n])), (31, .sl (l.map Record.cs)), (32, .int .i64 l.length), (33, .int .i64 k)]) (fun k => k ≤ l.length) (fun k => l.length - k) 0 (Nat.zero_le _) ⟨rfl, rfl, rfl, rfl, rfl, rfl, rfl, rfl, (lk_arr (by first | rfl | (simp; done) | (simp; omega))), rfl, rfl, rfl, (lk_own (by first | rfl | (simp; done) | (simp; omega))), (lk_arr (by first | rfl | (simp; done) | (simp; omega))), rfl, rfl, rfl, (lk_own (by first | rfl | (simp; done) | (simp; omega))), (lk_arr (by first | rfl | (simp; done) | (simp; omega))), rfl, rfl, rfl, trivial⟩ (fun _ => rfl) ?_
   rintro k hk
   refine OK.seq (OK.reg ?_)
   refine RK.c (S.lss .none rfl (.tmp rfl rfl) (.tmp rfl rfl)) ?_
   refine RK.nil (Ab.D.code ?_)
   refine OK.seq ?_
   refine OK.condD rfl rfl (fun c34 => ?_) (fun c34 => ?_)
   ·
    have h1 : i < l[k].rows.length := by have := hw.rows k (by omega); omega
    have h2 : c < l[k].rows[i].values.length := by have := hw.vals k (by omega) i h1; omega
    refine OK.skip ?_
    refine Ab.D.code ?_
    refine OK.seq ?_
    refine OK.block ?_
    refine OK.seq (OK.reg ?_)
    refine RK.c (S.indexM si63 .none rfl (.tmp rfl rfl) (.tmp rfl rfl) rfl (by omega) rfl) ?_
    refine RK.c (S.loadN ti75 .none rfl (.tmp rfl rfl) rfl rfl) ?_
    refine RK.c (S.alloc (k := 13) ze75 rfl .none rfl) ?_
    refine RK.c (S.store ti75 .none (.tmp rfl rfl) (.tmp rfl rfl) rfl rfl rfl rfl rfl rfl) ?_
    refine RK.nil (Ab.D.code (OK.reg ?_))
    refine RK.c (S.move .none rfl (.tmp rfl rfl)) ?_
    refine RK.c (S.bfield fi75_0 .none rfl (.tmp rfl rfl)) ?_
    refine RK.c (S.bload1 ti73 .none rfl (.tmp rfl rfl) rfl rfl rfl rfl) ?_
    refine RK.c (S.move .none rfl (.tmp rfl rfl)) ?_
    refine RK.c (S.indexM (n := i) si73 .none rfl (.tmp rfl rfl) (.tmp rfl rfl) rfl h1 rfl) ?_
    refine RK.c (S.field fi162_1 .none rfl (.tmp rfl rfl) rfl) ?_
    refine RK.c (S.load1 ti25 .none rfl (.tmp rfl rfl) rfl) ?_
    refine RK.c (S.move .none rfl (.tmp rfl rfl)) ?_
    refine RK.c (S.indexM (n := c) si25 .none rfl (.tmp rfl rfl) (.tmp rfl rfl) rfl h2 rfl) ?_
    refine RK.c (S.load1 ti3 .none rfl (.tmp rfl rfl) rfl) ?_
    refine RK.c (S.mkSlice (k := 47) (rows := [[_]]) ai25 .none rfl (.cons (.tmp rfl rfl) .nil) rfl rfl rfl rfl rfl rfl rfl) ?_
    refine RK.c (S.append ai25 .none rfl (.tmp rfl rfl) rfl (by simp only [List.length_map, col_len, List.length_take]; omega) (.tmp rfl rfl) rfl (by first | rfl | (simp; done) | (simp; omega)) (by omega) (by simp only [maxLen]; omega)) ?_
    refine RK.c (S.assign .none rfl (.tmp rfl rfl)) ?_
    refine RK.nil ?_
    refine Ab.D.blk ?_
    refine Ab.D.code (OK.reg ?_)
    refine RK.c (S.add .none rfl (.tmp rfl rfl) (.cint rfl) (IntWalk.i64_in _ (by omega)) (IntWalk.i64_in _ (by omega))) ?_
    refine RK.c (S.move .none rfl (.tmp rfl rfl)) ?_
    refine RK.nil ?_
    refine Ab.D.lp ⟨k + 1, (by omega), (by omega), rfl, rfl, rfl, rfl, rfl, rfl, rfl, rfl, (lk_arr (by first | rfl | (simp; done) | (simp; omega))), rfl, rfl, rfl, (lk_own (by first | rfl | (simp; done) | (simp; omega))), (lk_arr (by first | rfl | (simp; done) | (simp; omega))), rfl, rfl, rfl, (lk_own (by first | rfl | (simp; done) | (simp; omega))), (lk_arr (by rw [← col_snoc (by omega) h1 h2, List.map_append]; rfl)), rfl, rfl, rfl, trivial⟩
   ·
    refine OK.exit rfl ?_
    refine Ab.D.code ?_
    refine OK.seq ?_
    have hkl : k = l.length := by omega
    subst hkl
    refine OK.reg ?_
    refine RK.c (S.move .none rfl (.tmp rfl rfl)) ?_
    refine RK.c (S.sortI (zs := col (l.take l.length) i c) sortsI Tryz.call106 .none rfl (.tmp rfl rfl) rfl (by simp [col_len]) rfl (by omega)) ?_
    refine RK.nil (Ab.D.code ?_)
    rw [List.take_length] at *
    have hsl : ((col l i c).mergeSort fun x y => decide (x ≤ y)).length = l.length := by rw [sort_len, col_len]
    have hrange : rangeT l trim i c = ⟨((col l i c).mergeSort fun x y => decide (x ≤ y))[trim.toNat], ((col l i c).mergeSort fun x y => decide (x ≤ y))[l.length - 1 - trim.toNat]⟩ := by
     rw [rangeT, sorted, getD_of (by omega), getD_of (by omega)]
    refine OK.freeze 11 rfl rfl rfl (by simp only [List.length_map, sort_len, col_len]) ?_
    refine OK.regionDraw follows (.c (S.move .none rfl (.tmp rfl rfl))
     (.c (S.move .none rfl (.tmp rfl rfl))
     (.c (S.move .none rfl (.tmp rfl rfl))
     (.c (S.indexM (n := trim.toNat) si25 .none rfl (.tmp rfl rfl) (.tmp rfl rfl) (by omega) (by omega) rfl)
     (.c (S.load1 ti3 .none rfl (.tmp rfl rfl) rfl)
     (.c (S.move .none rfl (.tmp rfl rfl))
     (.c (S.move .none rfl (.tmp rfl rfl))
     (.c (S.lenM si25 .none rfl (.tmp rfl rfl))
     (.c (S.sub .none rfl (.tmp rfl rfl) (.cint rfl) (IntWalk.i64_in _ (by omega)) (IntWalk.i64_in _ (by omega)))
     (.c (S.move .none rfl (.tmp rfl rfl))
     (.c (S.sub .none rfl (.tmp rfl rfl) (.tmp rfl rfl) (IntWalk.i64_in _ (by omega)) (IntWalk.i64_in _ (by omega)))
     (.c (S.indexM (n := (l.length - 1 - trim.toNat)) si25 .none rfl (.tmp rfl rfl) (.tmp rfl rfl) (by omega) (by omega) rfl)
     (.c (S.load1 ti3 .none rfl (.tmp rfl rfl) rfl)
     (.c (S.build bu113 rfl .none rfl (.cons (.tmp rfl rfl) (.cons (.tmp rfl rfl) .nil)) rfl rfl)
     (.c (S.mkSlice (k := 66) (rows := [[_, _]]) ai114 .none rfl (.cons (.tmp rfl rfl) .nil) rfl rfl rfl rfl rfl rfl rfl)
     (.c (S.append ai114 .none rfl (.tmp rfl rfl) rfl (by first | rfl | (simp; done) | (simp; omega)) (.tmp rfl rfl) rfl (by first | rfl | (simp; done) | (simp; omega)) (by omega) (by simp only [maxLen]; omega))
     (.c (S.assign .none rfl (.tmp rfl rfl))
     .nil))))))))))))))))) (by kernel_rfl) ?_
    refine Ab.D.blk ?_
    refine Ab.D.code (OK.reg ?_)
    refine RK.c (S.add .none rfl (.tmp rfl rfl) (.cint rfl) (IntWalk.i64_in _ (by omega)) (IntWalk.i64_in _ (by omega))) ?_
    refine RK.c (S.move .none rfl (.tmp rfl rfl)) ?_
    refine RK.nil ?_
    refine Ab.D.lp ⟨c + 1, (by omega), (by omega), rfl, rfl, rfl, rfl, rfl, rfl, rfl, rfl, (lk_arr (by first | rfl | (simp; done) | (simp; omega))), rfl, rfl, rfl, (lk_own (by first | rfl | (simp; done) | (simp; omega))), (lk_arr (by rw [List.range_succ, List.map_append, List.map_cons, hrange]; rfl)), rfl, rfl, trivial⟩
  ·
   refine OK.exit rfl ?_
   refine Ab.D.code ?_
   refine OK.freeze 9 rfl rfl rfl (by simp) ?_
   refine OK.reg ?_
   refine RK.c (S.bfield fi30_2 .none rfl (.tmp rfl rfl)) ?_
   refine RK.c (S.bload1 ti28 .none rfl (.tmp rfl rfl) rfl rfl rfl rfl) ?_
   refine RK.c (S.move .none rfl (.tmp rfl rfl)) ?_
   refine RK.c (S.mkSlice (k := 72) (rows := [[_]]) ai28 .none rfl (.cons (.tmp rfl rfl) .nil) rfl rfl rfl rfl rfl rfl rfl) ?_
   refine RK.c (S.append ai28 .none rfl (.tmp rfl rfl) rfl (by first | rfl | (simp; done) | (simp; omega)) (.tmp rfl rfl) rfl (by first | rfl | (simp; done) | (simp; omega)) (by omega) (by simp only [maxLen]; omega)) ?_
   refine RK.c (S.bfield fi30_2 .none rfl (.tmp rfl rfl)) ?_
   refine RK.c (S.store ti28 .none (.tmp rfl rfl) (.tmp rfl rfl) rfl rfl rfl rfl rfl rfl) ?_
   refine RK.nil ?_
   refine Ab.D.blk ?_
   refine Ab.D.code (OK.reg ?_)
   refine RK.c (S.add .none rfl (.tmp rfl rfl) (.cint rfl) (IntWalk.i64_in _ (by omega)) (IntWalk.i64_in _ (by omega))) ?_
   refine RK.c (S.move .none rfl (.tmp rfl rfl)) ?_
   refine RK.nil ?_
   refine Ab.D.lp ⟨i + 1, (by omega), (by omega), rfl, rfl, rfl, rfl, rfl, rfl, rfl, rfl, (lk_arr (by rw [show c = p.channels.length by omega, List.range_succ, List.map_append]; simp only [rowT, List.map_map, List.map_cons, List.map_nil]; rfl)), rfl, rfl, trivial⟩
 ·
  refine OK.exit rfl ?_
  refine Ab.D.code (OK.seq (OK.reg ?_))
  refine RK.c (S.bloadN ti30 .none rfl (.tmp rfl rfl) rfl rfl rfl rfl) ?_
  refine RK.c (S.store ti30 .none (.tmp rfl rfl) (.tmp rfl rfl) rfl rfl rfl rfl rfl rfl) ?_
  refine RK.nil (Ab.D.code ?_)
  refine OK.ret (Ret.r1 (.cellN rfl rfl rfl rfl ti30 rfl (.k (.same rfl) (.k (.same rfl) (.k (.own rfl rfl (by first | rfl | (simp; done) | (simp; omega))) .z)))) ?_)
  rw [show i = p.ticks.toNat by omega, envT, Envelope.cs, List.map_map]
  rfl
theorem mon_EnvelopeOf {p : Plan} {l : List Record} {trim : Int} : Ct Tryz.prog 32 [.agg p.cs, .sl (l.map Record.cs), .int .i64 trim] (.tup [.agg (envOf p l trim).cs, .int .i64 (envErr p l trim)]) := by
 refine Ct.intro (rs := [.cell 6 30, .tmp 7]) Tryz.func32 rfl Tryz.ntmps32 Tryz.results32 rfl rfl rfl fun w h => ?_
 refine OK.slLen (rows := l.map Record.cs) (t := 1) rfl rfl fun hlen => ?_
 rw [List.length_map] at hlen
 unfold maxLen at hlen
 refine OK.seq (OK.reg ?_)
 refine RK.c (S.box (k := 3) rfl .none rfl (.tmp rfl rfl) rfl) ?_
 refine RK.c (S.alloc (k := 6) ze30 rfl .none rfl) ?_
 refine RK.c (S.assign .none rfl (.cint rfl)) ?_
 refine RK.nil (Ab.D.code (OK.seq (OK.reg ?_)))
 refine RK.c (S.bloadN ti24 .none rfl (.tmp rfl rfl) rfl rfl rfl rfl) ?_
 refine RK.c (S.move .none rfl (.tmp rfl rfl)) ?_
 refine RK.c (S.call (mon_openRecords) Tryz.call79 .none rfl (.cons (.tmp rfl rfl) (.cons (.tmp rfl rfl) .nil)) rfl) ?_
 refine RK.c (S.move .none rfl (.tmp rfl rfl)) ?_
 refine RK.c (S.extract .none rfl (.tmp rfl rfl) rfl rfl) ?_
 refine RK.c (S.extract .none rfl (.tmp rfl rfl) rfl rfl) ?_
 refine RK.c (S.alloc (k := 8) ze150 rfl .none rfl) ?_
 refine RK.c (S.store ti150 .none (.tmp rfl rfl) (.tmp rfl rfl) rfl rfl rfl rfl rfl rfl) ?_
 refine RK.c (S.assign .none rfl (.tmp rfl rfl)) ?_
 refine RK.nil (Ab.D.code (OK.seq (OK.seq (OK.reg ?_))))
 refine RK.c (S.move .none rfl (.tmp rfl rfl)) ?_
 refine RK.c (S.eql .none rfl (.tmp rfl rfl) (.cint rfl)) ?_
 refine RK.nil (Ab.D.code ?_)
 refine OK.condD rfl rfl (fun c17 => ?_) (fun c17 => ?_)
 ·
  have hl := openRecs_0 c17
  have hq : envErr p l trim = trimErr trim l.length := by rw [envErr, if_neg (by omega)]
  refine OK.reg ?_
  refine RK.c (S.move .none rfl (.tmp rfl rfl)) ?_
  refine RK.c (S.move .none rfl (.tmp rfl rfl)) ?_
  refine RK.c (S.lenM si63 .none rfl (.tmp rfl rfl)) ?_
  refine RK.c (S.call (mon_trimErr (by omega)) Tryz.call80 .none rfl (.cons (.tmp rfl rfl) (.cons (.tmp rfl rfl) .nil)) rfl) ?_
  refine RK.c (S.assign .none rfl (.tmp rfl rfl)) ?_
  refine RK.nil (Ab.D.code (OK.seq (OK.seq (OK.reg ?_))))
  refine RK.c (S.move .none rfl (.tmp rfl rfl)) ?_
  refine RK.c (S.neq .none rfl (.tmp rfl rfl) (.cint rfl)) ?_
  refine RK.nil (Ab.D.code ?_)
  refine OK.condD rfl rfl (fun c23 => ?_) (fun c23 => ?_)
  ·
   refine OK.seq (OK.reg ?_)
   refine RK.c (S.build bu30 rfl .none rfl .nil rfl rfl) ?_
   refine RK.c (S.move .none rfl (.tmp rfl rfl)) ?_
   refine RK.c (S.store ti30 .none (.tmp rfl rfl) (.tmp rfl rfl) rfl rfl rfl rfl rfl rfl) ?_
   refine RK.c (S.assign .none rfl (.tmp rfl rfl)) ?_
   refine RK.nil (Ab.D.code ?_)
   refine OK.ret (Ret.r2 (.cellN rfl rfl rfl rfl ti30 rfl (.k (.same rfl) (.k (.same rfl) (.k .nils .z)))) (.tmp rfl rfl (.c (.same rfl) rfl) rfl) ?_)
   rw [envOf, if_neg (by omega), hq]
   rfl
  ·
   have he : envErr p l trim = 0 := by omega
   have hl := openRecs_0 (p := p) (l := l) (by omega)
   have ht : trimErr trim l.length = 0 := by unfold envErr at he; split at he <;> omega
   refine OK.skip ?_
   refine Ab.D.code (OK.seq (OK.reg ?_))
   refine RK.c (S.bloadN ti150 .none rfl (.tmp rfl rfl) rfl rfl rfl rfl) ?_
   refine RK.c (S.move .none rfl (.tmp rfl rfl)) ?_
   refine RK.c (S.move .none rfl (.tmp rfl rfl)) ?_
   refine RK.c (S.call (mon_envelope hl.1 ⟨by omega, by omega⟩ hl.2.2 (trimErr_0 (by omega) ht)) Tryz.call81 .none rfl (.cons (.tmp rfl rfl) (.cons (.tmp rfl rfl) (.cons (.tmp rfl rfl) .nil))) rfl) ?_
   refine RK.c (S.store ti30 .none (.tmp rfl rfl) (.tmp rfl rfl) rfl rfl rfl rfl rfl rfl) ?_
   refine RK.c (S.assign .none rfl (.cint rfl)) ?_
   refine RK.nil (Ab.D.code ?_)
   refine OK.ret (Ret.r2 (.cellN rfl rfl rfl rfl ti30 rfl (.k (.same rfl) (.k (.same rfl) (.k (.same rfl) .z)))) (.tmp rfl rfl (.c (.same rfl) rfl) rfl) ?_)
   rw [envOf, if_pos he, he]
   rfl
 ·
  have hq : envErr p l trim = openRecs p l := by rw [envErr, if_pos c17]
  refine OK.skip ?_
  refine Ab.D.code (OK.seq (OK.seq (OK.reg ?_)))
  refine RK.c (S.move .none rfl (.tmp rfl rfl)) ?_
  refine RK.c (S.neq .none rfl (.tmp rfl rfl) (.cint rfl)) ?_
  refine RK.nil (Ab.D.code ?_)
  refine OK.condD rfl rfl (fun c23 => ?_) (fun c23 => ?_)
  ·
   refine OK.seq (OK.reg ?_)
   refine RK.c (S.build bu30 rfl .none rfl .nil rfl rfl) ?_
   refine RK.c (S.move .none rfl (.tmp rfl rfl)) ?_
   refine RK.c (S.store ti30 .none (.tmp rfl rfl) (.tmp rfl rfl) rfl rfl rfl rfl rfl rfl) ?_
   refine RK.c (S.assign .none rfl (.tmp rfl rfl)) ?_
   refine RK.nil (Ab.D.code ?_)
   refine OK.ret (Ret.r2 (.cellN rfl rfl rfl rfl ti30 rfl (.k (.same rfl) (.k (.same rfl) (.k .nils .z)))) (.tmp rfl rfl (.c (.same rfl) rfl) rfl) ?_)
   rw [envOf, if_neg (by omega), hq]
   rfl
  ·
   have he : envErr p l trim = 0 := by omega
   have hl := openRecs_0 (p := p) (l := l) (by omega)
   have ht : trimErr trim l.length = 0 := by unfold envErr at he; split at he <;> omega
   refine OK.skip ?_
   refine Ab.D.code (OK.seq (OK.reg ?_))
   refine RK.c (S.bloadN ti150 .none rfl (.tmp rfl rfl) rfl rfl rfl rfl) ?_
   refine RK.c (S.move .none rfl (.tmp rfl rfl)) ?_
   refine RK.c (S.move .none rfl (.tmp rfl rfl)) ?_
   refine RK.c (S.call (mon_envelope hl.1 ⟨by omega, by omega⟩ hl.2.2 (trimErr_0 (by omega) ht)) Tryz.call81 .none rfl (.cons (.tmp rfl rfl) (.cons (.tmp rfl rfl) (.cons (.tmp rfl rfl) .nil))) rfl) ?_
   refine RK.c (S.store ti30 .none (.tmp rfl rfl) (.tmp rfl rfl) rfl rfl rfl rfl rfl rfl) ?_
   refine RK.c (S.assign .none rfl (.cint rfl)) ?_
   refine RK.nil (Ab.D.code ?_)
   refine OK.ret (Ret.r2 (.cellN rfl rfl rfl rfl ti30 rfl (.k (.same rfl) (.k (.same rfl) (.k (.same rfl) .z)))) (.tmp rfl rfl (.c (.same rfl) rfl) rfl) ?_)
   rw [envOf, if_pos he, he]
   rfl
end Go.Proofs.YtpmglnphhhlbdaaGreatDoor
namespace Go.Proofs.YtpmglnphhhlbdaaGreatDoor
open Go.Ab
def rangeErr (x : Range) : Int := if ¬ ((-1000000 ≤ x.lo ∧ x.lo ≤ 1000000) ∧ (-1000000 ≤ x.hi ∧ x.hi ≤ 1000000)) then 2 else if x.lo ≤ x.hi then 0 else 9
def erowErr (p : Plan) (l : List Range) : Int := if l.length ≠ p.channels.length then 10 else (eachGo (fun _ x => rangeErr x) 0 l).2
def envChk (p : Plan) (x : Envelope) : Int × Int :=
  if ¬ (1 ≤ x.parts ∧ x.parts ≤ 20) then (0, 2) else if trimErr x.trim x.parts ≠ 0 then (0, trimErr x.trim x.parts) else if (x.rows.length : Int) ≠ p.ticks then (0, 10) else eachGo (fun _ l => erowErr p l) 0 x.rows
def bothErr (p : Plan) (x : Envelope) (r : Record) : Int := if planErr p ≠ 0 then planErr p else if (envChk p x).2 ≠ 0 then (envChk p x).2 else (recChk p r).2
theorem envHead {p : Plan} {x : Envelope} (h : 1 ≤ x.parts ∧ x.parts ≤ 20) : envChk p x = if firstE [trimErr x.trim x.parts, unlessE (decide ((x.rows.length : Int) = p.ticks)) 10] ≠ 0 then (0, firstE [trimErr x.trim x.parts, unlessE (decide ((x.rows.length : Int) = p.ticks)) 10]) else eachGo (fun _ l => erowErr p l) 0 x.rows := by
  rw [envChk, if_neg (by omega), firstE2, ite_unless]
  by_cases h1 : trimErr x.trim x.parts = 0
  · by_cases h2 : (x.rows.length : Int) = p.ticks
    · simp [h1, h2]
    · simp [h1, h2]
  · simp [h1]
def devs (l : List Deviation) : X := .sl (l.map Deviation.cs)
theorem mon_range {i : Nat} {x : Range} : Ct Tryz.prog 161 [.int .i64 i, .agg x.cs] (.int .i64 (rangeErr x)) := by
 refine Ct.intro (rs := [.tmp 4]) Tryz.func161 rfl Tryz.ntmps161 Tryz.results161 rfl rfl rfl fun w h => ?_
 refine OK.seq (OK.reg ?_)
 refine RK.c (S.box (k := 3) rfl .none rfl (.tmp rfl rfl) rfl) ?_
 refine RK.c (S.assign .none rfl (.cint rfl)) ?_
 refine RK.nil (Ab.D.code ?_)
 refine OK.seq ?_
 by_cases g8 : -1000000 ≤ x.lo ∧ x.lo ≤ 1000000
 ·
  refine OK.regionDraw follows (.c (S.bfield fi113_0 .none rfl (.tmp rfl rfl))
   (.c (S.bload1 ti3 .none rfl (.tmp rfl rfl) rfl rfl rfl rfl)
   (.c (S.call (mon_isValue) Tryz.call142 .none rfl (.cons (.tmp rfl rfl) .nil) rfl)
   (.c (S.move .none rfl (.tmp rfl rfl))
   (.c (S.bfield fi113_1 (.yes rfl rfl rfl (by first | rfl | exact decide_eq_true g8 | exact decide_eq_false g8 | (rw [decide_eq_true g8]; rfl) | (rw [decide_eq_false g8]; rfl) | simp [*])) rfl (.tmp rfl rfl))
   (.c (S.bload1 ti3 (.yes rfl rfl rfl (by first | rfl | exact decide_eq_true g8 | exact decide_eq_false g8 | (rw [decide_eq_true g8]; rfl) | (rw [decide_eq_false g8]; rfl) | simp [*])) rfl (.tmp rfl rfl) rfl rfl rfl rfl)
   (.c (S.call (mon_isValue) Tryz.call142 (.yes rfl rfl rfl (by first | rfl | exact decide_eq_true g8 | exact decide_eq_false g8 | (rw [decide_eq_true g8]; rfl) | (rw [decide_eq_false g8]; rfl) | simp [*])) rfl (.cons (.tmp rfl rfl) .nil) rfl)
   (.c (S.pickT .none rfl (.tmp rfl rfl) (.tmp rfl rfl) (by first | rfl | exact decide_eq_true g8 | exact decide_eq_false g8 | (rw [decide_eq_true g8]; rfl) | (rw [decide_eq_false g8]; rfl) | simp [*]))
   (.c (S.call (monitor_unless) Tryz.call84 .none rfl (.cons (.tmp rfl rfl) (.cons (.cint rfl) .nil)) rfl)
   (.c (S.bfield fi113_0 .none rfl (.tmp rfl rfl))
   (.c (S.bload1 ti3 .none rfl (.tmp rfl rfl) rfl rfl rfl rfl)
   (.c (S.bfield fi113_1 .none rfl (.tmp rfl rfl))
   (.c (S.bload1 ti3 .none rfl (.tmp rfl rfl) rfl rfl rfl rfl)
   (.c (S.leq .none rfl (.tmp rfl rfl) (.tmp rfl rfl))
   (.c (S.call (monitor_unless) Tryz.call84 .none rfl (.cons (.tmp rfl rfl) (.cons (.cint rfl) .nil)) rfl)
   (.c (S.mkSlice (k := 20) (rows := [[_], [_]]) ai209 .none rfl (.cons (.tmp rfl rfl) (.cons (.tmp rfl rfl) .nil)) rfl rfl rfl rfl rfl rfl rfl)
   (.c (S.callL (monitor_first (l := [_, _])) Tryz.call83 .none rfl (.cons (.tmp rfl rfl) .nil) (.cons (.p (.own rfl rfl) rfl) .nil) rfl)
   (.c (S.assign .none rfl (.tmp rfl rfl))
   .nil)))))))))))))))))) (by kernel_rfl) ?_
  refine Ab.D.code ?_
  refine OK.ret (Ret.r1 (.tmp rfl rfl (.c (.same rfl) rfl) rfl) ?_)
  refine ret_i ?_
  simp [firstE2, unlessE]
  unfold rangeErr
  repeat' split
  all_goals omega
 ·
  refine OK.regionDraw follows (.c (S.bfield fi113_0 .none rfl (.tmp rfl rfl))
   (.c (S.bload1 ti3 .none rfl (.tmp rfl rfl) rfl rfl rfl rfl)
   (.c (S.call (mon_isValue) Tryz.call142 .none rfl (.cons (.tmp rfl rfl) .nil) rfl)
   (.c (S.move .none rfl (.tmp rfl rfl))
   (.c (S.skip rfl rfl rfl (by first | rfl | exact decide_eq_true g8 | exact decide_eq_false g8 | (rw [decide_eq_true g8]; rfl) | (rw [decide_eq_false g8]; rfl) | simp [*]) rfl)
   (.c (S.skip rfl rfl rfl (by first | rfl | exact decide_eq_true g8 | exact decide_eq_false g8 | (rw [decide_eq_true g8]; rfl) | (rw [decide_eq_false g8]; rfl) | simp [*]) rfl)
   (.c (S.skip rfl rfl rfl (by first | rfl | exact decide_eq_true g8 | exact decide_eq_false g8 | (rw [decide_eq_true g8]; rfl) | (rw [decide_eq_false g8]; rfl) | simp [*]) rfl)
   (.c (S.pickF .none rfl (.tmp rfl rfl) .cbool (by first | rfl | exact decide_eq_true g8 | exact decide_eq_false g8 | (rw [decide_eq_true g8]; rfl) | (rw [decide_eq_false g8]; rfl) | simp [*]))
   (.c (S.call (monitor_unless) Tryz.call84 .none rfl (.cons (.tmp rfl rfl) (.cons (.cint rfl) .nil)) rfl)
   (.c (S.bfield fi113_0 .none rfl (.tmp rfl rfl))
   (.c (S.bload1 ti3 .none rfl (.tmp rfl rfl) rfl rfl rfl rfl)
   (.c (S.bfield fi113_1 .none rfl (.tmp rfl rfl))
   (.c (S.bload1 ti3 .none rfl (.tmp rfl rfl) rfl rfl rfl rfl)
   (.c (S.leq .none rfl (.tmp rfl rfl) (.tmp rfl rfl))
   (.c (S.call (monitor_unless) Tryz.call84 .none rfl (.cons (.tmp rfl rfl) (.cons (.cint rfl) .nil)) rfl)
   (.c (S.mkSlice (k := 20) (rows := [[_], [_]]) ai209 .none rfl (.cons (.tmp rfl rfl) (.cons (.tmp rfl rfl) .nil)) rfl rfl rfl rfl rfl rfl rfl)
   (.c (S.callL (monitor_first (l := [_, _])) Tryz.call83 .none rfl (.cons (.tmp rfl rfl) .nil) (.cons (.p (.own rfl rfl) rfl) .nil) rfl)
   (.c (S.assign .none rfl (.tmp rfl rfl))
   .nil)))))))))))))))))) (by kernel_rfl) ?_
  refine Ab.D.code ?_
  refine OK.ret (Ret.r1 (.tmp rfl rfl (.c (.same rfl) rfl) rfl) ?_)
  refine ret_i ?_
  simp [firstE2, unlessE]
  unfold rangeErr
  repeat' split
  all_goals omega
theorem mon_erow {p : Plan} {i : Nat} {l : List Range} : Ct Tryz.prog 159 [.int .i64 i, .sl (l.map Range.cs), .eptr p.cs] (.int .i64 (erowErr p l)) := by
 refine Ct.intro (rs := [.tmp 5]) Tryz.func159 rfl Tryz.ntmps159 Tryz.results159 rfl rfl rfl fun w h => ?_
 refine OK.seq (OK.reg ?_)
 refine RK.c (S.assign .none rfl (.cint rfl)) ?_
 refine RK.nil (Ab.D.code (OK.seq (OK.seq (OK.reg ?_))))
 refine RK.c (S.move .none rfl (.tmp rfl rfl)) ?_
 refine RK.c (S.lenM si114 .none rfl (.tmp rfl rfl)) ?_
 refine RK.c (S.field fi150_0 .none rfl (.tmp rfl rfl) rfl) ?_
 refine RK.c (S.field fi24_0 .none rfl (.tmp rfl rfl) rfl) ?_
 refine RK.c (S.load1 ti22 .none rfl (.tmp rfl rfl) rfl) ?_
 refine RK.c (S.lenM si22 .none rfl (.tmp rfl rfl)) ?_
 refine RK.c (S.neq .none rfl (.tmp rfl rfl) (.tmp rfl rfl)) ?_
 refine RK.nil (Ab.D.code ?_)
 refine OK.condD rfl rfl (fun c14 => ?_) (fun c14 => ?_)
 ·
  refine OK.seq (OK.reg ?_)
  refine RK.c (S.assign .none rfl (.cint rfl)) ?_
  refine RK.nil (Ab.D.code ?_)
  refine OK.ret (Ret.r1 (.tmp rfl rfl (.c (.same rfl) rfl) rfl) ?_)
  refine ret_i ?_
  rw [erowErr, if_pos (by omega)]
 ·
  refine OK.skip ?_
  refine Ab.D.code (OK.seq (OK.reg ?_))
  refine RK.c (S.move .none rfl (.tmp rfl rfl)) ?_
  refine RK.c (S.call (each_Range (l := l) (g := fun _ x => rangeErr x) (caps := []) (fun i x _ => mon_range) Tryz.call161 ⟨rfl, rfl⟩) Tryz.call160 .none rfl (.cons (.tmp rfl rfl) (.cons .cfn .nil)) rfl) ?_
  refine RK.c (S.move .none rfl (.tmp rfl rfl)) ?_
  refine RK.c (S.extract .none rfl (.tmp rfl rfl) rfl rfl) ?_
  refine RK.c (S.extract .none rfl (.tmp rfl rfl) rfl rfl) ?_
  refine RK.c (S.assign .none rfl (.tmp rfl rfl)) ?_
  refine RK.c (S.assign .none rfl (.tmp rfl rfl)) ?_
  refine RK.nil (Ab.D.code (OK.seq (OK.reg ?_)))
  refine RK.c (S.move .none rfl (.tmp rfl rfl)) ?_
  refine RK.c (S.assign .none rfl (.tmp rfl rfl)) ?_
  refine RK.nil (Ab.D.code ?_)
  refine OK.ret (Ret.r1 (.tmp rfl rfl (.c (.same rfl) rfl) rfl) ?_)
  refine ret_i ?_
  rw [erowErr, if_neg (by omega)]
theorem mon_envelopeErr {p : Plan} {x : Envelope} : Ct Tryz.prog 132 [.agg p.cs, .agg x.cs] (pair (envChk p x)) := by
 refine Ct.intro (rs := [.tmp 4, .tmp 5]) Tryz.func132 rfl Tryz.ntmps132 Tryz.results132 rfl rfl rfl fun w h => ?_
 refine OK.seq (OK.reg ?_)
 refine RK.c (S.box (k := 2) rfl .none rfl (.tmp rfl rfl) rfl) ?_
 refine RK.c (S.box (k := 3) rfl .none rfl (.tmp rfl rfl) rfl) ?_
 refine RK.c (S.assign .none rfl (.cint rfl)) ?_
 refine RK.c (S.assign .none rfl (.cint rfl)) ?_
 refine RK.nil (Ab.D.code (OK.seq (OK.seq (OK.reg ?_))))
 refine RK.c (S.bfield fi30_0 .none rfl (.tmp rfl rfl)) ?_
 refine RK.c (S.bload1 ti3 .none rfl (.tmp rfl rfl) rfl rfl rfl rfl) ?_
 refine RK.c (S.call (mon_within) Tryz.call99 .none rfl (.cons (.tmp rfl rfl) (.cons (.cint rfl) (.cons (.cint rfl) .nil))) rfl) ?_
 refine RK.c (S.notD .none rfl (.tmp rfl rfl)) ?_
 refine RK.nil (Ab.D.code ?_)
 refine OK.condD rfl rfl (fun c10 => ?_) (fun c10 => ?_)
 ·
  have hx : ¬ (1 ≤ x.parts ∧ x.parts ≤ 20) := by simpa using c10
  refine OK.seq (OK.reg ?_)
  refine RK.c (S.assign .none rfl (.cint rfl)) ?_
  refine RK.c (S.assign .none rfl (.cint rfl)) ?_
  refine RK.nil (Ab.D.code ?_)
  refine OK.ret (Ret.r2 (.tmp rfl rfl (.c (.same rfl) rfl) rfl) (.tmp rfl rfl (.c (.same rfl) rfl) rfl) ?_)
  refine ret_p ?_
  rw [envChk, if_pos hx]
 ·
  have hx : 1 ≤ x.parts ∧ x.parts ≤ 20 := by simpa using c10
  refine OK.skip ?_
  refine Ab.D.code ?_
  refine OK.seq ?_
  refine OK.seq ?_
  refine OK.regionDraw follows (.c (S.bfield fi30_1 .none rfl (.tmp rfl rfl))
   (.c (S.bload1 ti3 .none rfl (.tmp rfl rfl) rfl rfl rfl rfl)
   (.c (S.bfield fi30_0 .none rfl (.tmp rfl rfl))
   (.c (S.bload1 ti3 .none rfl (.tmp rfl rfl) rfl rfl rfl rfl)
   (.c (S.call (mon_trimErr (by omega)) Tryz.call80 .none rfl (.cons (.tmp rfl rfl) (.cons (.tmp rfl rfl) .nil)) rfl)
   (.c (S.bfield fi30_2 .none rfl (.tmp rfl rfl))
   (.c (S.bload1 ti28 .none rfl (.tmp rfl rfl) rfl rfl rfl rfl)
   (.c (S.lenM si28 .none rfl (.tmp rfl rfl))
   (.c (S.bfield fi150_0 .none rfl (.tmp rfl rfl))
   (.c (S.bfield fi24_1 .none rfl (.tmp rfl rfl))
   (.c (S.bload1 ti3 .none rfl (.tmp rfl rfl) rfl rfl rfl rfl)
   (.c (S.eql .none rfl (.tmp rfl rfl) (.tmp rfl rfl))
   (.c (S.call (monitor_unless) Tryz.call84 .none rfl (.cons (.tmp rfl rfl) (.cons (.cint rfl) .nil)) rfl)
   (.c (S.mkSlice (k := 24) (rows := [[_], [_]]) ai209 .none rfl (.cons (.tmp rfl rfl) (.cons (.tmp rfl rfl) .nil)) rfl rfl rfl rfl rfl rfl rfl)
   (.c (S.callL (monitor_first (l := [_, _])) Tryz.call83 .none rfl (.cons (.tmp rfl rfl) .nil) (.cons (.p (.own rfl rfl) rfl) .nil) rfl)
   (.c (S.assign .none rfl (.tmp rfl rfl))
   .nil)))))))))))))))) (by kernel_rfl) ?_
  refine Ab.D.code (OK.seq (OK.reg ?_))
  refine RK.c (S.move .none rfl (.tmp rfl rfl)) ?_
  refine RK.c (S.neq .none rfl (.tmp rfl rfl) (.cint rfl)) ?_
  refine RK.nil (Ab.D.code ?_)
  refine OK.condD rfl rfl (fun c27 => ?_) (fun c27 => ?_)
  ·
   refine OK.seq (OK.reg ?_)
   refine RK.c (S.move .none rfl (.tmp rfl rfl)) ?_
   refine RK.c (S.assign .none rfl (.cint rfl)) ?_
   refine RK.c (S.assign .none rfl (.tmp rfl rfl)) ?_
   refine RK.nil (Ab.D.code ?_)
   refine OK.ret (Ret.r2 (.tmp rfl rfl (.c (.same rfl) rfl) rfl) (.tmp rfl rfl (.c (.same rfl) rfl) rfl) ?_)
   refine ret_p ?_
   rw [envHead hx, if_pos c27]
  ·
   refine OK.skip ?_
   refine Ab.D.code (OK.seq (OK.reg ?_))
   refine RK.c (S.bfield fi30_2 .none rfl (.tmp rfl rfl)) ?_
   refine RK.c (S.bload1 ti28 .none rfl (.tmp rfl rfl) rfl rfl rfl rfl) ?_
   refine RK.c (S.makeFunc1 .none rfl (.tmp rfl rfl) rfl) ?_
   refine RK.c (S.callL (each_List_Range (l := x.rows) (g := fun _ l => erowErr p l) (caps := [.eptr p.cs]) (fun i x _ => mon_erow) Tryz.call159 ⟨rfl, rfl⟩) Tryz.call158 .none rfl (.cons (.tmp rfl rfl) (.cons (.tmp rfl rfl) .nil)) (.cons (.same rfl) (.cons (.fn (.cons (.ptr rfl rfl rfl rfl) .nil)) .nil)) rfl) ?_
   refine RK.c (S.extract .none rfl (.tmp rfl rfl) rfl rfl) ?_
   refine RK.c (S.extract .none rfl (.tmp rfl rfl) rfl rfl) ?_
   refine RK.c (S.assign .none rfl (.tmp rfl rfl)) ?_
   refine RK.c (S.assign .none rfl (.tmp rfl rfl)) ?_
   refine RK.nil (Ab.D.code ?_)
   refine OK.ret (Ret.r2 (.tmp rfl rfl (.c (.same rfl) rfl) rfl) (.tmp rfl rfl (.c (.same rfl) rfl) rfl) ?_)
   refine ret_p ?_
   rw [envHead hx, if_neg c27]
theorem mon_openBoth {p : Plan} {x : Envelope} {r : Record} : Ct Tryz.prog 90 [.agg p.cs, .agg x.cs, .agg r.cs] (.int .i64 (bothErr p x r)) := by
 refine Ct.intro (rs := [.tmp 6]) Tryz.func90 rfl Tryz.ntmps90 Tryz.results90 rfl rfl rfl fun w h => ?_
 refine OK.seq (OK.reg ?_)
 refine RK.c (S.box (k := 3) rfl .none rfl (.tmp rfl rfl) rfl) ?_
 refine RK.c (S.box (k := 4) rfl .none rfl (.tmp rfl rfl) rfl) ?_
 refine RK.c (S.box (k := 5) rfl .none rfl (.tmp rfl rfl) rfl) ?_
 refine RK.c (S.assign .none rfl (.cint rfl)) ?_
 refine RK.nil (Ab.D.code (OK.seq (OK.reg ?_)))
 refine RK.c (S.bloadN ti24 .none rfl (.tmp rfl rfl) rfl rfl rfl rfl) ?_
 refine RK.c (S.call (mon_open) Tryz.call82 .none rfl (.cons (.tmp rfl rfl) .nil) rfl) ?_
 refine RK.c (S.move .none rfl (.tmp rfl rfl)) ?_
 refine RK.c (S.extract .none rfl (.tmp rfl rfl) rfl rfl) ?_
 refine RK.c (S.extract .none rfl (.tmp rfl rfl) rfl rfl) ?_
 refine RK.c (S.alloc (k := 7) ze150 rfl .none rfl) ?_
 refine RK.c (S.store ti150 .none (.tmp rfl rfl) (.tmp rfl rfl) rfl rfl rfl rfl rfl rfl) ?_
 refine RK.c (S.assign .none rfl (.tmp rfl rfl)) ?_
 refine RK.nil (Ab.D.code (OK.seq (OK.seq (OK.reg ?_))))
 refine RK.c (S.move .none rfl (.tmp rfl rfl)) ?_
 refine RK.c (S.neq .none rfl (.tmp rfl rfl) (.cint rfl)) ?_
 refine RK.nil (Ab.D.code ?_)
 refine OK.condD rfl rfl (fun c17 => ?_) (fun c17 => ?_)
 ·
  refine OK.seq (OK.reg ?_)
  refine RK.c (S.move .none rfl (.tmp rfl rfl)) ?_
  refine RK.c (S.assign .none rfl (.tmp rfl rfl)) ?_
  refine RK.nil (Ab.D.code ?_)
  refine OK.ret (Ret.r1 (.tmp rfl rfl (.c (.same rfl) rfl) rfl) ?_)
  refine ret_i ?_
  rw [bothErr, if_pos c17]
 ·
  refine OK.skip ?_
  refine Ab.D.code (OK.seq (OK.seq (OK.reg ?_)))
  refine RK.c (S.bloadN ti150 .none rfl (.tmp rfl rfl) rfl rfl rfl rfl) ?_
  refine RK.c (S.bloadN ti30 .none rfl (.tmp rfl rfl) rfl rfl rfl rfl) ?_
  refine RK.c (S.call (mon_envelopeErr) Tryz.call132 .none rfl (.cons (.tmp rfl rfl) (.cons (.tmp rfl rfl) .nil)) rfl) ?_
  refine RK.c (S.move .none rfl (.tmp rfl rfl)) ?_
  refine RK.c (S.extract .none rfl (.tmp rfl rfl) rfl rfl) ?_
  refine RK.c (S.extract .none rfl (.tmp rfl rfl) rfl rfl) ?_
  refine RK.c (S.assign .none rfl (.tmp rfl rfl)) ?_
  refine RK.c (S.assign .none rfl (.tmp rfl rfl)) ?_
  refine RK.nil (Ab.D.code (OK.seq (OK.reg ?_)))
  refine RK.c (S.move .none rfl (.tmp rfl rfl)) ?_
  refine RK.c (S.neq .none rfl (.tmp rfl rfl) (.cint rfl)) ?_
  refine RK.nil (Ab.D.code ?_)
  refine OK.condD rfl rfl (fun c26 => ?_) (fun c26 => ?_)
  ·
   refine OK.seq (OK.reg ?_)
   refine RK.c (S.move .none rfl (.tmp rfl rfl)) ?_
   refine RK.c (S.assign .none rfl (.tmp rfl rfl)) ?_
   refine RK.nil (Ab.D.code ?_)
   refine OK.ret (Ret.r1 (.tmp rfl rfl (.c (.same rfl) rfl) rfl) ?_)
   refine ret_i ?_
   rw [bothErr, if_neg c17, if_pos c26]
  ·
   refine OK.skip ?_
   refine Ab.D.code (OK.seq (OK.reg ?_))
   refine RK.c (S.bloadN ti150 .none rfl (.tmp rfl rfl) rfl rfl rfl rfl) ?_
   refine RK.c (S.bloadN ti75 .none rfl (.tmp rfl rfl) rfl rfl rfl rfl) ?_
   refine RK.c (S.call (mon_recordErr) Tryz.call130 .none rfl (.cons (.tmp rfl rfl) (.cons (.tmp rfl rfl) .nil)) rfl) ?_
   refine RK.c (S.move .none rfl (.tmp rfl rfl)) ?_
   refine RK.c (S.extract .none rfl (.tmp rfl rfl) rfl rfl) ?_
   refine RK.c (S.extract .none rfl (.tmp rfl rfl) rfl rfl) ?_
   refine RK.c (S.assign .none rfl (.tmp rfl rfl)) ?_
   refine RK.nil (Ab.D.code (OK.seq (OK.reg ?_)))
   refine RK.c (S.move .none rfl (.tmp rfl rfl)) ?_
   refine RK.c (S.assign .none rfl (.tmp rfl rfl)) ?_
   refine RK.nil (Ab.D.code ?_)
   refine OK.ret (Ret.r1 (.tmp rfl rfl (.c (.same rfl) rfl) rfl) ?_)
   refine ret_i ?_
   rw [bothErr, if_neg c17, if_neg c26]
end Go.Proofs.YtpmglnphhhlbdaaGreatDoor
