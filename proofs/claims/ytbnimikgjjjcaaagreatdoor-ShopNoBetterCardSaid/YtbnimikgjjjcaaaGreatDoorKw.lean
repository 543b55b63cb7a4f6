import Derived.Test.YtbnimikgjjjcaaaGreatDoorGs
import Derived.Test.YtbnimikgjjjcaaaGreatDoorKp
import Derived.Test.YtbnimikgjjjcaaaGreatDoorKu
import Derived.Test.YtbnimikgjjjcaaaGreatDoorTy
namespace Go.Proofs.YtbnimikgjjjcaaaGreatDoor
open Go.Ab
def zeroL (l : List Int) : List Int := l.map fun _ => 0
def zM (T : List (List Int)) (i j : Nat) : List (List Int) := (T.take i).map zeroL ++ ((T.drop i).take 1).map (fun r => zeroL (r.take j) ++ r.drop j) ++ T.drop (i + 1)
theorem zM_at {T : List (List Int)} {i : Nat} (h : i < T.length) (j : Nat) : zM T i j = (T.take i).map zeroL ++ (zeroL (T[i].take j) ++ T[i].drop j) :: T.drop (i + 1) := by
  unfold zM
  rw [List.drop_eq_getElem_cons h, List.take_succ_cons, List.take_zero, List.map_cons, List.map_nil, List.append_assoc]
  rfl
theorem zM_0 (T : List (List Int)) : zM T 0 0 = T := by
  unfold zM
  cases T <;> simp [zeroL]
theorem zM_end {T : List (List Int)} {i : Nat} (h : i = T.length) : zM T i 0 = T.map zeroL := by
  unfold zM
  subst h
  simp
theorem zM_row {T : List (List Int)} {i j : Nat} (h : i < T.length) : (zM T i j)[i]? = some (zeroL (T[i].take j) ++ T[i].drop j) := by
  have h1 : ((T.take i).map zeroL).length = i := by rw [List.length_map, List.length_take]; omega
  rw [zM_at h, List.getElem?_append_right (by omega)]
  have : i - ((T.take i).map zeroL).length = 0 := by omega
  rw [this]
  rfl
theorem zM_len {T : List (List Int)} {i j : Nat} (h : i < T.length) : (zeroL (T[i].take j) ++ T[i].drop j).length = T[i].length := by
  simp [zeroL]
  omega
theorem zM_set {T : List (List Int)} {i j : Nat} (h : i < T.length) (hj : j < T[i].length) : (zM T i j).set i ((zeroL (T[i].take j) ++ T[i].drop j).set j 0) = zM T i (j + 1) := by
  have h9 : ((T.take i).map zeroL).length = i := by rw [List.length_map, List.length_take]; omega
  rw [zM_at h, zM_at h, List.set_append_right _ _ (by omega)]
  have h0 : i - ((T.take i).map zeroL).length = 0 := by omega
  rw [h0, List.set_cons_zero]
  congr 2
  have h1 : (zeroL (T[i].take j)).length = j := by simp [zeroL]; omega
  rw [List.set_append_right _ _ (by omega), h1, Nat.sub_self, List.drop_eq_getElem_cons hj, List.set_cons_zero, List.take_succ_eq_append_getElem hj]
  unfold zeroL
  rw [List.map_append, List.append_assoc]
  rfl
theorem zM_next {T : List (List Int)} {i j : Nat} (h : i < T.length) (hj : j = T[i].length) : zM T i j = zM T (i + 1) 0 := by
  have e : ((T.drop (i + 1)).take 1).map (fun r => zeroL (r.take 0) ++ r.drop 0) ++ T.drop (i + 1 + 1) = T.drop (i + 1) := by
    have h2 : T.drop (i + 1 + 1) = (T.drop (i + 1)).tail := List.tail_drop.symm
    rw [h2]
    generalize T.drop (i + 1) = D
    cases D <;> simp [zeroL]
  rw [zM_at h, hj, List.take_length, List.drop_length, List.append_nil]
  unfold zM
  rw [List.take_succ_eq_append_getElem h, List.map_append, List.append_assoc, e, List.append_assoc]
  rfl
theorem rw_lens {q : List RW} {L : List (List Int)} {h : Mem} {Y : Nat → Prop} {w : World} (hj : JRow q L h Y w) : q.length = L.length ∧ ∀ (i : Nat) (h1 : i < q.length) (h2 : i < L.length), q[i].n = L[i].length :=
  ⟨hj.1, fun i h1 h2 => (hj.2.1 i q[i] L[i] (List.getElem?_eq_getElem h1) (List.getElem?_eq_getElem h2)).1.symm⟩
theorem both_jobs {l : List Job} {c : Changes} (h : bothE l c = 0) : (jobsChk l).2 = 0 := by
  unfold bothE at h
  split at h
  · rename_i h1; exact absurd h h1
  · rename_i h1; exact Decidable.not_not.1 h1
theorem order_of {n : Nat} {o : List Int} (h : OrdOkN n o) : orderE n o = 0 := by
  refine order_end h.len (each_00 fun i hi => ?_)
  rw [Nat.zero_add]
  have h1 := h.rng _ (List.getElem_mem hi)
  refine ord_0 ⟨h1.1, by omega⟩ ?_
  rw [List.any_eq_false]
  intro y hy
  rw [decide_eq_true_eq]
  obtain ⟨j, hj, e⟩ := List.getElem_of_mem hy
  rw [List.length_take] at hj
  rw [List.getElem_take] at e
  intro e2
  exact h.dis j i (by omega) hi (by omega) (by rw [e, e2])
theorem baseX_CopyLists {l : List (List Int)} (hlen : l.length ≤ 100000) (hr : ∀ r ∈ l, r.length ≤ 100000) : CtX Tryz.prog 33 [.sl (l.map (fun l => [.sl (l.map fun n => [.int .i64 n])]))] (fun q : List RW => .sl (q.map fun r : RW => [X.raw r.v])) (fun q : List RW => JRow q l) := by
 refine CtX.intro (rs := [.tmp 2]) Tryz.func33 rfl Tryz.ntmps33 Tryz.results33 rfl rfl rfl fun w h => ?_
 refine OK.resNew (J := JRow [] []) (JRow.stable _ _) (fun _ _ _ => ⟨rfl, fun i r l h => by simp at h, List.Pairwise.nil⟩) ?_
 refine OK.seq (OK.reg ?_)
 refine RK.c (S.assign .none rfl .cnil) ?_
 refine RK.nil (Ab.D.code (OK.seq (OK.reg ?_)))
 refine RK.c (S.nilOwn (k := 3) (sz := 1) .none rfl) ?_
 refine RK.nil (Ab.D.code (OK.seq (OK.seq (OK.reg ?_))))
 refine RK.c (S.assign .none rfl (.cint rfl)) ?_
 refine RK.nil (Ab.D.code ?_)
 refine OK.block ?_
 refine OK.loop2 [3] (fun (i : Nat) (q : List RW) => [(0, .sl (l.map (fun l => [.sl (l.map fun n => [.int .i64 n])]))), (3, .own 3 q.length), (2003, .arr 1 (q.map fun r : RW => [X.raw r.v])), (4, .int .i64 i), (3000, .res (JRow q (l.take i)))]) (fun i q => i ≤ l.length ∧ q.length = i) (fun i q => l.length - i) (0) ([]) ⟨Nat.zero_le _, rfl⟩ ⟨rfl, (lk_own (by first | rfl | (simp; done) | (simp; omega))), (lk_arr (by first | rfl | (simp; done) | (simp; omega))), rfl, rfl, trivial⟩ (fun _ _ => rfl) ?_
 rintro i q ⟨hi, hq⟩
 refine OK.seq (OK.seq (OK.reg ?_))
 refine RK.c (S.move .none rfl (.tmp rfl rfl)) ?_
 refine RK.c (S.move .none rfl (.tmp rfl rfl)) ?_
 refine RK.c (S.lenM si23 .none rfl (.tmp rfl rfl)) ?_
 refine RK.c (S.lss .none rfl (.tmp rfl rfl) (.tmp rfl rfl)) ?_
 refine RK.nil (Ab.D.code ?_)
 refine OK.condD rfl rfl (fun c8 => ?_) (fun c8 => ?_)
 ·
  have hil : i < l.length := by omega
  have hri := hr _ (List.getElem_mem hil)
  refine OK.skip ?_
  refine Ab.D.code ?_
  refine OK.seq ?_
  refine OK.block ?_
  refine OK.reg ?_
  refine RK.c (S.move .none rfl (.tmp rfl rfl)) ?_
  refine RK.c (S.move .none rfl (.tmp rfl rfl)) ?_
  refine RK.c (S.move .none rfl (.tmp rfl rfl)) ?_
  refine RK.c (S.indexM (n := i) si23 .none rfl (.tmp rfl rfl) (.tmp rfl rfl) rfl (by omega) rfl) ?_
  refine RK.c (S.load1 ti26 .none rfl (.tmp rfl rfl) rfl) ?_
  refine RK.c (S.callO (k := 16) (baseO_CopyInts (l := l[i]) hri) Tryz.call13 .none rfl (.cons (.tmp rfl rfl) .nil) rfl (List.length_map ..)) ?_
  refine RK.giveRow 16 rfl rfl rfl rfl rfl rfl (fun r => ?_)
  refine RK.c (S.mkSlice (k := 17) (rows := [[_]]) ai23 .none rfl (.cons (.tmp rfl rfl) .nil) rfl rfl rfl rfl rfl rfl rfl) ?_
  refine RK.c (S.append ai23 .none rfl (.tmp rfl rfl) rfl (by simp) (.tmp rfl rfl) rfl (by first | rfl | (simp; done) | (simp; omega)) (by omega) (by simp only [maxLen]; omega)) ?_
  refine RK.c (S.assign .none rfl (.tmp rfl rfl)) ?_
  refine RK.nil ?_
  refine Ab.D.blk ?_
  refine Ab.D.code (OK.reg ?_)
  refine RK.c (S.move .none rfl (.tmp rfl rfl)) ?_
  refine RK.c (S.add .none rfl (.tmp rfl rfl) (.cint rfl) (IntWalk.i64_in _ (by omega)) (IntWalk.i64_in _ (by omega))) ?_
  refine RK.c (S.assign .none rfl (.tmp rfl rfl)) ?_
  refine RK.nil ?_
  refine Ab.D.lp ⟨i + 1, q ++ [r], ⟨by omega, by simp; omega⟩, (by omega), rfl, (lk_own (by simp)), (lk_arr (by rw [List.map_append]; rfl)), rfl, (lk_res (by rw [List.take_succ_eq_append_getElem hil])), trivial⟩
 ·
  refine OK.exit rfl ?_
  refine Ab.D.code ?_
  refine OK.seq ?_
  refine OK.freeze 3 rfl rfl rfl (List.length_map ..) ?_
  refine OK.reg ?_
  refine RK.c (S.move .none rfl (.tmp rfl rfl)) ?_
  refine RK.c (S.assign .none rfl (.tmp rfl rfl)) ?_
  refine RK.nil (Ab.D.code ?_)
  refine OK.ret ⟨q, Ret.r1 (.tmp rfl rfl (.c (.same rfl) rfl) rfl) ?_, (lk_res (by rw [show i = l.length by omega, List.take_length]))⟩
  rfl
theorem ref9X_CopyChanges {c : Changes} (hlen : c.ticks.length ≤ 100000) (hr : ∀ r ∈ c.ticks, r.length ≤ 100000) : CtX Tryz.prog 10 [.agg c.cs] (fun q : List RW => .agg [.int .i64 c.start, .sl (q.map fun r : RW => [X.raw r.v])]) (fun q : List RW => JRow q c.ticks) := by
 refine CtX.intro (rs := [.cell 2 25]) Tryz.func10 rfl Tryz.ntmps10 Tryz.results10 rfl rfl rfl fun w h => ?_
 refine OK.seq (OK.reg ?_)
 refine RK.c (S.box (k := 1) rfl .none rfl (.tmp rfl rfl) rfl) ?_
 refine RK.c (S.alloc (k := 2) ze25 rfl .none rfl) ?_
 refine RK.nil (Ab.D.code ?_)
 refine OK.seq ?_
 refine OK.regionDrawX follows (ι := List RW) [] (x := 4) (fun q => (.cs (S.bfield fi25_0 .none rfl (.tmp rfl rfl))
  (.cs (S.bload1 ti3 .none rfl (.tmp rfl rfl) rfl rfl rfl rfl)
  (.cs (S.bfield fi25_1 .none rfl (.tmp rfl rfl))
  (.cs (S.bload1 ti23 .none rfl (.tmp rfl rfl) rfl rfl rfl rfl)
  (.x (rd := [(6, .sl (c.ticks.map (fun l => [.sl (l.map fun n => [.int .i64 n])])))]) (wr := [(7, .sl (q.map fun r : RW => [X.raw r.v])), (3000, .res (JRow q c.ticks))]) (al := []) ⟨rfl, trivial⟩
  (.cn (S.build bu25 rfl .none rfl (.cons (.tmp rfl rfl) (.cons (.tmp rfl rfl) .nil)) rfl rfl)
  (.cn (S.store ti25 .none (.tmp rfl rfl) (.tmp rfl rfl) rfl rfl rfl rfl rfl rfl)
  .nil)))))))) (S.callX (s := [(6, .sl (c.ticks.map (fun l => [.sl (l.map fun n => [.int .i64 n])])))]) (baseX_CopyLists hlen hr) (fun q => JRow.stable _ _) (fun q h Y Y2 w => JRow.mono) Tryz.call33 rfl (.cons (.tmp rfl rfl) .nil) rfl) (fun _ => by kernel_rfl) (fun _ _ j hj => by rcases (show j = 0 ∨ j = 1 ∨ j = 2 ∨ j = 3 by omega) with rfl | rfl | rfl | rfl <;> rfl) (fun _ => rfl) rfl (fun j h1 h2 => by have h3 : j < 7 := h2; rcases (show j = 5 ∨ j = 6 by omega) with rfl | rfl <;> first | kernel_rfl | rfl | decide) (fun q => ?_)
 refine Ab.D.code ?_
 refine OK.ret ⟨q, Ret.r1 (.cellN rfl rfl rfl rfl ti25 rfl (.k (.same rfl) (.k (.same rfl) .z))) ?_, rfl⟩
 rfl
set_option maxHeartbeats 4000000 in
theorem law_ShopNoBetter {l : List Job} {c : Changes} {o : List Int} : Ct Tryz.prog 3 [.sl (l.map Job.cs), .agg c.cs, .sl (o.map (fun n => [.int .i64 n]))] (.bool true) := by
 refine Ct.introP (rs := [.tmp 6]) Tryz.func3 rfl Tryz.ntmps3 Tryz.results3 rfl rfl rfl fun w h0 => ?_
 refine OK.seq (OK.reg ?_)
 refine RK.c (S.box (k := 4) rfl .none rfl (.tmp rfl rfl) rfl) ?_
 refine RK.c (S.assign .none rfl .cbool) ?_
 refine RK.nil (Ab.D.code (OK.seq (OK.seq (OK.reg ?_))))
 refine RK.c (S.call (law9_awake) Tryz.call4 .none rfl .nil rfl) ?_
 refine RK.c (S.not .none rfl (.tmp rfl rfl)) ?_
 refine RK.nil (Ab.D.code ?_)
 refine OK.condF rfl rfl rfl ?_
 refine OK.skip ?_
 refine Ab.D.code ?_
 refine OK.join (G := Unit) [4] (fun _ => [(0, .sl (l.map Job.cs)), (4, .ptr 4 0), (1004, .box c.cs), (2, .sl (o.map (fun n => [.int .i64 n])))]) (fun _ => fewJ l = true ∧ fewC c = true ∧ bothE l c = 0 ∧ o.length ≤ 12) (fun _ => rfl) ?_ ?_
 ·
  refine OK.seq (OK.reg ?_)
  refine RK.c (S.move .none rfl (.tmp rfl rfl)) ?_
  refine RK.c (S.call (law9_fewJobs (l := l)) Tryz.call5 .none rfl (.cons (.tmp rfl rfl) .nil) rfl) ?_
  refine RK.c (S.not .none rfl (.tmp rfl rfl)) ?_
  refine RK.c (S.move .none rfl (.tmp rfl rfl)) ?_
  refine RK.split (t := 34) rfl (fun g34 => ?_) (fun g34 => ?_)
  ·
   refine RK.c (S.skip rfl rfl rfl rfl rfl) ?_
   refine RK.c (S.skip rfl rfl rfl rfl rfl) ?_
   refine RK.c (S.skip rfl rfl rfl rfl rfl) ?_
   refine RK.c (S.pickT .none rfl (.tmp rfl rfl) .cbool rfl) ?_
   refine RK.c (S.move .none rfl (.tmp rfl rfl)) ?_
   refine RK.c (S.skip rfl rfl rfl rfl rfl) ?_
   refine RK.c (S.skip rfl rfl rfl rfl rfl) ?_
   refine RK.c (S.skip rfl rfl rfl rfl rfl) ?_
   refine RK.c (S.skip rfl rfl rfl rfl rfl) ?_
   refine RK.c (S.pickT .none rfl (.tmp rfl rfl) .cbool rfl) ?_
   refine RK.c (S.move .none rfl (.tmp rfl rfl)) ?_
   refine RK.c (S.skip rfl rfl rfl rfl rfl) ?_
   refine RK.c (S.skip rfl rfl rfl rfl rfl) ?_
   refine RK.c (S.skip rfl rfl rfl rfl rfl) ?_
   refine RK.c (S.pickT .none rfl (.tmp rfl rfl) .cbool rfl) ?_
   refine RK.nil (Ab.D.code ?_)
   refine OK.condT rfl rfl rfl ?_
   refine OK.seq (OK.reg ?_)
   refine RK.c (S.assign .none rfl .cbool) ?_
   refine RK.nil (Ab.D.code ?_)
   refine OK.ret (Ret.r1 (.tmp rfl rfl (.c (.same rfl) rfl) rfl) ?_)
   first | rfl | exact ret_dT rfl | exact ret_b (decide_eq_true rfl)
  ·
   refine RK.c (S.bloadN ti25 (.yes rfl rfl rfl rfl) rfl (.tmp rfl rfl) rfl rfl rfl rfl) ?_
   refine RK.c (S.call (law9_fewChanges (c := c)) Tryz.call6 (.yes rfl rfl rfl rfl) rfl (.cons (.tmp rfl rfl) .nil) rfl) ?_
   refine RK.c (S.not (.yes rfl rfl rfl rfl) rfl (.tmp rfl rfl)) ?_
   refine RK.c (S.pickF .none rfl (.tmp rfl rfl) (.tmp rfl rfl) rfl) ?_
   refine RK.c (S.move .none rfl (.tmp rfl rfl)) ?_
   refine RK.split (t := 39) rfl (fun g39 => ?_) (fun g39 => ?_)
   ·
    refine RK.c (S.skip rfl rfl rfl rfl rfl) ?_
    refine RK.c (S.skip rfl rfl rfl rfl rfl) ?_
    refine RK.c (S.skip rfl rfl rfl rfl rfl) ?_
    refine RK.c (S.skip rfl rfl rfl rfl rfl) ?_
    refine RK.c (S.pickT .none rfl (.tmp rfl rfl) .cbool rfl) ?_
    refine RK.c (S.move .none rfl (.tmp rfl rfl)) ?_
    refine RK.c (S.skip rfl rfl rfl rfl rfl) ?_
    refine RK.c (S.skip rfl rfl rfl rfl rfl) ?_
    refine RK.c (S.skip rfl rfl rfl rfl rfl) ?_
    refine RK.c (S.pickT .none rfl (.tmp rfl rfl) .cbool rfl) ?_
    refine RK.nil (Ab.D.code ?_)
    refine OK.condT rfl rfl rfl ?_
    refine OK.seq (OK.reg ?_)
    refine RK.c (S.assign .none rfl .cbool) ?_
    refine RK.nil (Ab.D.code ?_)
    refine OK.ret (Ret.r1 (.tmp rfl rfl (.c (.same rfl) rfl) rfl) ?_)
    first | rfl | exact ret_dT rfl | exact ret_b (decide_eq_true rfl)
   ·
    refine RK.c (S.move (.yes rfl rfl rfl rfl) rfl (.tmp rfl rfl)) ?_
    refine RK.c (S.bloadN ti25 (.yes rfl rfl rfl rfl) rfl (.tmp rfl rfl) rfl rfl rfl rfl) ?_
    refine RK.c (S.call (ref9_BothErr (l := l) (c := c)) Tryz.call7 (.yes rfl rfl rfl rfl) rfl (.cons (.tmp rfl rfl) (.cons (.tmp rfl rfl) .nil)) rfl) ?_
    refine RK.c (S.neq (.yes rfl rfl rfl rfl) rfl (.tmp rfl rfl) (.cint rfl)) ?_
    refine RK.c (S.pickF .none rfl (.tmp rfl rfl) (.tmp rfl rfl) rfl) ?_
    refine RK.c (S.move .none rfl (.tmp rfl rfl)) ?_
    refine RK.splitD (t := 45) rfl (fun g45 => ?_) (fun g45 => ?_)
    ·
     refine RK.c (S.skip rfl rfl rfl rfl rfl) ?_
     refine RK.c (S.skip rfl rfl rfl rfl rfl) ?_
     refine RK.c (S.skip rfl rfl rfl rfl rfl) ?_
     refine RK.c (S.pickT .none rfl (.tmp rfl rfl) .cbool rfl) ?_
     refine RK.nil (Ab.D.code ?_)
     refine OK.condT rfl rfl rfl ?_
     refine OK.seq (OK.reg ?_)
     refine RK.c (S.assign .none rfl .cbool) ?_
     refine RK.nil (Ab.D.code ?_)
     refine OK.ret (Ret.r1 (.tmp rfl rfl (.c (.same rfl) rfl) rfl) ?_)
     first | rfl | exact ret_dT rfl | exact ret_b (decide_eq_true rfl)
    ·
     refine RK.c (S.move (.yes rfl rfl rfl rfl) rfl (.tmp rfl rfl)) ?_
     refine RK.c (S.lenM si26 (.yes rfl rfl rfl rfl) rfl (.tmp rfl rfl)) ?_
     refine RK.c (S.gtr (.yes rfl rfl rfl rfl) rfl (.tmp rfl rfl) (.cint rfl)) ?_
     refine RK.c (S.pickF .none rfl (.tmp rfl rfl) (.tmp rfl rfl) rfl) ?_
     refine RK.nil (Ab.D.code ?_)
     refine OK.condD rfl rfl (fun c49 => ?_) (fun c49 => ?_)
     ·
      refine OK.seq (OK.reg ?_)
      refine RK.c (S.assign .none rfl .cbool) ?_
      refine RK.nil (Ab.D.code ?_)
      refine OK.ret (Ret.r1 (.tmp rfl rfl (.c (.same rfl) rfl) rfl) ?_)
      first | rfl | exact ret_dT rfl | exact ret_b (decide_eq_true rfl)
     ·
      refine OK.skip ?_
      refine Ab.D.lp ⟨(), ⟨by simpa using g34, by simpa using g39, Decidable.not_not.1 g45, by omega⟩, rfl, rfl, rfl, rfl, trivial⟩
 ·
  rintro _ ⟨hj0, hc0, he, ho12⟩
  have hfj := few_j hj0
  obtain ⟨hfc1, hfc2⟩ := few_c hc0
  have hB := both_ok he
  have hbl := hB.len
  have hJ := hB.jobs
  have hJ0 := both_jobs he
  obtain ⟨hbo, hbm⟩ := best_ord he
  have hbl2 := hbo.len
  have hor := order_of hbo
  obtain ⟨b, hb⟩ : ∃ b, b = (bestT l c).1 := ⟨_, rfl⟩
  obtain ⟨bm, hbme⟩ : ∃ m, m = (bestT l c).2 := ⟨_, rfl⟩
  rw [← hb] at hbo hbm hbl2 hor
  rw [← hbme] at hbm
  have kB : Ct Tryz.prog 8 [.sl (l.map Job.cs), .agg c.cs] (.tup [ints b, .int .i64 bm.late, .int .i64 bm.changes, .int .i64 0]) := ct_res (shp_BestOf (l := l) (c := c)) (by rw [if_pos he, if_pos he, if_pos he, he, hb, hbme])
  have hb2 : ordE2 l c b = 0 := by rw [ordE2, if_neg (by omega)]; exact hor
  have kL : Ct Tryz.prog 12 [.sl (l.map Job.cs), .agg c.cs, ints b] (.tup [.int .i64 bm.late, .int .i64 bm.changes, .int .i64 0]) := ct_res (shp_LateBy (l := l) (c := c) (o := b)) (by rw [latR, if_pos hb2, chaR, if_pos hb2, hb2, hbm])
  have hE : ordE2 l c o = orderE l.length o := if_neg (fun q => q he)
  have hbR : bndR l = bndTo l l.length := if_pos hJ0
  obtain ⟨q1, q2, q3, q4⟩ := bnd_set hJ
  have hse := set_0 q1 q2 q3
  have hbb := bound_best he
  rw [← hbme] at hbb
  have hbn : (bndTo l l.length).2.length ≤ 100 := by obtain ⟨j, hj, e⟩ := bnd_is hJ l.length (by omega) (Nat.le_refl _); rw [e]; have := sel_len l (dueAt l j) l.length; simp only; omega
  have hsc : setChk l (bndTo l l.length).2 = 0 := by rw [chk_on hJ0]; exact hse
  have hcb : cbR l (bndTo l l.length).2 = (bndTo l l.length).1 := by rw [cbR, if_pos hsc]; exact q4
  have kBd : Ct Tryz.prog 14 [.sl (l.map Job.cs)] (.tup [.int .i64 (bndTo l l.length).1, ints (bndTo l l.length).2, .int .i64 0]) := ct_res (shp_BoundOf (l := l)) (by rw [hbR, hJ0])
  have kC : Ct Tryz.prog 16 [.sl (l.map Job.cs), ints (bndTo l l.length).2] (pair ((bndTo l l.length).1, 0)) := ct_res (shp_CheckBound (l := l) (s := (bndTo l l.length).2) hbn) (by rw [hcb, hsc])
  have hz := zero_best he
  have hbz := both_zero he
  have kZ : Ct Tryz.prog 8 [.sl (l.map Job.cs), .agg (zeroC c).cs] (.tup [ints (bestT l (zeroC c)).1, .int .i64 (bndTo l l.length).1, .int .i64 (bestT l (zeroC c)).2.changes, .int .i64 0]) := ct_res (shp_BestOf (l := l) (c := zeroC c)) (by rw [if_pos hbz, if_pos hbz, if_pos hbz, hbz, hz])
  refine OK.seq ?_
  refine OK.regionDraw follows (.c (S.move .none rfl (.tmp rfl rfl))
   (.c (S.call (ref9_CopyJobs (l := l) (by omega)) Tryz.call9 .none rfl (.cons (.tmp rfl rfl) .nil) rfl)
   (.c (S.bloadN ti25 .none rfl (.tmp rfl rfl) rfl rfl rfl rfl)
   (.c (S.call (ref9_CopyChanges (by omega) (fun r hr => by have := hfc2 r hr; omega)) Tryz.call10 .none rfl (.cons (.tmp rfl rfl) .nil) rfl)
   (.c (S.call (kB) Tryz.call8 .none rfl (.cons (.tmp rfl rfl) (.cons (.tmp rfl rfl) .nil)) rfl)
   (.c (S.move .none rfl (.tmp rfl rfl))
   (.c (S.extract .none rfl (.tmp rfl rfl) rfl rfl)
   (.c (S.extract .none rfl (.tmp rfl rfl) rfl rfl)
   (.c (S.extract .none rfl (.tmp rfl rfl) rfl rfl)
   (.c (S.extract .none rfl (.tmp rfl rfl) rfl rfl)
   (.c (S.assign .none rfl (.tmp rfl rfl))
   (.c (S.assign .none rfl (.tmp rfl rfl))
   (.c (S.assign .none rfl (.tmp rfl rfl))
   (.c (S.assign .none rfl (.tmp rfl rfl))
   .nil)))))))))))))) (by kernel_rfl) ?_
  refine Ab.D.code (OK.seq (OK.seq (OK.reg ?_)))
  refine RK.c (S.move .none rfl (.tmp rfl rfl)) ?_
  refine RK.c (S.neq .none rfl (.tmp rfl rfl) (.cint rfl)) ?_
  refine RK.c (S.move .none rfl (.tmp rfl rfl)) ?_
  refine RK.c (S.move (.yes rfl rfl rfl rfl) rfl (.tmp rfl rfl)) ?_
  refine RK.c (S.move (.yes rfl rfl rfl rfl) rfl (.tmp rfl rfl)) ?_
  refine RK.c (S.call (ref9_OrderErr (l := l) (o := b)) Tryz.call11 (.yes rfl rfl rfl rfl) rfl (.cons (.tmp rfl rfl) (.cons (.tmp rfl rfl) .nil)) rfl) ?_
  refine RK.c (S.neq (.yes rfl rfl rfl rfl) rfl (.tmp rfl rfl) (.cint rfl)) ?_
  refine RK.c (S.pickF .none rfl (.tmp rfl rfl) (.tmp rfl rfl) rfl) ?_
  refine RK.nil (Ab.D.code ?_)
  refine OK.condD rfl rfl (fun c67 => ?_) (fun c67 => ?_)
  ·
   exact absurd hor c67
  ·
   refine OK.skip ?_
   refine Ab.D.code ?_
   refine OK.seq ?_
   refine OK.regionDraw follows (.c (S.move .none rfl (.tmp rfl rfl))
    (.c (S.call (ref9_CopyJobs (l := l) (by omega)) Tryz.call9 .none rfl (.cons (.tmp rfl rfl) .nil) rfl)
    (.c (S.bloadN ti25 .none rfl (.tmp rfl rfl) rfl rfl rfl rfl)
    (.c (S.call (ref9_CopyChanges (by omega) (fun r hr => by have := hfc2 r hr; omega)) Tryz.call10 .none rfl (.cons (.tmp rfl rfl) .nil) rfl)
    (.c (S.move .none rfl (.tmp rfl rfl))
    (.c (S.call (base_CopyInts (l := b) (by omega)) Tryz.call13 .none rfl (.cons (.tmp rfl rfl) .nil) rfl)
    (.c (S.call (kL) Tryz.call12 .none rfl (.cons (.tmp rfl rfl) (.cons (.tmp rfl rfl) (.cons (.tmp rfl rfl) .nil))) rfl)
    (.c (S.move .none rfl (.tmp rfl rfl))
    (.c (S.extract .none rfl (.tmp rfl rfl) rfl rfl)
    (.c (S.extract .none rfl (.tmp rfl rfl) rfl rfl)
    (.c (S.extract .none rfl (.tmp rfl rfl) rfl rfl)
    (.c (S.assign .none rfl (.tmp rfl rfl))
    (.c (S.assign .none rfl (.tmp rfl rfl))
    (.c (S.assign .none rfl (.tmp rfl rfl))
    .nil)))))))))))))) (by kernel_rfl) ?_
   refine Ab.D.code (OK.seq (OK.seq (OK.reg ?_)))
   refine RK.c (S.move .none rfl (.tmp rfl rfl)) ?_
   refine RK.c (S.neq .none rfl (.tmp rfl rfl) (.cint rfl)) ?_
   refine RK.c (S.move .none rfl (.tmp rfl rfl)) ?_
   refine RK.c (S.move (.yes rfl rfl rfl rfl) rfl (.tmp rfl rfl)) ?_
   refine RK.c (S.move (.yes rfl rfl rfl rfl) rfl (.tmp rfl rfl)) ?_
   refine RK.c (S.neq (.yes rfl rfl rfl rfl) rfl (.tmp rfl rfl) (.tmp rfl rfl)) ?_
   refine RK.c (S.pickF .none rfl (.tmp rfl rfl) (.tmp rfl rfl) rfl) ?_
   refine RK.c (S.move .none rfl (.tmp rfl rfl)) ?_
   refine RK.splitD (t := 86) rfl (fun g86 => ?_) (fun g86 => ?_)
   ·
    exact absurd rfl g86
   ·
    refine RK.c (S.move (.yes rfl rfl rfl rfl) rfl (.tmp rfl rfl)) ?_
    refine RK.c (S.move (.yes rfl rfl rfl rfl) rfl (.tmp rfl rfl)) ?_
    refine RK.c (S.neq (.yes rfl rfl rfl rfl) rfl (.tmp rfl rfl) (.tmp rfl rfl)) ?_
    refine RK.c (S.pickF .none rfl (.tmp rfl rfl) (.tmp rfl rfl) rfl) ?_
    refine RK.nil (Ab.D.code ?_)
    refine OK.condD rfl rfl (fun c90 => ?_) (fun c90 => ?_)
    ·
     exact absurd rfl c90
    ·
     refine OK.skip ?_
     refine Ab.D.code ?_
     refine OK.seq ?_
     refine OK.regionDraw follows (.c (S.move .none rfl (.tmp rfl rfl))
      (.c (S.call (ref9_CopyJobs (l := l) (by omega)) Tryz.call9 .none rfl (.cons (.tmp rfl rfl) .nil) rfl)
      (.c (S.bloadN ti25 .none rfl (.tmp rfl rfl) rfl rfl rfl rfl)
      (.c (S.call (ref9_CopyChanges (by omega) (fun r hr => by have := hfc2 r hr; omega)) Tryz.call10 .none rfl (.cons (.tmp rfl rfl) .nil) rfl)
      (.c (S.move .none rfl (.tmp rfl rfl))
      (.c (S.call (base_CopyInts (l := o) (by omega)) Tryz.call13 .none rfl (.cons (.tmp rfl rfl) .nil) rfl)
      (.c (S.call (shp_LateBy (l := l) (c := c) (o := o)) Tryz.call12 .none rfl (.cons (.tmp rfl rfl) (.cons (.tmp rfl rfl) (.cons (.tmp rfl rfl) .nil))) rfl)
      (.c (S.move .none rfl (.tmp rfl rfl))
      (.c (S.extract .none rfl (.tmp rfl rfl) rfl rfl)
      (.c (S.extract .none rfl (.tmp rfl rfl) rfl rfl)
      (.c (S.extract .none rfl (.tmp rfl rfl) rfl rfl)
      (.c (S.assign .none rfl (.tmp rfl rfl))
      (.c (S.assign .none rfl (.tmp rfl rfl))
      (.c (S.assign .none rfl (.tmp rfl rfl))
      .nil)))))))))))))) (by kernel_rfl) ?_
     refine Ab.D.code ?_
     refine OK.join (G := Unit) [4] (fun _ => [(0, .sl (l.map Job.cs)), (4, .ptr 4 0), (1004, .box c.cs), (8, .int .i64 bm.late)]) (fun _ => True) (fun _ => rfl) ?_ ?_
     ·
      refine OK.seq (OK.reg ?_)
      refine RK.c (S.move .none rfl (.tmp rfl rfl)) ?_
      refine RK.c (S.eql .none rfl (.tmp rfl rfl) (.cint rfl)) ?_
      refine RK.c (S.move .none rfl (.tmp rfl rfl)) ?_
      refine RK.c (S.move .none rfl (.tmp rfl rfl)) ?_
      refine RK.c (S.call (ref9_OrderErr (l := l) (o := o)) Tryz.call11 .none rfl (.cons (.tmp rfl rfl) (.cons (.tmp rfl rfl) .nil)) rfl) ?_
      refine RK.c (S.eql .none rfl (.tmp rfl rfl) (.cint rfl)) ?_
      refine RK.c (S.bneq Tryz.underlying4 .none rfl (.tmp rfl rfl) (.tmp rfl rfl)) ?_
      refine RK.c (S.move .none rfl (.tmp rfl rfl)) ?_
      refine RK.splitD (t := 109) rfl (fun g109 => ?_) (fun g109 => ?_)
      ·
       exact absurd (by rw [hE]) g109
      ·
       refine RK.c (S.move (.yes rfl rfl rfl rfl) rfl (.tmp rfl rfl)) ?_
       refine RK.c (S.eql (.yes rfl rfl rfl rfl) rfl (.tmp rfl rfl) (.cint rfl)) ?_
       refine RK.c (S.move (.yes rfl rfl rfl rfl) rfl (.tmp rfl rfl)) ?_
       refine RK.splitD (t := 112) rfl (fun g112 => ?_) (fun g112 => ?_)
       ·
        have hoo : orderE l.length o = 0 := by rw [← hE]; exact g112
        have hle := best_le (c := c) (by omega) (order_ok hoo)
        rw [← hbme] at hle
        have hlr : latR l c o = (momTo l c o o.length).late := if_pos g112
        have hcr : chaR l c o = (momTo l c o o.length).changes := if_pos g112
        unfold LeM at hle
        refine RK.c (S.move (.yes rfl rfl rfl rfl) rfl (.tmp rfl rfl)) ?_
        refine RK.c (S.move (.yes rfl rfl rfl rfl) rfl (.tmp rfl rfl)) ?_
        refine RK.c (S.lss (.yes rfl rfl rfl rfl) rfl (.tmp rfl rfl) (.tmp rfl rfl)) ?_
        refine RK.c (S.move (.yes rfl rfl rfl rfl) rfl (.tmp rfl rfl)) ?_
        refine RK.splitD (t := 116) rfl (fun g116 => ?_) (fun g116 => ?_)
        ·
         exfalso
         omega
        ·
         refine RK.c (S.move (.yes rfl rfl rfl rfl) rfl (.tmp rfl rfl)) ?_
         refine RK.c (S.move (.yes rfl rfl rfl rfl) rfl (.tmp rfl rfl)) ?_
         refine RK.c (S.eql (.yes rfl rfl rfl rfl) rfl (.tmp rfl rfl) (.tmp rfl rfl)) ?_
         refine RK.c (S.move (.yes rfl rfl rfl rfl) rfl (.tmp rfl rfl)) ?_
         refine RK.splitD (t := 120) rfl (fun g120 => ?_) (fun g120 => ?_)
         ·
          refine RK.c (S.move (.yes rfl rfl rfl rfl) rfl (.tmp rfl rfl)) ?_
          refine RK.c (S.move (.yes rfl rfl rfl rfl) rfl (.tmp rfl rfl)) ?_
          refine RK.c (S.lss (.yes rfl rfl rfl rfl) rfl (.tmp rfl rfl) (.tmp rfl rfl)) ?_
          refine RK.c (S.pickT (.yes rfl rfl rfl rfl) rfl (.tmp rfl rfl) (.tmp rfl rfl) rfl) ?_
          refine RK.c (S.pickF (.yes rfl rfl rfl rfl) rfl (.tmp rfl rfl) (.tmp rfl rfl) rfl) ?_
          refine RK.c (S.pickT (.yes rfl rfl rfl rfl) rfl (.tmp rfl rfl) (.tmp rfl rfl) rfl) ?_
          refine RK.c (S.pickF .none rfl (.tmp rfl rfl) (.tmp rfl rfl) rfl) ?_
          refine RK.nil (Ab.D.code ?_)
          refine OK.condD rfl rfl (fun c127 => ?_) (fun c127 => ?_)
          ·
           exfalso
           omega
          ·
           refine OK.skip ?_
           refine Ab.D.lp ⟨(), trivial, rfl, rfl, rfl, rfl, trivial⟩
         ·
          refine RK.c (S.skip rfl rfl rfl rfl rfl) ?_
          refine RK.c (S.skip rfl rfl rfl rfl rfl) ?_
          refine RK.c (S.skip rfl rfl rfl rfl rfl) ?_
          refine RK.c (S.pickF (.yes rfl rfl rfl rfl) rfl (.tmp rfl rfl) .cbool rfl) ?_
          refine RK.c (S.pickF (.yes rfl rfl rfl rfl) rfl (.tmp rfl rfl) (.tmp rfl rfl) rfl) ?_
          refine RK.c (S.pickT (.yes rfl rfl rfl rfl) rfl (.tmp rfl rfl) (.tmp rfl rfl) rfl) ?_
          refine RK.c (S.pickF .none rfl (.tmp rfl rfl) (.tmp rfl rfl) rfl) ?_
          refine RK.nil (Ab.D.code ?_)
          refine OK.condF rfl rfl rfl ?_
          refine OK.skip ?_
          refine Ab.D.lp ⟨(), trivial, rfl, rfl, rfl, rfl, trivial⟩
       ·
        refine RK.c (S.skip rfl rfl rfl rfl rfl) ?_
        refine RK.c (S.skip rfl rfl rfl rfl rfl) ?_
        refine RK.c (S.skip rfl rfl rfl rfl rfl) ?_
        refine RK.c (S.skip rfl rfl rfl rfl rfl) ?_
        refine RK.c (S.skipU rfl rfl rfl rfl) ?_
        refine RK.c (S.skipU rfl rfl rfl rfl) ?_
        refine RK.c (S.skipU rfl rfl rfl rfl) ?_
        refine RK.c (S.skipU rfl rfl rfl rfl) ?_
        refine RK.c (S.skipU rfl rfl rfl rfl) ?_
        refine RK.c (S.skipU rfl rfl rfl rfl) ?_
        refine RK.c (S.skipU rfl rfl rfl rfl) ?_
        refine RK.c (S.skipU rfl rfl rfl rfl) ?_
        refine RK.c (S.skip rfl rfl rfl rfl rfl) ?_
        refine RK.c (S.pickF (.yes rfl rfl rfl rfl) rfl (.tmp rfl rfl) .cbool rfl) ?_
        refine RK.c (S.pickF .none rfl (.tmp rfl rfl) (.tmp rfl rfl) rfl) ?_
        refine RK.nil (Ab.D.code ?_)
        refine OK.condF rfl rfl rfl ?_
        refine OK.skip ?_
        refine Ab.D.lp ⟨(), trivial, rfl, rfl, rfl, rfl, trivial⟩
     ·
      rintro _ _
      refine OK.seq (OK.reg ?_)
      refine RK.c (S.move .none rfl (.tmp rfl rfl)) ?_
      refine RK.c (S.call (ref9_CopyJobs (l := l) (by omega)) Tryz.call9 .none rfl (.cons (.tmp rfl rfl) .nil) rfl) ?_
      refine RK.c (S.call (kBd) Tryz.call14 .none rfl (.cons (.tmp rfl rfl) .nil) rfl) ?_
      refine RK.c (S.move .none rfl (.tmp rfl rfl)) ?_
      refine RK.c (S.extract .none rfl (.tmp rfl rfl) rfl rfl) ?_
      refine RK.c (S.extract .none rfl (.tmp rfl rfl) rfl rfl) ?_
      refine RK.c (S.extract .none rfl (.tmp rfl rfl) rfl rfl) ?_
      refine RK.c (S.assign .none rfl (.tmp rfl rfl)) ?_
      refine RK.c (S.assign .none rfl (.tmp rfl rfl)) ?_
      refine RK.c (S.assign .none rfl (.tmp rfl rfl)) ?_
      refine RK.nil (Ab.D.code (OK.seq (OK.seq (OK.reg ?_))))
      refine RK.c (S.move .none rfl (.tmp rfl rfl)) ?_
      refine RK.c (S.neq .none rfl (.tmp rfl rfl) (.cint rfl)) ?_
      refine RK.c (S.move .none rfl (.tmp rfl rfl)) ?_
      refine RK.c (S.move (.yes rfl rfl rfl rfl) rfl (.tmp rfl rfl)) ?_
      refine RK.c (S.move (.yes rfl rfl rfl rfl) rfl (.tmp rfl rfl)) ?_
      refine RK.c (S.call (ref9_SetErr (l := l) (s := (bndTo l l.length).2)) Tryz.call15 (.yes rfl rfl rfl rfl) rfl (.cons (.tmp rfl rfl) (.cons (.tmp rfl rfl) .nil)) rfl) ?_
      refine RK.c (S.neq (.yes rfl rfl rfl rfl) rfl (.tmp rfl rfl) (.cint rfl)) ?_
      refine RK.c (S.pickF .none rfl (.tmp rfl rfl) (.tmp rfl rfl) rfl) ?_
      refine RK.c (S.move .none rfl (.tmp rfl rfl)) ?_
      refine RK.splitD (t := 143) rfl (fun g143 => ?_) (fun g143 => ?_)
      ·
       exact absurd hse g143
      ·
       refine RK.c (S.move (.yes rfl rfl rfl rfl) rfl (.tmp rfl rfl)) ?_
       refine RK.c (S.move (.yes rfl rfl rfl rfl) rfl (.tmp rfl rfl)) ?_
       refine RK.c (S.gtr (.yes rfl rfl rfl rfl) rfl (.tmp rfl rfl) (.tmp rfl rfl)) ?_
       refine RK.c (S.pickF .none rfl (.tmp rfl rfl) (.tmp rfl rfl) rfl) ?_
       refine RK.nil (Ab.D.code ?_)
       refine OK.condD rfl rfl (fun c147 => ?_) (fun c147 => ?_)
       ·
        exfalso
        omega
       ·
        refine OK.skip ?_
        refine Ab.D.code (OK.seq (OK.reg ?_))
        refine RK.c (S.move .none rfl (.tmp rfl rfl)) ?_
        refine RK.c (S.call (ref9_CopyJobs (l := l) (by omega)) Tryz.call9 .none rfl (.cons (.tmp rfl rfl) .nil) rfl) ?_
        refine RK.c (S.move .none rfl (.tmp rfl rfl)) ?_
        refine RK.c (S.call (base_CopyInts (l := (bndTo l l.length).2) (by omega)) Tryz.call13 .none rfl (.cons (.tmp rfl rfl) .nil) rfl) ?_
        refine RK.c (S.call (kC) Tryz.call16 .none rfl (.cons (.tmp rfl rfl) (.cons (.tmp rfl rfl) .nil)) rfl) ?_
        refine RK.c (S.move .none rfl (.tmp rfl rfl)) ?_
        refine RK.c (S.extract .none rfl (.tmp rfl rfl) rfl rfl) ?_
        refine RK.c (S.extract .none rfl (.tmp rfl rfl) rfl rfl) ?_
        refine RK.c (S.assign .none rfl (.tmp rfl rfl)) ?_
        refine RK.c (S.assign .none rfl (.tmp rfl rfl)) ?_
        refine RK.nil (Ab.D.code (OK.seq (OK.seq (OK.reg ?_))))
        refine RK.c (S.move .none rfl (.tmp rfl rfl)) ?_
        refine RK.c (S.neq .none rfl (.tmp rfl rfl) (.cint rfl)) ?_
        refine RK.c (S.move .none rfl (.tmp rfl rfl)) ?_
        refine RK.c (S.move (.yes rfl rfl rfl rfl) rfl (.tmp rfl rfl)) ?_
        refine RK.c (S.move (.yes rfl rfl rfl rfl) rfl (.tmp rfl rfl)) ?_
        refine RK.c (S.neq (.yes rfl rfl rfl rfl) rfl (.tmp rfl rfl) (.tmp rfl rfl)) ?_
        refine RK.c (S.pickF .none rfl (.tmp rfl rfl) (.tmp rfl rfl) rfl) ?_
        refine RK.nil (Ab.D.code ?_)
        refine OK.condD rfl rfl (fun c162 => ?_) (fun c162 => ?_)
        ·
         exact absurd rfl c162
        ·
         refine OK.skip ?_
         refine Ab.D.code (OK.seq (OK.reg ?_))
         refine RK.c (S.bloadN ti25 .none rfl (.tmp rfl rfl) rfl rfl rfl rfl) ?_
         refine RK.callX (ref9X_CopyChanges (c := c) (by omega) (fun r hr => by have := hfc2 r hr; omega)) (fun q => JRow.stable _ _) (fun q h Y Y2 w => JRow.mono) Tryz.call10 rfl (.cons (.tmp rfl rfl) .nil) rfl fun q => ?_
         refine RK.c (S.alloc (k := 22) ze25 rfl .none rfl) ?_
         refine RK.c (S.store ti25 .none (.tmp rfl rfl) (.tmp rfl rfl) rfl rfl rfl rfl rfl rfl) ?_
         refine RK.nil (Ab.D.code ?_)
         refine OK.seq ?_
         refine OK.seq ?_
         refine OK.resFact rfl (fun _ _ _ h => rw_lens h) (fun hrw => ?_)
         obtain ⟨hq1, hq2⟩ := hrw
         refine OK.reg ?_
         refine RK.c (S.assign .none rfl (.cint rfl)) ?_
         refine RK.nil (Ab.D.code ?_)
         refine OK.block ?_
         refine OK.loop (G := Nat) [22] (fun i => [(0, .sl (l.map Job.cs)), (17, .int .i64 (bndTo l l.length).1), (22, .ptr 22 0), (1022, .box [.int .i64 c.start, .sl (q.map fun r : RW => [X.raw r.v])]), (23, .int .i64 i), (3000, .res (JRow q (zM c.ticks i 0)))]) (fun i => i ≤ c.ticks.length) (fun i => c.ticks.length - i) 0 (Nat.zero_le _) ⟨rfl, rfl, rfl, rfl, rfl, (lk_res (by rw [zM_0])), trivial⟩ (fun _ => rfl) ?_
         rintro i hi
         refine OK.seq (OK.seq (OK.reg ?_))
         refine RK.c (S.move .none rfl (.tmp rfl rfl)) ?_
         refine RK.c (S.bfield fi25_1 .none rfl (.tmp rfl rfl)) ?_
         refine RK.c (S.bload1 ti23 .none rfl (.tmp rfl rfl) rfl rfl rfl rfl) ?_
         refine RK.c (S.lenM si23 .none rfl (.tmp rfl rfl)) ?_
         refine RK.c (S.lss .none rfl (.tmp rfl rfl) (.tmp rfl rfl)) ?_
         refine RK.nil (Ab.D.code ?_)
         refine OK.condD rfl rfl (fun c169 => ?_) (fun c169 => ?_)
         ·
          have hiq : i < q.length := by omega
          have hit : i < c.ticks.length := by omega
          have hqn := hq2 i hiq hit
          have hcl := hfc2 _ (List.getElem_mem hit)
          refine OK.skip ?_
          refine Ab.D.code ?_
          refine OK.seq ?_
          refine OK.block ?_
          refine OK.seq (OK.reg ?_)
          refine RK.c (S.assign .none rfl (.cint rfl)) ?_
          refine RK.nil (Ab.D.code ?_)
          refine OK.block ?_
          refine OK.loop (G := Nat) [22] (fun j => [(0, .sl (l.map Job.cs)), (17, .int .i64 (bndTo l l.length).1), (22, .ptr 22 0), (1022, .box [.int .i64 c.start, .sl (q.map fun r : RW => [X.raw r.v])]), (23, .int .i64 i), (24, .int .i64 j), (3000, .res (JRow q (zM c.ticks i j)))]) (fun j => j ≤ c.ticks[i].length) (fun j => c.ticks[i].length - j) 0 (Nat.zero_le _) ⟨rfl, rfl, rfl, rfl, rfl, rfl, rfl, trivial⟩ (fun _ => rfl) ?_
          rintro j hj
          refine OK.seq (OK.seq (OK.reg ?_))
          refine RK.c (S.move .none rfl (.tmp rfl rfl)) ?_
          refine RK.c (S.bfield fi25_1 .none rfl (.tmp rfl rfl)) ?_
          refine RK.c (S.bload1 ti23 .none rfl (.tmp rfl rfl) rfl rfl rfl rfl) ?_
          refine RK.c (S.move .none rfl (.tmp rfl rfl)) ?_
          refine RK.c (S.indexM (n := i) si23 .none rfl (.tmp rfl rfl) (.tmp rfl rfl) rfl hiq rfl) ?_
          refine RK.c (S.load1 ti26 .none rfl (.tmp rfl rfl) rfl) ?_
          refine RK.c (S.rslen (r := q[i]) si26 (by unfold maxLen; omega) .none rfl (.tmp rfl rfl)) ?_
          refine RK.c (S.lss .none rfl (.tmp rfl rfl) (.tmp rfl rfl)) ?_
          refine RK.nil (Ab.D.code ?_)
          refine OK.condD rfl rfl (fun c179 => ?_) (fun c179 => ?_)
          ·
           have hjn : j < c.ticks[i].length := by omega
           refine OK.skip ?_
           refine Ab.D.code ?_
           refine OK.seq ?_
           refine OK.block ?_
           refine OK.reg ?_
           refine RK.c (S.bfield fi25_1 .none rfl (.tmp rfl rfl)) ?_
           refine RK.c (S.bload1 ti23 .none rfl (.tmp rfl rfl) rfl rfl rfl rfl) ?_
           refine RK.c (S.move .none rfl (.tmp rfl rfl)) ?_
           refine RK.c (S.indexM (n := i) si23 .none rfl (.tmp rfl rfl) (.tmp rfl rfl) rfl hiq rfl) ?_
           refine RK.c (S.load1 ti26 .none rfl (.tmp rfl rfl) rfl) ?_
           refine RK.c (S.move .none rfl (.tmp rfl rfl)) ?_
           refine RK.c (S.ridx (i := i) (n := j) (r := q[i]) si26 .none rfl (.tmp rfl rfl) (.tmp rfl rfl) rfl (List.getElem?_eq_getElem hiq) (zM_row hit) rfl (by rw [zM_len hit]; omega)) ?_
           refine RK.c (S.rstore1 (v0 := (.int .i64 0)) (J' := (JRow q (zM c.ticks i (j + 1)))) ti3 rfl .none (.tmp rfl rfl) (.cint rfl) rfl (fun _ _ h => by cases h; rfl) rfl rfl (fun _ _ _ h => by have h1 := h.store (i := i) (k := j) (z := 0) (List.getElem?_eq_getElem hiq) (zM_row hit) (by rw [zM_len hit]; exact hjn) rfl; rw [zM_set hit hjn] at h1; exact h1) (JRow.stable _ _)) ?_
           refine RK.nil ?_
           refine Ab.D.blk ?_
           refine Ab.D.code (OK.reg ?_)
           refine RK.c (S.move .none rfl (.tmp rfl rfl)) ?_
           refine RK.c (S.add .none rfl (.tmp rfl rfl) (.cint rfl) (IntWalk.i64_in _ (by omega)) (IntWalk.i64_in _ (by omega))) ?_
           refine RK.c (S.assign .none rfl (.tmp rfl rfl)) ?_
           refine RK.nil ?_
           refine Ab.D.lp ⟨j + 1, (by omega), (by omega), rfl, rfl, rfl, rfl, rfl, rfl, rfl, trivial⟩
          ·
           have hjn : j = c.ticks[i].length := by omega
           refine OK.exit rfl ?_
           refine Ab.D.blk ?_
           refine Ab.D.code (OK.reg ?_)
           refine RK.c (S.move .none rfl (.tmp rfl rfl)) ?_
           refine RK.c (S.add .none rfl (.tmp rfl rfl) (.cint rfl) (IntWalk.i64_in _ (by omega)) (IntWalk.i64_in _ (by omega))) ?_
           refine RK.c (S.assign .none rfl (.tmp rfl rfl)) ?_
           refine RK.nil ?_
           refine Ab.D.lp ⟨i + 1, (by omega), (by omega), rfl, rfl, rfl, rfl, rfl, (lk_res (by rw [zM_next hit hjn])), trivial⟩
         ·
          have hie : i = c.ticks.length := by omega
          rw [zM_end hie]
          refine OK.resFrz (cells' := (zeroC c).cs) 22 1 noX rfl rfl rfl rfl rfl ?_
          refine OK.exit rfl ?_
          refine Ab.D.code ?_
          refine OK.seq ?_
          refine OK.regionDraw follows (.c (S.move .none rfl (.tmp rfl rfl))
           (.c (S.call (ref9_CopyJobs (l := l) (by omega)) Tryz.call9 .none rfl (.cons (.tmp rfl rfl) .nil) rfl)
           (.c (S.bloadN ti25 .none rfl (.tmp rfl rfl) rfl rfl rfl rfl)
           (.c (S.call (kZ) Tryz.call8 .none rfl (.cons (.tmp rfl rfl) (.cons (.tmp rfl rfl) .nil)) rfl)
           (.c (S.move .none rfl (.tmp rfl rfl))
           (.c (S.extract .none rfl (.tmp rfl rfl) rfl rfl)
           (.c (S.extract .none rfl (.tmp rfl rfl) rfl rfl)
           (.c (S.extract .none rfl (.tmp rfl rfl) rfl rfl)
           (.c (S.extract .none rfl (.tmp rfl rfl) rfl rfl)
           (.c (S.assign .none rfl (.tmp rfl rfl))
           (.c (S.assign .none rfl (.tmp rfl rfl))
           (.c (S.assign .none rfl (.tmp rfl rfl))
           (.c (S.assign .none rfl (.tmp rfl rfl))
           .nil))))))))))))) (by kernel_rfl) ?_
          refine Ab.D.code (OK.seq (OK.reg ?_))
          refine RK.c (S.move .none rfl (.tmp rfl rfl)) ?_
          refine RK.c (S.eql .none rfl (.tmp rfl rfl) (.cint rfl)) ?_
          refine RK.c (S.move .none rfl (.tmp rfl rfl)) ?_
          refine RK.c (S.move (.yes rfl rfl rfl rfl) rfl (.tmp rfl rfl)) ?_
          refine RK.c (S.move (.yes rfl rfl rfl rfl) rfl (.tmp rfl rfl)) ?_
          refine RK.c (S.eql (.yes rfl rfl rfl rfl) rfl (.tmp rfl rfl) (.tmp rfl rfl)) ?_
          refine RK.c (S.pickT .none rfl (.tmp rfl rfl) (.tmp rfl rfl) rfl) ?_
          refine RK.c (S.assign .none rfl (.tmp rfl rfl)) ?_
          refine RK.nil (Ab.D.code ?_)
          refine OK.ret (Ret.r1 (.tmp rfl rfl (.c (.same rfl) rfl) rfl) ?_)
          first | rfl | exact ret_dT rfl | exact ret_b (decide_eq_true rfl)
end Go.Proofs.YtbnimikgjjjcaaaGreatDoor
