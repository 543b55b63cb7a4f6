import Derived.Test.YtpmglnphhhlbdaaGreatDoorFy
import Derived.Test.YtpmglnphhhlbdaaGreatDoorGs
import Derived.Test.YtpmglnphhhlbdaaGreatDoorMn
import Derived.Test.YtpmglnphhhlbdaaGreatDoorSh
import Derived.Test.YtpmglnphhhlbdaaGreatDoorTz
import Derived.Test.YtpmglnphhhlbdaaGreatDoorWp
namespace Go.Proofs.YtpmglnphhhlbdaaGreatDoor
open Go.Ab
theorem dec_len : ∀ (k u : Nat), u < 10 ^ (k + 1) → (Lib.decDigits u).length ≤ k + 1
  | 0, u, h => by rw [Lib.decDigits_one (by omega)]; simp
  | k + 1, u, h => by
    by_cases h1 : u < 10
    · rw [Lib.decDigits_one h1]; simp
    · rw [dec_big h1, List.length_append]
      have := dec_len k (u / 10) (by rw [Nat.pow_succ] at h; omega)
      simp only [List.length_cons, List.length_nil]
      omega
theorem itoa_nat {n : Int} {k : Nat} (h0 : 0 ≤ n) (h : n.toNat < 10 ^ (k + 1)) : natC (Lib.itoa n) (k + 1) = true ∧ (decV 0 (Lib.itoa n) : Int) = n := by
  rw [itoa_nn h0]
  refine ⟨natC_canon.2 ⟨dec_canon _, dec_len k _ h⟩, ?_⟩
  rw [dec_val]
  omega
theorem planErr_ticks {p : Plan} (h : planErr p = 0) : 1 ≤ p.ticks ∧ p.ticks ≤ 12 := by
  obtain ⟨_, _, a, b, _⟩ := planErr_0 h
  exact ⟨a, b⟩
theorem planErr_cols {p : Plan} (h : planErr p = 0) : 1 ≤ p.channels.length ∧ p.channels.length ≤ 4 := by
  obtain ⟨a, b, _⟩ := planErr_0 h
  exact ⟨a, b⟩
theorem num_itoa {n : Int} (h : -9999999 ≤ n ∧ n ≤ 9999999) : sgnC (Lib.itoa n) 7 = true ∧ sgnV (Lib.itoa n) = n ∧ (Lib.itoa n).length ≤ 8 := by
  by_cases h0 : 0 ≤ n
  · obtain ⟨h1, h2⟩ := itoa_nat (n := n) (k := 6) h0 (by omega)
    have hh : ¬ (Lib.itoa n).head? = some 45 := by rw [itoa_head]; omega
    unfold sgnC sgnV
    rw [if_neg hh, if_neg hh]
    exact ⟨h1, h2, by have := (natC_canon.1 h1).2; omega⟩
  · obtain ⟨u, rfl⟩ : ∃ u : Nat, n = -(u : Int) := ⟨n.natAbs, by omega⟩
    obtain ⟨h1, h2⟩ := itoa_nat (n := (u : Int)) (k := 6) (by omega) (by omega)
    rw [itoa_nn (by omega), Int.toNat_natCast] at h1 h2
    have hh : (Lib.itoa (-(u : Int))).head? = some 45 := (itoa_head _).2 (by omega)
    rw [Lib.itoa_neg u (by omega)] at hh ⊢
    unfold sgnC sgnV
    rw [if_pos hh, if_pos hh]
    have hd : (45 :: Lib.decDigits u).drop 1 = Lib.decDigits u := rfl
    rw [hd, h1, h2, getD_head]
    have h48 : (Lib.decDigits u).getD 0 0 ≠ 48 := fun e => dec_head u (by omega) ((head_getD (dec_pos u)).2 e)
    refine ⟨by rw [decide_eq_true h48]; rfl, rfl, ?_⟩
    have := (natC_canon.1 h1).2
    simp only [List.length_cons]
    omega
theorem num1_itoa {n : Int} (h : -9999999 ≤ n ∧ n ≤ 9999999) : num1 (Lib.itoa n) = some n := by
  obtain ⟨h1, h2, _⟩ := num_itoa h
  rw [num1_T h1, h2]
theorem natI_itoa {n : Int} (h : 0 ≤ n ∧ n ≤ 9999999) : natI (Lib.itoa n) = true := by
  obtain ⟨h1, h2, _⟩ := num_itoa (n := n) ⟨by omega, h.2⟩
  unfold natI
  rw [h1, h2, decide_eq_true h.1]
  rfl
theorem itoa_no {c : UInt8} (hc : c ≠ 45) (hd : isDig c = false) {n : Int} (h : -9999999 ≤ n ∧ n ≤ 9999999) : c ∉ Lib.itoa n := num_no hc hd (num_itoa h).1
theorem nums_split {l : List Int} (h0 : l ≠ []) (h : ∀ n ∈ l, -9999999 ≤ n ∧ n ≤ 9999999) : splitC 32 (numsI l) = l.map Lib.itoa := by
  refine split_join (by simpa using h0) fun w hw => ?_
  obtain ⟨n, hn, rfl⟩ := List.mem_map.1 hw
  exact itoa_no (by decide) (by decide) (h n hn)
theorem nums_gath {l : List Int} (h : ∀ n ∈ l, -9999999 ≤ n ∧ n ≤ 9999999) : gath num1 (l.map Lib.itoa) = some l := gath_map fun n hn => num1_itoa (h n hn)
theorem rt_frame {p : Plan} {f : Frame} (hp : planErr p = 0) (h : frameE p f = 0) : parseF (fmtFrame f) = (f, 0) := by
  have ht := planErr_ticks hp
  unfold frameE at h
  split at h
  · cases h
  · rename_i h1
    have h1 := Decidable.not_not.1 h1
    unfold valuesErr at h
    split at h
    · cases h
    · split at h
      · rename_i h3
        have hv : ∀ n ∈ f.values, -9999999 ≤ n ∧ n ≤ 9999999 := fun n hn => by
          have := List.all_eq_true.1 h3 n hn
          unfold isVal at this
          rw [decide_eq_true_eq] at this
          omega
        have hall : ∀ n ∈ f.tick :: f.values, -9999999 ≤ n ∧ n ≤ 9999999 := fun n hn => by
          rcases List.mem_cons.1 hn with rfl | hn
          · omega
          · exact hv n hn
        have hs := nums_split (List.cons_ne_nil _ _) hall
        unfold parseF fmtFrame
        rw [hs, List.map_cons]
        have e1 : (Lib.itoa f.tick :: f.values.map Lib.itoa).getD 0 [] = Lib.itoa f.tick := rfl
        have e2 : (Lib.itoa f.tick :: f.values.map Lib.itoa).drop 1 = f.values.map Lib.itoa := rfl
        rw [e1, e2, if_pos (natI_itoa ⟨h1.1, by omega⟩), nums_gath hv, (num_itoa (n := f.tick) (by omega)).2.1]
      · cases h
theorem fmtFrame_len {p : Plan} {f : Frame} (hp : planErr p = 0) (h : frameE p f = 0) (h6 : f.values.length ≤ 6) : (fmtFrame f).length ≤ 200 := by
  have ht := planErr_ticks hp
  have h1 := (frameE_0 h).1
  have hv : ∀ n ∈ f.tick :: f.values, -9999999 ≤ n ∧ n ≤ 9999999 := fun n hn => by
    rcases List.mem_cons.1 hn with rfl | hn
    · omega
    · unfold frameE at h
      rw [if_neg (not_not_intro h1)] at h
      unfold valuesErr at h
      split at h
      · cases h
      · split at h
        · rename_i h3
          have := List.all_eq_true.1 h3 n hn
          unfold isVal at this
          rw [decide_eq_true_eq] at this
          omega
        · cases h
  exact Nat.le_trans (join_bd (B := 8) (N := 7) (fun w hw => by obtain ⟨n, hn, rfl⟩ := List.mem_map.1 hw; exact (num_itoa (hv n hn)).2.2) (by simp; omega) rfl) (by decide)
end Go.Proofs.YtpmglnphhhlbdaaGreatDoor
namespace Go.Proofs.YtpmglnphhhlbdaaGreatDoor
open Go.Ab
structure Life where
  passed : Bool
  marked : Bool
  left : Bool
def Life.cs (x : Life) : List X := [.bool x.passed, .bool x.marked, .bool x.left]
def Life.vs (x : Life) : Array Value := #[.bool x.passed, .bool x.marked, .bool x.left]
def Life.may (x : Life) : Bool := x.passed && !x.marked && !x.left
structure Mach where
  keys : List Int
  lf : Int → Life
  good : Nat
  bad : Nat
def Mach.init : Mach := ⟨[], fun _ => ⟨false, false, false⟩, 0, 0⟩
def upd {α : Type} (f : Int → α) (n : Int) (v : α) : Int → α := fun k => if k = n then v else f k
theorem upd_same {α : Type} (f : Int → α) (n : Int) (v : α) : upd f n v n = v := if_pos rfl
theorem upd_ne {α : Type} (f : Int → α) {n k : Int} (v : α) (h : k ≠ n) : upd f n v k = f k := if_neg h
structure MachAt (bm rb : Nat) (bs : Int → Nat) (m : Mach) (es0 : List (Value × Value)) (h : Mem) (Y : Nat → Prop) (w : World) : Prop where
  own : ∀ b, (b = bm ∨ b = rb ∨ ∃ n, n ∈ m.keys ∧ b = bs n) → Y b ∧ ∀ o, h ⟨b, o, none⟩ = none
  mach : ∃ T, w.heap[bm]? = some (.cells #[.map (some rb), .int .i64 m.good, .int .i64 m.bad] T (0, 0))
  map : ∃ es clock, w.heap[rb]? = some (.map es clock) ∧ es.toList.map (fun e => (e.key, e.val)) = es0
  life : ∀ n, n ∈ m.keys → ∃ T, w.heap[bs n]? = some (.cells (m.lf n).vs T (0, 0))
  ne : ∀ n, n ∈ m.keys → bs n ≠ bm
  inj : ∀ n, n ∈ m.keys → ∀ k, k ∈ m.keys → bs n = bs k → n = k
def ents (bs : Int → Nat) (keys : List Int) : List (Value × Value) := keys.map fun n => (.int .i64 n, .pointer (some ⟨bs n, 0, none⟩))
abbrev MachIn (bm rb : Nat) (bs : Int → Nat) (m : Mach) : Mem → (Nat → Prop) → World → Prop := MachAt bm rb bs m (ents bs m.keys)
def JM (bm rb : Nat) (m : Mach) : Mem → (Nat → Prop) → World → Prop := fun h Y w => ∃ bs, MachIn bm rb bs m h Y w
theorem MachAt.stable (bm rb : Nat) (bs : Int → Nat) (m : Mach) (es0 : List (Value × Value)) : Stable (MachAt bm rb bs m es0) := by
  intro h h' Y w w' hm hle hnew hw' hB hX
  have hk : ∀ b, (b = bm ∨ b = rb ∨ ∃ n, n ∈ m.keys ∧ b = bs n) → w'.heap[b]? = w.heap[b]? := fun b hb => hX b (hm.own b hb).1
  refine ⟨fun b hb => ⟨(hm.own b hb).1, fun o => ?_⟩, ?_, ?_, fun n hn => ?_, hm.ne, hm.inj⟩
  · cases hh : h' ⟨b, o, none⟩ with
    | none => rfl
    | some v =>
      rcases hnew _ _ hh with h1 | h1
      · rw [(hm.own b hb).2 o] at h1; cases h1
      · exact absurd (hm.own b hb).1 h1
  · rw [hk bm (.inl rfl)]; exact hm.mach
  · rw [hk rb (.inr (.inl rfl))]; exact hm.map
  · rw [hk (bs n) (.inr (.inr ⟨n, hn, rfl⟩))]; exact hm.life n hn
theorem JM.stable (bm rb : Nat) (m : Mach) : Stable (JM bm rb m) := by
  rintro h h' Y w w' ⟨bs, hm⟩ hle hnew hw' hB hX
  exact ⟨bs, MachAt.stable bm rb bs m _ h h' Y w w' hm hle hnew hw' hB hX⟩
theorem MachAt.mono {bm rb : Nat} {bs : Int → Nat} {m : Mach} {es0 : List (Value × Value)} {h : Mem} {Y Y' : Nat → Prop} {w : World} (hm : MachAt bm rb bs m es0 h Y w) (hY : ∀ b, Y b → Y' b) : MachAt bm rb bs m es0 h Y' w :=
  ⟨fun b hb => ⟨hY b (hm.own b hb).1, (hm.own b hb).2⟩, hm.mach, hm.map, hm.life, hm.ne, hm.inj⟩
section
variable {bm rb : Nat} {bs : Int → Nat} {m : Mach} {h : Mem} {Y : Nat → Prop} {w : World}
theorem mach_cell (hm : MachIn bm rb bs m h Y w) {i : Nat} {v : Value} (hv : #[Value.map (some rb), .int .i64 m.good, .int .i64 m.bad][i]? = some v) : w.cell? ⟨bm, i, none⟩ = some v := by
  obtain ⟨T, h1⟩ := hm.mach
  rw [cell_of_row w bm i _ T (0, 0) h1]; exact hv
theorem life_cell (hm : MachIn bm rb bs m h Y w) {n : Int} (hn : n ∈ m.keys) {i : Nat} {v : Value} (hv : (m.lf n).vs[i]? = some v) : w.cell? ⟨bs n, i, none⟩ = some v := by
  obtain ⟨T, h1⟩ := hm.life n hn
  rw [cell_of_row w (bs n) i _ T (0, 0) h1]; exact hv
theorem ents_keys {es : List MapEntry} {keys : List Int} (he : es.map (fun e => (e.key, e.val)) = ents bs keys) : ∀ e ∈ es, ∃ n, n ∈ keys ∧ e.key = .int .i64 n ∧ e.val = .pointer (some ⟨bs n, 0, none⟩) := by
  intro e hes
  have h1 : (e.key, e.val) ∈ es.map (fun e => (e.key, e.val)) := List.mem_map.2 ⟨e, hes, rfl⟩
  rw [he] at h1
  obtain ⟨n, hn, h2⟩ := List.mem_map.1 h1
  exact ⟨n, hn, (congrArg Prod.fst h2).symm, (congrArg Prod.snd h2).symm⟩
theorem look_find {es : List MapEntry} {keys : List Int} (he : es.map (fun e => (e.key, e.val)) = ents bs keys) (n : Int) :
    (n ∈ keys ∧ ∃ i, Instr.findNow (.int .i64) (.int .i64 n) es 0 = some (some (i, .pointer (some ⟨bs n, 0, none⟩)))) ∨ (n ∉ keys ∧ Instr.findNow (.int .i64) (.int .i64 n) es 0 = some none) := by
  have hks := ents_keys he
  have hkey : MapKept.IsKey (.int .i64) (.int .i64 n) := rfl
  rcases MapKept.findNow_spec hkey es 0 (fun x hx => by obtain ⟨k, _, h1, _⟩ := hks x hx; rw [h1]; rfl) with ⟨h1, h2⟩ | ⟨j, e, h1, h2, h3⟩
  · refine .inr ⟨fun hn => ?_, h1⟩
    have h4 : (Value.int .i64 n, Value.pointer (some ⟨bs n, 0, none⟩)) ∈ ents bs keys := List.mem_map.2 ⟨n, hn, rfl⟩
    rw [← he] at h4
    obtain ⟨e, h5, h6⟩ := List.mem_map.1 h4
    exact h2 e h5 (by have := congrArg Prod.fst h6; exact this)
  · obtain ⟨k, hk, h4, h5⟩ := hks e (List.mem_of_getElem? h2)
    rw [h4] at h3
    cases h3
    rw [h5] at h1
    exact .inl ⟨hk, _, h1⟩
theorem mach_look (hm : MachIn bm rb bs m h Y w) (n : Int) : ∃ es clock, w.heap[rb]? = some (.map es clock) ∧
    ((decide (n ∈ m.keys) = true ∧ ∃ i, Instr.findNow (.int .i64) (.int .i64 n) es.toList 0 = some (some (i, (if n ∈ m.keys then Value.pointer (some ⟨bs n, 0, none⟩) else .pointer none)))) ∨
      (decide (n ∈ m.keys) = false ∧ (if n ∈ m.keys then Value.pointer (some ⟨bs n, 0, none⟩) else .pointer none) = .pointer none ∧ Instr.findNow (.int .i64) (.int .i64 n) es.toList 0 = some none)) := by
  obtain ⟨es, clock, h1, h2⟩ := hm.map
  refine ⟨es, clock, h1, ?_⟩
  rcases look_find h2 n with ⟨h3, h4⟩ | ⟨h3, h4⟩
  · rw [if_pos h3]
    exact .inl ⟨decide_eq_true h3, h4⟩
  · exact .inr ⟨decide_eq_false h3, if_neg h3, h4⟩
theorem mach_len (hm : MachIn bm rb bs m h Y w) : ∃ es clock, w.heap[rb]? = some (.map es clock) ∧ es.size = m.keys.length := by
  obtain ⟨es, clock, h1, h2⟩ := hm.map
  refine ⟨es, clock, h1, ?_⟩
  have := congrArg List.length h2
  simpa [ents] using this
theorem mach_rb (hm : MachIn bm rb bs m h Y w) : (∀ n, n ∈ m.keys → bs n ≠ rb) ∧ bm ≠ rb := by
  obtain ⟨es, clock, h1, _⟩ := hm.map
  refine ⟨fun n hn e => ?_, fun e => ?_⟩
  · obtain ⟨T, h2⟩ := hm.life n hn
    rw [e, h1] at h2; cases h2
  · obtain ⟨T, h2⟩ := hm.mach
    rw [e, h1] at h2; cases h2
def setLife (m : Mach) (n : Int) (x : Life) : Mach := { m with lf := upd m.lf n x }
def setCounts (m : Mach) (g b : Nat) : Mach := { m with good := g, bad := b }
theorem mach_setLife (hm : MachIn bm rb bs m h Y w) {n : Int} (hn : n ∈ m.keys) (x : Life) : MachIn bm rb bs (setLife m n x) h Y (w.setRow (bs n) x.vs) := by
  obtain ⟨T, h1⟩ := hm.life n hn
  have ho : ∀ b, b ≠ bs n → (w.setRow (bs n) x.vs).heap[b]? = w.heap[b]? := fun b hb => setRow_other w (bs n) b _ hb
  refine ⟨hm.own, ?_, ?_, fun k hk => ?_, hm.ne, hm.inj⟩
  · rw [ho bm (fun e => hm.ne n hn e.symm)]; exact hm.mach
  · rw [ho rb (fun e => (mach_rb hm).1 n hn e.symm)]; exact hm.map
  · by_cases hkn : k = n
    · subst hkn
      refine ⟨T, ?_⟩
      show _ = some (Obj.cells (upd m.lf k x k).vs T (0, 0))
      rw [upd_same]
      exact setRow_heap w (bs k) _ _ T _ h1
    · rw [ho (bs k) (fun e => hkn (hm.inj k hk n hn e))]
      obtain ⟨T2, h2⟩ := hm.life k hk
      refine ⟨T2, ?_⟩
      show _ = some (Obj.cells (upd m.lf n x k).vs T2 (0, 0))
      rw [upd_ne _ _ hkn]
      exact h2
theorem mach_setCounts (hm : MachIn bm rb bs m h Y w) (g b : Nat) : MachIn bm rb bs (setCounts m g b) h Y (w.setRow bm #[.map (some rb), .int .i64 g, .int .i64 b]) := by
  obtain ⟨T, h1⟩ := hm.mach
  have ho : ∀ b', b' ≠ bm → (w.setRow bm #[.map (some rb), .int .i64 g, .int .i64 b]).heap[b']? = w.heap[b']? := fun b' hb => setRow_other w bm b' _ hb
  refine ⟨hm.own, ⟨T, setRow_heap w bm _ _ T _ h1⟩, ?_, fun k hk => ?_, hm.ne, hm.inj⟩
  · rw [ho rb (fun e => (mach_rb hm).2 e.symm)]; exact hm.map
  · rw [ho (bs k) (hm.ne k hk)]; exact hm.life k hk
theorem mach_mid (hm : MachIn bm rb bs m h Y w) {n : Int} (hn : n ∉ m.keys) (b : Nat) : Y rb ∧ (∀ o', h ⟨rb, o', none⟩ = none) ∧ ∃ es clock, w.heap[rb]? = some (.map es clock) ∧ Instr.findNow (.int .i64) (.int .i64 n) es.toList 0 = some none ∧
    MachAt bm rb bs m (ents bs m.keys ++ [(.int .i64 n, .pointer (some ⟨b, 0, none⟩))]) h Y { w with heap := w.heap.setIfInBounds rb (.map (es.push ⟨.int .i64 n, .pointer (some ⟨b, 0, none⟩), clock⟩) (clock + 1)) } := by
  obtain ⟨es, clock, h1, h2⟩ := hm.map
  obtain ⟨q1, q2⟩ := hm.own rb (.inr (.inl rfl))
  have ho := (MapKept.heap_set (o' := .map (es.push ⟨.int .i64 n, .pointer (some ⟨b, 0, none⟩), clock⟩) (clock + 1)) h1)
  refine ⟨q1, q2, es, clock, h1, ?_, hm.own, ?_, ⟨_, _, ho.1, ?_⟩, fun k hk => ?_, hm.ne, hm.inj⟩
  · rcases look_find h2 n with ⟨h3, _⟩ | ⟨_, h4⟩
    · exact absurd h3 hn
    · exact h4
  · show ∃ T, (w.heap.setIfInBounds rb _)[bm]? = _
    rw [ho.2 bm (mach_rb hm).2]; exact hm.mach
  · rw [Array.toList_push, List.map_append, h2]; rfl
  · show ∃ T, (w.heap.setIfInBounds rb _)[bs k]? = _
    rw [ho.2 (bs k) ((mach_rb hm).1 k hk)]; exact hm.life k hk
def addKey (m : Mach) (n : Int) : Mach := { m with keys := m.keys ++ [n], lf := upd m.lf n ⟨false, false, false⟩ }
theorem mach_ins {b : Nat} {T : TypeId} {n : Int} (hm : MachAt bm rb bs m (ents bs m.keys ++ [(.int .i64 n, .pointer (some ⟨b, 0, none⟩))]) h Y w) (hn : n ∉ m.keys) (hb : w.heap[b]? = some (.cells #[.bool false, .bool false, .bool false] T (0, 0))) (hno : ∀ o, h ⟨b, o, none⟩ = none) (hY : ¬ Y b) :
    JM bm rb (addKey m n) h (fun x => Y x ∨ x = b) w := by
  have hne : ∀ k, k ∈ m.keys → k ≠ n := fun k hk e => hn (e ▸ hk)
  have hbs : ∀ k, k ∈ m.keys → bs k ≠ b := fun k hk e => hY (e ▸ (hm.own (bs k) (.inr (.inr ⟨k, hk, rfl⟩))).1)
  have hmem : ∀ k, k ∈ (addKey m n).keys ↔ k ∈ m.keys ∨ k = n := fun k => by show k ∈ m.keys ++ [n] ↔ _; rw [List.mem_append, List.mem_singleton]
  have eb : ∀ k, k ∈ m.keys → upd bs n b k = bs k := fun k hk => upd_ne _ _ (hne k hk)
  refine ⟨upd bs n b, fun b' hb' => ?_, hm.mach, ?_, fun k hk => ?_, fun k hk => ?_, fun k hk j hj e => ?_⟩
  · rcases hb' with rfl | rfl | ⟨k, hk, rfl⟩
    · obtain ⟨q1, q2⟩ := hm.own b' (.inl rfl); exact ⟨.inl q1, q2⟩
    · obtain ⟨q1, q2⟩ := hm.own b' (.inr (.inl rfl)); exact ⟨.inl q1, q2⟩
    · rcases (hmem k).1 hk with hk | rfl
      · rw [eb k hk]
        obtain ⟨q1, q2⟩ := hm.own (bs k) (.inr (.inr ⟨k, hk, rfl⟩)); exact ⟨.inl q1, q2⟩
      · rw [upd_same]; exact ⟨.inr rfl, hno⟩
  · obtain ⟨es, clock, h1, h2⟩ := hm.map
    refine ⟨es, clock, h1, h2.trans ?_⟩
    show ents bs m.keys ++ _ = ents (upd bs n b) (m.keys ++ [n])
    unfold ents
    rw [List.map_append, List.map_cons, List.map_nil, upd_same]
    congr 1
    exact List.map_congr_left fun k hk => by rw [eb k hk]
  · rcases (hmem k).1 hk with hk | rfl
    · rw [eb k hk]
      show ∃ T, _ = some (Obj.cells (upd m.lf n ⟨false, false, false⟩ k).vs T (0, 0))
      rw [upd_ne _ _ (hne k hk)]
      exact hm.life k hk
    · rw [upd_same]
      show ∃ T, _ = some (Obj.cells (upd m.lf k ⟨false, false, false⟩ k).vs T (0, 0))
      rw [upd_same]
      exact ⟨T, hb⟩
  · rcases (hmem k).1 hk with hk | rfl
    · rw [eb k hk]; exact hm.ne k hk
    · rw [upd_same]
      exact fun e => hY (e ▸ (hm.own bm (.inl rfl)).1)
  · rcases (hmem k).1 hk with hk' | hk' <;> rcases (hmem j).1 hj with hj' | hj'
    · rw [eb k hk', eb j hj'] at e; exact hm.inj k hk' j hj' e
    · rw [eb k hk', hj', upd_same] at e; exact absurd e (hbs k hk')
    · rw [hk', upd_same, eb j hj'] at e; exact absurd e.symm (hbs j hj')
    · rw [hk', hj']
theorem mach_new {b : Nat} {T : TypeId} (h1 : Y rb) (h2 : ∀ o, h ⟨rb, o, none⟩ = none) (h3 : w.heap[rb]? = some (.map #[] 0)) (hb : w.heap[b]? = some (.cells #[.map (some rb), .int .i64 0, .int .i64 0] T (0, 0))) (hno : ∀ o, h ⟨b, o, none⟩ = none) : JM b rb Mach.init h (fun x => Y x ∨ x = b) w := by
  refine ⟨fun _ => 0, fun b' hb' => ?_, ⟨T, hb⟩, ⟨_, _, h3, rfl⟩, (fun n hn => by cases hn), (fun n hn => by cases hn), (fun n hn => by cases hn)⟩
  rcases hb' with rfl | rfl | ⟨k, hk, _⟩
  · exact ⟨.inr rfl, hno⟩
  · exact ⟨.inl h1, h2⟩
  · cases hk
end
def onErr (m : Mach) (x : Event) : Int :=
  if ¬ (0 ≤ x.kind ∧ x.kind ≤ 4) then 15 else if ¬ (0 ≤ x.part ∧ x.part ≤ 1000000) then 2 else
  if x.kind = 0 then (if x.part ∈ m.keys then 5 else 0) else
  if ¬ x.part ∈ m.keys ∨ (m.lf x.part).left = true then 6 else
  if x.kind = 1 then (if (m.lf x.part).passed = true ∨ (m.lf x.part).marked = true then 20 else 0) else
  if x.kind = 2 then (if (m.lf x.part).marked = true then 20 else 0) else
  if x.kind = 3 then (if (m.lf x.part).may = true then 0 else 24) else 0
def onStep (m : Mach) (x : Event) : Mach :=
  if onErr m x ≠ 0 then m else if x.kind = 0 then addKey m x.part else
  if x.kind = 1 then setLife m x.part ⟨true, (m.lf x.part).marked, (m.lf x.part).left⟩ else
  if x.kind = 2 then setLife m x.part ⟨(m.lf x.part).passed, true, (m.lf x.part).left⟩ else
  if x.kind = 3 then setCounts (setLife m x.part ⟨(m.lf x.part).passed, (m.lf x.part).marked, true⟩) (m.good + 1) m.bad else
  setCounts (setLife m x.part ⟨(m.lf x.part).passed, (m.lf x.part).marked, true⟩) m.good (m.bad + 1)
theorem onHead (x : Event) : firstE [unlessE (decide (0 ≤ x.kind ∧ x.kind ≤ 4)) 15, unlessE (decide (0 ≤ x.part ∧ x.part ≤ 1000000)) 2] = if ¬ (0 ≤ x.kind ∧ x.kind ≤ 4) then 15 else if ¬ (0 ≤ x.part ∧ x.part ≤ 1000000) then 2 else 0 := by
  rw [firstE2]
  by_cases h1 : 0 ≤ x.kind ∧ x.kind ≤ 4
  · rw [unlessE_of h1, if_neg (by simp), if_neg (by simpa using h1)]
    by_cases h2 : 0 ≤ x.part ∧ x.part ≤ 1000000
    · rw [unlessE_of h2, if_neg (by simpa using h2)]
    · rw [unlessE_not h2, if_pos h2]
  · rw [unlessE_not h1, if_pos (by decide), if_pos h1]
end Go.Proofs.YtpmglnphhhlbdaaGreatDoor
