/-
  Abstract states: a literal of a slice that is never written again; freezing within a region.
-/
import Derived.Test.YtjamlnkjfkcdkaaGreatDoorFq
namespace Go.Ab
open Go.RowKit

section
variable {E : Env} {all : Array Oper} {s r r1 r2 r3 rg : St} {d ty : Nat} {pos : String} {after : Array Edge} {guard : Option (Nat × Bool)} {x y z : Operand}
/-- A literal of a slice, as data. -/
theorem S.mkData {t e sz bytes n : Nat} {ps : List (Nat × Operand)} {us : List X} {rows : List (List X)} (hA : ApI E.P t e sz bytes) (hg : Gd all s guard rg) (hd : (Nat.blt d 1000 && Nat.blt d E.nt) = true)
    (hx : OpsS s (ps.map (·.2)) us r) (hu : us.all okSt = true) (_hrows : us.map cellsX = rows) (hf : fillX (fun i => some (i * sz, sz)) (List.replicate (n * sz) .any) ((ps.map (·.1)).zip us) = some rows.flatten)
    (hr : rows.all (fun q => Nat.beq q.length sz) = true) (hn : rows.length = n) (hD : rows.flatten.all okD = true) (hbig : Nat.ble (n * sz) 16777216 = true) :
    St1 E all ⟨some d, .buildSlice t n ps.toArray, ty, pos, after, guard⟩ s (rg ++ r) [(d, .sl rows)] [] :=
  St1.mk hg hd rfl hx.looks fun U c a w hb hrr hal => by
    clear _hrows hal
    rw [Nat.ble_eq] at hbig
    have hrow : ∀ q ∈ rows, q.length = sz := fun q hq => Nat.eq_of_beq_eq_true ((List.all_eq_true.1 hr) q hq)
    have hfl : rows.flatten.length = n * sz := by rw [flatten_length hrow, hn]
    obtain ⟨hsz, zv, hz, hzs⟩ := hA.run
    have hbase : ∀ (q : Array Value), q.size = n * sz → All2 (RepC c) (List.replicate (n * sz) .any) q.toList := fun q hq => All2.of_get (by simp [hq]) fun i u v hu _ => by
      simp only [List.getElem?_replicate] at hu
      split at hu
      · cases hu; exact trivial
      · cases hu
    obtain ⟨cells, h1, h2⟩ := fill_rep (c := c) (fun i => some (i * sz, sz)) _ _ _ (((Array.range (n * sz)).map fun i => (if n * sz = 0 then #[] else zv.cells)[i % (if n * sz = 0 then #[] else zv.cells).size]!)) rows.flatten (hbase _ (by simp)) (parts_rep (hx.rep (c := c) (a := a) (w := w) hrr) hu) hf
    have hcs : cells.size = n * sz := by have := h2.length; rw [hfl] at this; simpa using this.symm
    have hB := below_alloc w (.cells cells e)
    have hnewb : (w.alloc (.cells cells e)).heap[w.heap.size]? = some (.cells cells e (0, 0)) := heap_alloc_new w _
    have hds := Ds_of h2 hD
    obtain ⟨h', hh'⟩ : ∃ h' : Mem, h' = fun p => if p.block = w.heap.size then (w.alloc (.cells cells e)).cell? p else c.h p := ⟨_, rfl⟩
    have hle : Mem.le c.h h' := by
      intro p u hp
      rw [hh']
      dsimp only
      rw [if_neg (by have := block_lt_of_cell (hb.hw p u hp); omega)]
      exact hp
    have hnw : ∀ p u, h' p = some u → c.h p = some u ∨ w.heap.size ≤ p.block := fun p u hp => by
      rw [hh'] at hp
      dsimp only at hp
      split at hp
      · exact .inr (by omega)
      · exact .inl hp
    have hbase2 := hb.below_grow hB hle hnw (fun p u hp => by
      rw [hh'] at hp
      dsimp only at hp
      split at hp
      · exact hp
      · rw [hB.cell (block_lt_of_cell (hb.hw p u hp))]; exact hb.hw p u hp)
    have hext : Ext c ⟨h', c.loc, c.arr, c.Y⟩ := ⟨hle, fun _ _ e => e, fun _ m hv lv e => ⟨m, hv, lv, e, Nat.le_refl _, fun _ => rfl⟩⟩
    refine ⟨.slice (some ⟨w.heap.size, 0, none⟩) n n, ⟨h', c.loc, c.arr, c.Y⟩, w.alloc (.cells cells e), ?_, hbase2, hext, ?_, (fun p hp => by cases hp), fun key u hkey _ hu => Holds.below hb hB hext (fun _ _ _ e => e) rfl hnw hbase2.hw hkey hu⟩
    · have hnb : ¬ (n * sz > 2 ^ 24) := by omega
      simp only [execOp, Instr.buildSlice, Sem.run_bind, run_underlying hA.und, Result.andThen_ok, hsz, hnb, if_false]
      by_cases h0 : n * sz = 0
      · simp only [h0, if_true] at h1
        simp at h1
        simp [h0, h1, newRow]
      · simp only [h0, if_false] at h1
        simp [h0, hz, h1, newRow]
    · have hpos := hA.pos
      have hnn : n ≤ n * sz := Nat.le_mul_of_pos_right n hpos
      have : RepD h' (.sl rows) (.slice (some ⟨w.heap.size, 0, none⟩) rows.length n) := by
        refine .sl rows w.heap.size 0 n sz cells.toList (by omega) (by unfold maxLen; omega) hrow (by rw [hfl]; simp [hcs]) ?_ ?_
        · intro i v hv
          rw [hh']
          dsimp only
          rw [if_pos rfl, cell_of_row _ w.heap.size (0 + i) cells e (0, 0) hnewb, Nat.zero_add]
          simpa using hv
        · intro i u v hu hv
          exact (hds.get hu hv).mono hle
      rw [hn] at this
      exact RepD.toT (c := ⟨h', c.loc, c.arr, c.Y⟩) this
end
section
variable {E : Env} {all : Array Oper} {l : List Oper} {U : List Nat} {s : St} {Q : Exit → List Nat → St → Prop}
theorem RK.freeze (t : Nat) {k n sz : Nat} {rows : List (List X)} (ht : Nat.blt t 1000 = true) (hl : look s t = some (.own k n)) (hl2 : look s (2000 + k) = some (.arr sz rows)) (hn : rows.length = n)
    (h : RK E all l U ((t, .sl rows) :: (2000 + k, .any) :: s) Q) (hk9 : E.fs.contains k = false := by rfl) : RK E all l U s Q :=
  fun k0 hk a w hg => h k0 hk a w (hg.freeze ht hl hl2 hn (nfs hk9))
end
end Go.Ab
