/- The statement FeedParts, walked: for every configuration, filter and row of turns the Go law returns true, and nothing that was in memory is changed. -/
import Derived.Test.YtjfpmolnipiphaaFeed9
import Derived.Test.YtjfpmolnipiphaaFeedB
import Derived.Test.YtjfpmolnipiphaaOpenFilter
import Derived.Test.YtjfpmolnipiphaaOpenInts
import Derived.Deep.LoopGhost
import Derived.Deep.QuietTactic
import Derived.Great.BuildSlice
namespace Go.Proofs.Ytjfpmolnipiphaa
open Go.RowKit
set_option linter.unusedVariables false
set_option linter.unusedSimpArgs false

/-- A predicate on worlds under a name that the walk's simp keeps as it is. -/
def PX (P : World → Prop) (W : World) : Prop := P W
theorem pxB {P Q : World → Prop} (h : P = fun W => Q W) : ∀ W, PX P W → Q W := by intro W hW; have h2 : P W := hW; rw [h] at h2; exact h2
theorem pxF {P Q : World → Prop} (h : P = fun W => Q W) : ∀ W, Q W → PX P W := by intro W hW; show P W; rw [h]; exact hW
theorem sT {α : Type} (l : List α) (i : Nat) (a : α) : l.toArray.setIfInBounds i a = (l.set i a).toArray := List.setIfInBounds_toArray ..
theorem s0 {α : Type} (a b : α) (l : List α) : (a :: l).set 0 b = b :: l := rfl
theorem sS {α : Type} (a b : α) (l : List α) (n : Nat) : (a :: l).set (n + 1) b = a :: l.set n b := rfl
/-- A slice of one notice, made of a struct: what it is filled with, reckoned once. -/
theorem fillN (a : Int) (b : Nat → Int) : Instr.fill (fun i => some (i * 12, 12)) ((Array.range (1 * 12)).map fun i => (Value.agg #[.int .i64 0, .int .i64 0, .int .i64 0, .int .i64 0, .int .i64 0, .int .i64 0, .int .i64 0, .int .i64 0, .int .i64 0, .int .i64 0, .int .i64 0, .int .i64 0]).cells[i % (Value.agg #[.int .i64 0, .int .i64 0, .int .i64 0, .int .i64 0, .int .i64 0, .int .i64 0, .int .i64 0, .int .i64 0, .int .i64 0, .int .i64 0, .int .i64 0, .int .i64 0]).cells.size]!) [(0, .agg #[.int .i64 a, .int .i64 (b 0), .int .i64 (b 1), .int .i64 (b 2), .int .i64 (b 3), .int .i64 (b 4), .int .i64 (b 5), .int .i64 (b 6), .int .i64 (b 7), .int .i64 (b 8), .int .i64 (b 9), .int .i64 (b 10)])] = some #[.int .i64 a, .int .i64 (b 0), .int .i64 (b 1), .int .i64 (b 2), .int .i64 (b 3), .int .i64 (b 4), .int .i64 (b 5), .int .i64 (b 6), .int .i64 (b 7), .int .i64 (b 8), .int .i64 (b 9), .int .i64 (b 10)] := by kernel_rfl
theorem buildN {ops : Array Oper} {rest : List Oper} {o : Oper} {a : Act} {w : World} {Q : Exit → Act → World → Prop} (e : Int) (f : Nat → Int) (hg : o.guard = none) (y : Operand) (ho : o.op = .buildSlice 33 1 #[(0, y)])
    (hy : a.eval y = .agg #[.int .i64 e, .int .i64 (f 0), .int .i64 (f 1), .int .i64 (f 2), .int .i64 (f 3), .int .i64 (f 4), .int .i64 (f 5), .int .i64 (f 6), .int .i64 (f 7), .int .i64 (f 8), .int .i64 (f 9), .int .i64 (f 10)]) (h : wpList Try.prog ops Q rest (a.put o.dst (.slice (some ⟨w.heap.size, 0, none⟩) 1 1)) (w.alloc (.cells #[.int .i64 e, .int .i64 (f 0), .int .i64 (f 1), .int .i64 (f 2), .int .i64 (f 3), .int .i64 (f 4), .int .i64 (f 5), .int .i64 (f 6), .int .i64 (f 7), .int .i64 (f 8), .int .i64 (f 9), .int .i64 (f 10)] 42))) : wpList Try.prog ops Q (o :: rest) a w := by
  obtain ⟨ie, hie, hz0, hz1, hz2⟩ := info_parts KN.info
  refine Go.wpList_buildSlice hg 33 42 1 _ ho _ ie _ Try.underlying33 hie hz0 (by rw [hz1]; omega) (by rw [hz1]; omega) ?_ h
  rw [hz1]
  have h2 : ((#[(0, y)] : Array (Nat × Operand)).map fun x => (x.1, a.eval x.2)).toList = [(0, a.eval y)] := by simp
  refine Eq.trans (congrArg _ h2) ?_
  rw [hy]
  exact fillN e f
set_option maxRecDepth 100000 in
theorem parts_bad (c : Nat → Int) (s kd n : Int) (v : Value) (w : World) (hg : good c = false) : Calls Try.prog 3 #[.agg (cfgCells c s), .agg #[.int .i64 kd, .int .i64 n], v] w fun e w' => e = .returned (.bool true) ∧ Below w.heap.size w w' := by
  have hS : SR w [(w.heap.size + 1, 26, (#[.int .i64 kd, .int .i64 n] : Array Value)), (w.heap.size, 24, cfgCells c s)] [] _ := ((SR.ofSt (St.nil w)).alloc 24 (cfgCells c s)).alloc' (w.heap.size + 1) (by simp) 26 #[.int .i64 kd, .int .i64 n]
  have Q0 := St.loadC (L := [(w.heap.size + 1, 26, (#[.int .i64 kd, .int .i64 n] : Array Value)), (w.heap.size, 24, cfgCells c s)]) (w0 := w) 1 rfl
  have QF0 := St.cell (L := [(w.heap.size + 1, 26, (#[.int .i64 kd, .int .i64 n] : Array Value)), (w.heap.size, 24, cfgCells c s)]) (w0 := w) 0 rfl 0 (v := .int .i64 kd) rfl
  have QF1 := St.cell (L := [(w.heap.size + 1, 26, (#[.int .i64 kd, .int .i64 n] : Array Value)), (w.heap.size, 24, cfgCells c s)]) (w0 := w) 0 rfl 1 (v := .int .i64 n) rfl
  have QC := St.cell (L := [(w.heap.size + 1, 26, (#[.int .i64 kd, .int .i64 n] : Array Value)), (w.heap.size, 24, cfgCells c s)]) (w0 := w) 1 rfl 12 (v := .int .i64 (c 12)) rfl
  have HG := Lib.hid hg
  clear hg
  go_enter Try.func3, Try.ntmps3
  go_wp2_with (first
    | (go_at_call 5; refine (awake22 _).mono ?_; rintro e w1 ⟨rfl, hB⟩; have hS1 := hS.step hB; clear hS hB; have hSt := hS1.st)
    | (go_at_call 6; refine (fnew_no _ _ _ HG.out).mono ?_; rintro e w2 ⟨rfl, hB⟩; have hS2 := hS1.step hB; clear hS1 hB))
  go_ret
  exact ⟨rfl, hS2.below⟩
set_option maxRecDepth 100000 in
theorem parts_off (c : Nat → Int) (s kd n : Int) (v : Value) (w : World) (hg : good c = true) (hi : isV kd n = false) : Calls Try.prog 3 #[.agg (cfgCells c s), .agg #[.int .i64 kd, .int .i64 n], v] w fun e w' => e = .returned (.bool true) ∧ Below w.heap.size w w' := by
  have hS : SR w [(w.heap.size + 1, 26, (#[.int .i64 kd, .int .i64 n] : Array Value)), (w.heap.size, 24, cfgCells c s)] [] _ := ((SR.ofSt (St.nil w)).alloc 24 (cfgCells c s)).alloc' (w.heap.size + 1) (by simp) 26 #[.int .i64 kd, .int .i64 n]
  have Q0 := St.loadC (L := [(w.heap.size + 1, 26, (#[.int .i64 kd, .int .i64 n] : Array Value)), (w.heap.size, 24, cfgCells c s)]) (w0 := w) 1 rfl
  have QF0 := St.cell (L := [(w.heap.size + 1, 26, (#[.int .i64 kd, .int .i64 n] : Array Value)), (w.heap.size, 24, cfgCells c s)]) (w0 := w) 0 rfl 0 (v := .int .i64 kd) rfl
  have QF1 := St.cell (L := [(w.heap.size + 1, 26, (#[.int .i64 kd, .int .i64 n] : Array Value)), (w.heap.size, 24, cfgCells c s)]) (w0 := w) 0 rfl 1 (v := .int .i64 n) rfl
  have QC := St.cell (L := [(w.heap.size + 1, 26, (#[.int .i64 kd, .int .i64 n] : Array Value)), (w.heap.size, 24, cfgCells c s)]) (w0 := w) 1 rfl 12 (v := .int .i64 (c 12)) rfl
  have HG := Lib.hid hg
  clear hg
  have HI := Lib.hid hi
  clear hi
  go_enter Try.func3, Try.ntmps3
  go_wp2_with (first
    | (go_at_call 5; refine (awake22 _).mono ?_; rintro e w1 ⟨rfl, hB⟩; have hS1 := hS.step hB; clear hS hB; have hSt := hS1.st)
    | (go_at_call 6; refine (fnew_ok hS1 HG.out).mono ?_; rintro e w2 ⟨gf, gr, room, rfl, hR2, hrm, hr1, hr2⟩; have HR1 := Lib.hid hr1; have HR2 := Lib.hid hr2; have HRM := Lib.hid hrm; clear hr1 hr2 hrm hSt hS1; have hSt := hR2.sr.st.sub (List.sublist_cons_self _ _))
    | (go_at_call 7; refine (start_no HI.out _).mono ?_; rintro e w3 ⟨rfl, hB⟩; have hR3 := hR2.step hB; clear hR2 hB))
  go_ret
  exact ⟨rfl, hR3.sr.below⟩
end Go.Proofs.Ytjfpmolnipiphaa
