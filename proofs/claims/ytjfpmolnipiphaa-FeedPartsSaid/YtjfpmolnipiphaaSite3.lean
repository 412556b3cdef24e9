/- Layer 7: what Trip, Ride, Answer, IsFloor and IsCar tell; nothing that was in memory is changed. For every configuration and number. -/
import Derived.Test.YtjfpmolnipiphaaSite1
import Derived.Test.YtjfpmolnipiphaaSite2
import Derived.Test.YtjfpmolnipiphaaRowLaws
namespace Go.Proofs.Ytjfpmolnipiphaa
open Go.RowKit

theorem check_ok {c : Nat → Int} (h : good c = true) (s : Int) (w : World) :
    Calls Try.prog 18 #[.agg (cfgCells c s)] w fun e w' => e = .returned (.int .i64 0) ∧ Below w.heap.size w w' :=
  (check_any c s w).mono fun _ _ ⟨he, hb⟩ => ⟨by rw [he]; unfold chkV; rw [h]; rfl, hb⟩
theorem check_no {c : Nat → Int} (h : good c = false) (s : Int) (w : World) :
    Calls Try.prog 18 #[.agg (cfgCells c s)] w fun e w' => e = .returned (.int .i64 3) ∧ Below w.heap.size w w' :=
  (check_any c s w).mono fun _ _ ⟨he, hb⟩ => ⟨by rw [he]; unfold chkV; rw [h]; rfl, hb⟩

theorem good_at {c : Nat → Int} (h : good c = true) (k : Nat) (hk : k < 17) : least k ≤ c k ∧ c k ≤ most k := by
  unfold good at h
  rw [decide_eq_true_eq] at h
  exact h k hk

theorem ret_int {k : IntKind} {a b : Int} (h : a = b) : Ending.returned (.int k a) = .returned (.int k b) := by rw [h]
theorem ret_bool {a b : Bool} (h : a = b) : Ending.returned (.bool a) = .returned (.bool b) := by rw [h]
theorem box_bel {w w1 : World} {o : Obj} (hB : Below (w.alloc o).heap.size (w.alloc o) w1) : Below w.heap.size w w1 := ((Below.refl _ _).alloc (Nat.le_refl _) _).trans (hB.mono (by simp))
theorem box_blk {w w1 : World} {c : Nat → Int} {s : Int} (hB : Below (w.alloc (.cells (cfgCells c s) 24)).heap.size (w.alloc (.cells (cfgCells c s) 24)) w1) : Blk w1 w.heap.size 24 (cfgCells c s) :=
  (Blk.new w 24 (cfgCells c s)).below hB (by simp)

/-- What Trip tells. -/
def tripV (c : Nat → Int) : Int := if good c then 2 * c 0 * (c 15 + c 16 + 3) else 0

theorem mul_bd {a b : Int} {A B : Int} (h0 : 0 ≤ a) (h1 : a ≤ A) (h2 : 0 ≤ b) (h3 : b ≤ B) : 0 ≤ a * b ∧ a * b ≤ A * B :=
  ⟨Int.mul_nonneg h0 h2, Int.mul_le_mul h1 h3 h2 (by omega)⟩

theorem trip_ok_bd {c : Nat → Int} (h : good c = true) : 0 ≤ 2 * c 0 * (c 15 + c 16 + 3) ∧ 2 * c 0 * (c 15 + c 16 + 3) ≤ 704 := by
  have h0 : 2 ≤ c 0 ∧ c 0 ≤ 32 := good_at h 0 (by omega)
  have h1 : 1 ≤ c 15 ∧ c 15 ≤ 4 := good_at h 15 (by omega)
  have h2 : 0 ≤ c 16 ∧ c 16 ≤ 4 := good_at h 16 (by omega)
  exact mul_bd (A := 64) (B := 11) (by omega) (by omega) (by omega) (by omega)

/-- What Ride tells, where the configuration can be. -/
def rideV (c : Nat → Int) : Int := if good c then 3 * (c 3 + 1) * tripV c else 0

theorem trip_bd (c : Nat → Int) : 0 ≤ tripV c ∧ tripV c ≤ 704 := by
  unfold tripV
  cases h : good c
  · simp
  · simpa using trip_ok_bd h


/-- What Answer tells. -/
def answerV (c : Nat → Int) : Int := if good c then (c 10 + 1) * (2 * c 13 + 12) + c 11 else 0

theorem answer_bd {c : Nat → Int} (h : good c = true) : 0 ≤ (c 10 + 1) * (2 * c 13 + 12) ∧ (c 10 + 1) * (2 * c 13 + 12) ≤ 476 := by
  have h0 : 1 ≤ c 10 ∧ c 10 ≤ 16 := good_at h 10 (by omega)
  have h1 : 0 ≤ c 13 ∧ c 13 ≤ 8 := good_at h 13 (by omega)
  exact mul_bd (A := 17) (B := 28) (by omega) (by omega) (by omega) (by omega)

/-- What IsFloor and IsCar tell. -/
def floorV (c : Nat → Int) (n : Int) : Bool := good c && (decide (1 ≤ n) && decide (n ≤ c 0))
def carV (c : Nat → Int) (n : Int) : Bool := good c && (decide (1 ≤ n) && decide (n ≤ c 1))

end Go.Proofs.Ytjfpmolnipiphaa
