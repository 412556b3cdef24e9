/- Layer 5, rings of hoistway/note.Notice: New, Len, Room and at. No condition. -/
import Derived.Test.YtjfpmolnipiphaaFeedRows
import Derived.Test.YtjfpmolnipiphaaRing0
import Derived.Deep.QuietTactic
import Derived.BigQuiet
namespace Go.Proofs.Ytjfpmolnipiphaa
open Go.RowKit

def KN : RK (Int × (Nat → Int)) := ⟨42, 73, 12, fun x => [.int .i64 x.1, .int .i64 (x.2 0), .int .i64 (x.2 1), .int .i64 (x.2 2), .int .i64 (x.2 3), .int .i64 (x.2 4), .int .i64 (x.2 5), .int .i64 (x.2 6), .int .i64 (x.2 7), .int .i64 (x.2 8), .int .i64 (x.2 9), .int .i64 (x.2 10)], by decide, fun _ => rfl⟩
section
variable {w : World} {gr fr len room : Nat} {v : Value} {q : List (Int × (Nat → Int))}
theorem KN.c0 (h : RingAt KN w gr v fr len room q) : w.cell? ⟨gr, 0, none⟩ = some v := h.obj.cell 0
theorem KN.c1 (h : RingAt KN w gr v fr len room q) : w.cell? ⟨gr, 1, none⟩ = some (.int .i64 (fr : Int)) := h.obj.cell 1
theorem KN.c2 (h : RingAt KN w gr v fr len room q) : w.cell? ⟨gr, 2, none⟩ = some (.int .i64 (q.length : Int)) := h.obj.cell 2
theorem KN.c3 (h : RingAt KN w gr v fr len room q) : w.cell? ⟨gr, 3, none⟩ = some (.int .i64 (room : Int)) := h.obj.cell 3

theorem KN.len_any (h : RingAt KN w gr v fr len room q) : Calls Try.prog 22 #[.pointer (some ⟨gr, 0, none⟩)] w fun e w' => e = .returned (.int .i64 (q.length : Int)) ∧ w = w' := by
  have q2 := KN.c2 h
  clear h
  go_enter Try.func22, Try.ntmps22
  go_wp2
  go_ret
  exact ⟨rfl, rfl⟩
theorem KN.len_nil (w : World) : Calls Try.prog 22 #[.pointer none] w fun e w' => e = .returned (.int .i64 0) ∧ w = w' := by
  go_enter Try.func22, Try.ntmps22
  go_wp2
  go_ret
  exact ⟨rfl, rfl⟩
theorem KN.at_raw {g : Nat} {nn : Int} (h : Blk w gr 73 #[.slice (some ⟨g, 0, none⟩) len len, .int .i64 (fr : Int), .int .i64 nn, .int .i64 (room : Int)]) (h0 : 0 < len) (hfr : fr < len) (hl : len ≤ 65536) (i : Nat) (hi : i ≤ 65536) {ix : Nat} (hix : (fr + i) % len = ix) :
    Calls Try.prog 34 #[.pointer (some ⟨gr, 0, none⟩), .int .i64 (i : Int)] w fun e w' => e = .returned (.int .i64 (ix : Int)) ∧ ∃ n, w' = w.drewN n := by
  subst hix
  have q0 : w.cell? ⟨gr, 0, none⟩ = some (.slice (some ⟨g, 0, none⟩) len len) := h.cell 0
  have q1 : w.cell? ⟨gr, 1, none⟩ = some (.int .i64 (fr : Int)) := h.cell 1
  have e1 : IntKind.i64.wrap ((fr : Int) + (i : Int)) = (fr : Int) + (i : Int) := IntWalk.i64_in _ (by omega)
  have e2 : ((fr : Int) + (i : Int)).tmod (len : Int) = (((fr + i) % len : Nat) : Int) := by
    rw [← Int.natCast_add, Int.ofNat_tmod]
  have e3 : ((len : Int) == 0) = false := by simp; omega
  have e4 : (len : Int) ≠ 0 := by omega
  have e5 : IntKind.i64.wrap (((fr + i) % len : Nat) : Int) = (((fr + i) % len : Nat) : Int) := IntWalk.i64_in _ (by have := Nat.mod_lt (fr + i) h0; omega)
  clear h hl hfr h0 hi
  go_enter Try.func34, Try.ntmps34
  go_wp2_with fail
  go_quiet (fail)
  go_wp2
  go_ret
  exact ⟨rfl, _, rfl⟩
theorem KN.at_any (h : RingAt KN w gr v fr len room q) (h0 : 0 < len) (i : Nat) (hi : i ≤ 65536) :
    Calls Try.prog 34 #[.pointer (some ⟨gr, 0, none⟩), .int .i64 (i : Int)] w fun e w' => e = .returned (.int .i64 (((fr + i) % len : Nat) : Int)) ∧ ∃ n, w' = w.drewN n := by
  have hl := h.lenroom
  have hr := h.room2
  obtain ⟨g, rfl, hfr⟩ : ∃ g, v = .slice (some ⟨g, 0, none⟩) len len ∧ fr < len := by
    rcases h.cells with ⟨h1, _⟩ | ⟨g, cs, hv, _, _, _, hfr, _⟩
    · omega
    · exact ⟨g, hv, hfr⟩
  exact KN.at_raw h.obj h0 hfr (by omega) i hi rfl

theorem KN.new_no (n : Int) (hn : n < 1 ∨ 65536 < n) (w : World) : Calls Try.prog 19 #[.int .i64 n] w fun e w' => e = .returned (.pointer none) ∧ w = w' := by
  rcases hn with hn | hn
  · go_enter Try.func19, Try.ntmps19
    go_wp2
    go_ret
    exact ⟨rfl, rfl⟩
  · have h1 : ¬ n < 1 := by omega
    go_enter Try.func19, Try.ntmps19
    go_wp2
    go_ret
    exact ⟨rfl, rfl⟩
theorem KN.new_any (room : Nat) (h1 : 1 ≤ room) (h2 : room ≤ 65536) (w : World) :
    Calls Try.prog 19 #[.int .i64 (room : Int)] w fun e w' => e = .returned (.pointer (some ⟨w.heap.size, 0, none⟩)) ∧ RingAt KN w' w.heap.size (.slice none 0 0) 0 0 room [] ∧ Below w.heap.size w w' := by
  have z1 : (1 : Int) ≤ (room : Int) := by omega
  have z2 : (room : Int) ≤ 65536 := by omega
  go_enter Try.func19, Try.ntmps19
  go_wp2
  go_ret
  exact ⟨rfl, ⟨Blk.new _ _ _, h1, h2, Nat.le_refl _, Nat.zero_le _, .inl ⟨rfl, rfl, rfl⟩⟩, (Below.refl _ _).alloc (Nat.le_refl _) _⟩
end
end Go.Proofs.Ytjfpmolnipiphaa
