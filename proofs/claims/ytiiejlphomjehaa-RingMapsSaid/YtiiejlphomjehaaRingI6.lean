/- Layer 5, rings of int: the methods, the ring carried beside other memory. No condition. -/
import Derived.Test.YtiiejlphomjehaaRingI3
import Derived.Test.YtiiejlphomjehaaRingI5
namespace Go.Proofs.Ytiiejlphomjehaa
open Go.RowKit

section
variable {w0 w : World} {gr room : Nat} {q : List Int} {L : List (Nat × TypeId × Array Value)} {R : List Ow}
theorem KI.push_rg (x : Int) (h : RG KI w0 L R gr room q w) (hn : q.length < room) : Calls Try.prog 10 #[.pointer (some ⟨gr, 0, none⟩), .int .i64 x] w fun e w' => e = .returned (.bool true) ∧ RG KI w0 L R gr room (q ++ [x]) w' := by
  obtain ⟨v, fr, len, hr, hap⟩ := h.ring
  refine (KI.push_any x hr hn).mono ?_
  rintro e w' ⟨rfl, hP⟩
  exact ⟨rfl, RG.upd h.sr hr hap hP⟩
theorem KI.push_no (x : Int) (h : RG KI w0 L R gr room q w) (hn : q.length = room) : Calls Try.prog 10 #[.pointer (some ⟨gr, 0, none⟩), .int .i64 x] w fun e w' => e = .returned (.bool false) ∧ RG KI w0 L R gr room q w' := by
  obtain ⟨v, fr, len, hr, hap⟩ := h.ring
  refine (KI.push_full x hr hn).mono ?_
  rintro e w' ⟨rfl, n, rfl⟩
  exact ⟨rfl, h.drewN n⟩
theorem KI.pop_rg {y : Int} (h : RG KI w0 L R gr room (y :: q) w) : Calls Try.prog 11 #[.pointer (some ⟨gr, 0, none⟩)] w fun e w' => e = .returned (.tuple #[.int .i64 y, .bool true]) ∧ RG KI w0 L R gr room q w' := by
  obtain ⟨v, fr, len, hr, hap⟩ := h.ring
  refine (KI.pop_cons hr).mono ?_
  rintro e w' ⟨rfl, hP⟩
  exact ⟨rfl, RG.upd h.sr hr hap hP⟩
theorem KI.pop_no (h : RG KI w0 L R gr room [] w) : Calls Try.prog 11 #[.pointer (some ⟨gr, 0, none⟩)] w fun e w' => e = .returned (.tuple #[.int .i64 0, .bool false]) ∧ w = w' := by
  obtain ⟨v, fr, len, hr, hap⟩ := h.ring
  exact KI.pop_nil hr
theorem KI.peek_rg {y : Int} (h : RG KI w0 L R gr room (y :: q) w) : Calls Try.prog 13 #[.pointer (some ⟨gr, 0, none⟩)] w fun e w' => e = .returned (.tuple #[.int .i64 y, .bool true]) ∧ RG KI w0 L R gr room (y :: q) w' := by
  obtain ⟨v, fr, len, hr, hap⟩ := h.ring
  refine (KI.peek_cons hr).mono ?_
  rintro e w' ⟨rfl, n, rfl⟩
  exact ⟨rfl, h.drewN n⟩
theorem KI.peek_no (h : RG KI w0 L R gr room [] w) : Calls Try.prog 13 #[.pointer (some ⟨gr, 0, none⟩)] w fun e w' => e = .returned (.tuple #[.int .i64 0, .bool false]) ∧ w = w' := by
  obtain ⟨v, fr, len, hr, hap⟩ := h.ring
  exact KI.peek_nil hr
theorem KI.clear_rg {n : Nat} (h : RG KI w0 L R gr room q w) (hn : q.length = n) : Calls Try.prog 15 #[.pointer (some ⟨gr, 0, none⟩)] w fun e w' => e = .returned (.int .i64 (n : Int)) ∧ RG KI w0 L R gr room [] w' := by
  subst hn
  obtain ⟨v, fr, len, hr, hap⟩ := h.ring
  refine (KI.clear_any hr).mono ?_
  rintro e w' ⟨rfl, hP⟩
  exact ⟨rfl, RG.upd h.sr hr hap hP⟩
theorem KI.len_rg {n : Nat} (h : RG KI w0 L R gr room q w) (hn : q.length = n) : Calls Try.prog 9 #[.pointer (some ⟨gr, 0, none⟩)] w fun e w' => e = .returned (.int .i64 (n : Int)) ∧ w = w' := by
  subst hn
  obtain ⟨v, fr, len, hr, hap⟩ := h.ring
  exact KI.len_any hr
theorem KI.room_rg (h : RG KI w0 L R gr room q w) : Calls Try.prog 14 #[.pointer (some ⟨gr, 0, none⟩)] w fun e w' => e = .returned (.int .i64 (room : Int)) ∧ w = w' := by
  obtain ⟨v, fr, len, hr, hap⟩ := h.ring
  exact KI.room_any hr
theorem KI.list_rg (h : RG KI w0 L R gr room q w) : Calls Try.prog 16 #[.pointer (some ⟨gr, 0, none⟩)] w fun e w' => ∃ v2, e = .returned v2 ∧ RG KI w0 L (⟨v2, 3, 1, q.length, KI.flat q⟩ :: R) gr room q w' := by
  obtain ⟨v, fr, len, hr, hap⟩ := h.ring
  refine (KI.list_any hr).mono ?_
  rintro e w' ⟨v2, rfl, hown, hB⟩
  exact ⟨v2, rfl, h.call_row hB ⟨v2, 3, 1, q.length, KI.flat q⟩ hown⟩
theorem KI.new_rg (hS : SR w0 L R w) (h1 : 1 ≤ room) (h2 : room ≤ 65536) : Calls Try.prog 8 #[.int .i64 (room : Int)] w fun e w' => ∃ gr, e = .returned (.pointer (some ⟨gr, 0, none⟩)) ∧ RG KI w0 L R gr room [] w' := by
  refine (KI.new_any room h1 h2 w).mono ?_
  rintro e w' ⟨rfl, hr, hB⟩
  exact ⟨_, rfl, RG.made hS hB hr (Nat.le_refl _) (fun k hk => by cases hk)⟩
end
end Go.Proofs.Ytiiejlphomjehaa
