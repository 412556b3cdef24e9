/- Layer 5, rings of hoistway/note.Notice: the methods, the ring carried beside other memory. No condition. -/
import Derived.Test.YtjfpmolnipiphaaRingN3
import Derived.Test.YtjfpmolnipiphaaRingN5
namespace Go.Proofs.Ytjfpmolnipiphaa
open Go.RowKit

section
variable {w0 w : World} {gr room : Nat} {q : List (Int × (Nat → Int))} {L : List (Nat × TypeId × Array Value)} {R : List Ow}
theorem KN.push_rg (x : (Int × (Nat → Int))) (h : RG KN w0 L R gr room q w) (hn : q.length < room) : Calls Try.prog 25 #[.pointer (some ⟨gr, 0, none⟩), .agg #[.int .i64 x.1, .int .i64 (x.2 0), .int .i64 (x.2 1), .int .i64 (x.2 2), .int .i64 (x.2 3), .int .i64 (x.2 4), .int .i64 (x.2 5), .int .i64 (x.2 6), .int .i64 (x.2 7), .int .i64 (x.2 8), .int .i64 (x.2 9), .int .i64 (x.2 10)]] w fun e w' => e = .returned (.bool true) ∧ RG KN w0 L R gr room (q ++ [x]) w' := by
  obtain ⟨v, fr, len, hr, hap⟩ := h.ring
  refine (KN.push_any x hr hn).mono ?_
  rintro e w' ⟨rfl, hP⟩
  exact ⟨rfl, RG.upd h.sr hr hap hP⟩
theorem KN.push_no (x : (Int × (Nat → Int))) (h : RG KN w0 L R gr room q w) (hn : q.length = room) : Calls Try.prog 25 #[.pointer (some ⟨gr, 0, none⟩), .agg #[.int .i64 x.1, .int .i64 (x.2 0), .int .i64 (x.2 1), .int .i64 (x.2 2), .int .i64 (x.2 3), .int .i64 (x.2 4), .int .i64 (x.2 5), .int .i64 (x.2 6), .int .i64 (x.2 7), .int .i64 (x.2 8), .int .i64 (x.2 9), .int .i64 (x.2 10)]] w fun e w' => e = .returned (.bool false) ∧ RG KN w0 L R gr room q w' := by
  obtain ⟨v, fr, len, hr, hap⟩ := h.ring
  refine (KN.push_full x hr hn).mono ?_
  rintro e w' ⟨rfl, hB⟩
  exact ⟨rfl, h.step hB⟩
theorem KN.pop_rg {y : (Int × (Nat → Int))} (h : RG KN w0 L R gr room (y :: q) w) : Calls Try.prog 24 #[.pointer (some ⟨gr, 0, none⟩)] w fun e w' => e = .returned (.tuple #[.agg #[.int .i64 y.1, .int .i64 (y.2 0), .int .i64 (y.2 1), .int .i64 (y.2 2), .int .i64 (y.2 3), .int .i64 (y.2 4), .int .i64 (y.2 5), .int .i64 (y.2 6), .int .i64 (y.2 7), .int .i64 (y.2 8), .int .i64 (y.2 9), .int .i64 (y.2 10)], .bool true]) ∧ RG KN w0 L R gr room q w' := by
  obtain ⟨v, fr, len, hr, hap⟩ := h.ring
  refine (KN.pop_cons hr).mono ?_
  rintro e w' ⟨rfl, hP⟩
  exact ⟨rfl, RG.upd h.sr hr hap hP⟩
theorem KN.pop_no (h : RG KN w0 L R gr room [] w) : Calls Try.prog 24 #[.pointer (some ⟨gr, 0, none⟩)] w fun e w' => e = .returned (.tuple #[.agg #[.int .i64 0, .int .i64 0, .int .i64 0, .int .i64 0, .int .i64 0, .int .i64 0, .int .i64 0, .int .i64 0, .int .i64 0, .int .i64 0, .int .i64 0, .int .i64 0], .bool false]) ∧ RG KN w0 L R gr room [] w' := by
  obtain ⟨v, fr, len, hr, hap⟩ := h.ring
  refine (KN.pop_nil hr).mono ?_
  rintro e w' ⟨rfl, hB⟩
  exact ⟨rfl, h.step hB⟩
theorem KN.clear_rg {n : Nat} (h : RG KN w0 L R gr room q w) (hn : q.length = n) : Calls Try.prog 21 #[.pointer (some ⟨gr, 0, none⟩)] w fun e w' => e = .returned (.int .i64 (n : Int)) ∧ RG KN w0 L R gr room [] w' := by
  subst hn
  obtain ⟨v, fr, len, hr, hap⟩ := h.ring
  refine (KN.clear_any hr).mono ?_
  rintro e w' ⟨rfl, hP⟩
  exact ⟨rfl, RG.upd h.sr hr hap hP⟩
theorem KN.len_rg {n : Nat} (h : RG KN w0 L R gr room q w) (hn : q.length = n) : Calls Try.prog 22 #[.pointer (some ⟨gr, 0, none⟩)] w fun e w' => e = .returned (.int .i64 (n : Int)) ∧ w = w' := by
  subst hn
  obtain ⟨v, fr, len, hr, hap⟩ := h.ring
  exact KN.len_any hr
theorem KN.list_rg (h : RG KN w0 L R gr room q w) : Calls Try.prog 36 #[.pointer (some ⟨gr, 0, none⟩)] w fun e w' => ∃ v2, e = .returned v2 ∧ RG KN w0 L (⟨v2, 42, 12, q.length, KN.flat q⟩ :: R) gr room q w' := by
  obtain ⟨v, fr, len, hr, hap⟩ := h.ring
  refine (KN.list_any hr).mono ?_
  rintro e w' ⟨v2, rfl, hown, hB⟩
  exact ⟨v2, rfl, h.call_row hB ⟨v2, 42, 12, q.length, KN.flat q⟩ hown⟩
theorem KN.new_rg (hS : SR w0 L R w) (h1 : 1 ≤ room) (h2 : room ≤ 65536) : Calls Try.prog 19 #[.int .i64 (room : Int)] w fun e w' => ∃ gr, e = .returned (.pointer (some ⟨gr, 0, none⟩)) ∧ RG KN w0 L R gr room [] w' := by
  refine (KN.new_any room h1 h2 w).mono ?_
  rintro e w' ⟨rfl, hr, hB⟩
  exact ⟨_, rfl, RG.made hS hB hr (Nat.le_refl _) (fun k hk => by cases hk)⟩
end
end Go.Proofs.Ytjfpmolnipiphaa
