/- Layer 5, rings of string: the methods, the ring carried beside other memory. No condition. -/
import Derived.Test.YtiiejlphomjehaaRingS3
import Derived.Test.YtiiejlphomjehaaRingS5
namespace Go.Proofs.Ytiiejlphomjehaa
open Go.RowKit

section
variable {w0 w : World} {gr room : Nat} {q : List ByteArray} {L : List (Nat × TypeId × Array Value)} {R : List Ow}
theorem KS.push_rg (x : ByteArray) (h : RG KS w0 L R gr room q w) (hn : q.length < room) : Calls Try.prog 31 #[.pointer (some ⟨gr, 0, none⟩), .string x] w fun e w' => e = .returned (.bool true) ∧ RG KS w0 L R gr room (q ++ [x]) w' := by
  obtain ⟨v, fr, len, hr, hap⟩ := h.ring
  refine (KS.push_any x hr hn).mono ?_
  rintro e w' ⟨rfl, hP⟩
  exact ⟨rfl, RG.upd h.sr hr hap hP⟩
theorem KS.push_no (x : ByteArray) (h : RG KS w0 L R gr room q w) (hn : q.length = room) : Calls Try.prog 31 #[.pointer (some ⟨gr, 0, none⟩), .string x] w fun e w' => e = .returned (.bool false) ∧ RG KS w0 L R gr room q w' := by
  obtain ⟨v, fr, len, hr, hap⟩ := h.ring
  refine (KS.push_full x hr hn).mono ?_
  rintro e w' ⟨rfl, n, rfl⟩
  exact ⟨rfl, h.drewN n⟩
theorem KS.pop_rg {y : ByteArray} (h : RG KS w0 L R gr room (y :: q) w) : Calls Try.prog 32 #[.pointer (some ⟨gr, 0, none⟩)] w fun e w' => e = .returned (.tuple #[.string y, .bool true]) ∧ RG KS w0 L R gr room q w' := by
  obtain ⟨v, fr, len, hr, hap⟩ := h.ring
  refine (KS.pop_cons hr).mono ?_
  rintro e w' ⟨rfl, hP⟩
  exact ⟨rfl, RG.upd h.sr hr hap hP⟩
theorem KS.pop_no (h : RG KS w0 L R gr room [] w) : Calls Try.prog 32 #[.pointer (some ⟨gr, 0, none⟩)] w fun e w' => e = .returned (.tuple #[.string ⟨#[]⟩, .bool false]) ∧ w = w' := by
  obtain ⟨v, fr, len, hr, hap⟩ := h.ring
  exact KS.pop_nil hr
theorem KS.peek_rg {y : ByteArray} (h : RG KS w0 L R gr room (y :: q) w) : Calls Try.prog 45 #[.pointer (some ⟨gr, 0, none⟩)] w fun e w' => e = .returned (.tuple #[.string y, .bool true]) ∧ RG KS w0 L R gr room (y :: q) w' := by
  obtain ⟨v, fr, len, hr, hap⟩ := h.ring
  refine (KS.peek_cons hr).mono ?_
  rintro e w' ⟨rfl, n, rfl⟩
  exact ⟨rfl, h.drewN n⟩
theorem KS.peek_no (h : RG KS w0 L R gr room [] w) : Calls Try.prog 45 #[.pointer (some ⟨gr, 0, none⟩)] w fun e w' => e = .returned (.tuple #[.string ⟨#[]⟩, .bool false]) ∧ w = w' := by
  obtain ⟨v, fr, len, hr, hap⟩ := h.ring
  exact KS.peek_nil hr
theorem KS.clear_rg {n : Nat} (h : RG KS w0 L R gr room q w) (hn : q.length = n) : Calls Try.prog 36 #[.pointer (some ⟨gr, 0, none⟩)] w fun e w' => e = .returned (.int .i64 (n : Int)) ∧ RG KS w0 L R gr room [] w' := by
  subst hn
  obtain ⟨v, fr, len, hr, hap⟩ := h.ring
  refine (KS.clear_any hr).mono ?_
  rintro e w' ⟨rfl, hP⟩
  exact ⟨rfl, RG.upd h.sr hr hap hP⟩
theorem KS.len_rg {n : Nat} (h : RG KS w0 L R gr room q w) (hn : q.length = n) : Calls Try.prog 34 #[.pointer (some ⟨gr, 0, none⟩)] w fun e w' => e = .returned (.int .i64 (n : Int)) ∧ w = w' := by
  subst hn
  obtain ⟨v, fr, len, hr, hap⟩ := h.ring
  exact KS.len_any hr
theorem KS.room_rg (h : RG KS w0 L R gr room q w) : Calls Try.prog 35 #[.pointer (some ⟨gr, 0, none⟩)] w fun e w' => e = .returned (.int .i64 (room : Int)) ∧ w = w' := by
  obtain ⟨v, fr, len, hr, hap⟩ := h.ring
  exact KS.room_any hr
theorem KS.list_rg (h : RG KS w0 L R gr room q w) : Calls Try.prog 33 #[.pointer (some ⟨gr, 0, none⟩)] w fun e w' => ∃ v2, e = .returned v2 ∧ RG KS w0 L (⟨v2, 9, 1, q.length, KS.flat q⟩ :: R) gr room q w' := by
  obtain ⟨v, fr, len, hr, hap⟩ := h.ring
  refine (KS.list_any hr).mono ?_
  rintro e w' ⟨v2, rfl, hown, hB⟩
  exact ⟨v2, rfl, h.call_row hB ⟨v2, 9, 1, q.length, KS.flat q⟩ hown⟩
theorem KS.new_rg (hS : SR w0 L R w) (h1 : 1 ≤ room) (h2 : room ≤ 65536) : Calls Try.prog 30 #[.int .i64 (room : Int)] w fun e w' => ∃ gr, e = .returned (.pointer (some ⟨gr, 0, none⟩)) ∧ RG KS w0 L R gr room [] w' := by
  refine (KS.new_any room h1 h2 w).mono ?_
  rintro e w' ⟨rfl, hr, hB⟩
  exact ⟨_, rfl, RG.made hS hB hr (Nat.le_refl _) (fun k hk => by cases hk)⟩
end
end Go.Proofs.Ytiiejlphomjehaa
