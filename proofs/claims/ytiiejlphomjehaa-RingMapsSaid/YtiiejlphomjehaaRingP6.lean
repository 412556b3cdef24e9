/- Layer 5, rings of hoistway/hoistwaylaw05.pair: the methods, the ring carried beside other memory. No condition. -/
import Derived.Test.YtiiejlphomjehaaRingP5
namespace Go.Proofs.Ytiiejlphomjehaa
open Go.RowKit

section
variable {w0 w : World} {gr room : Nat} {q : List (Int × Bool)} {L : List (Nat × TypeId × Array Value)} {R : List Ow}
theorem KP.push_rg (x : (Int × Bool)) (h : RG KP w0 L R gr room q w) (hn : q.length < room) : Calls Try.prog 40 #[.pointer (some ⟨gr, 0, none⟩), .agg #[.int .i64 x.1, .bool x.2]] w fun e w' => e = .returned (.bool true) ∧ RG KP w0 L R gr room (q ++ [x]) w' := by
  obtain ⟨v, fr, len, hr, hap⟩ := h.ring
  refine (KP.push_any x hr hn).mono ?_
  rintro e w' ⟨rfl, hP⟩
  exact ⟨rfl, RG.upd h.sr hr hap hP⟩
theorem KP.push_no (x : (Int × Bool)) (h : RG KP w0 L R gr room q w) (hn : q.length = room) : Calls Try.prog 40 #[.pointer (some ⟨gr, 0, none⟩), .agg #[.int .i64 x.1, .bool x.2]] w fun e w' => e = .returned (.bool false) ∧ RG KP w0 L R gr room q w' := by
  obtain ⟨v, fr, len, hr, hap⟩ := h.ring
  refine (KP.push_full x hr hn).mono ?_
  rintro e w' ⟨rfl, hB⟩
  exact ⟨rfl, h.step hB⟩
theorem KP.len_rg {n : Nat} (h : RG KP w0 L R gr room q w) (hn : q.length = n) : Calls Try.prog 41 #[.pointer (some ⟨gr, 0, none⟩)] w fun e w' => e = .returned (.int .i64 (n : Int)) ∧ w = w' := by
  subst hn
  obtain ⟨v, fr, len, hr, hap⟩ := h.ring
  exact KP.len_any hr
theorem KP.room_rg (h : RG KP w0 L R gr room q w) : Calls Try.prog 27 #[.pointer (some ⟨gr, 0, none⟩)] w fun e w' => e = .returned (.int .i64 (room : Int)) ∧ w = w' := by
  obtain ⟨v, fr, len, hr, hap⟩ := h.ring
  exact KP.room_any hr
theorem KP.list_rg (h : RG KP w0 L R gr room q w) : Calls Try.prog 26 #[.pointer (some ⟨gr, 0, none⟩)] w fun e w' => ∃ v2, e = .returned v2 ∧ RG KP w0 L (⟨v2, 49, 2, q.length, KP.flat q⟩ :: R) gr room q w' := by
  obtain ⟨v, fr, len, hr, hap⟩ := h.ring
  refine (KP.list_any hr).mono ?_
  rintro e w' ⟨v2, rfl, hown, hB⟩
  exact ⟨v2, rfl, h.call_row hB ⟨v2, 49, 2, q.length, KP.flat q⟩ hown⟩
theorem KP.new_rg (hS : SR w0 L R w) (h1 : 1 ≤ room) (h2 : room ≤ 65536) : Calls Try.prog 39 #[.int .i64 (room : Int)] w fun e w' => ∃ gr, e = .returned (.pointer (some ⟨gr, 0, none⟩)) ∧ RG KP w0 L R gr room [] w' := by
  refine (KP.new_any room h1 h2 w).mono ?_
  rintro e w' ⟨rfl, hr, hB⟩
  exact ⟨_, rfl, RG.made hS hB hr (Nat.le_refl _) (fun k hk => by cases hk)⟩
end
end Go.Proofs.Ytiiejlphomjehaa
