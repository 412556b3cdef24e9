/- Layer 5: ints answers true of two rows of the same numbers. No condition. -/
import Derived.Test.YtiiejlphomjehaaRingA
namespace Go.Proofs.Ytiiejlphomjehaa
open Go.RowKit

/-- A slice whose cells are these numbers. -/
def Rd (w : World) (v : Value) (l : List Int) : Prop := ∃ p cap, v = .slice p l.length cap ∧ ∀ i x, l[i]? = some x → ∃ g, p = some ⟨g, 0, none⟩ ∧ w.cell? ⟨g, i, none⟩ = some (.int .i64 x)
theorem flat_int (l : List Int) : KI.flat l = l.map (Value.int .i64 ·) := by
  unfold KI.flat
  induction l with
  | nil => rfl
  | cons x l ih => rw [List.flatMap_cons, ih]; rfl
theorem Rd.own {w : World} {base : Nat} {v : Value} {l : List Int} (h : w.ownsRow base KI.T 1 v l.length (KI.flat l)) : Rd w v l := by
  by_cases h0 : 0 < l.length
  · obtain ⟨g, cap, rfl, hc⟩ := own_cells h h0
    refine ⟨_, _, rfl, fun i x hx => ⟨g, rfl, hc i _ ?_⟩⟩
    rw [flat_int, List.getElem?_map, hx]
    rfl
  · obtain ⟨_, ⟨rfl, hn⟩ | ⟨g, cap, cur, rfl, _⟩⟩ := h
    · exact ⟨none, 0, by rw [hn], fun i x hx => absurd (lt_of_get hx) (by omega)⟩
    · exact ⟨_, _, rfl, fun i x hx => absurd (lt_of_get hx) (by omega)⟩

set_option maxRecDepth 100000 in
theorem ints_true {w : World} {v1 v2 : Value} {l : List Int} (h1 : Rd w v1 l) (h2 : Rd w v2 l) (hm : l.length ≤ 65536) : Calls Try.prog 12 #[v1, v2] w fun e w' => e = .returned (.bool true) ∧ ∃ n, w' = w.drewN n := by
  obtain ⟨p1, c1, rfl, H1⟩ := h1
  obtain ⟨p2, c2, rfl, H2⟩ := h2
  have G1 := Lib.hid H1
  have G2 := Lib.hid H2
  have m1 : (l.length : Int) ≤ 65536 := by omega
  have m0 : (0 : Int) ≤ (l.length : Int) := by omega
  clear H1 H2 hm
  go_enter Try.func12, Try.ntmps12
  go_wp2_with fail
  go_loopg [5] l.length (fun m i wr => ∃ k : Nat, m + k = l.length ∧ i = .int .i64 k ∧ ∃ n, wr = w.drewN n)
  case atStart => exact ⟨0, by omega, rfl, 0, rfl⟩
  case round =>
    obtain ⟨k, hk, rfl, n, rfl⟩ := hrel
    have k0 : (0 : Int) ≤ (k : Int) := by omega
    by_cases hlt : k < l.length
    · have hkz : (k : Int) < (l.length : Int) := by omega
      obtain ⟨y, hy⟩ : ∃ y, l[k]? = some y := ⟨_, List.getElem?_eq_getElem hlt⟩
      obtain ⟨g1, rfl, q1⟩ := G1.out k y hy
      obtain ⟨g2, rfl, q2⟩ := G2.out k y hy
      have HK := Lib.hid hk
      have HL := Lib.hid hlt
      clear hk hy hlt
      go_wp2_with fail
      go_quiet (fail)
      go_wp2_with fail
      go_roundg (gk - 1)
      case measure => have := HK.out; have := HL.out; omega
      case rel => exact ⟨k + 1, by have := HK.out; have := HL.out; omega, by go_num, _, rfl⟩
    · obtain rfl : k = l.length := by omega
      clear hlt hk
      go_wp2_with fail
      go_ret
      exact ⟨rfl, _, rfl⟩
end Go.Proofs.Ytiiejlphomjehaa
