/- Layer 5: who goes (odd.is); numbers pushed onto the reference's row. No condition. -/
import Derived.Test.YtiiejlphomjehaaRingC
import Derived.Deep.LoopGhost
namespace Go.Proofs.Ytiiejlphomjehaa
open Go.RowKit

theorem tmod_in (x : Int) {b : Int} (h0 : 0 < b) (hb : b ≤ 4) : IntKind.i64.wrap (x.tmod b) = x.tmod b := by
  have h1 := Int.tmod_lt_of_pos x h0
  have h2 : -b < x.tmod b := by
    have h3 := Int.tmod_lt_of_pos (-x) h0
    rw [Int.neg_tmod] at h3
    omega
  exact IntWalk.i64_in _ (by omega)
theorem odd_is (n b : Int) (h0 : 0 < b) (hb : b ≤ 4) (w : World) : Calls Try.prog 21 #[.agg #[.int .i64 b], .int .i64 n] w fun e w' => e = .returned (.bool (n.tmod b == 0)) ∧ Below w.heap.size w w' := by
  have e1 := tmod_in n h0 hb
  have e2 : (b == 0) = false := by simp; omega
  have e3 : ¬ b = 0 := by omega
  clear h0 hb
  go_enter Try.func21, Try.ntmps21
  go_wp2
  go_ret
  exact ⟨rfl, (Below.refl _ _).alloc (Nat.le_refl _) _⟩
/-- Those that stay. -/
def stay (b : Int) (l : List Int) : List Int := l.filter fun x => !(x.tmod b == 0)
theorem stay_snoc (b : Int) {l : List Int} {k : Nat} {y : Int} (h : l[k]? = some y) : stay b (l.take (k + 1)) = if y.tmod b = 0 then stay b (l.take k) else stay b (l.take k) ++ [y] := by
  have hk := lt_of_get h
  have hy : l[k] = y := by rw [List.getElem?_eq_getElem hk] at h; injection h
  unfold stay
  rw [List.take_succ_eq_append_getElem hk, List.filter_append, hy]
  by_cases e : y.tmod b = 0
  · simp [e]
  · simp [e]
theorem stay_le (b : Int) (l : List Int) : (stay b l).length ≤ l.length := List.length_filter_le _ _
theorem Rd.lt {w : World} {v : Value} {l : List Int} (h : Rd w v l) {i : Nat} {x : Int} (hx : l[i]? = some x) : ∃ g cap, v = .slice (some ⟨g, 0, none⟩) l.length cap ∧ g < w.heap.size ∧ w.cell? ⟨g, i, none⟩ = some (.int .i64 x) := by
  obtain ⟨p, cap, rfl, hc⟩ := h
  obtain ⟨g, rfl, hg⟩ := hc i x hx
  exact ⟨g, cap, rfl, World.block_lt_of_cell? w _ hg, hg⟩

set_option maxRecDepth 100000 in
set_option maxHeartbeats 4000000 in
theorem rdrop {w : World} {v : Value} {l : List Int} (b : Int) (h : Rd w v l) (hm : l.length ≤ 200) (h0 : 0 < b) (hb : b ≤ 4) : Calls Try.prog 19 #[v, .int .i64 b] w fun e w' => ∃ v2, e = .returned v2 ∧ SR w [] [⟨v2, 3, 1, (stay b l).length, KI.flat (stay b l)⟩] w' := by
  have hS := SR.ofSt (St.nil w)
  obtain ⟨p, cap, rfl, H1⟩ := h
  have H := Lib.hid H1
  have e2 : (b == 0) = false := by simp; omega
  have e3 : ¬ b = 0 := by omega
  have m1 : (l.length : Int) ≤ 200 := by omega
  have HB0 := Lib.hid h0
  have HB4 := Lib.hid hb
  clear H1 h0 hb hm
  go_enter Try.func19, Try.ntmps19
  go_wp2_with fail
  have hR0 := hS.newRow KI.T 1 0 #[] (by decide) rfl
  clear hS
  go_loopg [5, 6] l.length (fun m o i wr => ∃ k : Nat, m + k = l.length ∧ i = .int .i64 k ∧ SR w [] [⟨o, 3, 1, (stay b (l.take k)).length, KI.flat (stay b (l.take k))⟩] wr)
  case atStart => exact ⟨0, by omega, rfl, hR0⟩
  case round =>
    clear hR0
    obtain ⟨k, hk, rfl, hR⟩ := hrel
    have k0 : (0 : Int) ≤ (k : Int) := by omega
    by_cases hlt : k < l.length
    · have hkz : (k : Int) < (l.length : Int) := by omega
      obtain ⟨y, hy⟩ : ∃ y, l[k]? = some y := ⟨_, List.getElem?_eq_getElem hlt⟩
      obtain ⟨g, rfl, hc0⟩ := H.out k y hy
      have hc := (hR.st.oldCell (World.block_lt_of_cell? w _ hc0)).trans hc0
      have e1 := tmod_in y HB0.out HB4.out
      have hn : (stay b (l.take k)).length ≤ 200 := by have := stay_le b (l.take k); rw [List.length_take] at this; omega
      have HK := Lib.hid hk
      have HL := Lib.hid hlt
      have HY := Lib.hid hy
      clear hk hy hlt hc0
      by_cases hz : y.tmod b = 0
      · have HZ := Lib.hid hz
        go_wp2_with fail
        go_roundg (gk - 1)
        case measure => have := HK.out; have := HL.out; omega
        case rel => exact ⟨k + 1, by have := HK.out; have := HL.out; omega, by go_num, by rw [stay_snoc b HY.out, if_pos HZ.out]; exact hR⟩
      · have HZ := Lib.hid hz
        go_wp2_with (at_builtin; refine app_row (SR.old hR _) rfl _ _ 22 rfl (.int .i64 0) 8 Try.underlying22 KI.info rfl (by show 0 < 1; omega) rfl _ #[.int .i64 y] 3 rfl (Blk.new _ _ _) rfl (by simp [Value.oneCell']) (by (try simp only); omega) (by omega) ?_; intro v9 w9 hR9; clear hR)
        go_roundg (gk - 1)
        case measure => have := HK.out; have := HL.out; omega
        case rel =>
          refine ⟨k + 1, by have := HK.out; have := HL.out; omega, by go_num, ?_⟩
          rw [stay_snoc b HY.out, if_neg HZ.out, ← flat_snoc, List.length_append, List.length_singleton]
          exact hR9
    · obtain rfl : k = l.length := by omega
      rw [List.take_length] at hR
      clear hlt hk
      go_wp2_with fail
      go_ret
      exact ⟨_, rfl, hR⟩
end Go.Proofs.Ytiiejlphomjehaa
