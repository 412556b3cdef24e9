/- Layer 5: awake answers true, and changes nothing that was in memory. No condition. -/
import Derived.Test.YtiiejlphomjehaaRingI6
import Derived.Test.YtiiejlphomjehaaRingS6
namespace Go.Proofs.Ytiiejlphomjehaa
open Go.RowKit

theorem own_cells {w : World} {base : Nat} {e : TypeId} {v : Value} {n : Nat} {xs : List Value} (h : w.ownsRow base e 1 v n xs) (hn : 0 < n) : ∃ g cap, v = .slice (some ⟨g, 0, none⟩) n cap ∧ ∀ i c, xs[i]? = some c → w.cell? ⟨g, i, none⟩ = some c := by
  obtain ⟨hlen, ⟨_, h0⟩ | ⟨g, cap, cur, rfl, _, hk, _, _, _, htk⟩⟩ := h
  · omega
  · refine ⟨g, cap, rfl, fun i c hi => ?_⟩
    have hb : Blk w g e cur := hk
    rw [hb.cell]
    have hil := lt_of_get hi
    rw [← htk, List.getElem?_take, if_pos (by omega)] at hi
    simpa using hi

set_option maxRecDepth 100000 in
set_option maxHeartbeats 4000000 in
theorem awake05 (w : World) : Calls Try.prog 7 #[] w fun e w' => e = .returned (.bool true) ∧ Below w.heap.size w w' := by
  have hS := SR.ofSt (St.nil w)
  go_enter Try.func7, Try.ntmps7
  go_wp2_with (go_at_call 30; refine (KS.new_rg (room := 2) hS (by decide) (by decide)).mono ?_; rintro e w1 ⟨gr, rfl, hR1⟩)
  go_wp2_with (go_at_call 31; refine (KS.push_rg _ hR1 (by decide)).mono ?_; rintro e w2 ⟨rfl, hR2⟩; clear hR1)
  go_wp2_with (go_at_call 31; refine (KS.push_rg _ hR2 (by decide)).mono ?_; rintro e w3 ⟨rfl, hR3⟩; clear hR2)
  go_wp2_with (go_at_call 31; refine (KS.push_no _ hR3 (by decide)).mono ?_; rintro e w4 ⟨rfl, hR4⟩; clear hR3)
  go_wp2_with (go_at_call 32; refine (KS.pop_rg (y := ⟨#[97]⟩) (q := [⟨#[98]⟩]) hR4).mono ?_; rintro e w5 ⟨rfl, hR5⟩; clear hR4)
  go_wp2_with (go_at_call 31; refine (KS.push_rg _ hR5 (by decide)).mono ?_; rintro e w6 ⟨rfl, hR6⟩; clear hR5)
  go_wp2_with (go_at_call 33; refine (KS.list_rg hR6).mono ?_; rintro e w7 ⟨v2, rfl, hR7⟩; clear hR6)
  have ho := hR7.sr.own _ List.mem_cons_self
  obtain ⟨g, cap, hv, hc⟩ := own_cells ho (by show 0 < 2; omega)
  have hv2 : v2 = .slice (some ⟨g, 0, none⟩) 2 cap := hv
  subst hv2
  have c0 : w7.cell? ⟨g, 0, none⟩ = some (.string ⟨#[98]⟩) := hc 0 _ rfl
  have c1 : w7.cell? ⟨g, 1, none⟩ = some (.string ⟨#[100]⟩) := hc 1 _ rfl
  have HC := Lib.hid hc
  have HO := Lib.hid ho
  clear hc ho hv
  go_wp2_with (first
    | (go_at_call 34; refine (KS.len_rg (n := 2) hR7 (by rfl)).mono ?_; rintro e w8 ⟨rfl, rfl⟩)
    | (go_at_call 35; refine (KS.room_rg hR7).mono ?_; rintro e w8 ⟨rfl, rfl⟩)
    | (go_at_call 8; refine (KI.new_no 0 (.inl (by decide)) _).mono ?_; rintro e w8 ⟨rfl, rfl⟩)
    | (go_at_call 36; refine (KS.clear_rg (n := 2) hR7 (by rfl)).mono ?_; rintro e w8 ⟨rfl, hR8⟩))
  go_ret
  exact ⟨rfl, hR8.sr.below⟩
end Go.Proofs.Ytiiejlphomjehaa
