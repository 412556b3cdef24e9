/- Layer 5: the ring's Drop of those that odd.is names. No condition. -/
import Derived.Test.YtiiejlphomjehaaRingE
import Derived.Deep.LoopGhost
namespace Go.Proofs.Ytiiejlphomjehaa
open Go.RowKit

set_option maxRecDepth 100000 in
set_option maxHeartbeats 4000000 in
theorem drop_rg {w0 w : World} {gr room : Nat} {q : List Int} {L : List (Nat × TypeId × Array Value)} {R : List Ow} (b : Int) (h0 : 0 < b) (hb : b ≤ 4) (h : RG KI w0 L R gr room q w) :
    Calls Try.prog 20 #[.pointer (some ⟨gr, 0, none⟩), .func (.func 21) #[.agg #[.int .i64 b]] #[]] w fun e w' => e = .returned (.int .i64 ((q.length : Int) - ((stay b q).length : Int))) ∧ RG KI w0 L R gr room (stay b q) w' := by
  have hqr : q.length ≤ room := by
    obtain ⟨v, fr, len, hr, _⟩ := h.ring
    exact Nat.le_trans hr.nlen hr.lenroom
  have hrm : room ≤ 65536 := by
    obtain ⟨v, fr, len, hr, _⟩ := h.ring
    exact hr.room2
  have HQ := Lib.hid hqr
  have m1 : (q.length : Int) ≤ 65536 := by omega
  have HB0 := Lib.hid h0
  have HB4 := Lib.hid hb
  have hnf : ∀ W : World, (binOp BinOp.eql 29 (.func (.func 21) #[.agg #[.int .i64 b]] #[]) .nilFunc).run Try.prog W = .ok (.bool false) W := fun _ => by kernel_rfl
  clear hqr hrm h0 hb
  go_enter Try.func20, Try.ntmps20
  go_wp2_with (first
    | (go_at_call 16; refine (KI.list_rg h).mono ?_; rintro e w1 ⟨v2, rfl, hR1⟩; clear h; obtain ⟨p, cap, rfl, hpn, hpc⟩ := Rs.own (hR1.sr.own _ List.mem_cons_self); clear hpn hpc)
    | (go_at_call 15; refine (KI.clear_rg hR1 rfl).mono ?_; rintro e w2 ⟨rfl, hR2⟩; clear hR1))
  go_loopg [20] q.length (fun m i wr => ∃ k : Nat, m + k = q.length ∧ i = .int .i64 k ∧ RG KI w0 L (⟨.slice p q.length cap, 3, 1, q.length, KI.flat q⟩ :: R) gr room (stay b (q.take k)) wr)
  case atStart => exact ⟨0, by omega, rfl, hR2⟩
  case round =>
    clear hR2
    obtain ⟨k, hk, rfl, hR⟩ := hrel
    have k0 : (0 : Int) ≤ (k : Int) := by omega
    by_cases hlt : k < q.length
    · have hkz : (k : Int) < (q.length : Int) := by omega
      obtain ⟨y, hy⟩ : ∃ y, q[k]? = some y := ⟨_, List.getElem?_eq_getElem hlt⟩
      obtain ⟨p2, cap2, hv2, hc2⟩ := Rd.own (hR.sr.own _ List.mem_cons_self)
      injection hv2 with hp2 _ hcap2
      subst hp2
      obtain ⟨g, rfl, hc⟩ := hc2 k y hy
      have hn : (stay b (q.take k)).length < room := by have := stay_le b (q.take k); rw [List.length_take] at this; have := HQ.out; omega
      have HN := Lib.hid hn
      have HK := Lib.hid hk
      have HL := Lib.hid hlt
      have HY := Lib.hid hy
      clear hk hy hlt hc2 hn hcap2
      by_cases hz : y.tmod b = 0
      · have HZ := Lib.hid hz
        go_wp2_with (go_at_call 21; refine (odd_is y b HB0.out HB4.out _).mono ?_; rintro e w4 ⟨rfl, hB⟩; have hR4 := hR.step hB; clear hR hB hc)
        go_roundg (gk - 1)
        case measure => have := HK.out; have := HL.out; omega
        case rel => exact ⟨k + 1, by have := HK.out; have := HL.out; omega, by go_num, by rw [stay_snoc b HY.out, if_pos HZ.out]; exact hR4⟩
      · have HZ := Lib.hid hz
        have hzb : (y.tmod b == 0) = false := by simpa using hz
        go_wp2_with (first
          | (go_at_call 21; refine (odd_is y b HB0.out HB4.out _).mono ?_; rintro e w4 ⟨rfl, hB⟩; have hR4 := hR.step hB; clear hR hB hc)
          | (go_at_call 10; refine (KI.push_rg y hR4 HN.out).mono ?_; rintro e w5 ⟨rfl, hR5⟩; clear hR4))
        go_roundg (gk - 1)
        case measure => have := HK.out; have := HL.out; omega
        case rel => exact ⟨k + 1, by have := HK.out; have := HL.out; omega, by go_num, by rw [stay_snoc b HY.out, if_neg HZ.out]; exact hR5⟩
    · obtain rfl : k = q.length := by omega
      rw [List.take_length] at hR
      have hR9 := hR.subR (List.sublist_cons_self _ _)
      obtain ⟨v, fr, len, hr, _⟩ := hR.ring
      have q2 := KI.c2 hr
      have hle := stay_le b q
      have e1 : IntKind.i64.wrap ((q.length : Int) - ((stay b q).length : Int)) = (q.length : Int) - ((stay b q).length : Int) := IntWalk.i64_in _ (by omega)
      have HR9 := Lib.hid hR9
      clear hlt hk hr hle hR hR9
      go_wp2_with fail
      go_ret
      exact ⟨rfl, HR9.out⟩
end Go.Proofs.Ytiiejlphomjehaa
