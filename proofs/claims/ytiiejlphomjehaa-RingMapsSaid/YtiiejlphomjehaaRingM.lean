/- Layer 5: what a Map makes, and a number of it; Map of a ring of numbers into pairs, and back. No condition. -/
import Derived.Test.YtiiejlphomjehaaRingP6
import Derived.Test.YtiiejlphomjehaaRingI6
import Derived.Test.YtiiejlphomjehaaRingH
import Derived.Deep.LoopGhost
namespace Go.Proofs.Ytiiejlphomjehaa
open Go.RowKit
set_option linter.unusedVariables false

/-- A thing of an owned slice of things. -/
theorem row_at {α : Type} (K : RK α) {w0 a : World} {L : List (Nat × TypeId × Array Value)} {R : List Ow} {v : Value} {q : List α} (h : SR w0 L R a) (i : Nat) (hi : R[i]? = some ⟨v, K.T, K.S, q.length, q.flatMap K.ec⟩) {k : Nat} {y : α} (hk : q[k]? = some y) :
    ∃ g cap, v = .slice (some ⟨g, 0, none⟩) q.length cap ∧ ∀ j u, (K.ec y)[j]? = some u → a.cell? ⟨g, k * K.S + j, none⟩ = some u := by
  have hlt := lt_of_get hk
  rcases h.form i hi with ⟨_, h0⟩ | ⟨g, cap, hv, _⟩
  · have : q.length = 0 := h0
    omega
  · refine ⟨g, cap, hv, fun j u hj => h.item i hi hv (k * K.S + j) ?_⟩
    have hjl := lt_of_get hj
    rw [K.hec] at hjl
    exact (flat_at K.ec K.hec q k y hk j hjl).trans hj
/-- The form of an owned slice of things. -/
theorem row_form {α : Type} (K : RK α) {w0 a : World} {L : List (Nat × TypeId × Array Value)} {R : List Ow} {v : Value} {q : List α} (h : SR w0 L R a) (i : Nat) (hi : R[i]? = some ⟨v, K.T, K.S, q.length, q.flatMap K.ec⟩) : ∃ p cap, v = .slice p q.length cap := by
  rcases h.form i hi with ⟨hv, h0⟩ | ⟨g, cap, hv, _⟩
  · have h1 : q.length = 0 := h0
    exact ⟨none, 0, by rw [h1]; exact hv⟩
  · exact ⟨_, _, hv⟩

def made5 (n : Int) : Int × Bool := (IntKind.i64.wrap (n.tdiv 2), n.tmod 2 == 0)
def back5 (p : Int × Bool) : Int := if p.2 then p.1 else wrap64 (-p.1)
theorem made_is (n : Int) (w : World) : Calls Try.prog 24 #[.int .i64 n] w fun e w' => e = .returned (.agg #[.int .i64 (made5 n).1, .bool (made5 n).2]) ∧ Below w.heap.size w w' := by
  obtain ⟨m, hm⟩ : ∃ m, made5 n = m := ⟨_, rfl⟩
  have h1 : IntKind.i64.wrap (n.tdiv 2) = m.1 := by rw [← hm]; rfl
  have e1 := tmod_in n (b := 2) (by decide) (by decide)
  have h2 : (n.tmod 2 == 0) = m.2 := by rw [← hm]; rfl
  rw [hm]
  clear hm
  go_enter Try.func24, Try.ntmps24
  go_wp2_with fail
  have hB : Below w.heap.size w (w.alloc (Obj.cells #[.int .i64 m.1, .bool m.2] 49)) := (Below.refl _ _).alloc (Nat.le_refl _) _
  refine bodyPost_ret (results_cell_row rfl _ _ w.heap.size 49 #[.int .i64 m.1, .bool m.2] (0, 0) _ rfl (Blk.new _ _ _) Try.underlying49 rfl (by kernel_rfl)) rfl ?_
  exact ⟨rfl, hB⟩
theorem back_is (p : Int × Bool) (w : World) : Calls Try.prog 25 #[.agg #[.int .i64 p.1, .bool p.2]] w fun e w' => e = .returned (.int .i64 (back5 p)) ∧ Below w.heap.size w w' := by
  have hB : Below w.heap.size w (w.alloc (.cells #[.int .i64 p.1, .bool p.2] 49)) := (Below.refl _ _).alloc (Nat.le_refl _) _
  obtain ⟨x, b⟩ := p
  cases b
  · go_enter Try.func25, Try.ntmps25
    go_wp2_with fail
    go_ret
    exact ⟨rfl, hB⟩
  · go_enter Try.func25, Try.ntmps25
    go_wp2_with fail
    go_ret
    exact ⟨rfl, hB⟩

set_option maxRecDepth 100000 in
set_option maxHeartbeats 4000000 in
theorem map_made {w : World} {gr fr len room : Nat} {v : Value} {q : List Int} (h : RingAt KI w gr v fr len room q) :
    Calls Try.prog 23 #[.pointer (some ⟨gr, 0, none⟩), .func (.func 24) #[] #[]] w fun e w' => ∃ gp, e = .returned (.pointer (some ⟨gp, 0, none⟩)) ∧ RG KP w [] [] gp room (q.map made5) w' := by
  have H := Lib.hid h
  have hqr : q.length ≤ room := Nat.le_trans h.nlen h.lenroom
  have hr1 := h.room1
  have hr2 := h.room2
  have HR1 := Lib.hid hr1
  have HR2 := Lib.hid hr2
  have HQR := Lib.hid hqr
  have hS := SR.ofSt (St.nil w)
  have q3 := KI.c3 h
  have hnf : ∀ W : World, (binOp BinOp.eql 52 (.func (.func 24) #[] #[]) .nilFunc).run Try.prog W = .ok (.bool false) W := fun _ => by kernel_rfl
  clear h hqr hr1 hr2
  go_enter Try.func23, Try.ntmps23
  go_wp2_with (first
    | (go_at_call 39; refine (KP.new_rg (room := room) hS HR1.out HR2.out).mono ?_; rintro e w1 ⟨gp, rfl, hR1⟩)
    | (go_at_call 16; refine (KI.list_any (H.out.frame (Frame.ofBelow hR1.sr.below []) (by simp) (by simp))).mono ?_; rintro e w2 ⟨v2, rfl, hown, hB⟩; have hR2 := hR1.call_row hB ⟨v2, 3, 1, q.length, KI.flat q⟩ hown; clear hR1 hown hB; obtain ⟨p, cap, rfl⟩ := row_form KI hR2.sr 0 rfl))
  go_loopg [22] q.length (fun m i wr => ∃ k : Nat, m + k = q.length ∧ i = .int .i64 k ∧ RG KP w [] [⟨.slice p q.length cap, 3, 1, q.length, KI.flat q⟩] gp room ((q.take k).map made5) wr)
  case atStart => exact ⟨0, by omega, rfl, hR2⟩
  case round =>
    clear hR2 q3
    obtain ⟨k, hk, rfl, hR⟩ := hrel
    have k0 : (0 : Int) ≤ (k : Int) := by omega
    by_cases hlt : k < q.length
    · have hkz : (k : Int) < (q.length : Int) := by omega
      have hk6 : (q.length : Int) ≤ 65536 := by have := HQR.out; have := HR2.out; omega
      obtain ⟨y, hy⟩ : ∃ y, q[k]? = some y := ⟨_, List.getElem?_eq_getElem hlt⟩
      obtain ⟨g, cap2, hv2, hc2⟩ := row_at KI hR.sr 0 rfl hy
      injection hv2 with hp2 _ hcap2
      subst hp2
      have hc := hc2 0 _ rfl
      simp only [show KI.S = 1 from rfl, Nat.mul_one, Nat.add_zero] at hc
      have hlen : ((q.take k).map made5).length < room := by rw [List.length_map, List.length_take]; have := HQR.out; omega
      have HLEN := Lib.hid hlen
      have htk : (q.take (k + 1)).map made5 = (q.take k).map made5 ++ [made5 y] := by
        have hy' : q[k] = y := by rw [List.getElem?_eq_getElem hlt] at hy; injection hy
        rw [List.take_succ_eq_append_getElem hlt, List.map_append, hy']
        rfl
      have HTK := Lib.hid htk
      have HK := Lib.hid hk
      have HL := Lib.hid hlt
      clear hk hy hlt hc2 hlen htk hcap2
      go_wp2_with (first
        | (go_at_call 24; refine (made_is y _).mono ?_; rintro e w4 ⟨rfl, hB⟩; have hR4 := hR.step hB; clear hR hB hc)
        | (go_at_call 40; refine (KP.push_rg (made5 y) hR4 HLEN.out).mono ?_; rintro e w5 ⟨rfl, hR5⟩; clear hR4))
      go_roundg (gk - 1)
      case measure => have := HK.out; have := HL.out; omega
      case rel => exact ⟨k + 1, by have := HK.out; have := HL.out; omega, by go_num, by rw [HTK.out]; exact hR5⟩
    · obtain rfl : k = q.length := by omega
      rw [List.take_length] at hR
      clear hlt hk
      go_wp2_with fail
      go_ret
      exact ⟨_, rfl, hR.subR (List.nil_sublist _)⟩

set_option maxRecDepth 100000 in
set_option maxHeartbeats 4000000 in
theorem map_back {w : World} {gr fr len room : Nat} {v : Value} {q : List (Int × Bool)} (h : RingAt KP w gr v fr len room q) :
    Calls Try.prog 22 #[.pointer (some ⟨gr, 0, none⟩), .func (.func 25) #[] #[]] w fun e w' => ∃ gp, e = .returned (.pointer (some ⟨gp, 0, none⟩)) ∧ RG KI w [] [] gp room (q.map back5) w' := by
  have H := Lib.hid h
  have hqr : q.length ≤ room := Nat.le_trans h.nlen h.lenroom
  have hr1 := h.room1
  have hr2 := h.room2
  have HR1 := Lib.hid hr1
  have HR2 := Lib.hid hr2
  have HQR := Lib.hid hqr
  have hS := SR.ofSt (St.nil w)
  have q3 := KP.c3 h
  have hnf : ∀ W : World, (binOp BinOp.eql 53 (.func (.func 25) #[] #[]) .nilFunc).run Try.prog W = .ok (.bool false) W := fun _ => by kernel_rfl
  clear h hqr hr1 hr2
  go_enter Try.func22, Try.ntmps22
  go_wp2_with (first
    | (go_at_call 8; refine (KI.new_rg (room := room) hS HR1.out HR2.out).mono ?_; rintro e w1 ⟨gp, rfl, hR1⟩)
    | (go_at_call 26; refine (KP.list_any (H.out.frame (Frame.ofBelow hR1.sr.below []) (by simp) (by simp))).mono ?_; rintro e w2 ⟨v2, rfl, hown, hB⟩; have hR2 := hR1.call_row hB ⟨v2, 49, 2, q.length, KP.flat q⟩ hown; clear hR1 hown hB; obtain ⟨p, cap, rfl⟩ := row_form KP hR2.sr 0 rfl))
  go_loopg [22] q.length (fun m i wr => ∃ k : Nat, m + k = q.length ∧ i = .int .i64 k ∧ RG KI w [] [⟨.slice p q.length cap, 49, 2, q.length, KP.flat q⟩] gp room ((q.take k).map back5) wr)
  case atStart => exact ⟨0, by omega, rfl, hR2⟩
  case round =>
    clear hR2 q3
    obtain ⟨k, hk, rfl, hR⟩ := hrel
    have k0 : (0 : Int) ≤ (k : Int) := by omega
    by_cases hlt : k < q.length
    · have hkz : (k : Int) < (q.length : Int) := by omega
      have hk6 : (q.length : Int) ≤ 65536 := by have := HQR.out; have := HR2.out; omega
      obtain ⟨y, hy⟩ : ∃ y, q[k]? = some y := ⟨_, List.getElem?_eq_getElem hlt⟩
      obtain ⟨g, cap2, hv2, hc2⟩ := row_at KP hR.sr 0 rfl hy
      injection hv2 with hp2 _ hcap2
      subst hp2
      have hc := hc2 0 _ rfl
      have hd := hc2 1 _ rfl
      simp only [show KP.S = 2 from rfl, Nat.add_zero] at hc hd
      have hlen : ((q.take k).map back5).length < room := by rw [List.length_map, List.length_take]; have := HQR.out; omega
      have HLEN := Lib.hid hlen
      have htk : (q.take (k + 1)).map back5 = (q.take k).map back5 ++ [back5 y] := by
        have hy' : q[k] = y := by rw [List.getElem?_eq_getElem hlt] at hy; injection hy
        rw [List.take_succ_eq_append_getElem hlt, List.map_append, hy']
        rfl
      have HTK := Lib.hid htk
      have HK := Lib.hid hk
      have HL := Lib.hid hlt
      clear hk hy hlt hc2 hlen htk hcap2
      have hRA := RG.old hR (.cells #[.int .i64 y.1, .bool y.2] 49)
      have HRA := Lib.hid hRA
      clear hRA
      go_wp2_with (first
        | (go_at_call 25; refine (back_is y _).mono ?_; rintro e w4 ⟨rfl, hB⟩; have hR4 := HRA.out.step hB; clear hR hB hc hd)
        | (go_at_call 10; refine (KI.push_rg (back5 y) hR4 HLEN.out).mono ?_; rintro e w5 ⟨rfl, hR5⟩; clear hR4))
      go_roundg (gk - 1)
      case measure => have := HK.out; have := HL.out; omega
      case rel => exact ⟨k + 1, by have := HK.out; have := HL.out; omega, by go_num, by rw [HTK.out]; exact hR5⟩
    · obtain rfl : k = q.length := by omega
      rw [List.take_length] at hR
      clear hlt hk
      go_wp2_with fail
      go_ret
      exact ⟨_, rfl, hR.subR (List.nil_sublist _)⟩
end Go.Proofs.Ytiiejlphomjehaa
