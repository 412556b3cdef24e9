/- Layer 5: Fold; Map, Fold and Drop of nothing. No condition. -/
import Derived.Test.YtiiejlphomjehaaRingM
namespace Go.Proofs.Ytiiejlphomjehaa
open Go.RowKit
set_option linter.unusedVariables false

theorem Rs.step {w w' : World} {v : Value} {l : List Int} (h : Rs w v l) (hB : Below w.heap.size w w') : Rs w' v l := by
  obtain ⟨p, cap, h1, h2, h3⟩ := h
  exact ⟨p, cap, h1, h2, fun i x hx => by
    obtain ⟨g, hg, hc⟩ := h3 i x hx
    have hl : g < w.heap.size := World.block_lt_of_cell? w _ hc
    exact ⟨g, hg, (hB.cell (p := ⟨g, i, none⟩) hl).trans hc⟩⟩
set_option maxRecDepth 100000 in
set_option maxHeartbeats 4000000 in
theorem add_is {w : World} {v : Value} {l : List Int} (x : Int) (h : Rs w v l) (hm : l.length ≤ 1000) : Calls Try.prog 29 #[v, .int .i64 x] w fun e w' => ∃ v2, e = .returned v2 ∧ SR w [] [⟨v2, 3, 1, (l ++ [x]).length, KI.flat (l ++ [x])⟩] w' := by
  obtain ⟨p, cap, rfl, hp, hc⟩ := h
  have HM := Lib.hid hm
  have HP := Lib.hid hp
  have HC := Lib.hid hc
  have hR := (SR.ofSt (St.nil w)).newRow KI.T 1 0 #[] (by decide) rfl
  have hS : SR w [] [⟨.slice (some ⟨w.heap.size, 0, none⟩) 0 0, 3, 1, 0, []⟩] (w.alloc (.cells #[] 3)) := hR
  have hcw : ∀ i y, l[i]? = some y → ∃ g f, p = some ⟨g, f, none⟩ ∧ (w.alloc (.cells #[] 3)).cell? ⟨g, f + i, none⟩ = some (.int .i64 y) := fun i y hy => by
    obtain ⟨g, he, hg⟩ := hc i y hy
    refine ⟨g, 0, he, ?_⟩
    rw [Nat.zero_add]
    exact (hR.st.oldCell (World.block_lt_of_cell? w _ hg)).trans hg
  have HCW := Lib.hid hcw
  clear hR hcw hc hp hm
  go_enter Try.func29, Try.ntmps29
  go_wp2_with (first
    | (at_builtin; refine app_src hS rfl _ _ rfl rfl l p cap rfl HP.out HCW.out (by omega) (by have := HM.out; omega) ?_; intro v7 w7 hR7; clear hS)
    | (at_builtin; refine app_row (SR.old hR7 _) rfl _ _ 22 rfl (.int .i64 0) 8 Try.underlying22 KI.info rfl (by show 0 < 1; omega) rfl _ #[.int .i64 x] 3 rfl (Blk.new _ _ _) rfl (by simp [Value.oneCell']) (by have := HM.out; show 0 + l.length ≤ 1000000; omega) (by omega) ?_; intro v9 w9 hR9; clear hR7))
  go_ret
  refine ⟨_, rfl, ?_⟩
  rw [← flat_snoc]
  (try rw [List.length_append, List.length_singleton])
  rw [Nat.zero_add, List.nil_append] at hR9
  exact hR9
set_option maxRecDepth 100000 in
set_option maxHeartbeats 4000000 in
theorem fold_add {w : World} {gr fr len room : Nat} {v vu : Value} {q us : List Int} (h : RingAt KI w gr v fr len room q) (hq : q.length ≤ 200) (hu : Rs w vu us) (hm : us.length ≤ 200) :
    Calls Try.prog 28 #[.pointer (some ⟨gr, 0, none⟩), vu, .func (.func 29) #[] #[]] w fun e w' => ∃ v2, e = .returned v2 ∧ Rs w' v2 (us ++ q) ∧ Below w.heap.size w w' := by
  have H := Lib.hid h
  have HU := Lib.hid hu
  have HQ := Lib.hid hq
  have HM := Lib.hid hm
  have hnf : ∀ W : World, (binOp BinOp.eql 42 (.func (.func 29) #[] #[]) .nilFunc).run Try.prog W = .ok (.bool false) W := fun _ => by kernel_rfl
  clear h hu hq hm
  go_enter Try.func28, Try.ntmps28
  go_wp2_with (go_at_call 16; refine (KI.list_any H.out).mono ?_; rintro e w2 ⟨v2, rfl, hown, hB⟩; have hR2 := (SR.ofSt (St.nil w)).call_row hB ⟨v2, 3, 1, q.length, KI.flat q⟩ hown; have hU2 := HU.out.step hB; clear hown hB; obtain ⟨p, cap, rfl⟩ := row_form KI hR2 0 rfl)
  go_loopg [1, 15] q.length (fun m uv i wr => ∃ k : Nat, m + k = q.length ∧ i = .int .i64 k ∧ SR w [] [⟨.slice p q.length cap, 3, 1, q.length, KI.flat q⟩] wr ∧ Rs wr uv (us ++ q.take k))
  case atStart => exact ⟨0, by omega, rfl, hR2, by rw [List.take_zero, List.append_nil]; exact hU2⟩
  case round =>
    clear hR2 hU2
    obtain ⟨k, hk, rfl, hR, hU⟩ := hrel
    have k0 : (0 : Int) ≤ (k : Int) := by omega
    by_cases hlt : k < q.length
    · have hkz : (k : Int) < (q.length : Int) := by omega
      have hk6 : (q.length : Int) ≤ 200 := by have := HQ.out; omega
      obtain ⟨y, hy⟩ : ∃ y, q[k]? = some y := ⟨_, List.getElem?_eq_getElem hlt⟩
      obtain ⟨g, cap2, hv2, hc2⟩ := row_at KI hR 0 rfl hy
      injection hv2 with hp2 _ hcap2
      subst hp2
      have hc := hc2 0 _ rfl
      simp only [show KI.S = 1 from rfl, Nat.mul_one, Nat.add_zero] at hc
      have hlen : (us ++ q.take k).length ≤ 1000 := by rw [List.length_append, List.length_take]; have := HQ.out; have := HM.out; omega
      have HLEN := Lib.hid hlen
      have htk : us ++ q.take (k + 1) = us ++ q.take k ++ [y] := by
        have hy' : q[k] = y := by rw [List.getElem?_eq_getElem hlt] at hy; injection hy
        rw [List.take_succ_eq_append_getElem hlt, hy', List.append_assoc]
      have HTK := Lib.hid htk
      have HK := Lib.hid hk
      have HL := Lib.hid hlt
      have HU1 := Lib.hid hU
      clear hk hy hlt hc2 hlen htk hcap2 hU
      go_wp2_with (go_at_call 29; refine (add_is y HU1.out HLEN.out).mono ?_; rintro e w4 ⟨v4, rfl, hP⟩; have hR4 := hR.step hP.below; have hU4 := Rs.own (hP.own _ List.mem_cons_self); clear hR hP hc)
      go_roundg (gk - 1)
      case measure => have := HK.out; have := HL.out; omega
      case rel => exact ⟨k + 1, by have := HK.out; have := HL.out; omega, by go_num, hR4, by rw [HTK.out]; exact hU4⟩
    · obtain rfl : k = q.length := by omega
      rw [List.take_length] at hU
      clear hlt hk
      go_wp2_with fail
      go_ret
      exact ⟨_, rfl, hU, hR.below⟩

theorem fold_nilr (vu : Value) (w : World) : Calls Try.prog 28 #[.pointer none, vu, .func (.func 29) #[] #[]] w fun e w' => e = .returned vu ∧ w = w' := by
  have hnf : ∀ W : World, (binOp BinOp.eql 42 (.func (.func 29) #[] #[]) .nilFunc).run Try.prog W = .ok (.bool false) W := fun _ => by kernel_rfl
  go_enter Try.func28, Try.ntmps28
  go_wp2_with (go_at_call 16; refine (KI.list_nil _).mono ?_; rintro e w2 ⟨rfl, rfl⟩)
  go_loopg [1, 15] 0 (fun m uv i wr => m = 0 ∧ uv = vu ∧ i = .int .i64 0 ∧ wr = w)
  case atStart => exact ⟨rfl, rfl, rfl, rfl⟩
  case round =>
    obtain ⟨_, rfl, rfl, rfl⟩ := hrel
    go_wp2_with fail
    go_ret
    exact ⟨rfl, rfl⟩
theorem fold_nof (r vu : Value) (w : World) : Calls Try.prog 28 #[r, vu, .nilFunc] w fun e w' => e = .returned vu ∧ w = w' := by
  have hnf : ∀ W : World, (binOp BinOp.eql 42 .nilFunc .nilFunc).run Try.prog W = .ok (.bool true) W := fun _ => by kernel_rfl
  go_enter Try.func28, Try.ntmps28
  go_wp2_with fail
  go_ret
  exact ⟨rfl, rfl⟩
theorem map_nilr (f : Value) (w : World) : Calls Try.prog 23 #[.pointer none, f] w fun e w' => e = .returned (.pointer none) ∧ w = w' := by
  go_enter Try.func23, Try.ntmps23
  go_wp2_with fail
  go_ret
  exact ⟨rfl, rfl⟩
theorem map_nof (g : Nat) (w : World) : Calls Try.prog 23 #[.pointer (some ⟨g, 0, none⟩), .nilFunc] w fun e w' => e = .returned (.pointer none) ∧ w = w' := by
  have hnf : ∀ W : World, (binOp BinOp.eql 52 .nilFunc .nilFunc).run Try.prog W = .ok (.bool true) W := fun _ => by kernel_rfl
  go_enter Try.func23, Try.ntmps23
  go_wp2_with fail
  go_ret
  exact ⟨rfl, rfl⟩
theorem drop_nof (g : Nat) (w : World) : Calls Try.prog 20 #[.pointer (some ⟨g, 0, none⟩), .nilFunc] w fun e w' => e = .returned (.int .i64 0) ∧ w = w' := by
  have hnf : ∀ W : World, (binOp BinOp.eql 29 .nilFunc .nilFunc).run Try.prog W = .ok (.bool true) W := fun _ => by kernel_rfl
  go_enter Try.func20, Try.ntmps20
  go_wp2_with fail
  go_ret
  exact ⟨rfl, rfl⟩
theorem drop_nilr (f : Value) (w : World) : Calls Try.prog 20 #[.pointer none, f] w fun e w' => e = .returned (.int .i64 0) ∧ w = w' := by
  go_enter Try.func20, Try.ntmps20
  go_wp2_with fail
  go_ret
  exact ⟨rfl, rfl⟩
end Go.Proofs.Ytiiejlphomjehaa
