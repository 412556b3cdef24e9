/- Layer 21: sieve.Pick: those of a row of changes that pass. No condition. -/
import Derived.Test.YtjfpmolnipiphaaFeed5
namespace Go.Proofs.Ytjfpmolnipiphaa
open Go.RowKit
set_option linter.unusedVariables false
set_option linter.unusedSimpArgs false

/-- A thing of an owned slice of things. -/
theorem row_at {α : Type} (K : RK α) {w0 a : World} {L : List (Nat × TypeId × Array Value)} {R : List Ow} {v : Value} {q : List α} (h : SR w0 L R a) (i : Nat) (hi : R[i]? = some ⟨v, K.T, K.S, q.length, q.flatMap K.ec⟩) {k : Nat} {y : α} (hk : q[k]? = some y) :
    ∃ g cap, v = .slice (some ⟨g, 0, none⟩) q.length cap ∧ ∀ j u, (K.ec y)[j]? = some u → a.cell? ⟨g, k * K.S + j, none⟩ = some u := by
  have hlt := lt_of_get hk
  rcases h.form i hi with ⟨_, h0⟩ | ⟨g, cap, hv, _⟩
  · have : q.length = 0 := h0
    omega
  · refine ⟨g, cap, hv, fun j u hj => h.item i hi hv (k * K.S + j) ?_⟩
    have hjl := lt_of_get hj
    rw [K.hec] at hjl
    exact (flat_at K.ec K.hec q k y hk j hjl).trans hj
/-- The form of an owned slice of things. -/
theorem row_form {α : Type} (K : RK α) {w0 a : World} {L : List (Nat × TypeId × Array Value)} {R : List Ow} {v : Value} {q : List α} (h : SR w0 L R a) (i : Nat) (hi : R[i]? = some ⟨v, K.T, K.S, q.length, q.flatMap K.ec⟩) : ∃ p cap, v = .slice p q.length cap := by
  rcases h.form i hi with ⟨hv, h0⟩ | ⟨g, cap, hv, _⟩
  · have h1 : q.length = 0 := h0
    exact ⟨none, 0, by rw [h1]; exact hv⟩
  · exact ⟨_, _, hv⟩
/-- How changes lie in a row. -/
def KC : RK (Nat → Int) := ⟨38, 38, 11, fun x => (CC x).toList, by decide, fun _ => rfl⟩
theorem KC.info : (Try.prog.info? 38).map (fun i => (i.zero, i.size, i.bytes)) = some (some (.agg (CC (fun _ => 0))), 11, 88) := by kernel_rfl
def KC.flat (l : List (Nat → Int)) : List Value := l.flatMap KC.ec
theorem KC.snoc (l : List (Nat → Int)) (x : Nat → Int) : KC.flat l ++ (CC x).toList = KC.flat (l ++ [x]) := by unfold KC.flat; rw [List.flatMap_append]; simp; rfl
theorem KC.len (l : List (Nat → Int)) : (KC.flat l).length = l.length * 11 := flat_length KC.ec KC.hec l

theorem pick1_any (kd n : Int) (x : Nat → Int) {g : Nat} {w : World} (hb : Blk w g 26 #[.int .i64 kd, .int .i64 n]) :
    Calls Try.prog 28 #[.agg (CC x), .pointer (some ⟨g, 0, none⟩)] w fun e w' => e = .returned (.bool (passV kd n x)) ∧ Below w.heap.size w w' := by
  have hlt := hb.lt
  have c0 : (w.alloc (.cells (CC x) 38)).cell? ⟨g, 0, none⟩ = some (.int .i64 kd) := (hb.alloc _).cell 0
  have c1 : (w.alloc (.cells (CC x) 38)).cell? ⟨g, 1, none⟩ = some (.int .i64 n) := (hb.alloc _).cell 1
  have ld := St.big (w0 := w) 0 38 _ rfl Try.underlying38 rfl (by kernel_rfl) _ ((St.nil w).alloc 38 (CC x))
  have hS := (St.nil w).old (.cells (CC x) 38)
  clear hb
  go_enter Try.func28, Try.ntmps28
  go_wp2_with (go_at_call 29; refine (pass_any _ _ _ _).mono ?_; rintro e w1 ⟨rfl, hB⟩; have hS1 := hS.step hB; clear hS hB)
  go_ret
  exact ⟨rfl, hS1.below⟩
theorem filter_snoc {α : Type} (p : α → Bool) {l : List α} {k : Nat} {y : α} (h : l[k]? = some y) : (l.take (k + 1)).filter p = if p y = true then (l.take k).filter p ++ [y] else (l.take k).filter p := by
  have hk := lt_of_get h
  have hy : l[k] = y := by rw [List.getElem?_eq_getElem hk] at h; injection h
  rw [List.take_succ_eq_append_getElem hk, List.filter_append, hy]
  by_cases e : p y = true
  · simp [e]
  · simp [e]
set_option maxRecDepth 100000 in
set_option maxHeartbeats 4000000 in
theorem pick_any (kd n : Int) {w : World} {g cap : Nat} {p : Option Addr} {xs : List (Nat → Int)} (hb : Blk w g 26 #[.int .i64 kd, .int .i64 n]) (hm : xs.length ≤ 1000)
    (hat : ∀ k x, xs[k]? = some x → ∃ g, p = some ⟨g, 0, none⟩ ∧ g < w.heap.size ∧ ∀ j u, (CC x).toList[j]? = some u → w.cell? ⟨g, k * 11 + j, none⟩ = some u) :
    Calls Try.prog 27 #[.slice p xs.length cap, .func (.func 28) #[] #[.pointer (some ⟨g, 0, none⟩)]] w fun e w' => ∃ v2, e = .returned v2 ∧ SR w [] [⟨v2, 38, 11, (xs.filter (passV kd n)).length, KC.flat (xs.filter (passV kd n))⟩] w' := by
  have HAT := Lib.hid hat
  have HM := Lib.hid hm
  have HBX := Lib.hid hb
  have hS := (SR.ofSt (St.nil w)).nilRow 38 11
  have hmz : (xs.length : Int) ≤ 1000 := by omega
  clear hat hm hb
  go_enter Try.func27, Try.ntmps27
  go_wp2_with fail
  go_loopg [5, 10] xs.length (fun m o i wr => ∃ k : Nat, m + k = xs.length ∧ i = .int .i64 k ∧ SR w [] [⟨o, 38, 11, ((xs.take k).filter (passV kd n)).length, KC.flat ((xs.take k).filter (passV kd n))⟩] wr)
  case atStart => exact ⟨0, by omega, rfl, hS⟩
  case round =>
    clear hS
    obtain ⟨k, hk, rfl, hR⟩ := hrel
    have k0 : (0 : Int) ≤ (k : Int) := by omega
    by_cases hlt : k < xs.length
    · have hkz : (k : Int) < (xs.length : Int) := by omega
      obtain ⟨x, hx⟩ : ∃ x, xs[k]? = some x := ⟨_, List.getElem?_eq_getElem hlt⟩
      obtain ⟨g1, rfl, hg1, hc1⟩ := HAT.out k x hx
      have ld : (loadBig 38 ⟨g1, k * 11, none⟩).run Try.prog wr = .ok (.agg (CC x)) wr := big_mid 38 (CC x) _ (fun j v hj => (hR.oldCell hg1).trans (hc1 j v hj)) Try.underlying38 rfl (by kernel_rfl)
      have hfs := filter_snoc (passV kd n) hx
      have hfl : ((xs.take k).filter (passV kd n)).length ≤ 1000 := by
        have h1 := List.length_filter_le (passV kd n) (xs.take k)
        rw [List.length_take] at h1
        have := HM.out
        omega
      have HK := Lib.hid hk
      have HLT := Lib.hid hlt
      obtain ⟨ys, hys⟩ : ∃ ys, (xs.take k).filter (passV kd n) = ys := ⟨_, rfl⟩
      rw [hys] at hR hfs hfl
      clear hk hx hlt hg1 hc1 hys
      cases hp : passV kd n x
      · rw [hp, if_neg (by simp)] at hfs
        have HFS := Lib.hid hfs
        have HP := Lib.hid hp
        clear hfs hp
        go_wp2_with (first
          | (refine store_newR hR rfl rfl 38 _ _ rfl 38 _ (CC x) rfl rfl (by kernel_rfl) rfl (by simp [Value.oneCell']) ?_; intro w2 hR2 hlt2; generalize wr.heap.size = gt at hR2 hlt2 ⊢; clear hlt2 hR ld; have ld2 := St.big (w0 := w) 0 38 _ rfl Try.underlying38 rfl (by kernel_rfl) w2 hR2.st)
          | (go_at_call 28; refine (pick1_any kd n x (HBX.out.below hR2.below HBX.out.lt)).mono ?_; rintro e w3 ⟨rfl, hB⟩; rw [HP.out]; have hR3 := hR2.step hB; clear hR2 hB ld2))
        go_roundg (gk - 1)
        case measure => have := HK.out; have := HLT.out; omega
        case rel => exact ⟨k + 1, by have := HK.out; have := HLT.out; omega, by go_num, by rw [HFS.out]; exact hR3.dropBox⟩
      · rw [hp, if_pos rfl] at hfs
        have HFS := Lib.hid hfs
        have HP := Lib.hid hp
        clear hfs hp
        go_wp2_with (first
          | (refine store_newR hR rfl rfl 38 _ _ rfl 38 _ (CC x) rfl rfl (by kernel_rfl) rfl (by simp [Value.oneCell']) ?_; intro w2 hR2 hlt2; generalize wr.heap.size = gt at hR2 hlt2 ⊢; clear hlt2 hR ld; have ld2 := St.big (w0 := w) 0 38 _ rfl Try.underlying38 rfl (by kernel_rfl) w2 hR2.st)
          | (go_at_call 28; refine (pick1_any kd n x (HBX.out.below hR2.below HBX.out.lt)).mono ?_; rintro e w3 ⟨rfl, hB⟩; rw [HP.out]; have hR3 := hR2.step hB; clear hR2 hB ld2; have ld3 := St.big (w0 := w) 0 38 _ rfl Try.underlying38 rfl (by kernel_rfl) w3 hR3.st)
          | (at_builtin; refine app_row (SR.old hR3 _) rfl _ _ 32 rfl (.agg (CC (fun _ => 0))) 88 Try.underlying32 KC.info rfl (by show 0 < 11; omega) rfl _ (CC x) 38 rfl (Blk.new _ _ _) rfl (by simp [Value.oneCell']) (by (try simp only); omega) (by omega) ?_; intro v9 w9 hR9; clear hR3 ld3))
        go_roundg (gk - 1)
        case measure => have := HK.out; have := HLT.out; omega
        case rel =>
          refine ⟨k + 1, by have := HK.out; have := HLT.out; omega, by go_num, ?_⟩
          rw [HFS.out, ← KC.snoc, List.length_append, List.length_singleton]
          exact hR9.dropBox
    · obtain rfl : k = xs.length := by omega
      rw [List.take_length] at hR
      clear hlt hk
      go_wp2_with fail
      go_ret
      exact ⟨_, rfl, hR⟩
set_option maxRecDepth 100000 in
set_option maxHeartbeats 4000000 in
theorem Pick_any (kd n : Int) {w0 w : World} {L : List (Nat × TypeId × Array Value)} {R : List Ow} {v : Value} {xs : List (Nat → Int)} (h : SR w0 L (⟨v, 38, 11, xs.length, KC.flat xs⟩ :: R) w) (hm : xs.length ≤ 1000) :
    Calls Try.prog 13 #[.agg #[.int .i64 kd, .int .i64 n], v] w fun e w' => ∃ v2, e = .returned v2 ∧ w'.ownsRow w.heap.size 38 11 v2 (xs.filter (passV kd n)).length (KC.flat (xs.filter (passV kd n))) ∧ Below w.heap.size w w' := by
  obtain ⟨p, cap, rfl⟩ := row_form KC h 0 rfl
  have hat : ∀ k x, xs[k]? = some x → ∃ g, p = some ⟨g, 0, none⟩ ∧ g < w.heap.size ∧ ∀ j u, (CC x).toList[j]? = some u → w.cell? ⟨g, k * 11 + j, none⟩ = some u := fun k x hx => by
    obtain ⟨g, c2, hv, hc⟩ := row_at KC h 0 rfl hx
    injection hv with hv
    exact ⟨g, hv, World.block_lt_of_cell? w _ (hc 0 _ rfl), hc⟩
  have HAT := Lib.hid hat
  have HM := Lib.hid hm
  have hS := ((SR.ofSt (St.nil w)).alloc 26 #[.int .i64 kd, .int .i64 n]).nilRow 38 11
  have hmz : (xs.length : Int) ≤ 1000 := by omega
  clear h hat hm
  go_enter Try.func13, Try.ntmps13
  go_wp2_with (go_at_call 27; refine (pick_any kd n (w := w.alloc (.cells #[.int .i64 kd, .int .i64 n] 26)) (Blk.new _ _ _) HM.out (fun k x hx => by obtain ⟨g, hg, hl, hc⟩ := HAT.out k x hx; exact ⟨g, hg, by simp; omega, fun j u hj => (hS.oldCell (p := ⟨g, k * 11 + j, none⟩) hl).trans (hc j u hj)⟩)).mono ?_; rintro e w2 ⟨v2, rfl, hR2⟩)
  go_ret
  have hO := hR2.own _ List.mem_cons_self
  have hB : Below w.heap.size w w2 := ((Below.refl _ _).alloc (Nat.le_refl _) _).trans (hR2.below.mono (by simp))
  refine ⟨_, rfl, ⟨hO.1, ?_⟩, hB⟩
  rcases hO.2 with h1 | ⟨g, cap, cur, hv, hg, rest⟩
  · exact .inl h1
  · exact .inr ⟨g, cap, cur, hv, by have h2 : w.heap.size + 1 ≤ g := by simpa using hg
                                    omega, rest⟩
end Go.Proofs.Ytjfpmolnipiphaa
