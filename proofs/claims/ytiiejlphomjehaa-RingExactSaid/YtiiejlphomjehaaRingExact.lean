/- The statement RingExact, walked: for every room and row of deeds the Go law returns true, and nothing that was in memory is changed. -/
import Derived.Test.YtiiejlphomjehaaRingH
import Derived.Deep.LoopGhost
import Derived.Test.YtiiejlphomjehaaOpenActs
namespace Go.Proofs.Ytiiejlphomjehaa
open Go.RowKit
set_option linter.unusedVariables false

section
variable {rest : List Oper} {o : Oper} {a : Act} {w0 w : World} {Q : Exit → Act → World → Prop} {L : List (Nat × TypeId × Array Value)} {R : List Ow} {α : Type} {K : RK α} {gr room : Nat} {q : List α}
/-- A whole struct stored into the block that was just made, beside a ring. -/
theorem store_newG {P : Program} {ops : Array Oper} (hS : RG K w0 L R gr room q w) (hgd : o.guard = none) (hd : o.dst = none) (ty : TypeId) (x y : Operand) (ho : o.op = .store ty x y) (t : TypeId) (old cells : Array Value) (hx : a.eval x = .pointer (some ⟨w.heap.size, 0, none⟩)) (hy : a.eval y = .agg cells)
    (hi : (P.info? ty).map (·.size) = some cells.size) (hold : old.size = cells.size) (h1 : cells.all (·.oneCell') = true)
    (h : ∀ w2, RG K w0 ((w.heap.size, t, cells) :: L) R gr room q w2 → w.heap.size < w2.heap.size → wpList P ops Q rest a w2) : wpList P ops Q (o :: rest) a (w.alloc (.cells old t)) :=
  store_blk hgd ty x y ho w.heap.size cells hx hy t old hi hold h1 (Blk.new _ _ _) fun w2 ho hb => by rw [hd]; exact h w2 ((hS.alloc t old).setAt 0 rfl ho hb) hb.lt
end
theorem mod3 (x : Int) : ∃ k : Nat, k < 3 ∧ (IntKind.u64.wrap x).tmod 3 = (k : Int) := by
  have h0 : 0 ≤ IntKind.u64.wrap x := by
    have : (0 : Int) ≤ x % 18446744073709551616 := Int.emod_nonneg _ (by decide)
    exact this
  obtain ⟨m, hm⟩ := Int.eq_ofNat_of_zero_le h0
  refine ⟨m % 3, Nat.mod_lt _ (by omega), ?_⟩
  rw [hm]
  rfl
theorem rpop_own {w : World} {base : Nat} {v : Value} {y : Int} {l : List Int} (h : w.ownsRow base KI.T 1 v (y :: l).length (KI.flat (y :: l))) (hm : l.length ≤ 1000) : Calls Try.prog 18 #[v] w fun e w' => ∃ v2, e = .returned (.tuple #[v2, .int .i64 y, .bool true]) ∧ SR w [] [⟨v2, 3, 1, l.length, KI.flat l⟩] w' := by
  refine rpop_cons (Rs.own h) ?_ hm
  intro p n cap hv
  obtain ⟨_, ⟨h1, _⟩ | ⟨g, c, cur, h1, _, _, h2, _⟩⟩ := h
  · rw [hv] at h1
    injection h1 with _ h1 h3
    omega
  · rw [hv] at h1
    injection h1 with _ h1 h3
    omega

set_option maxRecDepth 100000 in
set_option maxHeartbeats 8000000 in
theorem exact_bad (a0 : Int) (w : World) (v : Value) (h : a0 < 1 ∨ 65536 < a0) : Calls Try.prog 4 #[.int .i64 a0, v] w fun e w' => e = .returned (.bool true) ∧ Below w.heap.size w w' := by
  have H := Lib.hid h
  have hS := SR.ofSt (St.nil w)
  by_cases h1 : a0 < 1
  · clear h
    go_enter Try.func4, Try.ntmps4
    go_wp2_with (first
      | (go_at_call 7; refine (awake05 _).mono ?_; rintro e w1 ⟨rfl, hB1⟩; have hS1 := hS.step hB1; clear hS hB1)
      | (go_at_call 8; refine (KI.new_no a0 H.out _).mono ?_; rintro e w2 ⟨rfl, rfl⟩)
      | (go_at_call 11; refine (pop_nilr _).mono ?_; rintro e w3 ⟨rfl, rfl⟩)
      | (go_at_call 13; refine (peek_nilr _).mono ?_; rintro e w3 ⟨rfl, rfl⟩)
      | (go_at_call 10; refine (push_nilr 1 _).mono ?_; rintro e w4 ⟨rfl, n4, rfl⟩; have hS4 := hS1.drewN n4; clear hS1)
      | (go_at_call 9; refine (KI.len_nil _).mono ?_; rintro e w3 ⟨rfl, rfl⟩)
      | (go_at_call 14; refine (KI.room_nil _).mono ?_; rintro e w3 ⟨rfl, rfl⟩)
      | (go_at_call 15; refine (clear_nilr _).mono ?_; rintro e w3 ⟨rfl, rfl⟩)
      | (go_at_call 16; refine (KI.list_nil _).mono ?_; rintro e w3 ⟨rfl, rfl⟩))
    go_ret
    exact ⟨rfl, hS4.below⟩
  · have h2 : 65536 < a0 := by omega
    clear h
    go_enter Try.func4, Try.ntmps4
    go_wp2_with (first
      | (go_at_call 7; refine (awake05 _).mono ?_; rintro e w1 ⟨rfl, hB1⟩; have hS1 := hS.step hB1; clear hS hB1)
      | (go_at_call 8; refine (KI.new_no a0 H.out _).mono ?_; rintro e w2 ⟨rfl, rfl⟩)
      | (go_at_call 11; refine (pop_nilr _).mono ?_; rintro e w3 ⟨rfl, rfl⟩)
      | (go_at_call 13; refine (peek_nilr _).mono ?_; rintro e w3 ⟨rfl, rfl⟩)
      | (go_at_call 10; refine (push_nilr 1 _).mono ?_; rintro e w4 ⟨rfl, n4, rfl⟩; have hS4 := hS1.drewN n4; clear hS1)
      | (go_at_call 9; refine (KI.len_nil _).mono ?_; rintro e w3 ⟨rfl, rfl⟩)
      | (go_at_call 14; refine (KI.room_nil _).mono ?_; rintro e w3 ⟨rfl, rfl⟩)
      | (go_at_call 15; refine (clear_nilr _).mono ?_; rintro e w3 ⟨rfl, rfl⟩)
      | (go_at_call 16; refine (KI.list_nil _).mono ?_; rintro e w3 ⟨rfl, rfl⟩))
    go_ret
    exact ⟨rfl, hS4.below⟩

set_option maxRecDepth 100000 in
set_option maxHeartbeats 8000000 in
theorem exact05 (a0 : Int) (zs : List (Int × Int)) (A : Option Addr) (cap : Nat) (w : World) (hn : zs.length ≤ 9223372036854775807)
    (hA : ∀ k, k < zs.length → ∃ b o, A = some ⟨b, o, none⟩ ∧ b < w.heap.size ∧ w.cell? ⟨b, o + k * 2, none⟩ = some (.int .i64 (zs.getD k (0, 0)).1) ∧ w.cell? ⟨b, o + k * 2 + 1, none⟩ = some (.int .i64 (zs.getD k (0, 0)).2)) :
    Calls Try.prog 4 #[.int .i64 a0, .slice A zs.length cap] w fun e w' => e = .returned (.bool true) ∧ Below w.heap.size w w' := by
  by_cases hbad : a0 < 1 ∨ 65536 < a0
  · exact exact_bad a0 w _ hbad
  obtain ⟨room, rfl⟩ : ∃ room : Nat, a0 = (room : Int) := ⟨a0.toNat, by omega⟩
  have r1 : 1 ≤ room := by omega
  have r2 : room ≤ 65536 := by omega
  have R1 := Lib.hid r1
  have R2 := Lib.hid r2
  have z1 : ¬ (room : Int) < 1 := by omega
  have z2 : ¬ (65536 : Int) < (room : Int) := by omega
  have hm0 : (zs.length : Int) ≤ 9223372036854775807 := by omega
  have hS := SR.ofSt (St.nil w)
  have HA := Lib.hid hA
  clear hA hbad r1 r2 hn
  go_enter Try.func4, Try.ntmps4
  go_wp2_with (go_at_call 7; refine (awake05 _).mono ?_; rintro e w1 ⟨rfl, hB1⟩; have hS1 := hS.step hB1; clear hS hB1)
  go_wp2_with (go_at_call 8; refine (KI.new_rg (room := room) hS1 R1.out R2.out).mono ?_; rintro e w2 ⟨gr, rfl, hR2⟩; clear hS1)
  have hRi := hR2.newRow KI.T 1 0 #[] (by decide) rfl
  clear hR2
  go_loopg [10, 11] zs.length (fun m vl iv wr => ∃ (j : Nat) (q : List Int), m + j = zs.length ∧ iv = .int .i64 j ∧ RG KI w [] [⟨vl, 3, 1, q.length, KI.flat q⟩] gr room q wr ∧ q.length ≤ j)
  case atStart => exact ⟨0, [], by omega, rfl, hRi, Nat.le_refl _⟩
  case round =>
    clear hRi
    obtain ⟨j, q, hj, rfl, hR, hq⟩ := hrel
    have j0 : (0 : Int) ≤ (j : Int) := by omega
    by_cases hlt : j < zs.length
    rotate_left
    · have hnz : ¬ (j : Int) < (zs.length : Int) := by omega
      clear hlt hj
      go_wp2_with fail
      go_ret
      exact ⟨rfl, hR.sr.below⟩
    have hltz : (j : Int) < (zs.length : Int) := by omega
    by_cases h200 : (j : Int) < 200
    rotate_left
    · clear hlt hj
      go_wp2_with fail
      go_ret
      exact ⟨rfl, hR.sr.below⟩
    have hq2 : q.length ≤ 199 := by omega
    have hqr : q.length ≤ room := by
      obtain ⟨v, fr, len, hr, _⟩ := hR.ring
      exact Nat.le_trans hr.nlen hr.lenroom
    obtain ⟨b, o0, rfl, hbw, hc0, hc1⟩ := HA.out j hlt
    obtain ⟨⟨kd, n⟩, hz⟩ : ∃ z, zs.getD j (0, 0) = z := ⟨_, rfl⟩
    rw [hz] at hc0 hc1
    simp only [] at hc0 hc1
    have hcell0 := (hR.sr.st.oldCell hbw).trans hc0
    have hcell1 := (hR.sr.st.oldCell hbw).trans hc1
    have HJ := Lib.hid hj
    have HLT := Lib.hid hlt
    have HQ := Lib.hid hq
    have HQ2 := Lib.hid hq2
    have HQR := Lib.hid hqr
    obtain ⟨p, cp, rfl, _⟩ := Rs.own (hR.sr.own _ List.mem_cons_self)
    clear hc0 hc1 hbw hz hlt hj hq hq2 hqr
    by_cases h1 : kd = 1
    · subst h1
      by_cases hf : q.length = room
      · have HF := Lib.hid hf
        have HM2 : RowKit.Hid (q.length ≤ 65536) := by show q.length ≤ 65536; have := HQ2.out; omega
        clear hf
        go_wp2_with (first
          | (refine store_newG hR rfl rfl 37 _ _ rfl 37 _ #[.int .i64 1, .int .i64 n] rfl rfl (by kernel_rfl) rfl (by simp [Value.oneCell']) ?_; intro w2 hR2 hlt2; generalize wr.heap.size = gb at hR2 hlt2 ⊢; clear hlt2 hR hcell0 hcell1; have hSt := hR2.sr.st; have HC0 := St.cell (L := [(gb, 37, #[.int .i64 1, .int .i64 n])]) (w0 := w) 0 rfl 0 rfl; have HC1 := St.cell (L := [(gb, 37, #[.int .i64 1, .int .i64 n])]) (w0 := w) 0 rfl 1 rfl)
          | (go_at_call 17; refine (rpush_full n (Rs.own (hR2.sr.own _ List.mem_cons_self)) (Nat.le_of_eq HF.out.symm)).mono ?_; rintro e w3 ⟨rfl, rfl⟩)
          | (go_at_call 10; refine (KI.push_no n hR2 HF.out).mono ?_; rintro e w4 ⟨rfl, hR4⟩; clear hR2 hSt; have hSt := hR4.sr.st)
          | (go_at_call 16; refine (KI.list_rg hR4).mono ?_; rintro e w6 ⟨v6, rfl, hR6⟩; clear hR4 hSt)
          | (go_at_call 12; refine (ints_true (l := q) (Rd.own (hR6.sr.own _ List.mem_cons_self)) (Rd.own (hR6.sr.own _ (List.mem_cons_of_mem _ List.mem_cons_self))) HM2.out).mono ?_; rintro e w7 ⟨rfl, n7, rfl⟩; have hR7 := hR6.drewN n7; clear hR6)
          | (go_at_call 9; refine (KI.len_rg (n := (q).length) hR7 rfl).mono ?_; rintro e w8 ⟨rfl, rfl⟩)
          | (go_at_call 14; refine (KI.room_rg hR7).mono ?_; rintro e w9 ⟨rfl, rfl⟩))
        go_roundg (gk - 1)
        case measure => have := HJ.out; have := HLT.out; omega
        case rel => exact ⟨j + 1, q, by have := HJ.out; have := HLT.out; omega, by go_num, (hR7.subR (List.sublist_cons_self _ _)).sub (List.nil_sublist _), by have := HQ.out; omega⟩
      · have HF : RowKit.Hid (q.length < room) := by show q.length < room; have := HQR.out; omega
        have HL : RowKit.Hid (q.length ≤ 1000) := by show q.length ≤ 1000; have := HQ2.out; omega
        obtain ⟨q2, hq2⟩ : ∃ q2, q ++ [n] = q2 := ⟨_, rfl⟩
        have hl2 : q2.length = q.length + 1 := by rw [← hq2]; simp
        have HQQ := Lib.hid hq2
        have HL2 := Lib.hid hl2
        have HM2 : RowKit.Hid (q2.length ≤ 65536) := by show q2.length ≤ 65536; have := HQ2.out; omega
        clear hf hq2 hl2
        go_wp2_with (first
          | (refine store_newG hR rfl rfl 37 _ _ rfl 37 _ #[.int .i64 1, .int .i64 n] rfl rfl (by kernel_rfl) rfl (by simp [Value.oneCell']) ?_; intro w2 hR2 hlt2; generalize wr.heap.size = gb at hR2 hlt2 ⊢; clear hlt2 hR hcell0 hcell1; have hSt := hR2.sr.st; have HC0 := St.cell (L := [(gb, 37, #[.int .i64 1, .int .i64 n])]) (w0 := w) 0 rfl 0 rfl; have HC1 := St.cell (L := [(gb, 37, #[.int .i64 1, .int .i64 n])]) (w0 := w) 0 rfl 1 rfl)
          | (go_at_call 17; refine (rpush_new n (Rs.own (hR2.sr.own _ List.mem_cons_self)) HL.out HF.out).mono ?_; rintro e w3 ⟨v3, rfl, hP⟩; rw [HQQ.out] at hP; have hR3 := (hR2.call_row hP.below _ (hP.own _ List.mem_cons_self)).subR (List.Sublist.cons_cons _ (List.nil_sublist _)); clear hP hR2 hSt; have hSt := hR3.sr.st; obtain ⟨p3, cp3, rfl, _⟩ := Rs.own (hR3.sr.own _ List.mem_cons_self))
          | (go_at_call 10; refine (KI.push_rg n hR3 HF.out).mono ?_; rintro e w4 ⟨rfl, hR4⟩; rw [HQQ.out] at hR4; clear hR3 hSt; have hSt := hR4.sr.st)
          | (go_at_call 16; refine (KI.list_rg hR4).mono ?_; rintro e w6 ⟨v6, rfl, hR6⟩; clear hR4 hSt)
          | (go_at_call 12; refine (ints_true (l := q2) (Rd.own (hR6.sr.own _ List.mem_cons_self)) (Rd.own (hR6.sr.own _ (List.mem_cons_of_mem _ List.mem_cons_self))) HM2.out).mono ?_; rintro e w7 ⟨rfl, n7, rfl⟩; have hR7 := hR6.drewN n7; clear hR6)
          | (go_at_call 9; refine (KI.len_rg (n := (q2).length) hR7 rfl).mono ?_; rintro e w8 ⟨rfl, rfl⟩)
          | (go_at_call 14; refine (KI.room_rg hR7).mono ?_; rintro e w9 ⟨rfl, rfl⟩))
        go_roundg (gk - 1)
        case measure => have := HJ.out; have := HLT.out; omega
        case rel => exact ⟨j + 1, q2, by have := HJ.out; have := HLT.out; omega, by go_num, (hR7.subR (List.sublist_cons_self _ _)).sub (List.nil_sublist _), by have := HQ.out; have := HL2.out; omega⟩
    by_cases h2 : kd = 2
    · subst h2
      by_cases hf : q.length = room
      · have HF := Lib.hid hf
        have HM2 : RowKit.Hid (q.length ≤ 65536) := by show q.length ≤ 65536; have := HQ2.out; omega
        clear hf
        go_wp2_with (first
          | (refine store_newG hR rfl rfl 37 _ _ rfl 37 _ #[.int .i64 2, .int .i64 n] rfl rfl (by kernel_rfl) rfl (by simp [Value.oneCell']) ?_; intro w2 hR2 hlt2; generalize wr.heap.size = gb at hR2 hlt2 ⊢; clear hlt2 hR hcell0 hcell1; have hSt := hR2.sr.st; have HC0 := St.cell (L := [(gb, 37, #[.int .i64 2, .int .i64 n])]) (w0 := w) 0 rfl 0 rfl; have HC1 := St.cell (L := [(gb, 37, #[.int .i64 2, .int .i64 n])]) (w0 := w) 0 rfl 1 rfl)
          | (go_at_call 17; refine (rpush_full n (Rs.own (hR2.sr.own _ List.mem_cons_self)) (Nat.le_of_eq HF.out.symm)).mono ?_; rintro e w3 ⟨rfl, rfl⟩)
          | (go_at_call 10; refine (KI.push_no n hR2 HF.out).mono ?_; rintro e w4 ⟨rfl, hR4⟩; clear hR2 hSt; have hSt := hR4.sr.st)
          | (go_at_call 16; refine (KI.list_rg hR4).mono ?_; rintro e w6 ⟨v6, rfl, hR6⟩; clear hR4 hSt)
          | (go_at_call 12; refine (ints_true (l := q) (Rd.own (hR6.sr.own _ List.mem_cons_self)) (Rd.own (hR6.sr.own _ (List.mem_cons_of_mem _ List.mem_cons_self))) HM2.out).mono ?_; rintro e w7 ⟨rfl, n7, rfl⟩; have hR7 := hR6.drewN n7; clear hR6)
          | (go_at_call 9; refine (KI.len_rg (n := (q).length) hR7 rfl).mono ?_; rintro e w8 ⟨rfl, rfl⟩)
          | (go_at_call 14; refine (KI.room_rg hR7).mono ?_; rintro e w9 ⟨rfl, rfl⟩))
        go_roundg (gk - 1)
        case measure => have := HJ.out; have := HLT.out; omega
        case rel => exact ⟨j + 1, q, by have := HJ.out; have := HLT.out; omega, by go_num, (hR7.subR (List.sublist_cons_self _ _)).sub (List.nil_sublist _), by have := HQ.out; omega⟩
      · have HF : RowKit.Hid (q.length < room) := by show q.length < room; have := HQR.out; omega
        have HL : RowKit.Hid (q.length ≤ 1000) := by show q.length ≤ 1000; have := HQ2.out; omega
        obtain ⟨q2, hq2⟩ : ∃ q2, q ++ [n] = q2 := ⟨_, rfl⟩
        have hl2 : q2.length = q.length + 1 := by rw [← hq2]; simp
        have HQQ := Lib.hid hq2
        have HL2 := Lib.hid hl2
        have HM2 : RowKit.Hid (q2.length ≤ 65536) := by show q2.length ≤ 65536; have := HQ2.out; omega
        clear hf hq2 hl2
        go_wp2_with (first
          | (refine store_newG hR rfl rfl 37 _ _ rfl 37 _ #[.int .i64 2, .int .i64 n] rfl rfl (by kernel_rfl) rfl (by simp [Value.oneCell']) ?_; intro w2 hR2 hlt2; generalize wr.heap.size = gb at hR2 hlt2 ⊢; clear hlt2 hR hcell0 hcell1; have hSt := hR2.sr.st; have HC0 := St.cell (L := [(gb, 37, #[.int .i64 2, .int .i64 n])]) (w0 := w) 0 rfl 0 rfl; have HC1 := St.cell (L := [(gb, 37, #[.int .i64 2, .int .i64 n])]) (w0 := w) 0 rfl 1 rfl)
          | (go_at_call 17; refine (rpush_new n (Rs.own (hR2.sr.own _ List.mem_cons_self)) HL.out HF.out).mono ?_; rintro e w3 ⟨v3, rfl, hP⟩; rw [HQQ.out] at hP; have hR3 := (hR2.call_row hP.below _ (hP.own _ List.mem_cons_self)).subR (List.Sublist.cons_cons _ (List.nil_sublist _)); clear hP hR2 hSt; have hSt := hR3.sr.st; obtain ⟨p3, cp3, rfl, _⟩ := Rs.own (hR3.sr.own _ List.mem_cons_self))
          | (go_at_call 10; refine (KI.push_rg n hR3 HF.out).mono ?_; rintro e w4 ⟨rfl, hR4⟩; rw [HQQ.out] at hR4; clear hR3 hSt; have hSt := hR4.sr.st)
          | (go_at_call 16; refine (KI.list_rg hR4).mono ?_; rintro e w6 ⟨v6, rfl, hR6⟩; clear hR4 hSt)
          | (go_at_call 12; refine (ints_true (l := q2) (Rd.own (hR6.sr.own _ List.mem_cons_self)) (Rd.own (hR6.sr.own _ (List.mem_cons_of_mem _ List.mem_cons_self))) HM2.out).mono ?_; rintro e w7 ⟨rfl, n7, rfl⟩; have hR7 := hR6.drewN n7; clear hR6)
          | (go_at_call 9; refine (KI.len_rg (n := (q2).length) hR7 rfl).mono ?_; rintro e w8 ⟨rfl, rfl⟩)
          | (go_at_call 14; refine (KI.room_rg hR7).mono ?_; rintro e w9 ⟨rfl, rfl⟩))
        go_roundg (gk - 1)
        case measure => have := HJ.out; have := HLT.out; omega
        case rel => exact ⟨j + 1, q2, by have := HJ.out; have := HLT.out; omega, by go_num, (hR7.subR (List.sublist_cons_self _ _)).sub (List.nil_sublist _), by have := HQ.out; have := HL2.out; omega⟩
    by_cases h3 : kd = 3
    · subst h3
      cases q with
      | nil =>
        have HM2 : RowKit.Hid (([] : List Int).length ≤ 65536) := by show 0 ≤ 65536; omega
        go_wp2_with (first
          | (refine store_newG hR rfl rfl 37 _ _ rfl 37 _ #[.int .i64 3, .int .i64 n] rfl rfl (by kernel_rfl) rfl (by simp [Value.oneCell']) ?_; intro w2 hR2 hlt2; generalize wr.heap.size = gb at hR2 hlt2 ⊢; clear hlt2 hR hcell0 hcell1; have hSt := hR2.sr.st; have HC0 := St.cell (L := [(gb, 37, #[.int .i64 3, .int .i64 n])]) (w0 := w) 0 rfl 0 rfl; have HC1 := St.cell (L := [(gb, 37, #[.int .i64 3, .int .i64 n])]) (w0 := w) 0 rfl 1 rfl)
          | (go_at_call 18; refine (rpop_nil (Rs.own (hR2.sr.own _ List.mem_cons_self))).mono ?_; rintro e w3 ⟨rfl, rfl⟩)
          | (go_at_call 11; refine (KI.pop_no hR2).mono ?_; rintro e w4 ⟨rfl, rfl⟩)
          | (go_at_call 16; refine (KI.list_rg hR2).mono ?_; rintro e w6 ⟨v6, rfl, hR6⟩; clear hR2 hSt)
          | (go_at_call 12; refine (ints_true (l := []) (Rd.own (hR6.sr.own _ List.mem_cons_self)) (Rd.own (hR6.sr.own _ (List.mem_cons_of_mem _ List.mem_cons_self))) HM2.out).mono ?_; rintro e w7 ⟨rfl, n7, rfl⟩; have hR7 := hR6.drewN n7; clear hR6)
          | (go_at_call 9; refine (KI.len_rg (n := ([]).length) hR7 rfl).mono ?_; rintro e w8 ⟨rfl, rfl⟩)
          | (go_at_call 14; refine (KI.room_rg hR7).mono ?_; rintro e w9 ⟨rfl, rfl⟩))
        go_roundg (gk - 1)
        case measure => have := HJ.out; have := HLT.out; omega
        case rel => exact ⟨j + 1, [], by have := HJ.out; have := HLT.out; omega, by go_num, (hR7.subR (List.sublist_cons_self _ _)).sub (List.nil_sublist _), by show 0 ≤ _; omega⟩
      | cons y q2 =>
        have HL : RowKit.Hid (q2.length ≤ 1000) := by show q2.length ≤ 1000; have := HQ2.out; simp only [List.length_cons] at this; omega
        have HM2 : RowKit.Hid (q2.length ≤ 65536) := by show q2.length ≤ 65536; have := HL.out; omega
        go_wp2_with (first
          | (refine store_newG hR rfl rfl 37 _ _ rfl 37 _ #[.int .i64 3, .int .i64 n] rfl rfl (by kernel_rfl) rfl (by simp [Value.oneCell']) ?_; intro w2 hR2 hlt2; generalize wr.heap.size = gb at hR2 hlt2 ⊢; clear hlt2 hR hcell0 hcell1; have hSt := hR2.sr.st; have HC0 := St.cell (L := [(gb, 37, #[.int .i64 3, .int .i64 n])]) (w0 := w) 0 rfl 0 rfl; have HC1 := St.cell (L := [(gb, 37, #[.int .i64 3, .int .i64 n])]) (w0 := w) 0 rfl 1 rfl)
          | (go_at_call 18; refine (rpop_own (hR2.sr.own _ List.mem_cons_self) HL.out).mono ?_; rintro e w3 ⟨v3, rfl, hP⟩; have hR3 := (hR2.call_row hP.below _ (hP.own _ List.mem_cons_self)).subR (List.Sublist.cons_cons _ (List.nil_sublist _)); clear hP hR2 hSt; have hSt := hR3.sr.st; obtain ⟨p3, cp3, rfl, _⟩ := Rs.own (hR3.sr.own _ List.mem_cons_self))
          | (go_at_call 11; refine (KI.pop_rg hR3).mono ?_; rintro e w4 ⟨rfl, hR4⟩; clear hR3 hSt; have hSt := hR4.sr.st)
          | (go_at_call 16; refine (KI.list_rg hR4).mono ?_; rintro e w6 ⟨v6, rfl, hR6⟩; clear hR4 hSt)
          | (go_at_call 12; refine (ints_true (l := q2) (Rd.own (hR6.sr.own _ List.mem_cons_self)) (Rd.own (hR6.sr.own _ (List.mem_cons_of_mem _ List.mem_cons_self))) HM2.out).mono ?_; rintro e w7 ⟨rfl, n7, rfl⟩; have hR7 := hR6.drewN n7; clear hR6)
          | (go_at_call 9; refine (KI.len_rg (n := (q2).length) hR7 rfl).mono ?_; rintro e w8 ⟨rfl, rfl⟩)
          | (go_at_call 14; refine (KI.room_rg hR7).mono ?_; rintro e w9 ⟨rfl, rfl⟩))
        go_roundg (gk - 1)
        case measure => have := HJ.out; have := HLT.out; omega
        case rel => exact ⟨j + 1, q2, by have := HJ.out; have := HLT.out; omega, by go_num, (hR7.subR (List.sublist_cons_self _ _)).sub (List.nil_sublist _), by have := HQ.out; simp only [List.length_cons] at this; omega⟩
    by_cases h4 : kd = 4
    · subst h4
      cases q with
      | nil =>
        have HM2 : RowKit.Hid (([] : List Int).length ≤ 65536) := by show 0 ≤ 65536; omega
        go_wp2_with (first
          | (refine store_newG hR rfl rfl 37 _ _ rfl 37 _ #[.int .i64 4, .int .i64 n] rfl rfl (by kernel_rfl) rfl (by simp [Value.oneCell']) ?_; intro w2 hR2 hlt2; generalize wr.heap.size = gb at hR2 hlt2 ⊢; clear hlt2 hR hcell0 hcell1; have hSt := hR2.sr.st; have HC0 := St.cell (L := [(gb, 37, #[.int .i64 4, .int .i64 n])]) (w0 := w) 0 rfl 0 rfl; have HC1 := St.cell (L := [(gb, 37, #[.int .i64 4, .int .i64 n])]) (w0 := w) 0 rfl 1 rfl)
          | (go_at_call 18; refine (rpop_nil (Rs.own (hR2.sr.own _ List.mem_cons_self))).mono ?_; rintro e w3 ⟨rfl, rfl⟩)
          | (go_at_call 13; refine (KI.peek_no hR2).mono ?_; rintro e w4 ⟨rfl, rfl⟩)
          | (go_at_call 16; refine (KI.list_rg hR2).mono ?_; rintro e w6 ⟨v6, rfl, hR6⟩; clear hR2 hSt)
          | (go_at_call 12; refine (ints_true (l := []) (Rd.own (hR6.sr.own _ List.mem_cons_self)) (Rd.own (hR6.sr.own _ (List.mem_cons_of_mem _ List.mem_cons_self))) HM2.out).mono ?_; rintro e w7 ⟨rfl, n7, rfl⟩; have hR7 := hR6.drewN n7; clear hR6)
          | (go_at_call 9; refine (KI.len_rg (n := ([]).length) hR7 rfl).mono ?_; rintro e w8 ⟨rfl, rfl⟩)
          | (go_at_call 14; refine (KI.room_rg hR7).mono ?_; rintro e w9 ⟨rfl, rfl⟩))
        go_roundg (gk - 1)
        case measure => have := HJ.out; have := HLT.out; omega
        case rel => exact ⟨j + 1, [], by have := HJ.out; have := HLT.out; omega, by go_num, (hR7.subR (List.sublist_cons_self _ _)).sub (List.nil_sublist _), by show 0 ≤ _; omega⟩
      | cons y q2 =>
        have HL : RowKit.Hid (q2.length ≤ 1000) := by show q2.length ≤ 1000; have := HQ2.out; simp only [List.length_cons] at this; omega
        obtain ⟨q3, hq3⟩ : ∃ q3, y :: q2 = q3 := ⟨_, rfl⟩
        have HQ3 := Lib.hid hq3
        have HM2 : RowKit.Hid (q3.length ≤ 65536) := by show q3.length ≤ 65536; have := HL.out; rw [← hq3]; simp only [List.length_cons]; omega
        rw [hq3] at HQ hR ⊢
        clear hq3
        go_wp2_with (first
          | (refine store_newG hR rfl rfl 37 _ _ rfl 37 _ #[.int .i64 4, .int .i64 n] rfl rfl (by kernel_rfl) rfl (by simp [Value.oneCell']) ?_; intro w2 hR2 hlt2; generalize wr.heap.size = gb at hR2 hlt2 ⊢; clear hlt2 hR hcell0 hcell1; have hSt := hR2.sr.st; have HC0 := St.cell (L := [(gb, 37, #[.int .i64 4, .int .i64 n])]) (w0 := w) 0 rfl 0 rfl; have HC1 := St.cell (L := [(gb, 37, #[.int .i64 4, .int .i64 n])]) (w0 := w) 0 rfl 1 rfl)
          | (go_at_call 18; refine (rpop_own (y := y) (l := q2) (by rw [HQ3.out]; exact hR2.sr.own _ List.mem_cons_self) HL.out).mono ?_; rintro e w3 ⟨v3, rfl, hP⟩; have hR3 := hR2.step hP.below; clear hP hR2 hSt; have hSt := hR3.sr.st)
          | (go_at_call 13; refine (KI.peek_rg (y := y) (q := q2) (by rw [HQ3.out]; exact hR3)).mono ?_; rintro e w4 ⟨rfl, hR4⟩; rw [HQ3.out] at hR4; clear hR3 hSt; have hSt := hR4.sr.st)
          | (go_at_call 16; refine (KI.list_rg hR4).mono ?_; rintro e w6 ⟨v6, rfl, hR6⟩; clear hR4 hSt)
          | (go_at_call 12; refine (ints_true (l := q3) (Rd.own (hR6.sr.own _ List.mem_cons_self)) (Rd.own (hR6.sr.own _ (List.mem_cons_of_mem _ List.mem_cons_self))) HM2.out).mono ?_; rintro e w7 ⟨rfl, n7, rfl⟩; have hR7 := hR6.drewN n7; clear hR6)
          | (go_at_call 9; refine (KI.len_rg (n := (q3).length) hR7 rfl).mono ?_; rintro e w8 ⟨rfl, rfl⟩)
          | (go_at_call 14; refine (KI.room_rg hR7).mono ?_; rintro e w9 ⟨rfl, rfl⟩))
        go_roundg (gk - 1)
        case measure => have := HJ.out; have := HLT.out; omega
        case rel => exact ⟨j + 1, q3, by have := HJ.out; have := HLT.out; omega, by go_num, (hR7.subR (List.sublist_cons_self _ _)).sub (List.nil_sublist _), by have := HQ.out; omega⟩
    by_cases h5 : kd = 5
    · subst h5
      obtain ⟨m3, hm3, hmm⟩ := mod3 n
      obtain ⟨by0, hb⟩ : ∃ by0 : Int, 2 + (m3 : Int) = by0 := ⟨_, rfl⟩
      have hb0 : 0 < by0 := by omega
      have hb4 : by0 ≤ 4 := by omega
      have e1 : IntKind.i64.wrap by0 = by0 := IntWalk.i64_in _ (by omega)
      have e2 : IntKind.i64.wrap (m3 : Int) = (m3 : Int) := IntWalk.i64_in _ (by omega)
      have HB0 := Lib.hid hb0
      have HB4 := Lib.hid hb4
      have hle := stay_le by0 q
      obtain ⟨q2, hq2⟩ : ∃ q2, stay by0 q = q2 := ⟨_, rfl⟩
      rw [hq2] at hle
      have HL : RowKit.Hid (q.length ≤ 200) := by show q.length ≤ 200; have := HQ2.out; omega
      have HM2 : RowKit.Hid (q2.length ≤ 65536) := by show q2.length ≤ 65536; have := HQ2.out; omega
      have e3 : IntKind.i64.wrap ((q.length : Int) - (q2.length : Int)) = (q.length : Int) - (q2.length : Int) := IntWalk.i64_in _ (by have := HQ2.out; omega)
      have HLE := Lib.hid hle
      have HQQ := Lib.hid hq2
      clear hb0 hb4 hm3 hq2 hle
      go_wp2_with (first
        | (refine store_newG hR rfl rfl 37 _ _ rfl 37 _ #[.int .i64 5, .int .i64 n] rfl rfl (by kernel_rfl) rfl (by simp [Value.oneCell']) ?_; intro w2 hR2 hlt2; generalize wr.heap.size = gb at hR2 hlt2 ⊢; clear hlt2 hR hcell0 hcell1; have hSt := hR2.sr.st; have HC0 := St.cell (L := [(gb, 37, #[.int .i64 5, .int .i64 n])]) (w0 := w) 0 rfl 0 rfl; have HC1 := St.cell (L := [(gb, 37, #[.int .i64 5, .int .i64 n])]) (w0 := w) 0 rfl 1 rfl)
        | (go_at_call 19; refine (rdrop by0 (Rs.rd (Rs.own (hR2.sr.own _ List.mem_cons_self))) HL.out HB0.out HB4.out).mono ?_; rintro e w3 ⟨v3, rfl, hP⟩; rw [HQQ.out] at hP; have hR3 := (hR2.call_row hP.below _ (hP.own _ List.mem_cons_self)).subR (List.Sublist.cons_cons _ (List.nil_sublist _)); clear hP hR2 hSt; have hSt := hR3.sr.st; obtain ⟨p3, cp3, rfl, _⟩ := Rs.own (hR3.sr.own _ List.mem_cons_self))
        | (go_at_call 20; refine (drop_rg by0 HB0.out HB4.out hR3).mono ?_; rintro e w4 ⟨rfl, hR4⟩; rw [HQQ.out] at hR4 ⊢; clear hR3 hSt; have hSt := hR4.sr.st)
        | (go_at_call 16; refine (KI.list_rg hR4).mono ?_; rintro e w6 ⟨v6, rfl, hR6⟩; clear hR4 hSt)
        | (go_at_call 12; refine (ints_true (l := q2) (Rd.own (hR6.sr.own _ List.mem_cons_self)) (Rd.own (hR6.sr.own _ (List.mem_cons_of_mem _ List.mem_cons_self))) HM2.out).mono ?_; rintro e w7 ⟨rfl, n7, rfl⟩; have hR7 := hR6.drewN n7; clear hR6)
        | (go_at_call 9; refine (KI.len_rg (n := (q2).length) hR7 rfl).mono ?_; rintro e w8 ⟨rfl, rfl⟩)
        | (go_at_call 14; refine (KI.room_rg hR7).mono ?_; rintro e w9 ⟨rfl, rfl⟩))
      go_roundg (gk - 1)
      case measure => have := HJ.out; have := HLT.out; omega
      case rel => exact ⟨j + 1, q2, by have := HJ.out; have := HLT.out; omega, by go_num, (hR7.subR (List.sublist_cons_self _ _)).sub (List.nil_sublist _), by have := HQ.out; have := HLE.out; omega⟩
    by_cases h6 : kd = 6
    · subst h6
      have HM2 : RowKit.Hid (([] : List Int).length ≤ 65536) := by show 0 ≤ 65536; omega
      go_wp2_with (first
        | (refine store_newG hR rfl rfl 37 _ _ rfl 37 _ #[.int .i64 6, .int .i64 n] rfl rfl (by kernel_rfl) rfl (by simp [Value.oneCell']) ?_; intro w2 hR2 hlt2; generalize wr.heap.size = gb at hR2 hlt2 ⊢; clear hlt2 hR hcell0 hcell1; have hSt := hR2.sr.st; have HC0 := St.cell (L := [(gb, 37, #[.int .i64 6, .int .i64 n])]) (w0 := w) 0 rfl 0 rfl; have HC1 := St.cell (L := [(gb, 37, #[.int .i64 6, .int .i64 n])]) (w0 := w) 0 rfl 1 rfl)
        | (go_at_call 15; refine (KI.clear_rg (n := q.length) hR2 rfl).mono ?_; rintro e w4 ⟨rfl, hR4⟩; clear hR2 hSt; have hSt := hR4.sr.st)
        | (go_at_call 16; refine (KI.list_rg ((hR4.subR (List.nil_sublist _)).newRow KI.T 1 0 #[] (by decide) rfl)).mono ?_; rintro e w6 ⟨v6, rfl, hR6⟩; clear hR4 hSt)
        | (go_at_call 12; refine (ints_true (l := []) (Rd.own (hR6.sr.own _ List.mem_cons_self)) (Rd.own (hR6.sr.own _ (List.mem_cons_of_mem _ List.mem_cons_self))) HM2.out).mono ?_; rintro e w7 ⟨rfl, n7, rfl⟩; have hR7 := hR6.drewN n7; clear hR6)
        | (go_at_call 9; refine (KI.len_rg (n := ([]).length) hR7 rfl).mono ?_; rintro e w8 ⟨rfl, rfl⟩)
        | (go_at_call 14; refine (KI.room_rg hR7).mono ?_; rintro e w9 ⟨rfl, rfl⟩))
      go_roundg (gk - 1)
      case measure => have := HJ.out; have := HLT.out; omega
      case rel => exact ⟨j + 1, [], by have := HJ.out; have := HLT.out; omega, by go_num, (hR7.subR (List.sublist_cons_self _ _)).sub (List.nil_sublist _), by show 0 ≤ _; omega⟩
    have b1 : (kd == 1) = false := by simpa using h1
    have b2 : (kd == 2) = false := by simpa using h2
    have b3 : (kd == 3) = false := by simpa using h3
    have b4 : (kd == 4) = false := by simpa using h4
    have b5 : (kd == 5) = false := by simpa using h5
    have b6 : (kd == 6) = false := by simpa using h6
    have HM2 : RowKit.Hid (q.length ≤ 65536) := by show q.length ≤ 65536; have := HQ2.out; omega
    go_wp2_with (first
      | (refine store_newG hR rfl rfl 37 _ _ rfl 37 _ #[.int .i64 kd, .int .i64 n] rfl rfl (by kernel_rfl) rfl (by simp [Value.oneCell']) ?_; intro w2 hR2 hlt2; generalize wr.heap.size = gb at hR2 hlt2 ⊢; clear hlt2 hR hcell0 hcell1; have hSt := hR2.sr.st; have HC0 := St.cell (L := [(gb, 37, #[.int .i64 kd, .int .i64 n])]) (w0 := w) 0 rfl 0 rfl; have HC1 := St.cell (L := [(gb, 37, #[.int .i64 kd, .int .i64 n])]) (w0 := w) 0 rfl 1 rfl)
      | (go_at_call 16; refine (KI.list_rg hR2).mono ?_; rintro e w6 ⟨v6, rfl, hR6⟩; clear hR2 hSt)
      | (go_at_call 12; refine (ints_true (l := q) (Rd.own (hR6.sr.own _ List.mem_cons_self)) (Rd.own (hR6.sr.own _ (List.mem_cons_of_mem _ List.mem_cons_self))) HM2.out).mono ?_; rintro e w7 ⟨rfl, n7, rfl⟩; have hR7 := hR6.drewN n7; clear hR6)
      | (go_at_call 9; refine (KI.len_rg (n := (q).length) hR7 rfl).mono ?_; rintro e w8 ⟨rfl, rfl⟩)
      | (go_at_call 14; refine (KI.room_rg hR7).mono ?_; rintro e w9 ⟨rfl, rfl⟩))
    go_roundg (gk - 1)
    case measure => have := HJ.out; have := HLT.out; omega
    case rel => exact ⟨j + 1, q, by have := HJ.out; have := HLT.out; omega, by go_num, (hR7.subR (List.sublist_cons_self _ _)).sub (List.nil_sublist _), by have := HQ.out; omega⟩
end Go.Proofs.Ytiiejlphomjehaa
