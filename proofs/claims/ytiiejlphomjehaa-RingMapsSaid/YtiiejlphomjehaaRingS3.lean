/- Layer 5, rings of string: Clear, Peek and Pop. No condition. -/
import Derived.Test.YtiiejlphomjehaaRingS2
import Derived.Test.YtiiejlphomjehaaRingMath
import Derived.Deep.RegionWith
namespace Go.Proofs.Ytiiejlphomjehaa
open Go.RowKit
attribute [local go_sem ↓] Go.wp_at_zero Go.wp_at_succ

section
variable {w : World} {gr fr len room : Nat} {v : Value} {q : List ByteArray}
theorem KS.same (h : RingAt KS w gr v fr len room q) (n : Nat) : RPost KS w gr v room q (w.drewN n) := ⟨v, fr, len, h.drewN n, Frame.drewN _ _ _, .inl rfl⟩
theorem KS.clear_any (h : RingAt KS w gr v fr len room q) : Calls Try.prog 36 #[.pointer (some ⟨gr, 0, none⟩)] w fun e w' => e = .returned (.int .i64 (q.length : Int)) ∧ RPost KS w gr v room [] w' := by
  have q0 := KS.c0 h
  have q1 := KS.c1 h
  have q2 := KS.c2 h
  have f0 := h.obj.frozen 0
  have f1 := h.obj.frozen 1
  have f2 := h.obj.frozen 2
  have H := Lib.hid h
  clear h
  by_cases hq : q.length = 0
  · have hq0 : q = [] := List.eq_nil_of_length_eq_zero hq
    have hz : ¬ (0 : Int) < (q.length : Int) := by omega
    have HQ := Lib.hid hq0
    clear hq hq0
    go_enter Try.func36, Try.ntmps36
    go_wp2_with (go_at_call 34; refine (KS.len_any H.out).mono ?_; rintro e w1 ⟨rfl, rfl⟩)
    go_ret
    exact ⟨rfl, by have := KS.same H.out 0; rw [HQ.out] at this; exact this⟩
  · have hz : (0 : Int) < (q.length : Int) := by omega
    have hq1 : ¬ (q.length : Int) = 0 := by omega
    clear hq
    go_enter Try.func36, Try.ntmps36
    go_wp2_with (go_at_call 34; refine (KS.len_any H.out).mono ?_; rintro e w1 ⟨rfl, rfl⟩)
    go_ret
    have hb := ((H.out.obj.set_ 0 (.slice none 0 0)).set_ 1 (.int .i64 0)).set_ 2 (.int .i64 0)
    have hf := ((Frame.setCell w gr 0 (.slice none 0 0) (bad := [gr]) (by simp)).trans (Frame.setCell _ gr 1 (.int .i64 0) (bad := [gr]) (by simp)) (fun _ h => h) (fun _ h _ => h)).trans (Frame.setCell _ gr 2 (.int .i64 0) (bad := [gr]) (by simp)) (fun _ h => h) (fun _ h _ => h)
    exact ⟨rfl, .slice none 0 0, 0, 0, ⟨hb, H.out.room1, H.out.room2, Nat.le_refl _, Nat.zero_le _, .inl ⟨rfl, rfl, rfl⟩⟩, hf.mono (by intro i hi; simp at hi; simp [hi]), .inr fun k hk => by cases hk⟩

theorem KS.peek_nil (h : RingAt KS w gr v fr len room []) : Calls Try.prog 45 #[.pointer (some ⟨gr, 0, none⟩)] w fun e w' => e = .returned (.tuple #[.string ⟨#[]⟩, .bool false]) ∧ w = w' := by
  have H := Lib.hid h
  clear h
  go_enter Try.func45, Try.ntmps45
  go_wp2_with (go_at_call 34; refine (KS.len_any H.out).mono ?_; rintro e w1 ⟨rfl, rfl⟩)
  go_ret2
  exact ⟨rfl, rfl⟩
set_option maxRecDepth 100000 in
theorem KS.peek_cons {y : ByteArray} (h : RingAt KS w gr v fr len room (y :: q)) : Calls Try.prog 45 #[.pointer (some ⟨gr, 0, none⟩)] w fun e w' => e = .returned (.tuple #[.string y, .bool true]) ∧ ∃ n, w' = w.drewN n := by
  have H := Lib.hid h
  have q0 := KS.c0 h
  have q1 := KS.c1 h
  have hlr := h.lenroom
  have hr2 := h.room2
  have hn := h.nlen
  obtain ⟨g, cs, rfl, hne, hb, hcz, hfr, hcs⟩ : ∃ g cs, v = .slice (some ⟨g, 0, none⟩) len len ∧ g ≠ gr ∧ Blk w g 9 cs ∧ cs.size = len * 1 ∧ fr < len ∧ ∀ i x, (y :: q)[i]? = some x → ∀ j, j < 1 → cs[(fr + i) % len * 1 + j]? = (KS.ec x)[j]? := by
    rcases h.cells with ⟨h1, _⟩ | hc
    · simp at hn; omega
    · exact hc
  have q4 : w.cell? ⟨g, fr, none⟩ = some (.string y) := (hb.cell _).trans (by have := hcs 0 y rfl 0 (by show 0 < 1; omega); rw [show (fr + 0) % len = fr from Nat.mod_eq_of_lt (by omega)] at this; exact (congrArg (fun i => cs[i]?) (show fr = fr * 1 + 0 by omega)).trans this)
  have z1 : (0 : Int) ≤ (fr : Int) := by omega
  have z2 : (fr : Int) < (len : Int) := by omega
  have z3 : (len : Int) ≤ 65536 := by omega
  have z4 : (((y :: q).length : Int) == 0) = false := by simp; omega
  clear h hcs hcz hn
  go_enter Try.func45, Try.ntmps45
  go_wp2_with (go_at_call 34; refine (KS.len_any H.out).mono ?_; rintro e w1 ⟨rfl, rfl⟩)
  go_quiet (fail)
  go_wp2
  go_ret2
  exact ⟨rfl, _, rfl⟩
theorem KS.pop_nil (h : RingAt KS w gr v fr len room []) : Calls Try.prog 32 #[.pointer (some ⟨gr, 0, none⟩)] w fun e w' => e = .returned (.tuple #[.string ⟨#[]⟩, .bool false]) ∧ w = w' := by
  have H := Lib.hid h
  clear h
  go_enter Try.func32, Try.ntmps32
  go_wp2_with (go_at_call 45; refine (KS.peek_nil H.out).mono ?_; rintro e w1 ⟨rfl, rfl⟩)
  go_ret2
  exact ⟨rfl, rfl⟩

set_option maxRecDepth 100000 in
set_option maxHeartbeats 4000000 in
theorem KS.pop_cons {y : ByteArray} (h : RingAt KS w gr v fr len room (y :: q)) : Calls Try.prog 32 #[.pointer (some ⟨gr, 0, none⟩)] w fun e w' => e = .returned (.tuple #[.string y, .bool true]) ∧ RPost KS w gr v room q w' := by
  have H := Lib.hid h
  have hlr := h.lenroom
  have hr2 := h.room2
  have hn := h.nlen
  obtain ⟨g, cs, rfl, hne, hb, hcz, hfr, hcs⟩ : ∃ g cs, v = .slice (some ⟨g, 0, none⟩) len len ∧ g ≠ gr ∧ Blk w g 9 cs ∧ cs.size = len * 1 ∧ fr < len ∧ Holds KS cs fr len (y :: q) := by
    rcases h.cells with ⟨h1, _⟩ | hc
    · simp at hn; omega
    · exact hc
  have hobj : Blk w gr 74 #[.slice (some ⟨g, 0, none⟩) len len, .int .i64 (fr : Int), .int .i64 ((q.length : Int) + 1), .int .i64 (room : Int)] := by
    have := h.obj
    rw [show ((y :: q).length : Int) = (q.length : Int) + 1 by simp] at this
    exact this
  have hS := bare_start hobj
  have Q0 := St.cell (L := [(gr, 74, #[.slice (some ⟨g, 0, none⟩) len len, .int .i64 (fr : Int), .int .i64 ((q.length : Int) + 1), .int .i64 (room : Int)])]) (w0 := bareW w) 0 rfl 0 rfl
  have Q1 := St.cell (L := [(gr, 74, #[.slice (some ⟨g, 0, none⟩) len len, .int .i64 (fr : Int), .int .i64 ((q.length : Int) + 1), .int .i64 (room : Int)])]) (w0 := bareW w) 0 rfl 1 rfl
  have q4 : w.cell? ⟨g, fr, none⟩ = some (.string y) := (hb.cell _).trans (by have := hcs 0 y rfl 0 (by show 0 < 1; omega); rw [show (fr + 0) % len = fr from Nat.mod_eq_of_lt (by omega)] at this; exact (congrArg (fun i => cs[i]?) (show fr = fr * 1 + 0 by omega)).trans this)
  have z1 : (0 : Int) ≤ (fr : Int) := by omega
  have z2 : (fr : Int) < (len : Int) := by omega
  have z3 : (len : Int) ≤ 65536 := by omega
  have HB := Lib.hid hb
  have HNE := Lib.hid hne
  have HN := Lib.hid hn
  have HCS := Lib.hid hcs
  have HCZ := Lib.hid hcz
  have HOB := Lib.hid hobj
  have hfz := hb.frozen
  clear h hcs hcz hn hobj hne hb
  go_enter Try.func32, Try.ntmps32
  go_wp2_with (go_at_call 45; refine (KS.peek_cons H.out).mono ?_; rintro e w1 ⟨rfl, n1, rfl⟩)
  have hS0 := (hS.drewN n1).drew
  refine wp_region_held_drew (S := St (bareW w) [(gr, 74, #[.slice (some ⟨g, 0, none⟩) len len, .int .i64 (fr : Int), .int .i64 ((q.length : Int) + 1), .int .i64 (room : Int)])]) (by kernel_rfl) hS0 (fun hHeld => ?_)
  refine wpAnyH_take (i := 0) (oi := { dst := some 13, op := Op.move (Operand.tmp 0), type := 59, pos := "ring.go:76", after := #[], guard := none }) (v := ?_) rfl (by kernel_rfl) (by kernel_rfl) (by kernel_rfl) (fun _ _ _ h => h) (Or.inl ⟨by rfl, ?_⟩) (by assumption) ?_
  rotate_left
  · (intro W hSw; go_simp; first | done | with_reducible rfl)
  try simp only [Act.put, List.setIfInBounds_toArray, List.set_cons_zero, List.set_cons_succ]
  refine wpAnyH_take (i := 1) (oi := { dst := some 14, op := Op.nilCheck (Operand.tmp 13), type := 0, pos := "ring.go:76", after := #[{ on := 0, ground := Ground.data }], guard := none }) (v := ?_) rfl (by kernel_rfl) (by kernel_rfl) (by kernel_rfl) (fun _ _ _ h => h) (Or.inl ⟨by rfl, ?_⟩) (by assumption) ?_
  rotate_left
  · (intro W hSw; go_simp; first | done | with_reducible rfl)
  try simp only [Act.put, List.setIfInBounds_toArray, List.set_cons_zero, List.set_cons_succ]
  refine wpAnyH_take (i := 2) (oi := { dst := some 15, op := Op.fieldAddr 74 (Operand.tmp 14) 0, type := 0, pos := "ring.go:76", after := #[{ on := 1, ground := Ground.data }], guard := none }) (v := ?_) rfl (by kernel_rfl) (by kernel_rfl) (by kernel_rfl) (fun _ _ _ h => h) (Or.inl ⟨by rfl, ?_⟩) (by assumption) ?_
  rotate_left
  · (intro W hSw; go_simp; first | done | with_reducible rfl)
  try simp only [Act.put, List.setIfInBounds_toArray, List.set_cons_zero, List.set_cons_succ]
  refine wpAnyH_take (i := 3) (oi := { dst := some 16, op := Op.load 64 (Operand.tmp 15), type := 64, pos := "ring.go:76", after := #[{ on := 2, ground := Ground.data }], guard := none }) (v := ?_) rfl (by kernel_rfl) (by kernel_rfl) (by kernel_rfl) (fun _ _ _ h => h) (Or.inl ⟨by rfl, ?_⟩) (by assumption) ?_
  rotate_left
  · (intro W hSw; go_simp; first | done | with_reducible rfl)
  try simp only [Act.put, List.setIfInBounds_toArray, List.set_cons_zero, List.set_cons_succ]
  refine wpAnyH_take (i := 4) (oi := { dst := some 17, op := Op.move (Operand.tmp 0), type := 59, pos := "ring.go:76", after := #[], guard := none }) (v := ?_) rfl (by kernel_rfl) (by kernel_rfl) (by kernel_rfl) (fun _ _ _ h => h) (Or.inl ⟨by rfl, ?_⟩) (by assumption) ?_
  rotate_left
  · (intro W hSw; go_simp; first | done | with_reducible rfl)
  try simp only [Act.put, List.setIfInBounds_toArray, List.set_cons_zero, List.set_cons_succ]
  refine wpAnyH_take (i := 5) (oi := { dst := some 18, op := Op.nilCheck (Operand.tmp 17), type := 0, pos := "ring.go:76", after := #[{ on := 4, ground := Ground.data }], guard := none }) (v := ?_) rfl (by kernel_rfl) (by kernel_rfl) (by kernel_rfl) (fun _ _ _ h => h) (Or.inl ⟨by rfl, ?_⟩) (by assumption) ?_
  rotate_left
  · (intro W hSw; go_simp; first | done | with_reducible rfl)
  try simp only [Act.put, List.setIfInBounds_toArray, List.set_cons_zero, List.set_cons_succ]
  refine wpAnyH_take (i := 6) (oi := { dst := some 19, op := Op.fieldAddr 74 (Operand.tmp 18) 1, type := 0, pos := "ring.go:76", after := #[{ on := 5, ground := Ground.data }], guard := none }) (v := ?_) rfl (by kernel_rfl) (by kernel_rfl) (by kernel_rfl) (fun _ _ _ h => h) (Or.inl ⟨by rfl, ?_⟩) (by assumption) ?_
  rotate_left
  · (intro W hSw; go_simp; first | done | with_reducible rfl)
  try simp only [Act.put, List.setIfInBounds_toArray, List.set_cons_zero, List.set_cons_succ]
  refine wpAnyH_take (i := 7) (oi := { dst := some 20, op := Op.load 3 (Operand.tmp 19), type := 3, pos := "ring.go:76", after := #[{ on := 6, ground := Ground.data }], guard := none }) (v := ?_) rfl (by kernel_rfl) (by kernel_rfl) (by kernel_rfl) (fun _ _ _ h => h) (Or.inl ⟨by rfl, ?_⟩) (by assumption) ?_
  rotate_left
  · (intro W hSw; go_simp; first | done | with_reducible rfl)
  try simp only [Act.put, List.setIfInBounds_toArray, List.set_cons_zero, List.set_cons_succ]
  refine wpAnyH_take (i := 8) (oi := { dst := some 21, op := Op.move (Operand.tmp 4), type := 9, pos := "ring.go:76", after := #[], guard := none }) (v := ?_) rfl (by kernel_rfl) (by kernel_rfl) (by kernel_rfl) (fun _ _ _ h => h) (Or.inl ⟨by rfl, ?_⟩) (by assumption) ?_
  rotate_left
  · (intro W hSw; go_simp; first | done | with_reducible rfl)
  try simp only [Act.put, List.setIfInBounds_toArray, List.set_cons_zero, List.set_cons_succ]
  refine wpAnyH_take (i := 9) (oi := { dst := some 22, op := Op.indexAddr 64 (Operand.tmp 16) (Operand.tmp 20), type := 0, pos := "ring.go:76", after := #[{ on := 3, ground := Ground.data }, { on := 7, ground := Ground.data }, { on := 0, ground := Ground.phase }, { on := 1, ground := Ground.phase }, { on := 2, ground := Ground.phase }, { on := 3, ground := Ground.phase }, { on := 4, ground := Ground.phase }, { on := 5, ground := Ground.phase }, { on := 6, ground := Ground.phase }, { on := 7, ground := Ground.phase }, { on := 8, ground := Ground.phase }], guard := none }) (v := ?_) rfl (by kernel_rfl) (by kernel_rfl) (by kernel_rfl) (fun _ _ _ h => h) (Or.inl ⟨by rfl, ?_⟩) (by assumption) ?_
  rotate_left
  · (intro W hSw; go_simp; first | done | with_reducible rfl)
  try simp only [Act.put, List.setIfInBounds_toArray, List.set_cons_zero, List.set_cons_succ]
  refine wpAnyH_ready (rs := [10]) (by kernel_rfl) (by simp) ?_
  refine AllReadyH.cons (o := { dst := none, op := Op.store 9 (Operand.tmp 22) (Operand.tmp 21), type := 0, pos := "ring.go:76", after := #[{ on := 9, ground := Ground.data }, { on := 8, ground := Ground.data }, { on := 0, ground := Ground.phase }, { on := 1, ground := Ground.phase }, { on := 2, ground := Ground.phase }, { on := 3, ground := Ground.phase }, { on := 4, ground := Ground.phase }, { on := 5, ground := Ground.phase }, { on := 6, ground := Ground.phase }, { on := 7, ground := Ground.phase }, { on := 8, ground := Ground.phase }], guard := none }) rfl (fun K hK => ?_) AllReadyH.nil
  go_simp
  have hS8 := St.farCell hHeld (g := g) (by simpa using HNE.out) (Nat.zero_le _) fr (.string ⟨#[]⟩)
  refine hK.out _ _ (by assumption) (fun hHeld => ?_)
  clear hK K
  try simp only [Act.put, List.setIfInBounds_toArray, List.set_cons_zero, List.set_cons_succ]
  refine wpAnyH_done (by kernel_rfl) ?_ _
  go_wp2_with fail
  have hS2 := hHeld
  clear hHeld hS0 hS8
  have q2 : w.cell? ⟨gr, 2, none⟩ = some (.int .i64 ((q.length : Int) + 1)) := HOB.out.cell 2
  have f1 := HOB.out.frozen 1
  have f2 := HOB.out.frozen 2
  have hn1 := HNE.out
  have hn2 := HNE.out.symm
  obtain ⟨ix, hix⟩ : ∃ ix, (fr + 1) % len = ix := ⟨_, rfl⟩
  have e5 : IntKind.i64.wrap (q.length : Int) = (q.length : Int) := IntWalk.i64_in _ (by have := HN.out; simp at this; omega)
  go_region_with (go_at_call 44; refine (KS.at_raw (nn := (q.length : Int) + 1) (g := g) (len := len) (fr := fr) (room := room) (hS2.drew.get 0 rfl) (by omega) hfr (by omega) 1 (by omega) hix).mono ?_; rintro e w9 ⟨rfl, na, rfl⟩)
  all_goals
    go_wp2
    go_ret2
    exact ⟨rfl, RPost.popped H.out HNE.out ((Frame.drewN w (n1 + 1) [g]).trans (Frame.setCell _ g fr _ List.mem_cons_self) (fun _ h => h) (fun _ h _ => h)) ((HB.out.drewN (n1 + 1)).set_ fr (.string ⟨#[]⟩)) (by show _ = putC cs (fr * 1) [.string ⟨#[]⟩]; rw [Nat.mul_one]; rfl) rfl HCZ.out HCS.out hfr hix (1 + na)⟩
end
end Go.Proofs.Ytiiejlphomjehaa
