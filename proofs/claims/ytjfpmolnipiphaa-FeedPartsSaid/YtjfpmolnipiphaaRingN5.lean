/- Layer 5, rings of hoistway/note.Notice: Push. No condition. -/
import Derived.Test.YtjfpmolnipiphaaRingN4
import Derived.Test.YtjfpmolnipiphaaRingW
namespace Go.Proofs.Ytjfpmolnipiphaa
open Go.RowKit
attribute [local go_sem ↓] Go.wp_at_zero Go.wp_at_succ
set_option linter.unusedSimpArgs false

section
variable {w : World} {gr fr len room : Nat} {v : Value} {q : List (Int × (Nat → Int))}
theorem KN.push_full (x : (Int × (Nat → Int))) (h : RingAt KN w gr v fr len room q) (hq : q.length = room) : Calls Try.prog 25 #[.pointer (some ⟨gr, 0, none⟩), .agg #[.int .i64 x.1, .int .i64 (x.2 0), .int .i64 (x.2 1), .int .i64 (x.2 2), .int .i64 (x.2 3), .int .i64 (x.2 4), .int .i64 (x.2 5), .int .i64 (x.2 6), .int .i64 (x.2 7), .int .i64 (x.2 8), .int .i64 (x.2 9), .int .i64 (x.2 10)]] w fun e w' => e = .returned (.bool false) ∧ Below w.heap.size w w' := by
  have hA := h.frame (Frame.alloc w (.cells #[.int .i64 x.1, .int .i64 (x.2 0), .int .i64 (x.2 1), .int .i64 (x.2 2), .int .i64 (x.2 3), .int .i64 (x.2 4), .int .i64 (x.2 5), .int .i64 (x.2 6), .int .i64 (x.2 7), .int .i64 (x.2 8), .int .i64 (x.2 9), .int .i64 (x.2 10)] 42) []) (by simp) (by simp)
  have q2 := KN.c2 hA
  have q3 := KN.c3 hA
  have hB : Below w.heap.size w (w.alloc (.cells #[.int .i64 x.1, .int .i64 (x.2 0), .int .i64 (x.2 1), .int .i64 (x.2 2), .int .i64 (x.2 3), .int .i64 (x.2 4), .int .i64 (x.2 5), .int .i64 (x.2 6), .int .i64 (x.2 7), .int .i64 (x.2 8), .int .i64 (x.2 9), .int .i64 (x.2 10)] 42)) := (Below.refl _ _).alloc (Nat.le_refl _) _
  rw [hq] at q2
  clear h hA hq
  go_enter Try.func25, Try.ntmps25
  go_wp2_with fail
  generalize w.alloc (.cells #[.int .i64 x.1, .int .i64 (x.2 0), .int .i64 (x.2 1), .int .i64 (x.2 2), .int .i64 (x.2 3), .int .i64 (x.2 4), .int .i64 (x.2 5), .int .i64 (x.2 6), .int .i64 (x.2 7), .int .i64 (x.2 8), .int .i64 (x.2 9), .int .i64 (x.2 10)] 42) = wA at q2 q3 hB ⊢
  go_quiet (fail)
  go_wp2
  go_ret
  exact ⟨rfl, hB.os, hB.tape, hB.output, hB.size, hB.block⟩
set_option maxRecDepth 100000 in
set_option maxHeartbeats 4000000 in
theorem KN.push_any (x : (Int × (Nat → Int))) (h : RingAt KN w gr v fr len room q) (hn : q.length < room) : Calls Try.prog 25 #[.pointer (some ⟨gr, 0, none⟩), .agg #[.int .i64 x.1, .int .i64 (x.2 0), .int .i64 (x.2 1), .int .i64 (x.2 2), .int .i64 (x.2 3), .int .i64 (x.2 4), .int .i64 (x.2 5), .int .i64 (x.2 6), .int .i64 (x.2 7), .int .i64 (x.2 8), .int .i64 (x.2 9), .int .i64 (x.2 10)]] w fun e w' => e = .returned (.bool true) ∧ RPost KN w gr v room (q ++ [x]) w' := by
  obtain ⟨p, rfl⟩ : ∃ p, v = .slice p len len := by
    rcases h.cells with ⟨rfl, rfl, _⟩ | ⟨g, cs, rfl, _⟩
    · exact ⟨_, rfl⟩
    · exact ⟨_, rfl⟩
  have hA := h.frame (Frame.alloc w (.cells #[.int .i64 x.1, .int .i64 (x.2 0), .int .i64 (x.2 1), .int .i64 (x.2 2), .int .i64 (x.2 3), .int .i64 (x.2 4), .int .i64 (x.2 5), .int .i64 (x.2 6), .int .i64 (x.2 7), .int .i64 (x.2 8), .int .i64 (x.2 9), .int .i64 (x.2 10)] 42) []) (by simp) (by simp)
  have hFA : Frame w (w.alloc (.cells #[.int .i64 x.1, .int .i64 (x.2 0), .int .i64 (x.2 1), .int .i64 (x.2 2), .int .i64 (x.2 3), .int .i64 (x.2 4), .int .i64 (x.2 5), .int .i64 (x.2 6), .int .i64 (x.2 7), .int .i64 (x.2 8), .int .i64 (x.2 9), .int .i64 (x.2 10)] 42)) [] := Frame.alloc _ _ _
  have hbx : Blk (w.alloc (.cells #[.int .i64 x.1, .int .i64 (x.2 0), .int .i64 (x.2 1), .int .i64 (x.2 2), .int .i64 (x.2 3), .int .i64 (x.2 4), .int .i64 (x.2 5), .int .i64 (x.2 6), .int .i64 (x.2 7), .int .i64 (x.2 8), .int .i64 (x.2 9), .int .i64 (x.2 10)] 42)) w.heap.size 42 #[.int .i64 x.1, .int .i64 (x.2 0), .int .i64 (x.2 1), .int .i64 (x.2 2), .int .i64 (x.2 3), .int .i64 (x.2 4), .int .i64 (x.2 5), .int .i64 (x.2 6), .int .i64 (x.2 7), .int .i64 (x.2 8), .int .i64 (x.2 9), .int .i64 (x.2 10)] := Blk.new _ _ _
  have hlx : w.heap.size < (w.alloc (.cells #[.int .i64 x.1, .int .i64 (x.2 0), .int .i64 (x.2 1), .int .i64 (x.2 2), .int .i64 (x.2 3), .int .i64 (x.2 4), .int .i64 (x.2 5), .int .i64 (x.2 6), .int .i64 (x.2 7), .int .i64 (x.2 8), .int .i64 (x.2 9), .int .i64 (x.2 10)] 42)).heap.size := by simp
  have hrx : gr ≠ w.heap.size := Nat.ne_of_lt h.obj.lt
  have hpx : ∀ g, p = some ⟨g, 0, none⟩ → g ≠ w.heap.size := fun g hg => Nat.ne_of_lt (h.own (k := g) (by rw [hg]; rfl)).2
  have q0 := KN.c0 hA
  have q2 := KN.c2 hA
  have q3 := KN.c3 hA
  have b1 : ((q.length : Int) == (room : Int)) = false := by simp; omega
  by_cases hl : q.length = len
  · have b2 : ((q.length : Int) == (len : Int)) = true := by simp; omega
    have HL := Lib.hid hl
    have HN := Lib.hid hn
    rw [hl] at q2 b1 b2
    clear h hn hl
    go_enter Try.func25, Try.ntmps25
    go_wp2_with fail
    generalize w.alloc (.cells #[.int .i64 x.1, .int .i64 (x.2 0), .int .i64 (x.2 1), .int .i64 (x.2 2), .int .i64 (x.2 3), .int .i64 (x.2 4), .int .i64 (x.2 5), .int .i64 (x.2 6), .int .i64 (x.2 7), .int .i64 (x.2 8), .int .i64 (x.2 9), .int .i64 (x.2 10)] 42) = wA at hA hFA hbx hlx q0 q2 q3 ⊢
    generalize w.heap.size = gx at hbx hlx hrx ⊢
    have H := Lib.hid hA
    have HX := Lib.hid (And.intro hFA hbx)
    have HLX := Lib.hid hlx
    have HRX := Lib.hid hrx
    clear hA hFA hbx hlx hpx hrx
    go_quiet (fail)
    obtain ⟨wB, hqwB⟩ : ∃ W, wA.drewN nq = W := ⟨_, rfl⟩
    rw [hqwB]
    have hq1 := H.out.drewN nq
    have hq2 := HX.out.1.trans (Frame.drewN _ nq []) (fun _ h => h) (fun _ h _ => h)
    have hq3 := HX.out.2.drewN nq
    have hq4 : gx < (wA.drewN nq).heap.size := HLX.out
    rw [hqwB] at hq1 hq2 hq3 hq4
    clear q0 q2 q3 H HX HLX hqwB
    have H := Lib.hid hq1
    have HX := Lib.hid (And.intro hq2 hq3)
    have HLX := Lib.hid hq4
    have q0 := KN.c0 hq1
    have q2 := KN.c2 hq1
    have q3 := KN.c3 hq1
    clear hq1 hq2 hq3 hq4
    go_wp2_with fail
    try rw [HL.out] at q2
    go_quiet (fail)
    obtain ⟨wC, hqwC⟩ : ∃ W, wB.drewN nq = W := ⟨_, rfl⟩
    rw [hqwC]
    have hq1 := H.out.drewN nq
    have hq2 := HX.out.1.trans (Frame.drewN _ nq []) (fun _ h => h) (fun _ h _ => h)
    have hq3 := HX.out.2.drewN nq
    have hq4 : gx < (wB.drewN nq).heap.size := HLX.out
    rw [hqwC] at hq1 hq2 hq3 hq4
    clear q0 q2 q3 H HX HLX hqwC
    have H := Lib.hid hq1
    have HX := Lib.hid (And.intro hq2 hq3)
    have HLX := Lib.hid hq4
    have q0 := KN.c0 hq1
    have q2 := KN.c2 hq1
    have q3 := KN.c3 hq1
    clear hq1 hq2 hq3 hq4
    go_wp2_with (go_at_call 35; refine (KN.grow_any H.out HL.out (by have := HN.out; have := HL.out; omega)).mono ?_; rintro e w2 ⟨rfl, g0, len2, h2, hl2, hf2, hge⟩)
    have hlt2 : q.length < len2 := by have := HL.out; omega
    have HLT := Lib.hid hlt2
    obtain ⟨p2, hp2⟩ : ∃ p2 : Option Addr, some (⟨g0, 0, none⟩ : Addr) = p2 := ⟨_, rfl⟩
    have hge' : wC.heap.size ≤ g0 := hge
    have hown2 : ∀ k, (Value.slice p2 len2 len2).ownBlock = some k → wC.heap.size ≤ k := by
      intro k hk
      rw [← hp2] at hk
      have hk' : g0 = k := by simpa [Value.ownBlock] using hk
      rw [← hk']
      exact hge
    have HGX : RowKit.Hid (∀ g, p2 = some ⟨g, 0, none⟩ → g ≠ gx) := by
      show ∀ g, p2 = some ⟨g, 0, none⟩ → g ≠ gx
      intro g hg
      rw [← hp2] at hg
      injection hg with hg
      injection hg with hg
      have := HLX.out
      omega
    rw [hp2] at h2
    obtain ⟨fr2, h2⟩ : ∃ k, RingAt KN w2 gr (.slice p2 len2 len2) k len2 room q := ⟨0, h2⟩
    have HFA := Lib.hid HX.out.1
    have hbx2 : Blk w2 gx 42 #[.int .i64 x.1, .int .i64 (x.2 0), .int .i64 (x.2 1), .int .i64 (x.2 2), .int .i64 (x.2 3), .int .i64 (x.2 4), .int .i64 (x.2 5), .int .i64 (x.2 6), .int .i64 (x.2 7), .int .i64 (x.2 8), .int .i64 (x.2 9), .int .i64 (x.2 10)] := hf2.blk HX.out.2 (by simpa using HRX.out.symm)
    have HX2 : RowKit.Hid ((Frame w w2 [gr]) ∧ Blk w2 gx 42 #[.int .i64 x.1, .int .i64 (x.2 0), .int .i64 (x.2 1), .int .i64 (x.2 2), .int .i64 (x.2 3), .int .i64 (x.2 4), .int .i64 (x.2 5), .int .i64 (x.2 6), .int .i64 (x.2 7), .int .i64 (x.2 8), .int .i64 (x.2 9), .int .i64 (x.2 10)]) := ⟨HX.out.1.trans hf2 (fun _ h => by cases h) (fun _ h _ => h), hbx2⟩
    have H2 := Lib.hid h2
    have HF2 := Lib.hid hf2
    have HOWN := Lib.hid hown2
    clear q0 q2 q3 b1 b2 h2 hf2 hown2 hge hge' hp2 g0 hl2 hlt2 hbx2 H HX
    obtain ⟨g, cs, rfl, hne, hb, hcz, hfr, hcs⟩ : ∃ g cs, p2 = some ⟨g, 0, none⟩ ∧ g ≠ gr ∧ Blk w2 g 42 cs ∧ cs.size = len2 * 12 ∧ fr2 < len2 ∧ Holds KN cs fr2 len2 q := by
      rcases H2.out.cells with ⟨h1, _⟩ | ⟨g, cs, hv, rest⟩
      · have := HLT.out; omega
      · injection hv with hv
        exact ⟨g, cs, hv, rest⟩
    obtain ⟨ix, hix⟩ : ∃ ix, (fr2 + q.length) % len2 = ix := ⟨_, rfl⟩
    have hixl : ix < len2 := by rw [← hix]; exact Nat.mod_lt _ (by omega)
    have hobj := H2.out.obj
    have hlr := H2.out.lenroom
    have hr2 := H2.out.room2
    have hnl := HLT.out
    have hgx : g ≠ gx := HGX.out _ rfl
    have hgrx : gr ≠ gx := HRX.out
    have hS0 : St (bareW w) [(gr, 73, (#[.slice (some ⟨g, 0, none⟩) len2 len2, .int .i64 (fr2 : Int), .int .i64 (q.length : Int), .int .i64 (room : Int)] : Array Value)), (gx, 42, (#[.int .i64 x.1, .int .i64 (x.2 0), .int .i64 (x.2 1), .int .i64 (x.2 2), .int .i64 (x.2 3), .int .i64 (x.2 4), .int .i64 (x.2 5), .int .i64 (x.2 6), .int .i64 (x.2 7), .int .i64 (x.2 8), .int .i64 (x.2 9), .int .i64 (x.2 10)] : Array Value))] w2.drew := (bare2 (w := w) HX2.out.1.os HX2.out.1.tape HX2.out.1.output hobj HX2.out.2 hgrx).drew
    have Q0 : ∀ W, St (bareW w) [(gr, 73, (#[.slice (some ⟨g, 0, none⟩) len2 len2, .int .i64 (fr2 : Int), .int .i64 (q.length : Int), .int .i64 (room : Int)] : Array Value)), (gx, 42, (#[.int .i64 x.1, .int .i64 (x.2 0), .int .i64 (x.2 1), .int .i64 (x.2 2), .int .i64 (x.2 3), .int .i64 (x.2 4), .int .i64 (x.2 5), .int .i64 (x.2 6), .int .i64 (x.2 7), .int .i64 (x.2 8), .int .i64 (x.2 9), .int .i64 (x.2 10)] : Array Value))] W → W.cell? ⟨gr, 0, none⟩ = some (.slice (some ⟨g, 0, none⟩) len2 len2) := St.cell 0 rfl 0 rfl
    have Q2 : ∀ W, St (bareW w) [(gr, 73, (#[.slice (some ⟨g, 0, none⟩) len2 len2, .int .i64 (fr2 : Int), .int .i64 (q.length : Int), .int .i64 (room : Int)] : Array Value)), (gx, 42, (#[.int .i64 x.1, .int .i64 (x.2 0), .int .i64 (x.2 1), .int .i64 (x.2 2), .int .i64 (x.2 3), .int .i64 (x.2 4), .int .i64 (x.2 5), .int .i64 (x.2 6), .int .i64 (x.2 7), .int .i64 (x.2 8), .int .i64 (x.2 9), .int .i64 (x.2 10)] : Array Value))] W → W.cell? ⟨gr, 2, none⟩ = some (.int .i64 (q.length : Int)) := St.cell 0 rfl 2 rfl
    have F2 : ∀ W, St (bareW w) [(gr, 73, (#[.slice (some ⟨g, 0, none⟩) len2 len2, .int .i64 (fr2 : Int), .int .i64 (q.length : Int), .int .i64 (room : Int)] : Array Value)), (gx, 42, (#[.int .i64 x.1, .int .i64 (x.2 0), .int .i64 (x.2 1), .int .i64 (x.2 2), .int .i64 (x.2 3), .int .i64 (x.2 4), .int .i64 (x.2 5), .int .i64 (x.2 6), .int .i64 (x.2 7), .int .i64 (x.2 8), .int .i64 (x.2 9), .int .i64 (x.2 10)] : Array Value))] W → W.frozen? ⟨gr, 2, none⟩ = false := St.froz 0 rfl 2
    have z1 : (0 : Int) ≤ (ix : Int) := by omega
    have z2 : (ix : Int) < (len2 : Int) := by omega
    have z3 : (len2 : Int) ≤ 65536 := by omega
    have e5 : IntKind.i64.wrap ((q.length : Int) + 1) = (q.length : Int) + 1 := IntWalk.i64_in _ (by omega)
    have hn1 := hne
    have hn2 := hne.symm
    have HF := Lib.hid hfr
    have HI := Lib.hid hix
    have HCZ := Lib.hid hcz
    have HCS := Lib.hid hcs
    have HB := Lib.hid hb
    have h0l : 0 < len2 := by omega
    have h6l : len2 ≤ 65536 := by omega
    have h6n : q.length ≤ 65536 := by omega
    clear hcz hcs hb hobj hfr hix
    refine wp_region_held_drew (S := St (bareW w) [(gr, 73, (#[.slice (some ⟨g, 0, none⟩) len2 len2, .int .i64 (fr2 : Int), .int .i64 (q.length : Int), .int .i64 (room : Int)] : Array Value)), (gx, 42, (#[.int .i64 x.1, .int .i64 (x.2 0), .int .i64 (x.2 1), .int .i64 (x.2 2), .int .i64 (x.2 3), .int .i64 (x.2 4), .int .i64 (x.2 5), .int .i64 (x.2 6), .int .i64 (x.2 7), .int .i64 (x.2 8), .int .i64 (x.2 9), .int .i64 (x.2 10)] : Array Value))]) (by kernel_rfl) hS0 (fun hHeld => ?_)
    refine wpAnyH_take (i := 0) (oi := { dst := some 30, op := Op.move (Operand.tmp 0), type := 54, pos := "ring.go:57", after := #[], guard := none }) (v := ?_) rfl (by kernel_rfl) (by kernel_rfl) (by kernel_rfl) (fun _ _ _ h => h) (Or.inl ⟨by rfl, ?_⟩) (by assumption) ?_
    rotate_left
    · (intro W hSw; go_simp; first | done | with_reducible rfl)
    try simp only [Act.put, List.setIfInBounds_toArray, List.set_cons_zero, List.set_cons_succ]
    refine wpAnyH_take (i := 1) (oi := { dst := some 31, op := Op.nilCheck (Operand.tmp 30), type := 0, pos := "ring.go:57", after := #[{ on := 0, ground := Ground.data }], guard := none }) (v := ?_) rfl (by kernel_rfl) (by kernel_rfl) (by kernel_rfl) (fun _ _ _ h => h) (Or.inl ⟨by rfl, ?_⟩) (by assumption) ?_
    rotate_left
    · (intro W hSw; go_simp; first | done | with_reducible rfl)
    try simp only [Act.put, List.setIfInBounds_toArray, List.set_cons_zero, List.set_cons_succ]
    refine wpAnyH_take (i := 2) (oi := { dst := some 32, op := Op.fieldAddr 73 (Operand.tmp 31) 0, type := 0, pos := "ring.go:57", after := #[{ on := 1, ground := Ground.data }], guard := none }) (v := ?_) rfl (by kernel_rfl) (by kernel_rfl) (by kernel_rfl) (fun _ _ _ h => h) (Or.inl ⟨by rfl, ?_⟩) (by assumption) ?_
    rotate_left
    · (intro W hSw; go_simp; first | done | with_reducible rfl)
    try simp only [Act.put, List.setIfInBounds_toArray, List.set_cons_zero, List.set_cons_succ]
    refine wpAnyH_take (i := 3) (oi := { dst := some 33, op := Op.load 33 (Operand.tmp 32), type := 33, pos := "ring.go:57", after := #[{ on := 2, ground := Ground.data }], guard := none }) (v := ?_) rfl (by kernel_rfl) (by kernel_rfl) (by kernel_rfl) (fun _ _ _ h => h) (Or.inl ⟨by rfl, ?_⟩) (by assumption) ?_
    rotate_left
    · (intro W hSw; go_simp; first | done | with_reducible rfl)
    try simp only [Act.put, List.setIfInBounds_toArray, List.set_cons_zero, List.set_cons_succ]
    refine wpAnyH_take (i := 4) (oi := { dst := some 34, op := Op.move (Operand.tmp 0), type := 54, pos := "ring.go:57", after := #[], guard := none }) (v := ?_) rfl (by kernel_rfl) (by kernel_rfl) (by kernel_rfl) (fun _ _ _ h => h) (Or.inl ⟨by rfl, ?_⟩) (by assumption) ?_
    rotate_left
    · (intro W hSw; go_simp; first | done | with_reducible rfl)
    try simp only [Act.put, List.setIfInBounds_toArray, List.set_cons_zero, List.set_cons_succ]
    refine wpAnyH_take (i := 5) (oi := { dst := some 35, op := Op.move (Operand.tmp 0), type := 54, pos := "ring.go:57", after := #[], guard := none }) (v := ?_) rfl (by kernel_rfl) (by kernel_rfl) (by kernel_rfl) (fun _ _ _ h => h) (Or.inl ⟨by rfl, ?_⟩) (by assumption) ?_
    rotate_left
    · (intro W hSw; go_simp; first | done | with_reducible rfl)
    try simp only [Act.put, List.setIfInBounds_toArray, List.set_cons_zero, List.set_cons_succ]
    refine wpAnyH_take (i := 6) (oi := { dst := some 36, op := Op.nilCheck (Operand.tmp 35), type := 0, pos := "ring.go:57", after := #[{ on := 5, ground := Ground.data }], guard := none }) (v := ?_) rfl (by kernel_rfl) (by kernel_rfl) (by kernel_rfl) (fun _ _ _ h => h) (Or.inl ⟨by rfl, ?_⟩) (by assumption) ?_
    rotate_left
    · (intro W hSw; go_simp; first | done | with_reducible rfl)
    try simp only [Act.put, List.setIfInBounds_toArray, List.set_cons_zero, List.set_cons_succ]
    refine wpAnyH_take (i := 7) (oi := { dst := some 37, op := Op.fieldAddr 73 (Operand.tmp 36) 2, type := 0, pos := "ring.go:57", after := #[{ on := 6, ground := Ground.data }], guard := none }) (v := ?_) rfl (by kernel_rfl) (by kernel_rfl) (by kernel_rfl) (fun _ _ _ h => h) (Or.inl ⟨by rfl, ?_⟩) (by assumption) ?_
    rotate_left
    · (intro W hSw; go_simp; first | done | with_reducible rfl)
    try simp only [Act.put, List.setIfInBounds_toArray, List.set_cons_zero, List.set_cons_succ]
    refine wpAnyH_take (i := 8) (oi := { dst := some 38, op := Op.load 3 (Operand.tmp 37), type := 3, pos := "ring.go:57", after := #[{ on := 7, ground := Ground.data }], guard := none }) (v := ?_) rfl (by kernel_rfl) (by kernel_rfl) (by kernel_rfl) (fun _ _ _ h => h) (Or.inl ⟨by rfl, ?_⟩) (by assumption) ?_
    rotate_left
    · (intro W hSw; go_simp; first | done | with_reducible rfl)
    try simp only [Act.put, List.setIfInBounds_toArray, List.set_cons_zero, List.set_cons_succ]
    refine wpAnyH_take (i := 10) (oi := { dst := some 40, op := Op.load 42 (Operand.tmp 3), type := 42, pos := "ring.go:57", after := #[], guard := none }) (v := _) rfl (by kernel_rfl) (by kernel_rfl) (by kernel_rfl) (fun _ _ _ h => h) (yieldsIf_load_mid (by rfl) 42 _ (by rfl) gx 0 (by rfl) (#[.int .i64 x.1, .int .i64 (x.2 0), .int .i64 (x.2 1), .int .i64 (x.2 2), .int .i64 (x.2 3), .int .i64 (x.2 4), .int .i64 (x.2 5), .int .i64 (x.2 6), .int .i64 (x.2 7), .int .i64 (x.2 8), .int .i64 (x.2 9), .int .i64 (x.2 10)] : Array Value).toList _ (fun W hW => range_blk (hW.get 1 rfl) 0 _ (fun j v hv => by rw [Nat.zero_add, ← Array.getElem?_toList]; exact hv)) Try.underlying42 rfl (by kernel_rfl)) (by assumption) ?_
    try simp only [Act.put, List.setIfInBounds_toArray, List.set_cons_zero, List.set_cons_succ]
    refine wpAnyH_ready (rs := [9]) (by kernel_rfl) (by simp) ?_
    refine AllReadyH.cons (o := { dst := some 39, op := Op.call { callee := Callee.value (Operand.func 34), args := #[Operand.tmp 34, Operand.tmp 38], argTypes := #[54, 3] }, type := 3, pos := "ring.go:57", after := #[{ on := 4, ground := Ground.data }, { on := 8, ground := Ground.data }], guard := none }) rfl (fun K hK => ?_) AllReadyH.nil
    go_simp
    refine (KN.at_raw (nn := (q.length : Int)) (g := g) (len := len2) (fr := fr2) (room := room) (hHeld.get 0 rfl) h0l HF.out h6l q.length h6n HI.out).mono ?_; rintro e w9 ⟨rfl, na, rfl⟩; have hS9 := St.drewN hHeld na
    refine hK.out _ _ (by assumption) (fun hHeld => ?_)
    clear hK K
    try simp only [Act.put, List.setIfInBounds_toArray, List.set_cons_zero, List.set_cons_succ]
    refine wpAnyH_take (i := 11) (oi := { dst := some 41, op := Op.indexAddr 33 (Operand.tmp 33) (Operand.tmp 39), type := 0, pos := "ring.go:57", after := #[{ on := 3, ground := Ground.data }, { on := 9, ground := Ground.data }, { on := 0, ground := Ground.phase }, { on := 1, ground := Ground.phase }, { on := 2, ground := Ground.phase }, { on := 3, ground := Ground.phase }, { on := 4, ground := Ground.phase }, { on := 5, ground := Ground.phase }, { on := 6, ground := Ground.phase }, { on := 7, ground := Ground.phase }, { on := 8, ground := Ground.phase }, { on := 9, ground := Ground.phase }, { on := 10, ground := Ground.phase }], guard := none }) (v := ?_) rfl (by kernel_rfl) (by kernel_rfl) (by kernel_rfl) (fun _ _ _ h => h) (Or.inl ⟨by rfl, ?_⟩) (by assumption) ?_
    rotate_left
    · (intro W hSw; go_simp; first | done | with_reducible rfl)
    try simp only [Act.put, List.setIfInBounds_toArray, List.set_cons_zero, List.set_cons_succ]
    refine wpAnyH_ready (rs := [12]) (by kernel_rfl) (by simp) ?_
    refine AllReadyH.cons (o := { dst := none, op := Op.store 42 (Operand.tmp 41) (Operand.tmp 40), type := 0, pos := "ring.go:57", after := #[{ on := 11, ground := Ground.data }, { on := 10, ground := Ground.data }, { on := 9, ground := Ground.chain }, { on := 0, ground := Ground.phase }, { on := 1, ground := Ground.phase }, { on := 2, ground := Ground.phase }, { on := 3, ground := Ground.phase }, { on := 4, ground := Ground.phase }, { on := 5, ground := Ground.phase }, { on := 6, ground := Ground.phase }, { on := 7, ground := Ground.phase }, { on := 8, ground := Ground.phase }, { on := 9, ground := Ground.phase }, { on := 10, ground := Ground.phase }], guard := none }) rfl (fun K hK => ?_) AllReadyH.nil
    refine step_store_mid (by rfl) 42 _ _ (by rfl) g (ix * 12) #[.int .i64 x.1, .int .i64 (x.2 0), .int .i64 (x.2 1), .int .i64 (x.2 2), .int .i64 (x.2 3), .int .i64 (x.2 4), .int .i64 (x.2 5), .int .i64 (x.2 6), .int .i64 (x.2 7), .int .i64 (x.2 8), .int .i64 (x.2 9), .int .i64 (x.2 10)] (by rfl) (by rfl) (there_blk ((HB.out.drew).drewN na) (by show ix * 12 + 12 ≤ cs.size; have := HCZ.out; rw [this]; have : (ix + 1) * 12 ≤ len2 * 12 := Nat.mul_le_mul_right _ hixl; omega)) (by kernel_rfl) (by simp [Value.oneCell']) ?_; have hS8 := hS9.setCellsFar (g := g) (by simp [hn1, hgx]) (Nat.zero_le _) (ix * 12) (#[.int .i64 x.1, .int .i64 (x.2 0), .int .i64 (x.2 1), .int .i64 (x.2 2), .int .i64 (x.2 3), .int .i64 (x.2 4), .int .i64 (x.2 5), .int .i64 (x.2 6), .int .i64 (x.2 7), .int .i64 (x.2 8), .int .i64 (x.2 9), .int .i64 (x.2 10)] : Array Value).toList
    refine hK.out _ _ (by assumption) (fun hHeld => ?_)
    clear hK K
    try simp only [Act.put, List.setIfInBounds_toArray, List.set_cons_zero, List.set_cons_succ]
    refine wpAnyH_done (by kernel_rfl) ?_ _
    obtain ⟨W3, hW3⟩ : ∃ W3, ((w2.drew).drewN na).setCells g (ix * 12) (#[.int .i64 x.1, .int .i64 (x.2 0), .int .i64 (x.2 1), .int .i64 (x.2 2), .int .i64 (x.2 3), .int .i64 (x.2 4), .int .i64 (x.2 5), .int .i64 (x.2 6), .int .i64 (x.2 7), .int .i64 (x.2 8), .int .i64 (x.2 9), .int .i64 (x.2 10)] : Array Value).toList = W3 := ⟨_, rfl⟩
    have hf3 : Frame w2 W3 [g] := by rw [← hW3]; exact ((Frame.drewN w2 1 [g]).trans (Frame.drewN _ na [g]) (fun _ h => h) (fun _ h _ => h)).trans (Frame.setCells _ g (ix * 12) (#[.int .i64 x.1, .int .i64 (x.2 0), .int .i64 (x.2 1), .int .i64 (x.2 2), .int .i64 (x.2 3), .int .i64 (x.2 4), .int .i64 (x.2 5), .int .i64 (x.2 6), .int .i64 (x.2 7), .int .i64 (x.2 8), .int .i64 (x.2 9), .int .i64 (x.2 10)] : Array Value).toList List.mem_cons_self) (fun _ h => h) (fun _ h _ => h)
    have hb3 : Blk W3 g 42 (putC cs (ix * 12) (#[.int .i64 x.1, .int .i64 (x.2 0), .int .i64 (x.2 1), .int .i64 (x.2 2), .int .i64 (x.2 3), .int .i64 (x.2 4), .int .i64 (x.2 5), .int .i64 (x.2 6), .int .i64 (x.2 7), .int .i64 (x.2 8), .int .i64 (x.2 9), .int .i64 (x.2 10)] : Array Value).toList) := by rw [← hW3]; exact setCells_blk (#[.int .i64 x.1, .int .i64 (x.2 0), .int .i64 (x.2 1), .int .i64 (x.2 2), .int .i64 (x.2 3), .int .i64 (x.2 4), .int .i64 (x.2 5), .int .i64 (x.2 6), .int .i64 (x.2 7), .int .i64 (x.2 8), .int .i64 (x.2 9), .int .i64 (x.2 10)] : Array Value).toList (ix * 12) (HB.out.drew.drewN na)
    first | rw [hW3] at hS8 ⊢ | (simp only [List.toList_toArray] at hW3; rw [hW3] at hS8 ⊢)
    have c2 := Q2 W3 hS8
    have f2 := F2 W3 hS8
    clear hS8 hS9 hS0 Q0 Q2 F2 hW3
    go_wp2
    go_ret
    have hP := RPost.pushed x H2.out hn1 hf3 hb3 (by rw [HI.out]; rfl) HCZ.out HCS.out HF.out HLT.out 0
    exact ⟨rfl, RPost.after0 HFA.out (RPost.after (n := 0) HF2.out HOWN.out hP)⟩
  · have b2 : ((q.length : Int) == (len : Int)) = false := by simp; omega
    have hlt : q.length < len := by have := h.nlen; omega
    have HLT := Lib.hid hlt
    have HN := Lib.hid hn
    clear h hn hl hlt
    go_enter Try.func25, Try.ntmps25
    go_wp2_with fail
    generalize w.alloc (.cells #[.int .i64 x.1, .int .i64 (x.2 0), .int .i64 (x.2 1), .int .i64 (x.2 2), .int .i64 (x.2 3), .int .i64 (x.2 4), .int .i64 (x.2 5), .int .i64 (x.2 6), .int .i64 (x.2 7), .int .i64 (x.2 8), .int .i64 (x.2 9), .int .i64 (x.2 10)] 42) = wA at hA hFA hbx hlx q0 q2 q3 ⊢
    generalize w.heap.size = gx at hbx hlx hrx hpx ⊢
    have H := Lib.hid hA
    have HX := Lib.hid (And.intro hFA hbx)
    have HLX := Lib.hid hlx
    have HRX := Lib.hid hrx
    have HGX := Lib.hid hpx
    clear hA hFA hbx hlx hpx hrx
    go_quiet (fail)
    obtain ⟨wB, hqwB⟩ : ∃ W, wA.drewN nq = W := ⟨_, rfl⟩
    rw [hqwB]
    have hq1 := H.out.drewN nq
    have hq2 := HX.out.1.trans (Frame.drewN _ nq []) (fun _ h => h) (fun _ h _ => h)
    have hq3 := HX.out.2.drewN nq
    have hq4 : gx < (wA.drewN nq).heap.size := HLX.out
    rw [hqwB] at hq1 hq2 hq3 hq4
    clear q0 q2 q3 H HX HLX hqwB
    have H := Lib.hid hq1
    have HX := Lib.hid (And.intro hq2 hq3)
    have HLX := Lib.hid hq4
    have q0 := KN.c0 hq1
    have q2 := KN.c2 hq1
    have q3 := KN.c3 hq1
    clear hq1 hq2 hq3 hq4
    go_wp2_with fail
    go_quiet (fail)
    obtain ⟨wC, hqwC⟩ : ∃ W, wB.drewN nq = W := ⟨_, rfl⟩
    rw [hqwC]
    have hq1 := H.out.drewN nq
    have hq2 := HX.out.1.trans (Frame.drewN _ nq []) (fun _ h => h) (fun _ h _ => h)
    have hq3 := HX.out.2.drewN nq
    have hq4 : gx < (wB.drewN nq).heap.size := HLX.out
    rw [hqwC] at hq1 hq2 hq3 hq4
    clear q0 q2 q3 H HX HLX hqwC
    have H := Lib.hid hq1
    have HX := Lib.hid (And.intro hq2 hq3)
    have HLX := Lib.hid hq4
    have q0 := KN.c0 hq1
    have q2 := KN.c2 hq1
    have q3 := KN.c3 hq1
    clear hq1 hq2 hq3 hq4
    go_wp2_with fail
    have HFA := Lib.hid HX.out.1
    clear q0 q2 q3
    obtain ⟨g, cs, rfl, hne, hb, hcz, hfr, hcs⟩ : ∃ g cs, p = some ⟨g, 0, none⟩ ∧ g ≠ gr ∧ Blk wC g 42 cs ∧ cs.size = len * 12 ∧ fr < len ∧ Holds KN cs fr len q := by
      rcases H.out.cells with ⟨h1, _⟩ | ⟨g, cs, hv, rest⟩
      · have := HLT.out; omega
      · injection hv with hv
        exact ⟨g, cs, hv, rest⟩
    obtain ⟨ix, hix⟩ : ∃ ix, (fr + q.length) % len = ix := ⟨_, rfl⟩
    have hixl : ix < len := by rw [← hix]; exact Nat.mod_lt _ (by omega)
    have hobj := H.out.obj
    have hlr := H.out.lenroom
    have hr2 := H.out.room2
    have hnl := HLT.out
    have hgx : g ≠ gx := HGX.out _ rfl
    have hgrx : gr ≠ gx := HRX.out
    have hS0 : St (bareW w) [(gr, 73, (#[.slice (some ⟨g, 0, none⟩) len len, .int .i64 (fr : Int), .int .i64 (q.length : Int), .int .i64 (room : Int)] : Array Value)), (gx, 42, (#[.int .i64 x.1, .int .i64 (x.2 0), .int .i64 (x.2 1), .int .i64 (x.2 2), .int .i64 (x.2 3), .int .i64 (x.2 4), .int .i64 (x.2 5), .int .i64 (x.2 6), .int .i64 (x.2 7), .int .i64 (x.2 8), .int .i64 (x.2 9), .int .i64 (x.2 10)] : Array Value))] wC.drew := (bare2 (w := w) HX.out.1.os HX.out.1.tape HX.out.1.output hobj HX.out.2 hgrx).drew
    have Q0 : ∀ W, St (bareW w) [(gr, 73, (#[.slice (some ⟨g, 0, none⟩) len len, .int .i64 (fr : Int), .int .i64 (q.length : Int), .int .i64 (room : Int)] : Array Value)), (gx, 42, (#[.int .i64 x.1, .int .i64 (x.2 0), .int .i64 (x.2 1), .int .i64 (x.2 2), .int .i64 (x.2 3), .int .i64 (x.2 4), .int .i64 (x.2 5), .int .i64 (x.2 6), .int .i64 (x.2 7), .int .i64 (x.2 8), .int .i64 (x.2 9), .int .i64 (x.2 10)] : Array Value))] W → W.cell? ⟨gr, 0, none⟩ = some (.slice (some ⟨g, 0, none⟩) len len) := St.cell 0 rfl 0 rfl
    have Q2 : ∀ W, St (bareW w) [(gr, 73, (#[.slice (some ⟨g, 0, none⟩) len len, .int .i64 (fr : Int), .int .i64 (q.length : Int), .int .i64 (room : Int)] : Array Value)), (gx, 42, (#[.int .i64 x.1, .int .i64 (x.2 0), .int .i64 (x.2 1), .int .i64 (x.2 2), .int .i64 (x.2 3), .int .i64 (x.2 4), .int .i64 (x.2 5), .int .i64 (x.2 6), .int .i64 (x.2 7), .int .i64 (x.2 8), .int .i64 (x.2 9), .int .i64 (x.2 10)] : Array Value))] W → W.cell? ⟨gr, 2, none⟩ = some (.int .i64 (q.length : Int)) := St.cell 0 rfl 2 rfl
    have F2 : ∀ W, St (bareW w) [(gr, 73, (#[.slice (some ⟨g, 0, none⟩) len len, .int .i64 (fr : Int), .int .i64 (q.length : Int), .int .i64 (room : Int)] : Array Value)), (gx, 42, (#[.int .i64 x.1, .int .i64 (x.2 0), .int .i64 (x.2 1), .int .i64 (x.2 2), .int .i64 (x.2 3), .int .i64 (x.2 4), .int .i64 (x.2 5), .int .i64 (x.2 6), .int .i64 (x.2 7), .int .i64 (x.2 8), .int .i64 (x.2 9), .int .i64 (x.2 10)] : Array Value))] W → W.frozen? ⟨gr, 2, none⟩ = false := St.froz 0 rfl 2
    have z1 : (0 : Int) ≤ (ix : Int) := by omega
    have z2 : (ix : Int) < (len : Int) := by omega
    have z3 : (len : Int) ≤ 65536 := by omega
    have e5 : IntKind.i64.wrap ((q.length : Int) + 1) = (q.length : Int) + 1 := IntWalk.i64_in _ (by omega)
    have hn1 := hne
    have hn2 := hne.symm
    have HF := Lib.hid hfr
    have HI := Lib.hid hix
    have HCZ := Lib.hid hcz
    have HCS := Lib.hid hcs
    have HB := Lib.hid hb
    have h0l : 0 < len := by omega
    have h6l : len ≤ 65536 := by omega
    have h6n : q.length ≤ 65536 := by omega
    clear hcz hcs hb hobj hfr hix
    refine wp_region_held_drew (S := St (bareW w) [(gr, 73, (#[.slice (some ⟨g, 0, none⟩) len len, .int .i64 (fr : Int), .int .i64 (q.length : Int), .int .i64 (room : Int)] : Array Value)), (gx, 42, (#[.int .i64 x.1, .int .i64 (x.2 0), .int .i64 (x.2 1), .int .i64 (x.2 2), .int .i64 (x.2 3), .int .i64 (x.2 4), .int .i64 (x.2 5), .int .i64 (x.2 6), .int .i64 (x.2 7), .int .i64 (x.2 8), .int .i64 (x.2 9), .int .i64 (x.2 10)] : Array Value))]) (by kernel_rfl) hS0 (fun hHeld => ?_)
    refine wpAnyH_take (i := 0) (oi := { dst := some 30, op := Op.move (Operand.tmp 0), type := 54, pos := "ring.go:57", after := #[], guard := none }) (v := ?_) rfl (by kernel_rfl) (by kernel_rfl) (by kernel_rfl) (fun _ _ _ h => h) (Or.inl ⟨by rfl, ?_⟩) (by assumption) ?_
    rotate_left
    · (intro W hSw; go_simp; first | done | with_reducible rfl)
    try simp only [Act.put, List.setIfInBounds_toArray, List.set_cons_zero, List.set_cons_succ]
    refine wpAnyH_take (i := 1) (oi := { dst := some 31, op := Op.nilCheck (Operand.tmp 30), type := 0, pos := "ring.go:57", after := #[{ on := 0, ground := Ground.data }], guard := none }) (v := ?_) rfl (by kernel_rfl) (by kernel_rfl) (by kernel_rfl) (fun _ _ _ h => h) (Or.inl ⟨by rfl, ?_⟩) (by assumption) ?_
    rotate_left
    · (intro W hSw; go_simp; first | done | with_reducible rfl)
    try simp only [Act.put, List.setIfInBounds_toArray, List.set_cons_zero, List.set_cons_succ]
    refine wpAnyH_take (i := 2) (oi := { dst := some 32, op := Op.fieldAddr 73 (Operand.tmp 31) 0, type := 0, pos := "ring.go:57", after := #[{ on := 1, ground := Ground.data }], guard := none }) (v := ?_) rfl (by kernel_rfl) (by kernel_rfl) (by kernel_rfl) (fun _ _ _ h => h) (Or.inl ⟨by rfl, ?_⟩) (by assumption) ?_
    rotate_left
    · (intro W hSw; go_simp; first | done | with_reducible rfl)
    try simp only [Act.put, List.setIfInBounds_toArray, List.set_cons_zero, List.set_cons_succ]
    refine wpAnyH_take (i := 3) (oi := { dst := some 33, op := Op.load 33 (Operand.tmp 32), type := 33, pos := "ring.go:57", after := #[{ on := 2, ground := Ground.data }], guard := none }) (v := ?_) rfl (by kernel_rfl) (by kernel_rfl) (by kernel_rfl) (fun _ _ _ h => h) (Or.inl ⟨by rfl, ?_⟩) (by assumption) ?_
    rotate_left
    · (intro W hSw; go_simp; first | done | with_reducible rfl)
    try simp only [Act.put, List.setIfInBounds_toArray, List.set_cons_zero, List.set_cons_succ]
    refine wpAnyH_take (i := 4) (oi := { dst := some 34, op := Op.move (Operand.tmp 0), type := 54, pos := "ring.go:57", after := #[], guard := none }) (v := ?_) rfl (by kernel_rfl) (by kernel_rfl) (by kernel_rfl) (fun _ _ _ h => h) (Or.inl ⟨by rfl, ?_⟩) (by assumption) ?_
    rotate_left
    · (intro W hSw; go_simp; first | done | with_reducible rfl)
    try simp only [Act.put, List.setIfInBounds_toArray, List.set_cons_zero, List.set_cons_succ]
    refine wpAnyH_take (i := 5) (oi := { dst := some 35, op := Op.move (Operand.tmp 0), type := 54, pos := "ring.go:57", after := #[], guard := none }) (v := ?_) rfl (by kernel_rfl) (by kernel_rfl) (by kernel_rfl) (fun _ _ _ h => h) (Or.inl ⟨by rfl, ?_⟩) (by assumption) ?_
    rotate_left
    · (intro W hSw; go_simp; first | done | with_reducible rfl)
    try simp only [Act.put, List.setIfInBounds_toArray, List.set_cons_zero, List.set_cons_succ]
    refine wpAnyH_take (i := 6) (oi := { dst := some 36, op := Op.nilCheck (Operand.tmp 35), type := 0, pos := "ring.go:57", after := #[{ on := 5, ground := Ground.data }], guard := none }) (v := ?_) rfl (by kernel_rfl) (by kernel_rfl) (by kernel_rfl) (fun _ _ _ h => h) (Or.inl ⟨by rfl, ?_⟩) (by assumption) ?_
    rotate_left
    · (intro W hSw; go_simp; first | done | with_reducible rfl)
    try simp only [Act.put, List.setIfInBounds_toArray, List.set_cons_zero, List.set_cons_succ]
    refine wpAnyH_take (i := 7) (oi := { dst := some 37, op := Op.fieldAddr 73 (Operand.tmp 36) 2, type := 0, pos := "ring.go:57", after := #[{ on := 6, ground := Ground.data }], guard := none }) (v := ?_) rfl (by kernel_rfl) (by kernel_rfl) (by kernel_rfl) (fun _ _ _ h => h) (Or.inl ⟨by rfl, ?_⟩) (by assumption) ?_
    rotate_left
    · (intro W hSw; go_simp; first | done | with_reducible rfl)
    try simp only [Act.put, List.setIfInBounds_toArray, List.set_cons_zero, List.set_cons_succ]
    refine wpAnyH_take (i := 8) (oi := { dst := some 38, op := Op.load 3 (Operand.tmp 37), type := 3, pos := "ring.go:57", after := #[{ on := 7, ground := Ground.data }], guard := none }) (v := ?_) rfl (by kernel_rfl) (by kernel_rfl) (by kernel_rfl) (fun _ _ _ h => h) (Or.inl ⟨by rfl, ?_⟩) (by assumption) ?_
    rotate_left
    · (intro W hSw; go_simp; first | done | with_reducible rfl)
    try simp only [Act.put, List.setIfInBounds_toArray, List.set_cons_zero, List.set_cons_succ]
    refine wpAnyH_take (i := 10) (oi := { dst := some 40, op := Op.load 42 (Operand.tmp 3), type := 42, pos := "ring.go:57", after := #[], guard := none }) (v := _) rfl (by kernel_rfl) (by kernel_rfl) (by kernel_rfl) (fun _ _ _ h => h) (yieldsIf_load_mid (by rfl) 42 _ (by rfl) gx 0 (by rfl) (#[.int .i64 x.1, .int .i64 (x.2 0), .int .i64 (x.2 1), .int .i64 (x.2 2), .int .i64 (x.2 3), .int .i64 (x.2 4), .int .i64 (x.2 5), .int .i64 (x.2 6), .int .i64 (x.2 7), .int .i64 (x.2 8), .int .i64 (x.2 9), .int .i64 (x.2 10)] : Array Value).toList _ (fun W hW => range_blk (hW.get 1 rfl) 0 _ (fun j v hv => by rw [Nat.zero_add, ← Array.getElem?_toList]; exact hv)) Try.underlying42 rfl (by kernel_rfl)) (by assumption) ?_
    try simp only [Act.put, List.setIfInBounds_toArray, List.set_cons_zero, List.set_cons_succ]
    refine wpAnyH_ready (rs := [9]) (by kernel_rfl) (by simp) ?_
    refine AllReadyH.cons (o := { dst := some 39, op := Op.call { callee := Callee.value (Operand.func 34), args := #[Operand.tmp 34, Operand.tmp 38], argTypes := #[54, 3] }, type := 3, pos := "ring.go:57", after := #[{ on := 4, ground := Ground.data }, { on := 8, ground := Ground.data }], guard := none }) rfl (fun K hK => ?_) AllReadyH.nil
    go_simp
    refine (KN.at_raw (nn := (q.length : Int)) (g := g) (len := len) (fr := fr) (room := room) (hHeld.get 0 rfl) h0l HF.out h6l q.length h6n HI.out).mono ?_; rintro e w9 ⟨rfl, na, rfl⟩; have hS9 := St.drewN hHeld na
    refine hK.out _ _ (by assumption) (fun hHeld => ?_)
    clear hK K
    try simp only [Act.put, List.setIfInBounds_toArray, List.set_cons_zero, List.set_cons_succ]
    refine wpAnyH_take (i := 11) (oi := { dst := some 41, op := Op.indexAddr 33 (Operand.tmp 33) (Operand.tmp 39), type := 0, pos := "ring.go:57", after := #[{ on := 3, ground := Ground.data }, { on := 9, ground := Ground.data }, { on := 0, ground := Ground.phase }, { on := 1, ground := Ground.phase }, { on := 2, ground := Ground.phase }, { on := 3, ground := Ground.phase }, { on := 4, ground := Ground.phase }, { on := 5, ground := Ground.phase }, { on := 6, ground := Ground.phase }, { on := 7, ground := Ground.phase }, { on := 8, ground := Ground.phase }, { on := 9, ground := Ground.phase }, { on := 10, ground := Ground.phase }], guard := none }) (v := ?_) rfl (by kernel_rfl) (by kernel_rfl) (by kernel_rfl) (fun _ _ _ h => h) (Or.inl ⟨by rfl, ?_⟩) (by assumption) ?_
    rotate_left
    · (intro W hSw; go_simp; first | done | with_reducible rfl)
    try simp only [Act.put, List.setIfInBounds_toArray, List.set_cons_zero, List.set_cons_succ]
    refine wpAnyH_ready (rs := [12]) (by kernel_rfl) (by simp) ?_
    refine AllReadyH.cons (o := { dst := none, op := Op.store 42 (Operand.tmp 41) (Operand.tmp 40), type := 0, pos := "ring.go:57", after := #[{ on := 11, ground := Ground.data }, { on := 10, ground := Ground.data }, { on := 9, ground := Ground.chain }, { on := 0, ground := Ground.phase }, { on := 1, ground := Ground.phase }, { on := 2, ground := Ground.phase }, { on := 3, ground := Ground.phase }, { on := 4, ground := Ground.phase }, { on := 5, ground := Ground.phase }, { on := 6, ground := Ground.phase }, { on := 7, ground := Ground.phase }, { on := 8, ground := Ground.phase }, { on := 9, ground := Ground.phase }, { on := 10, ground := Ground.phase }], guard := none }) rfl (fun K hK => ?_) AllReadyH.nil
    refine step_store_mid (by rfl) 42 _ _ (by rfl) g (ix * 12) #[.int .i64 x.1, .int .i64 (x.2 0), .int .i64 (x.2 1), .int .i64 (x.2 2), .int .i64 (x.2 3), .int .i64 (x.2 4), .int .i64 (x.2 5), .int .i64 (x.2 6), .int .i64 (x.2 7), .int .i64 (x.2 8), .int .i64 (x.2 9), .int .i64 (x.2 10)] (by rfl) (by rfl) (there_blk ((HB.out.drew).drewN na) (by show ix * 12 + 12 ≤ cs.size; have := HCZ.out; rw [this]; have : (ix + 1) * 12 ≤ len * 12 := Nat.mul_le_mul_right _ hixl; omega)) (by kernel_rfl) (by simp [Value.oneCell']) ?_; have hS8 := hS9.setCellsFar (g := g) (by simp [hn1, hgx]) (Nat.zero_le _) (ix * 12) (#[.int .i64 x.1, .int .i64 (x.2 0), .int .i64 (x.2 1), .int .i64 (x.2 2), .int .i64 (x.2 3), .int .i64 (x.2 4), .int .i64 (x.2 5), .int .i64 (x.2 6), .int .i64 (x.2 7), .int .i64 (x.2 8), .int .i64 (x.2 9), .int .i64 (x.2 10)] : Array Value).toList
    refine hK.out _ _ (by assumption) (fun hHeld => ?_)
    clear hK K
    try simp only [Act.put, List.setIfInBounds_toArray, List.set_cons_zero, List.set_cons_succ]
    refine wpAnyH_done (by kernel_rfl) ?_ _
    obtain ⟨W3, hW3⟩ : ∃ W3, ((wC.drew).drewN na).setCells g (ix * 12) (#[.int .i64 x.1, .int .i64 (x.2 0), .int .i64 (x.2 1), .int .i64 (x.2 2), .int .i64 (x.2 3), .int .i64 (x.2 4), .int .i64 (x.2 5), .int .i64 (x.2 6), .int .i64 (x.2 7), .int .i64 (x.2 8), .int .i64 (x.2 9), .int .i64 (x.2 10)] : Array Value).toList = W3 := ⟨_, rfl⟩
    have hf3 : Frame wC W3 [g] := by rw [← hW3]; exact ((Frame.drewN wC 1 [g]).trans (Frame.drewN _ na [g]) (fun _ h => h) (fun _ h _ => h)).trans (Frame.setCells _ g (ix * 12) (#[.int .i64 x.1, .int .i64 (x.2 0), .int .i64 (x.2 1), .int .i64 (x.2 2), .int .i64 (x.2 3), .int .i64 (x.2 4), .int .i64 (x.2 5), .int .i64 (x.2 6), .int .i64 (x.2 7), .int .i64 (x.2 8), .int .i64 (x.2 9), .int .i64 (x.2 10)] : Array Value).toList List.mem_cons_self) (fun _ h => h) (fun _ h _ => h)
    have hb3 : Blk W3 g 42 (putC cs (ix * 12) (#[.int .i64 x.1, .int .i64 (x.2 0), .int .i64 (x.2 1), .int .i64 (x.2 2), .int .i64 (x.2 3), .int .i64 (x.2 4), .int .i64 (x.2 5), .int .i64 (x.2 6), .int .i64 (x.2 7), .int .i64 (x.2 8), .int .i64 (x.2 9), .int .i64 (x.2 10)] : Array Value).toList) := by rw [← hW3]; exact setCells_blk (#[.int .i64 x.1, .int .i64 (x.2 0), .int .i64 (x.2 1), .int .i64 (x.2 2), .int .i64 (x.2 3), .int .i64 (x.2 4), .int .i64 (x.2 5), .int .i64 (x.2 6), .int .i64 (x.2 7), .int .i64 (x.2 8), .int .i64 (x.2 9), .int .i64 (x.2 10)] : Array Value).toList (ix * 12) (HB.out.drew.drewN na)
    first | rw [hW3] at hS8 ⊢ | (simp only [List.toList_toArray] at hW3; rw [hW3] at hS8 ⊢)
    have c2 := Q2 W3 hS8
    have f2 := F2 W3 hS8
    clear hS8 hS9 hS0 Q0 Q2 F2 hW3
    go_wp2
    go_ret
    have hP := RPost.pushed x H.out hn1 hf3 hb3 (by rw [HI.out]; rfl) HCZ.out HCS.out HF.out HLT.out 0
    exact ⟨rfl, RPost.after0 HFA.out hP⟩
end
end Go.Proofs.Ytjfpmolnipiphaa
