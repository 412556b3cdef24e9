/- Layer 5, rings of string: Push. No condition. -/
import Derived.Test.YtiiejlphomjehaaRingS4
namespace Go.Proofs.Ytiiejlphomjehaa
open Go.RowKit
attribute [local go_sem ↓] Go.wp_at_zero Go.wp_at_succ

section
variable {w : World} {gr fr len room : Nat} {v : Value} {q : List ByteArray}
theorem KS.push_full (x : ByteArray) (h : RingAt KS w gr v fr len room q) (hq : q.length = room) : Calls Try.prog 31 #[.pointer (some ⟨gr, 0, none⟩), .string x] w fun e w' => e = .returned (.bool false) ∧ ∃ n, w' = w.drewN n := by
  have q2 := KS.c2 h
  have q3 := KS.c3 h
  rw [hq] at q2
  clear h hq
  go_enter Try.func31, Try.ntmps31
  go_wp2_with fail
  go_quiet (fail)
  go_wp2
  go_ret
  exact ⟨rfl, _, rfl⟩
set_option maxRecDepth 100000 in
set_option maxHeartbeats 4000000 in
theorem KS.push_any (x : ByteArray) (h : RingAt KS w gr v fr len room q) (hn : q.length < room) : Calls Try.prog 31 #[.pointer (some ⟨gr, 0, none⟩), .string x] w fun e w' => e = .returned (.bool true) ∧ RPost KS w gr v room (q ++ [x]) w' := by
  have H := Lib.hid h
  obtain ⟨p, rfl⟩ : ∃ p, v = .slice p len len := by
    rcases h.cells with ⟨rfl, rfl, _⟩ | ⟨g, cs, rfl, _⟩
    · exact ⟨_, rfl⟩
    · exact ⟨_, rfl⟩
  have q0 := KS.c0 h
  have q2 := KS.c2 h
  have q3 := KS.c3 h
  have b1 : ((q.length : Int) == (room : Int)) = false := by simp; omega
  by_cases hl : q.length = len
  · have b2 : ((q.length : Int) == (len : Int)) = true := by simp; omega
    have HL := Lib.hid hl
    have HN := Lib.hid hn
    rw [hl] at q2 b1 b2
    clear h hn hl
    go_enter Try.func31, Try.ntmps31
    go_wp2_with fail
    go_quiet (fail)
    go_wp2_with fail
    go_quiet (fail)
    go_wp2_with (go_at_call 43; refine (KS.grow_any (H.out.drewN _) HL.out (by have := HN.out; have := HL.out; omega)).mono ?_; rintro e w2 ⟨rfl, g0, len2, h2, hl2, hf2, hge⟩)
    have hlt2 : q.length < len2 := by have := HL.out; omega
    have HLT := Lib.hid hlt2
    obtain ⟨p2, hp2⟩ : ∃ p2 : Option Addr, some (⟨g0, 0, none⟩ : Addr) = p2 := ⟨_, rfl⟩
    have hown2 : ∀ k, (Value.slice p2 len2 len2).ownBlock = some k → w.heap.size ≤ k := by
      intro k hk
      rw [← hp2] at hk
      have hk' : g0 = k := by simpa [Value.ownBlock] using hk
      rw [← hk']
      exact hge
    rw [hp2] at h2
    have H2 := Lib.hid h2
    have HF2 := Lib.hid hf2
    have HOWN := Lib.hid hown2
    have HH2 := Lib.hid hl2
    clear q0 q2 q3 b1 b2 h2 hf2 hown2 hge hp2 g0 hl2 hlt2
    revert p2
    intro p H2 HOWN
    obtain ⟨g, cs, rfl, hne, hb, hcz, hfr, hcs⟩ : ∃ g cs, p = some ⟨g, 0, none⟩ ∧ g ≠ gr ∧ Blk w2 g 9 cs ∧ cs.size = len2 * 1 ∧ 0 < len2 ∧ Holds KS cs 0 len2 q := by
      rcases H2.out.cells with ⟨h1, _⟩ | ⟨g, cs, hv, rest⟩
      · have := HLT.out; omega
      · injection hv with hv
        exact ⟨g, cs, hv, rest⟩
    obtain ⟨ix, hix⟩ : ∃ ix, (0 + q.length) % len2 = ix := ⟨_, rfl⟩
    have hixl : ix < len2 := by rw [← hix]; exact Nat.mod_lt _ (by omega)
    have hobj := H2.out.obj
    have hlr := H2.out.lenroom
    have hr2 := H2.out.room2
    have hnl := HLT.out
    have q0 := KS.c0 H2.out
    have q2 := KS.c2 H2.out
    have f2 := H2.out.obj.frozen 2
    have hfz := hb.frozen
    obtain ⟨old, hold⟩ : ∃ old, cs[ix]? = some old := ⟨_, Array.getElem?_eq_getElem (by omega)⟩
    have q4 : w2.cell? ⟨g, ix, none⟩ = some old := (hb.cell ix).trans hold
    have z1 : (0 : Int) ≤ (ix : Int) := by omega
    have z2 : (ix : Int) < (len2 : Int) := by omega
    have z3 : (len2 : Int) ≤ 65536 := by omega
    have e5 : IntKind.i64.wrap ((q.length : Int) + 1) = (q.length : Int) + 1 := IntWalk.i64_in _ (by omega)
    have hn1 := hne
    have hn2 := hne.symm
    have HF := Lib.hid hfr
    have HI := Lib.hid hix
    have HCZ := Lib.hid hcz
    have HCS := Lib.hid hcs
    have HB := Lib.hid hb
    have HO := Lib.hid hobj
    have h0l : 0 < len2 := by omega
    have h6l : len2 ≤ 65536 := by omega
    have h6n : q.length ≤ 65536 := by omega
    clear hcz hcs hold hb hobj hfr hix
    go_region_with (go_at_call 44; refine (KS.at_raw (nn := (q.length : Int)) (g := g) (len := len2) (fr := 0) (room := room) (HO.out.drewN _) h0l HF.out h6l q.length h6n HI.out).mono ?_; rintro e w9 ⟨rfl, na, rfl⟩)
    all_goals
      go_wp2
      go_ret
      have hP := fun kk : Nat => RPost.pushed x H2.out hn1 ((Frame.drewN w2 kk [g]).trans (Frame.setCell _ g ix (.string x) List.mem_cons_self) (fun _ h => h) (fun _ h _ => h)) ((HB.out.drewN kk).set_ ix (.string x)) (by show _ = putC cs ((0 + q.length) % len2 * 1) [.string x]; rw [HI.out, Nat.mul_one]; rfl) HCZ.out HCS.out HF.out HLT.out 0
      exact ⟨rfl, RPost.after HF2.out HOWN.out (hP _)⟩
  · have b2 : ((q.length : Int) == (len : Int)) = false := by simp; omega
    have hlt : q.length < len := by have := h.nlen; omega
    have HLT := Lib.hid hlt
    have HN := Lib.hid hn
    clear h hn hl hlt
    go_enter Try.func31, Try.ntmps31
    go_wp2_with fail
    go_quiet (fail)
    go_wp2_with fail
    go_quiet (fail)
    go_wp2_with fail
    clear q0 q2 q3
    obtain ⟨g, cs, rfl, hne, hb, hcz, hfr, hcs⟩ : ∃ g cs, p = some ⟨g, 0, none⟩ ∧ g ≠ gr ∧ Blk w g 9 cs ∧ cs.size = len * 1 ∧ fr < len ∧ Holds KS cs fr len q := by
      rcases H.out.cells with ⟨h1, _⟩ | ⟨g, cs, hv, rest⟩
      · have := HLT.out; omega
      · injection hv with hv
        exact ⟨g, cs, hv, rest⟩
    obtain ⟨ix, hix⟩ : ∃ ix, (fr + q.length) % len = ix := ⟨_, rfl⟩
    have hixl : ix < len := by rw [← hix]; exact Nat.mod_lt _ (by omega)
    have hobj := H.out.obj
    have hlr := H.out.lenroom
    have hr2 := H.out.room2
    have hnl := HLT.out
    have q0 := KS.c0 H.out
    have q2 := KS.c2 H.out
    have f2 := H.out.obj.frozen 2
    have hfz := hb.frozen
    obtain ⟨old, hold⟩ : ∃ old, cs[ix]? = some old := ⟨_, Array.getElem?_eq_getElem (by omega)⟩
    have q4 : w.cell? ⟨g, ix, none⟩ = some old := (hb.cell ix).trans hold
    have z1 : (0 : Int) ≤ (ix : Int) := by omega
    have z2 : (ix : Int) < (len : Int) := by omega
    have z3 : (len : Int) ≤ 65536 := by omega
    have e5 : IntKind.i64.wrap ((q.length : Int) + 1) = (q.length : Int) + 1 := IntWalk.i64_in _ (by omega)
    have hn1 := hne
    have hn2 := hne.symm
    have HF := Lib.hid hfr
    have HI := Lib.hid hix
    have HCZ := Lib.hid hcz
    have HCS := Lib.hid hcs
    have HB := Lib.hid hb
    have HO := Lib.hid hobj
    have h0l : 0 < len := by omega
    have h6l : len ≤ 65536 := by omega
    have h6n : q.length ≤ 65536 := by omega
    clear hcz hcs hold hb hobj hfr hix
    go_region_with (go_at_call 44; refine (KS.at_raw (nn := (q.length : Int)) (g := g) (len := len) (fr := fr) (room := room) (HO.out.drewN _) h0l HF.out h6l q.length h6n HI.out).mono ?_; rintro e w9 ⟨rfl, na, rfl⟩)
    all_goals
      go_wp2
      go_ret
      have hP := fun kk : Nat => RPost.pushed x H.out hn1 ((Frame.drewN w kk [g]).trans (Frame.setCell _ g ix (.string x) List.mem_cons_self) (fun _ h => h) (fun _ h _ => h)) ((HB.out.drewN kk).set_ ix (.string x)) (by show _ = putC cs ((fr + q.length) % len * 1) [.string x]; rw [HI.out, Nat.mul_one]; rfl) HCZ.out HCS.out HF.out HLT.out 0
      exact ⟨rfl, hP _⟩
end
end Go.Proofs.Ytiiejlphomjehaa
