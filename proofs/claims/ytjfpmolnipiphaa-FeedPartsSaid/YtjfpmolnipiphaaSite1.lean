/- Layer 7: site.Check tells 0 (OK) just where each of the seventeen numbers lies within its bounds, else 3 (ErrRange); nothing that was in memory is changed. For every configuration. -/
import Derived.Test.YtjfpmolnipiphaaSite0
namespace Go.Proofs.Ytjfpmolnipiphaa
open Go.RowKit

/-- What site.Check tells. -/
def chkV (c : Nat → Int) : Int := if good c then 0 else 3

theorem chk_bad {c : Nat → Int} (k : Nat) (hk : k < 17) (h : c k < least k ∨ most k < c k) : Ending.returned (.int .i64 3) = .returned (.int .i64 (chkV c)) := by
  have hg : good c = false := by
    unfold good
    rw [decide_eq_false_iff_not]
    intro hG
    have := hG k hk
    unfold okAt at this
    omega
  unfold chkV
  rw [hg]
  rfl
theorem chk_good {c : Nat → Int} (h : ∀ j, j < 17 → okAt c j) : Ending.returned (.int .i64 0) = .returned (.int .i64 (chkV c)) := by
  have hg : good c = true := by
    unfold good
    rw [decide_eq_true_eq]
    exact h
  unfold chkV
  rw [hg]
  rfl

def Rel1 (c : Nat → Int) (s : Int) (w : World) (k : Nat) (wr : World) : Prop :=
  (∀ j, j < k → okAt c j) ∧ Blk wr w.heap.size 24 (cfgCells c s) ∧ Blk wr (w.heap.size + 1) 71 numCells ∧ Below w.heap.size w wr

theorem rel1_step {c : Nat → Int} {s : Int} {w wr : World} (k : Nat) (hO : ∀ j, j < k → okAt c j) (hk : least k ≤ c k ∧ c k ≤ most k) (hg : Blk wr w.heap.size 24 (cfgCells c s)) (hn : Blk wr (w.heap.size + 1) 71 numCells)
    (hB : Below w.heap.size w wr) (o : Obj) : Rel1 c s w (k + 1) (wr.alloc o) := by
  refine ⟨fun j hj => ?_, hg.alloc o, hn.alloc o, hB.alloc hB.size o⟩
  by_cases e : j = k
  · subst e; exact hk
  · exact hO j (by omega)

set_option maxRecDepth 100000 in
set_option maxHeartbeats 4000000 in
theorem check_any (c : Nat → Int) (s : Int) (w : World) :
    Calls Try.prog 18 #[.agg (cfgCells c s)] w fun e w' => e = .returned (.int .i64 (chkV c)) ∧ Below w.heap.size w w' := by
  go_enter Try.func18, Try.ntmps18
  go_wp2_with (go_at_call 31; refine (numbers_any _).mono ?_; rintro e w1 ⟨rfl, hn, hb1, hs1⟩)
  have hstart : Rel1 c s w 0 w1 := ⟨fun j hj => absurd hj (by omega), (Blk.new w 24 (cfgCells c s)).below hb1 (by simp), by simpa using hn, ((Below.refl _ _).alloc (Nat.le_refl _) _).trans (hb1.mono (by simp))⟩
  clear hn hb1 hs1
  go_loopw [8] (fun i wr => ∃ k : Nat, k ≤ 17 ∧ i = .int .i64 k ∧ Rel1 c s w k wr) (fun i _ => 17 - (intOf i).toNat)
  case atStart => exact ⟨0, by omega, rfl, hstart⟩
  case round =>
    clear hstart
    obtain ⟨k, hk, rfl, hok, hg, hn, hB⟩ := hrel
    have hgl := hg.lt
    have hnl := hn.lt
    have hk5 : k = 0 ∨ k = 1 ∨ k = 2 ∨ k = 3 ∨ k = 4 ∨ k = 5 ∨ k = 6 ∨ k = 7 ∨ k = 8 ∨ k = 9 ∨ k = 10 ∨ k = 11 ∨ k = 12 ∨ k = 13 ∨ k = 14 ∨ k = 15 ∨ k = 16 ∨ k = 17 := by omega
    have hO := Lib.hid hok
    clear hok
    rcases hk5 with rfl | rfl | rfl | rfl | rfl | rfl | rfl | rfl | rfl | rfl | rfl | rfl | rfl | rfl | rfl | rfl | rfl | rfl
    · have n1 : wr.cell? ⟨w.heap.size + 1, 1, none⟩ = some (.func (.func 37) #[] #[]) := hn.cell 1
      have n0 : wr.cell? ⟨w.heap.size + 1, 0, none⟩ = some (.string ⟨#[102, 108, 111, 111, 114, 115]⟩) := hn.cell 0
      have n2 : wr.cell? ⟨w.heap.size + 1, 2, none⟩ = some (.int .i64 2) := hn.cell 2
      have n3 : wr.cell? ⟨w.heap.size + 1, 3, none⟩ = some (.int .i64 32) := hn.cell 3
      have c0 : wr.cell? ⟨w.heap.size, 0, none⟩ = some (.int .i64 (c 0)) := hg.cell 0
      go_wp2
      · go_ret
        exact ⟨chk_bad 0 (by omega) (show c 0 < 2 ∨ 32 < c 0 by omega), hB.alloc hB.size _⟩
      · exact ⟨⟨1, by omega, rfl, rel1_step 0 hO.out (show 2 ≤ c 0 ∧ c 0 ≤ 32 by omega) hg hn hB _⟩, by simp [intOf]⟩
      · go_ret
        exact ⟨chk_bad 0 (by omega) (show c 0 < 2 ∨ 32 < c 0 by omega), hB.alloc hB.size _⟩
    · have n1 : wr.cell? ⟨w.heap.size + 1, 5, none⟩ = some (.func (.func 38) #[] #[]) := hn.cell 5
      have n0 : wr.cell? ⟨w.heap.size + 1, 4, none⟩ = some (.string ⟨#[99, 97, 114, 115]⟩) := hn.cell 4
      have n2 : wr.cell? ⟨w.heap.size + 1, 6, none⟩ = some (.int .i64 1) := hn.cell 6
      have n3 : wr.cell? ⟨w.heap.size + 1, 7, none⟩ = some (.int .i64 4) := hn.cell 7
      have c0 : wr.cell? ⟨w.heap.size, 1, none⟩ = some (.int .i64 (c 1)) := hg.cell 1
      go_wp2
      · go_ret
        exact ⟨chk_bad 1 (by omega) (show c 1 < 1 ∨ 4 < c 1 by omega), hB.alloc hB.size _⟩
      · exact ⟨⟨2, by omega, rfl, rel1_step 1 hO.out (show 1 ≤ c 1 ∧ c 1 ≤ 4 by omega) hg hn hB _⟩, by simp [intOf]⟩
      · go_ret
        exact ⟨chk_bad 1 (by omega) (show c 1 < 1 ∨ 4 < c 1 by omega), hB.alloc hB.size _⟩
    · have n1 : wr.cell? ⟨w.heap.size + 1, 9, none⟩ = some (.func (.func 39) #[] #[]) := hn.cell 9
      have n0 : wr.cell? ⟨w.heap.size + 1, 8, none⟩ = some (.string ⟨#[115, 101, 97, 116, 115]⟩) := hn.cell 8
      have n2 : wr.cell? ⟨w.heap.size + 1, 10, none⟩ = some (.int .i64 1) := hn.cell 10
      have n3 : wr.cell? ⟨w.heap.size + 1, 11, none⟩ = some (.int .i64 8) := hn.cell 11
      have c0 : wr.cell? ⟨w.heap.size, 2, none⟩ = some (.int .i64 (c 2)) := hg.cell 2
      go_wp2
      · go_ret
        exact ⟨chk_bad 2 (by omega) (show c 2 < 1 ∨ 8 < c 2 by omega), hB.alloc hB.size _⟩
      · exact ⟨⟨3, by omega, rfl, rel1_step 2 hO.out (show 1 ≤ c 2 ∧ c 2 ≤ 8 by omega) hg hn hB _⟩, by simp [intOf]⟩
      · go_ret
        exact ⟨chk_bad 2 (by omega) (show c 2 < 1 ∨ 8 < c 2 by omega), hB.alloc hB.size _⟩
    · have n1 : wr.cell? ⟨w.heap.size + 1, 13, none⟩ = some (.func (.func 40) #[] #[]) := hn.cell 13
      have n0 : wr.cell? ⟨w.heap.size + 1, 12, none⟩ = some (.string ⟨#[99, 97, 108, 108, 115]⟩) := hn.cell 12
      have n2 : wr.cell? ⟨w.heap.size + 1, 14, none⟩ = some (.int .i64 1) := hn.cell 14
      have n3 : wr.cell? ⟨w.heap.size + 1, 15, none⟩ = some (.int .i64 64) := hn.cell 15
      have c0 : wr.cell? ⟨w.heap.size, 3, none⟩ = some (.int .i64 (c 3)) := hg.cell 3
      go_wp2
      · go_ret
        exact ⟨chk_bad 3 (by omega) (show c 3 < 1 ∨ 64 < c 3 by omega), hB.alloc hB.size _⟩
      · exact ⟨⟨4, by omega, rfl, rel1_step 3 hO.out (show 1 ≤ c 3 ∧ c 3 ≤ 64 by omega) hg hn hB _⟩, by simp [intOf]⟩
      · go_ret
        exact ⟨chk_bad 3 (by omega) (show c 3 < 1 ∨ 64 < c 3 by omega), hB.alloc hB.size _⟩
    · have n1 : wr.cell? ⟨w.heap.size + 1, 17, none⟩ = some (.func (.func 41) #[] #[]) := hn.cell 17
      have n0 : wr.cell? ⟨w.heap.size + 1, 16, none⟩ = some (.string ⟨#[108, 105, 110, 101, 115]⟩) := hn.cell 16
      have n2 : wr.cell? ⟨w.heap.size + 1, 18, none⟩ = some (.int .i64 1) := hn.cell 18
      have n3 : wr.cell? ⟨w.heap.size + 1, 19, none⟩ = some (.int .i64 8) := hn.cell 19
      have c0 : wr.cell? ⟨w.heap.size, 4, none⟩ = some (.int .i64 (c 4)) := hg.cell 4
      go_wp2
      · go_ret
        exact ⟨chk_bad 4 (by omega) (show c 4 < 1 ∨ 8 < c 4 by omega), hB.alloc hB.size _⟩
      · exact ⟨⟨5, by omega, rfl, rel1_step 4 hO.out (show 1 ≤ c 4 ∧ c 4 ≤ 8 by omega) hg hn hB _⟩, by simp [intOf]⟩
      · go_ret
        exact ⟨chk_bad 4 (by omega) (show c 4 < 1 ∨ 8 < c 4 by omega), hB.alloc hB.size _⟩
    · have n1 : wr.cell? ⟨w.heap.size + 1, 21, none⟩ = some (.func (.func 42) #[] #[]) := hn.cell 21
      have n0 : wr.cell? ⟨w.heap.size + 1, 20, none⟩ = some (.string ⟨#[107, 101, 121, 115]⟩) := hn.cell 20
      have n2 : wr.cell? ⟨w.heap.size + 1, 22, none⟩ = some (.int .i64 1) := hn.cell 22
      have n3 : wr.cell? ⟨w.heap.size + 1, 23, none⟩ = some (.int .i64 64) := hn.cell 23
      have c0 : wr.cell? ⟨w.heap.size, 5, none⟩ = some (.int .i64 (c 5)) := hg.cell 5
      go_wp2
      · go_ret
        exact ⟨chk_bad 5 (by omega) (show c 5 < 1 ∨ 64 < c 5 by omega), hB.alloc hB.size _⟩
      · exact ⟨⟨6, by omega, rfl, rel1_step 5 hO.out (show 1 ≤ c 5 ∧ c 5 ≤ 64 by omega) hg hn hB _⟩, by simp [intOf]⟩
      · go_ret
        exact ⟨chk_bad 5 (by omega) (show c 5 < 1 ∨ 64 < c 5 by omega), hB.alloc hB.size _⟩
    · have n1 : wr.cell? ⟨w.heap.size + 1, 25, none⟩ = some (.func (.func 43) #[] #[]) := hn.cell 25
      have n0 : wr.cell? ⟨w.heap.size + 1, 24, none⟩ = some (.string ⟨#[119, 105, 110, 100, 111, 119]⟩) := hn.cell 24
      have n2 : wr.cell? ⟨w.heap.size + 1, 26, none⟩ = some (.int .i64 1) := hn.cell 26
      have n3 : wr.cell? ⟨w.heap.size + 1, 27, none⟩ = some (.int .i64 65536) := hn.cell 27
      have c0 : wr.cell? ⟨w.heap.size, 6, none⟩ = some (.int .i64 (c 6)) := hg.cell 6
      go_wp2
      · go_ret
        exact ⟨chk_bad 6 (by omega) (show c 6 < 1 ∨ 65536 < c 6 by omega), hB.alloc hB.size _⟩
      · exact ⟨⟨7, by omega, rfl, rel1_step 6 hO.out (show 1 ≤ c 6 ∧ c 6 ≤ 65536 by omega) hg hn hB _⟩, by simp [intOf]⟩
      · go_ret
        exact ⟨chk_bad 6 (by omega) (show c 6 < 1 ∨ 65536 < c 6 by omega), hB.alloc hB.size _⟩
    · have n1 : wr.cell? ⟨w.heap.size + 1, 29, none⟩ = some (.func (.func 44) #[] #[]) := hn.cell 29
      have n0 : wr.cell? ⟨w.heap.size + 1, 28, none⟩ = some (.string ⟨#[98, 117, 114, 115, 116]⟩) := hn.cell 28
      have n2 : wr.cell? ⟨w.heap.size + 1, 30, none⟩ = some (.int .i64 1) := hn.cell 30
      have n3 : wr.cell? ⟨w.heap.size + 1, 31, none⟩ = some (.int .i64 1024) := hn.cell 31
      have c0 : wr.cell? ⟨w.heap.size, 7, none⟩ = some (.int .i64 (c 7)) := hg.cell 7
      go_wp2
      · go_ret
        exact ⟨chk_bad 7 (by omega) (show c 7 < 1 ∨ 1024 < c 7 by omega), hB.alloc hB.size _⟩
      · exact ⟨⟨8, by omega, rfl, rel1_step 7 hO.out (show 1 ≤ c 7 ∧ c 7 ≤ 1024 by omega) hg hn hB _⟩, by simp [intOf]⟩
      · go_ret
        exact ⟨chk_bad 7 (by omega) (show c 7 < 1 ∨ 1024 < c 7 by omega), hB.alloc hB.size _⟩
    · have n1 : wr.cell? ⟨w.heap.size + 1, 33, none⟩ = some (.func (.func 45) #[] #[]) := hn.cell 33
      have n0 : wr.cell? ⟨w.heap.size + 1, 32, none⟩ = some (.string ⟨#[114, 97, 116, 101]⟩) := hn.cell 32
      have n2 : wr.cell? ⟨w.heap.size + 1, 34, none⟩ = some (.int .i64 1) := hn.cell 34
      have n3 : wr.cell? ⟨w.heap.size + 1, 35, none⟩ = some (.int .i64 1024) := hn.cell 35
      have c0 : wr.cell? ⟨w.heap.size, 8, none⟩ = some (.int .i64 (c 8)) := hg.cell 8
      go_wp2
      · go_ret
        exact ⟨chk_bad 8 (by omega) (show c 8 < 1 ∨ 1024 < c 8 by omega), hB.alloc hB.size _⟩
      · exact ⟨⟨9, by omega, rfl, rel1_step 8 hO.out (show 1 ≤ c 8 ∧ c 8 ≤ 1024 by omega) hg hn hB _⟩, by simp [intOf]⟩
      · go_ret
        exact ⟨chk_bad 8 (by omega) (show c 8 < 1 ∨ 1024 < c 8 by omega), hB.alloc hB.size _⟩
    · have n1 : wr.cell? ⟨w.heap.size + 1, 37, none⟩ = some (.func (.func 46) #[] #[]) := hn.cell 37
      have n0 : wr.cell? ⟨w.heap.size + 1, 36, none⟩ = some (.string ⟨#[105, 100, 108, 101]⟩) := hn.cell 36
      have n2 : wr.cell? ⟨w.heap.size + 1, 38, none⟩ = some (.int .i64 1) := hn.cell 38
      have n3 : wr.cell? ⟨w.heap.size + 1, 39, none⟩ = some (.int .i64 65536) := hn.cell 39
      have c0 : wr.cell? ⟨w.heap.size, 9, none⟩ = some (.int .i64 (c 9)) := hg.cell 9
      go_wp2
      · go_ret
        exact ⟨chk_bad 9 (by omega) (show c 9 < 1 ∨ 65536 < c 9 by omega), hB.alloc hB.size _⟩
      · exact ⟨⟨10, by omega, rfl, rel1_step 9 hO.out (show 1 ≤ c 9 ∧ c 9 ≤ 65536 by omega) hg hn hB _⟩, by simp [intOf]⟩
      · go_ret
        exact ⟨chk_bad 9 (by omega) (show c 9 < 1 ∨ 65536 < c 9 by omega), hB.alloc hB.size _⟩
    · have n1 : wr.cell? ⟨w.heap.size + 1, 41, none⟩ = some (.func (.func 47) #[] #[]) := hn.cell 41
      have n0 : wr.cell? ⟨w.heap.size + 1, 40, none⟩ = some (.string ⟨#[105, 110]⟩) := hn.cell 40
      have n2 : wr.cell? ⟨w.heap.size + 1, 42, none⟩ = some (.int .i64 1) := hn.cell 42
      have n3 : wr.cell? ⟨w.heap.size + 1, 43, none⟩ = some (.int .i64 16) := hn.cell 43
      have c0 : wr.cell? ⟨w.heap.size, 10, none⟩ = some (.int .i64 (c 10)) := hg.cell 10
      go_wp2
      · go_ret
        exact ⟨chk_bad 10 (by omega) (show c 10 < 1 ∨ 16 < c 10 by omega), hB.alloc hB.size _⟩
      · exact ⟨⟨11, by omega, rfl, rel1_step 10 hO.out (show 1 ≤ c 10 ∧ c 10 ≤ 16 by omega) hg hn hB _⟩, by simp [intOf]⟩
      · go_ret
        exact ⟨chk_bad 10 (by omega) (show c 10 < 1 ∨ 16 < c 10 by omega), hB.alloc hB.size _⟩
    · have n1 : wr.cell? ⟨w.heap.size + 1, 45, none⟩ = some (.func (.func 48) #[] #[]) := hn.cell 45
      have n0 : wr.cell? ⟨w.heap.size + 1, 44, none⟩ = some (.string ⟨#[111, 117, 116]⟩) := hn.cell 44
      have n2 : wr.cell? ⟨w.heap.size + 1, 46, none⟩ = some (.int .i64 1) := hn.cell 46
      have n3 : wr.cell? ⟨w.heap.size + 1, 47, none⟩ = some (.int .i64 16) := hn.cell 47
      have c0 : wr.cell? ⟨w.heap.size, 11, none⟩ = some (.int .i64 (c 11)) := hg.cell 11
      go_wp2
      · go_ret
        exact ⟨chk_bad 11 (by omega) (show c 11 < 1 ∨ 16 < c 11 by omega), hB.alloc hB.size _⟩
      · exact ⟨⟨12, by omega, rfl, rel1_step 11 hO.out (show 1 ≤ c 11 ∧ c 11 ≤ 16 by omega) hg hn hB _⟩, by simp [intOf]⟩
      · go_ret
        exact ⟨chk_bad 11 (by omega) (show c 11 < 1 ∨ 16 < c 11 by omega), hB.alloc hB.size _⟩
    · have n1 : wr.cell? ⟨w.heap.size + 1, 49, none⟩ = some (.func (.func 49) #[] #[]) := hn.cell 49
      have n0 : wr.cell? ⟨w.heap.size + 1, 48, none⟩ = some (.string ⟨#[102, 101, 101, 100]⟩) := hn.cell 48
      have n2 : wr.cell? ⟨w.heap.size + 1, 50, none⟩ = some (.int .i64 1) := hn.cell 50
      have n3 : wr.cell? ⟨w.heap.size + 1, 51, none⟩ = some (.int .i64 64) := hn.cell 51
      have c0 : wr.cell? ⟨w.heap.size, 12, none⟩ = some (.int .i64 (c 12)) := hg.cell 12
      go_wp2
      · go_ret
        exact ⟨chk_bad 12 (by omega) (show c 12 < 1 ∨ 64 < c 12 by omega), hB.alloc hB.size _⟩
      · exact ⟨⟨13, by omega, rfl, rel1_step 12 hO.out (show 1 ≤ c 12 ∧ c 12 ≤ 64 by omega) hg hn hB _⟩, by simp [intOf]⟩
      · go_ret
        exact ⟨chk_bad 12 (by omega) (show c 12 < 1 ∨ 64 < c 12 by omega), hB.alloc hB.size _⟩
    · have n1 : wr.cell? ⟨w.heap.size + 1, 53, none⟩ = some (.func (.func 50) #[] #[]) := hn.cell 53
      have n0 : wr.cell? ⟨w.heap.size + 1, 52, none⟩ = some (.string ⟨#[114, 101, 116, 114, 105, 101, 115]⟩) := hn.cell 52
      have n2 : wr.cell? ⟨w.heap.size + 1, 54, none⟩ = some (.int .i64 0) := hn.cell 54
      have n3 : wr.cell? ⟨w.heap.size + 1, 55, none⟩ = some (.int .i64 8) := hn.cell 55
      have c0 : wr.cell? ⟨w.heap.size, 13, none⟩ = some (.int .i64 (c 13)) := hg.cell 13
      go_wp2
      · go_ret
        exact ⟨chk_bad 13 (by omega) (show c 13 < 0 ∨ 8 < c 13 by omega), hB.alloc hB.size _⟩
      · exact ⟨⟨14, by omega, rfl, rel1_step 13 hO.out (show 0 ≤ c 13 ∧ c 13 ≤ 8 by omega) hg hn hB _⟩, by simp [intOf]⟩
      · go_ret
        exact ⟨chk_bad 13 (by omega) (show c 13 < 0 ∨ 8 < c 13 by omega), hB.alloc hB.size _⟩
    · have n1 : wr.cell? ⟨w.heap.size + 1, 57, none⟩ = some (.func (.func 51) #[] #[]) := hn.cell 57
      have n0 : wr.cell? ⟨w.heap.size + 1, 56, none⟩ = some (.string ⟨#[108, 105, 102, 101]⟩) := hn.cell 56
      have n2 : wr.cell? ⟨w.heap.size + 1, 58, none⟩ = some (.int .i64 0) := hn.cell 58
      have n3 : wr.cell? ⟨w.heap.size + 1, 59, none⟩ = some (.int .i64 1048576) := hn.cell 59
      have c0 : wr.cell? ⟨w.heap.size, 14, none⟩ = some (.int .i64 (c 14)) := hg.cell 14
      go_wp2
      · go_ret
        exact ⟨chk_bad 14 (by omega) (show c 14 < 0 ∨ 1048576 < c 14 by omega), hB.alloc hB.size _⟩
      · exact ⟨⟨15, by omega, rfl, rel1_step 14 hO.out (show 0 ≤ c 14 ∧ c 14 ≤ 1048576 by omega) hg hn hB _⟩, by simp [intOf]⟩
      · go_ret
        exact ⟨chk_bad 14 (by omega) (show c 14 < 0 ∨ 1048576 < c 14 by omega), hB.alloc hB.size _⟩
    · have n1 : wr.cell? ⟨w.heap.size + 1, 61, none⟩ = some (.func (.func 52) #[] #[]) := hn.cell 61
      have n0 : wr.cell? ⟨w.heap.size + 1, 60, none⟩ = some (.string ⟨#[100, 111, 111, 114]⟩) := hn.cell 60
      have n2 : wr.cell? ⟨w.heap.size + 1, 62, none⟩ = some (.int .i64 1) := hn.cell 62
      have n3 : wr.cell? ⟨w.heap.size + 1, 63, none⟩ = some (.int .i64 4) := hn.cell 63
      have c0 : wr.cell? ⟨w.heap.size, 15, none⟩ = some (.int .i64 (c 15)) := hg.cell 15
      go_wp2
      · go_ret
        exact ⟨chk_bad 15 (by omega) (show c 15 < 1 ∨ 4 < c 15 by omega), hB.alloc hB.size _⟩
      · exact ⟨⟨16, by omega, rfl, rel1_step 15 hO.out (show 1 ≤ c 15 ∧ c 15 ≤ 4 by omega) hg hn hB _⟩, by simp [intOf]⟩
      · go_ret
        exact ⟨chk_bad 15 (by omega) (show c 15 < 1 ∨ 4 < c 15 by omega), hB.alloc hB.size _⟩
    · have n1 : wr.cell? ⟨w.heap.size + 1, 65, none⟩ = some (.func (.func 53) #[] #[]) := hn.cell 65
      have n0 : wr.cell? ⟨w.heap.size + 1, 64, none⟩ = some (.string ⟨#[104, 111, 108, 100, 115]⟩) := hn.cell 64
      have n2 : wr.cell? ⟨w.heap.size + 1, 66, none⟩ = some (.int .i64 0) := hn.cell 66
      have n3 : wr.cell? ⟨w.heap.size + 1, 67, none⟩ = some (.int .i64 4) := hn.cell 67
      have c0 : wr.cell? ⟨w.heap.size, 16, none⟩ = some (.int .i64 (c 16)) := hg.cell 16
      go_wp2
      · go_ret
        exact ⟨chk_bad 16 (by omega) (show c 16 < 0 ∨ 4 < c 16 by omega), hB.alloc hB.size _⟩
      · exact ⟨⟨17, by omega, rfl, rel1_step 16 hO.out (show 0 ≤ c 16 ∧ c 16 ≤ 4 by omega) hg hn hB _⟩, by simp [intOf]⟩
      · go_ret
        exact ⟨chk_bad 16 (by omega) (show c 16 < 0 ∨ 4 < c 16 by omega), hB.alloc hB.size _⟩
    · go_wp2
      go_ret
      exact ⟨chk_good hO.out, hB⟩
end Go.Proofs.Ytjfpmolnipiphaa
