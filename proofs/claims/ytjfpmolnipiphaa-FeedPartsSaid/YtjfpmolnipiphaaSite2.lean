/- Layer 7: site.find tells where in a configuration the number of a name lies, or nil; nothing that was in memory is changed. For every configuration and name. -/
import Derived.Test.YtjfpmolnipiphaaSite0
namespace Go.Proofs.Ytjfpmolnipiphaa
open Go.RowKit

/-- The names, as bytes. -/
def nameBs : List (List UInt8) := [[102, 108, 111, 111, 114, 115], [99, 97, 114, 115], [115, 101, 97, 116, 115], [99, 97, 108, 108, 115], [108, 105, 110, 101, 115], [107, 101, 121, 115], [119, 105, 110, 100, 111, 119], [98, 117, 114, 115, 116], [114, 97, 116, 101], [105, 100, 108, 101], [105, 110], [111, 117, 116], [102, 101, 101, 100], [114, 101, 116, 114, 105, 101, 115], [108, 105, 102, 101], [100, 111, 111, 114], [104, 111, 108, 100, 115]]
def nameB (k : Nat) : List UInt8 := nameBs.getD k []
/-- The place of the number of a name; 17: there is none. -/
def findIx (s : ByteArray) : Nat := (nameBs.findIdx fun n => n == s.toList)
/-- What site.find tells. -/
def findV (g : Nat) (s : ByteArray) : Value := if findIx s < 17 then .pointer (some ⟨g, findIx s, none⟩) else .pointer none

theorem find_hit {s : ByteArray} (k : Nat) (hk : k < 17) (hO : ∀ j, j < k → (nameB j == s.toList) = false) (h : (nameB k == s.toList) = true) : findIx s = k := by
  unfold findIx
  have hl : k < nameBs.length := hk
  rw [List.findIdx_eq hl]
  have e : ∀ j (hj : j < nameBs.length), nameBs[j] = nameB j := fun j hj => by unfold nameB; rw [List.getD_eq_getElem?_getD, List.getElem?_eq_getElem hj]; rfl
  refine ⟨by rw [e]; exact h, fun j hj => ?_⟩
  rw [e]
  exact hO j hj

theorem find_miss {s : ByteArray} (hO : ∀ j, j < 17 → (nameB j == s.toList) = false) : findIx s = 17 := by
  unfold findIx
  have : nameBs.findIdx (fun n => n == s.toList) = nameBs.length := by
    rw [List.findIdx_eq_length]
    intro x hx
    obtain ⟨j, hj, rfl⟩ := List.getElem_of_mem hx
    have e : nameBs[j] = nameB j := by unfold nameB; rw [List.getD_eq_getElem?_getD, List.getElem?_eq_getElem hj]; rfl
    rw [e]
    exact hO j hj
  rw [this]
  rfl

theorem find_ret {g : Nat} {s : ByteArray} (k : Nat) (hk : k < 17) (h : findIx s = k) : Ending.returned (.pointer (some ⟨g, k, none⟩)) = .returned (findV g s) := by
  unfold findV
  rw [h, if_pos hk]
theorem find_nil {g : Nat} {s : ByteArray} (h : findIx s = 17) : Ending.returned (.pointer none) = .returned (findV g s) := by
  unfold findV
  rw [h, if_neg (by omega)]

def Rel2 (s : ByteArray) (w : World) (k : Nat) (wr : World) : Prop :=
  (∀ j, j < k → (nameB j == s.toList) = false) ∧ Blk wr w.heap.size 71 numCells ∧ Below w.heap.size w wr

theorem rel2_step {s : ByteArray} {w wr : World} (k : Nat) (hO : ∀ j, j < k → (nameB j == s.toList) = false) (hk : (nameB k == s.toList) = false) (hn : Blk wr w.heap.size 71 numCells)
    (hB : Below w.heap.size w wr) (o : Obj) : Rel2 s w (k + 1) (wr.alloc o) := by
  refine ⟨fun j hj => ?_, hn.alloc o, hB.alloc hB.size o⟩
  by_cases e : j = k
  · subst e; exact hk
  · exact hO j (by omega)

set_option maxRecDepth 100000 in
set_option maxHeartbeats 4000000 in
theorem find_any (g : Nat) (s : ByteArray) (w : World) :
    Calls Try.prog 30 #[.pointer (some ⟨g, 0, none⟩), .string s] w fun e w' => e = .returned (findV g s) ∧ Below w.heap.size w w' := by
  go_enter Try.func30, Try.ntmps30
  go_wp2_with (go_at_call 31; refine (numbers_any _).mono ?_; rintro e w1 ⟨rfl, hn, hb1, hs1⟩)
  have hstart : Rel2 s w 0 w1 := ⟨fun j hj => absurd hj (by omega), hn, hb1⟩
  clear hn hb1 hs1
  go_loopw [9] (fun i wr => ∃ k : Nat, k ≤ 17 ∧ i = .int .i64 k ∧ Rel2 s w k wr) (fun i _ => 17 - (intOf i).toNat)
  case atStart => exact ⟨0, by omega, rfl, hstart⟩
  case round =>
    clear hstart
    obtain ⟨k, hk, rfl, hok, hn, hB⟩ := hrel
    have hnl := hn.lt
    have hk5 : k = 0 ∨ k = 1 ∨ k = 2 ∨ k = 3 ∨ k = 4 ∨ k = 5 ∨ k = 6 ∨ k = 7 ∨ k = 8 ∨ k = 9 ∨ k = 10 ∨ k = 11 ∨ k = 12 ∨ k = 13 ∨ k = 14 ∨ k = 15 ∨ k = 16 ∨ k = 17 := by omega
    have hO := Lib.hid hok
    clear hok
    rcases hk5 with rfl | rfl | rfl | rfl | rfl | rfl | rfl | rfl | rfl | rfl | rfl | rfl | rfl | rfl | rfl | rfl | rfl | rfl
    · have n1 : wr.cell? ⟨w.heap.size, 1, none⟩ = some (.func (.func 37) #[] #[]) := hn.cell 1
      have n0 : wr.cell? ⟨w.heap.size, 0, none⟩ = some (.string ⟨#[102, 108, 111, 111, 114, 115]⟩) := hn.cell 0
      have n2 : wr.cell? ⟨w.heap.size, 2, none⟩ = some (.int .i64 2) := hn.cell 2
      have n3 : wr.cell? ⟨w.heap.size, 3, none⟩ = some (.int .i64 32) := hn.cell 3
      go_wp2
      · have hh : ([102, 108, 111, 111, 114, 115] == s.toList) = true := by assumption
        go_ret
        exact ⟨find_ret 0 (by omega) (find_hit 0 (by omega) hO.out hh), hB.alloc hB.size _⟩
      · have hh : ([102, 108, 111, 111, 114, 115] == s.toList) = false := by assumption
        exact ⟨⟨1, by omega, rfl, rel2_step 0 hO.out hh hn hB _⟩, by simp [intOf]⟩
    · have n1 : wr.cell? ⟨w.heap.size, 5, none⟩ = some (.func (.func 38) #[] #[]) := hn.cell 5
      have n0 : wr.cell? ⟨w.heap.size, 4, none⟩ = some (.string ⟨#[99, 97, 114, 115]⟩) := hn.cell 4
      have n2 : wr.cell? ⟨w.heap.size, 6, none⟩ = some (.int .i64 1) := hn.cell 6
      have n3 : wr.cell? ⟨w.heap.size, 7, none⟩ = some (.int .i64 4) := hn.cell 7
      go_wp2
      · have hh : ([99, 97, 114, 115] == s.toList) = true := by assumption
        go_ret
        exact ⟨find_ret 1 (by omega) (find_hit 1 (by omega) hO.out hh), hB.alloc hB.size _⟩
      · have hh : ([99, 97, 114, 115] == s.toList) = false := by assumption
        exact ⟨⟨2, by omega, rfl, rel2_step 1 hO.out hh hn hB _⟩, by simp [intOf]⟩
    · have n1 : wr.cell? ⟨w.heap.size, 9, none⟩ = some (.func (.func 39) #[] #[]) := hn.cell 9
      have n0 : wr.cell? ⟨w.heap.size, 8, none⟩ = some (.string ⟨#[115, 101, 97, 116, 115]⟩) := hn.cell 8
      have n2 : wr.cell? ⟨w.heap.size, 10, none⟩ = some (.int .i64 1) := hn.cell 10
      have n3 : wr.cell? ⟨w.heap.size, 11, none⟩ = some (.int .i64 8) := hn.cell 11
      go_wp2
      · have hh : ([115, 101, 97, 116, 115] == s.toList) = true := by assumption
        go_ret
        exact ⟨find_ret 2 (by omega) (find_hit 2 (by omega) hO.out hh), hB.alloc hB.size _⟩
      · have hh : ([115, 101, 97, 116, 115] == s.toList) = false := by assumption
        exact ⟨⟨3, by omega, rfl, rel2_step 2 hO.out hh hn hB _⟩, by simp [intOf]⟩
    · have n1 : wr.cell? ⟨w.heap.size, 13, none⟩ = some (.func (.func 40) #[] #[]) := hn.cell 13
      have n0 : wr.cell? ⟨w.heap.size, 12, none⟩ = some (.string ⟨#[99, 97, 108, 108, 115]⟩) := hn.cell 12
      have n2 : wr.cell? ⟨w.heap.size, 14, none⟩ = some (.int .i64 1) := hn.cell 14
      have n3 : wr.cell? ⟨w.heap.size, 15, none⟩ = some (.int .i64 64) := hn.cell 15
      go_wp2
      · have hh : ([99, 97, 108, 108, 115] == s.toList) = true := by assumption
        go_ret
        exact ⟨find_ret 3 (by omega) (find_hit 3 (by omega) hO.out hh), hB.alloc hB.size _⟩
      · have hh : ([99, 97, 108, 108, 115] == s.toList) = false := by assumption
        exact ⟨⟨4, by omega, rfl, rel2_step 3 hO.out hh hn hB _⟩, by simp [intOf]⟩
    · have n1 : wr.cell? ⟨w.heap.size, 17, none⟩ = some (.func (.func 41) #[] #[]) := hn.cell 17
      have n0 : wr.cell? ⟨w.heap.size, 16, none⟩ = some (.string ⟨#[108, 105, 110, 101, 115]⟩) := hn.cell 16
      have n2 : wr.cell? ⟨w.heap.size, 18, none⟩ = some (.int .i64 1) := hn.cell 18
      have n3 : wr.cell? ⟨w.heap.size, 19, none⟩ = some (.int .i64 8) := hn.cell 19
      go_wp2
      · have hh : ([108, 105, 110, 101, 115] == s.toList) = true := by assumption
        go_ret
        exact ⟨find_ret 4 (by omega) (find_hit 4 (by omega) hO.out hh), hB.alloc hB.size _⟩
      · have hh : ([108, 105, 110, 101, 115] == s.toList) = false := by assumption
        exact ⟨⟨5, by omega, rfl, rel2_step 4 hO.out hh hn hB _⟩, by simp [intOf]⟩
    · have n1 : wr.cell? ⟨w.heap.size, 21, none⟩ = some (.func (.func 42) #[] #[]) := hn.cell 21
      have n0 : wr.cell? ⟨w.heap.size, 20, none⟩ = some (.string ⟨#[107, 101, 121, 115]⟩) := hn.cell 20
      have n2 : wr.cell? ⟨w.heap.size, 22, none⟩ = some (.int .i64 1) := hn.cell 22
      have n3 : wr.cell? ⟨w.heap.size, 23, none⟩ = some (.int .i64 64) := hn.cell 23
      go_wp2
      · have hh : ([107, 101, 121, 115] == s.toList) = true := by assumption
        go_ret
        exact ⟨find_ret 5 (by omega) (find_hit 5 (by omega) hO.out hh), hB.alloc hB.size _⟩
      · have hh : ([107, 101, 121, 115] == s.toList) = false := by assumption
        exact ⟨⟨6, by omega, rfl, rel2_step 5 hO.out hh hn hB _⟩, by simp [intOf]⟩
    · have n1 : wr.cell? ⟨w.heap.size, 25, none⟩ = some (.func (.func 43) #[] #[]) := hn.cell 25
      have n0 : wr.cell? ⟨w.heap.size, 24, none⟩ = some (.string ⟨#[119, 105, 110, 100, 111, 119]⟩) := hn.cell 24
      have n2 : wr.cell? ⟨w.heap.size, 26, none⟩ = some (.int .i64 1) := hn.cell 26
      have n3 : wr.cell? ⟨w.heap.size, 27, none⟩ = some (.int .i64 65536) := hn.cell 27
      go_wp2
      · have hh : ([119, 105, 110, 100, 111, 119] == s.toList) = true := by assumption
        go_ret
        exact ⟨find_ret 6 (by omega) (find_hit 6 (by omega) hO.out hh), hB.alloc hB.size _⟩
      · have hh : ([119, 105, 110, 100, 111, 119] == s.toList) = false := by assumption
        exact ⟨⟨7, by omega, rfl, rel2_step 6 hO.out hh hn hB _⟩, by simp [intOf]⟩
    · have n1 : wr.cell? ⟨w.heap.size, 29, none⟩ = some (.func (.func 44) #[] #[]) := hn.cell 29
      have n0 : wr.cell? ⟨w.heap.size, 28, none⟩ = some (.string ⟨#[98, 117, 114, 115, 116]⟩) := hn.cell 28
      have n2 : wr.cell? ⟨w.heap.size, 30, none⟩ = some (.int .i64 1) := hn.cell 30
      have n3 : wr.cell? ⟨w.heap.size, 31, none⟩ = some (.int .i64 1024) := hn.cell 31
      go_wp2
      · have hh : ([98, 117, 114, 115, 116] == s.toList) = true := by assumption
        go_ret
        exact ⟨find_ret 7 (by omega) (find_hit 7 (by omega) hO.out hh), hB.alloc hB.size _⟩
      · have hh : ([98, 117, 114, 115, 116] == s.toList) = false := by assumption
        exact ⟨⟨8, by omega, rfl, rel2_step 7 hO.out hh hn hB _⟩, by simp [intOf]⟩
    · have n1 : wr.cell? ⟨w.heap.size, 33, none⟩ = some (.func (.func 45) #[] #[]) := hn.cell 33
      have n0 : wr.cell? ⟨w.heap.size, 32, none⟩ = some (.string ⟨#[114, 97, 116, 101]⟩) := hn.cell 32
      have n2 : wr.cell? ⟨w.heap.size, 34, none⟩ = some (.int .i64 1) := hn.cell 34
      have n3 : wr.cell? ⟨w.heap.size, 35, none⟩ = some (.int .i64 1024) := hn.cell 35
      go_wp2
      · have hh : ([114, 97, 116, 101] == s.toList) = true := by assumption
        go_ret
        exact ⟨find_ret 8 (by omega) (find_hit 8 (by omega) hO.out hh), hB.alloc hB.size _⟩
      · have hh : ([114, 97, 116, 101] == s.toList) = false := by assumption
        exact ⟨⟨9, by omega, rfl, rel2_step 8 hO.out hh hn hB _⟩, by simp [intOf]⟩
    · have n1 : wr.cell? ⟨w.heap.size, 37, none⟩ = some (.func (.func 46) #[] #[]) := hn.cell 37
      have n0 : wr.cell? ⟨w.heap.size, 36, none⟩ = some (.string ⟨#[105, 100, 108, 101]⟩) := hn.cell 36
      have n2 : wr.cell? ⟨w.heap.size, 38, none⟩ = some (.int .i64 1) := hn.cell 38
      have n3 : wr.cell? ⟨w.heap.size, 39, none⟩ = some (.int .i64 65536) := hn.cell 39
      go_wp2
      · have hh : ([105, 100, 108, 101] == s.toList) = true := by assumption
        go_ret
        exact ⟨find_ret 9 (by omega) (find_hit 9 (by omega) hO.out hh), hB.alloc hB.size _⟩
      · have hh : ([105, 100, 108, 101] == s.toList) = false := by assumption
        exact ⟨⟨10, by omega, rfl, rel2_step 9 hO.out hh hn hB _⟩, by simp [intOf]⟩
    · have n1 : wr.cell? ⟨w.heap.size, 41, none⟩ = some (.func (.func 47) #[] #[]) := hn.cell 41
      have n0 : wr.cell? ⟨w.heap.size, 40, none⟩ = some (.string ⟨#[105, 110]⟩) := hn.cell 40
      have n2 : wr.cell? ⟨w.heap.size, 42, none⟩ = some (.int .i64 1) := hn.cell 42
      have n3 : wr.cell? ⟨w.heap.size, 43, none⟩ = some (.int .i64 16) := hn.cell 43
      go_wp2
      · have hh : ([105, 110] == s.toList) = true := by assumption
        go_ret
        exact ⟨find_ret 10 (by omega) (find_hit 10 (by omega) hO.out hh), hB.alloc hB.size _⟩
      · have hh : ([105, 110] == s.toList) = false := by assumption
        exact ⟨⟨11, by omega, rfl, rel2_step 10 hO.out hh hn hB _⟩, by simp [intOf]⟩
    · have n1 : wr.cell? ⟨w.heap.size, 45, none⟩ = some (.func (.func 48) #[] #[]) := hn.cell 45
      have n0 : wr.cell? ⟨w.heap.size, 44, none⟩ = some (.string ⟨#[111, 117, 116]⟩) := hn.cell 44
      have n2 : wr.cell? ⟨w.heap.size, 46, none⟩ = some (.int .i64 1) := hn.cell 46
      have n3 : wr.cell? ⟨w.heap.size, 47, none⟩ = some (.int .i64 16) := hn.cell 47
      go_wp2
      · have hh : ([111, 117, 116] == s.toList) = true := by assumption
        go_ret
        exact ⟨find_ret 11 (by omega) (find_hit 11 (by omega) hO.out hh), hB.alloc hB.size _⟩
      · have hh : ([111, 117, 116] == s.toList) = false := by assumption
        exact ⟨⟨12, by omega, rfl, rel2_step 11 hO.out hh hn hB _⟩, by simp [intOf]⟩
    · have n1 : wr.cell? ⟨w.heap.size, 49, none⟩ = some (.func (.func 49) #[] #[]) := hn.cell 49
      have n0 : wr.cell? ⟨w.heap.size, 48, none⟩ = some (.string ⟨#[102, 101, 101, 100]⟩) := hn.cell 48
      have n2 : wr.cell? ⟨w.heap.size, 50, none⟩ = some (.int .i64 1) := hn.cell 50
      have n3 : wr.cell? ⟨w.heap.size, 51, none⟩ = some (.int .i64 64) := hn.cell 51
      go_wp2
      · have hh : ([102, 101, 101, 100] == s.toList) = true := by assumption
        go_ret
        exact ⟨find_ret 12 (by omega) (find_hit 12 (by omega) hO.out hh), hB.alloc hB.size _⟩
      · have hh : ([102, 101, 101, 100] == s.toList) = false := by assumption
        exact ⟨⟨13, by omega, rfl, rel2_step 12 hO.out hh hn hB _⟩, by simp [intOf]⟩
    · have n1 : wr.cell? ⟨w.heap.size, 53, none⟩ = some (.func (.func 50) #[] #[]) := hn.cell 53
      have n0 : wr.cell? ⟨w.heap.size, 52, none⟩ = some (.string ⟨#[114, 101, 116, 114, 105, 101, 115]⟩) := hn.cell 52
      have n2 : wr.cell? ⟨w.heap.size, 54, none⟩ = some (.int .i64 0) := hn.cell 54
      have n3 : wr.cell? ⟨w.heap.size, 55, none⟩ = some (.int .i64 8) := hn.cell 55
      go_wp2
      · have hh : ([114, 101, 116, 114, 105, 101, 115] == s.toList) = true := by assumption
        go_ret
        exact ⟨find_ret 13 (by omega) (find_hit 13 (by omega) hO.out hh), hB.alloc hB.size _⟩
      · have hh : ([114, 101, 116, 114, 105, 101, 115] == s.toList) = false := by assumption
        exact ⟨⟨14, by omega, rfl, rel2_step 13 hO.out hh hn hB _⟩, by simp [intOf]⟩
    · have n1 : wr.cell? ⟨w.heap.size, 57, none⟩ = some (.func (.func 51) #[] #[]) := hn.cell 57
      have n0 : wr.cell? ⟨w.heap.size, 56, none⟩ = some (.string ⟨#[108, 105, 102, 101]⟩) := hn.cell 56
      have n2 : wr.cell? ⟨w.heap.size, 58, none⟩ = some (.int .i64 0) := hn.cell 58
      have n3 : wr.cell? ⟨w.heap.size, 59, none⟩ = some (.int .i64 1048576) := hn.cell 59
      go_wp2
      · have hh : ([108, 105, 102, 101] == s.toList) = true := by assumption
        go_ret
        exact ⟨find_ret 14 (by omega) (find_hit 14 (by omega) hO.out hh), hB.alloc hB.size _⟩
      · have hh : ([108, 105, 102, 101] == s.toList) = false := by assumption
        exact ⟨⟨15, by omega, rfl, rel2_step 14 hO.out hh hn hB _⟩, by simp [intOf]⟩
    · have n1 : wr.cell? ⟨w.heap.size, 61, none⟩ = some (.func (.func 52) #[] #[]) := hn.cell 61
      have n0 : wr.cell? ⟨w.heap.size, 60, none⟩ = some (.string ⟨#[100, 111, 111, 114]⟩) := hn.cell 60
      have n2 : wr.cell? ⟨w.heap.size, 62, none⟩ = some (.int .i64 1) := hn.cell 62
      have n3 : wr.cell? ⟨w.heap.size, 63, none⟩ = some (.int .i64 4) := hn.cell 63
      go_wp2
      · have hh : ([100, 111, 111, 114] == s.toList) = true := by assumption
        go_ret
        exact ⟨find_ret 15 (by omega) (find_hit 15 (by omega) hO.out hh), hB.alloc hB.size _⟩
      · have hh : ([100, 111, 111, 114] == s.toList) = false := by assumption
        exact ⟨⟨16, by omega, rfl, rel2_step 15 hO.out hh hn hB _⟩, by simp [intOf]⟩
    · have n1 : wr.cell? ⟨w.heap.size, 65, none⟩ = some (.func (.func 53) #[] #[]) := hn.cell 65
      have n0 : wr.cell? ⟨w.heap.size, 64, none⟩ = some (.string ⟨#[104, 111, 108, 100, 115]⟩) := hn.cell 64
      have n2 : wr.cell? ⟨w.heap.size, 66, none⟩ = some (.int .i64 0) := hn.cell 66
      have n3 : wr.cell? ⟨w.heap.size, 67, none⟩ = some (.int .i64 4) := hn.cell 67
      go_wp2
      · have hh : ([104, 111, 108, 100, 115] == s.toList) = true := by assumption
        go_ret
        exact ⟨find_ret 16 (by omega) (find_hit 16 (by omega) hO.out hh), hB.alloc hB.size _⟩
      · have hh : ([104, 111, 108, 100, 115] == s.toList) = false := by assumption
        exact ⟨⟨17, by omega, rfl, rel2_step 16 hO.out hh hn hB _⟩, by simp [intOf]⟩
    · go_wp2
      go_ret
      exact ⟨find_nil (find_miss hO.out), hB⟩
end Go.Proofs.Ytjfpmolnipiphaa
