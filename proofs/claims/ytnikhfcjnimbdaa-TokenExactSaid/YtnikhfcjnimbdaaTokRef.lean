/- What the document's answer for a token computes: a fold of one step over nine bytes, and nothing that was in memory is changed. For every secret of 32 bits and all whole numbers. -/
import Derived.Test.YtnikhfcjnimbdaaRows
import Derived.Test.YtnikhfcjnimbdaaTokMath
import Derived.WalkKit
import Derived.WalkSpells
import Derived.WalkLawsBesides
import Derived.Lib.Hide
namespace Go.Proofs.Ytnikhfcjnimbdaa
open Go.RowKit
open Go.Proofs.Ytnikhfcjnimbdaa.TokMath

def refBytes (s who role : Int) : List Int := [s / 16777216, s / 65536 % 256, s / 256 % 256, s % 256, who % 4294967296 / 16777216, who % 4294967296 / 65536 % 256, who % 4294967296 / 256 % 256, who % 256, role % 256]
def refAt (s who role : Int) (k : Nat) : Int := ((refBytes s who role).take k).foldl mI 2166136261
def refV (s who role : Int) : Int := refAt s who role 9

theorem refAt_bd (s who role : Int) (k : Nat) : 0 ≤ refAt s who role k ∧ refAt s who role k < 4294967296 := by
  unfold refAt
  generalize (refBytes s who role).take k = l
  have : ∀ (l : List Int) (a : Int), 0 ≤ a → a < 4294967296 → 0 ≤ l.foldl mI a ∧ l.foldl mI a < 4294967296 := by
    intro l
    induction l with
    | nil => intro a h0 h1; exact ⟨h0, h1⟩
    | cons x r ih => intro a _ _; exact ih _ (mI_lo _ _) (mI_hi _ _)
  exact this l _ (by omega) (by omega)

theorem refAt_step {s who role r b : Int} {k : Nat} (hk : refAt s who role (k + 1) = mI (refAt s who role k) b) (h : refAt s who role k = r) (h0 : 0 ≤ b) (h1 : b < 4294967296) :
    Value.int .u32 (bits .xor .u32 r b * 16777619 % 4294967296) = .int .u32 (refAt s who role (k + 1)) := by
  have e : b % 4294967296 = b := by omega
  rw [hk, h]
  unfold mI
  rw [e]

set_option maxHeartbeats 1000000 in
theorem ref_any (s who role : Int) (hs0 : 0 ≤ s) (hs1 : s < 4294967296) (w : World) :
    Calls Try.prog 7 #[.int .u32 s, .int .i64 who, .int .i64 role] w fun e w' => e = .returned (.int .u32 (refV s who role)) ∧ Below w.heap.size w w' := by
  go_enter Try.func7, Try.ntmps7
  go_wp2
  go_loop [9, 10] (fun h i => ∃ k : Nat, k ≤ 9 ∧ i = .int .i64 k ∧ h = .int .u32 (refAt s who role k)) (fun _ i => 9 - (intOf i).toNat)
  case atStart => exact ⟨0, by omega, rfl, rfl⟩
  case round =>
    obtain ⟨k, hk, rfl, rfl⟩ := hrel
    have hbd := refAt_bd s who role k
    generalize hr : refAt s who role k = r at hbd
    obtain ⟨hr1, hr2⟩ := hbd
    have hR := Lib.hid hr
    clear hr
    have hk5 : k = 0 ∨ k = 1 ∨ k = 2 ∨ k = 3 ∨ k = 4 ∨ k = 5 ∨ k = 6 ∨ k = 7 ∨ k = 8 ∨ k = 9 := by omega
    rcases hk5 with rfl | rfl | rfl | rfl | rfl | rfl | rfl | rfl | rfl | rfl
    · go_wp2
      exact ⟨⟨1, by omega, rfl, refAt_step rfl hR.out (by omega) (by omega)⟩, by simp [intOf]⟩
    · go_wp2
      exact ⟨⟨2, by omega, rfl, refAt_step rfl hR.out (by omega) (by omega)⟩, by simp [intOf]⟩
    · go_wp2
      exact ⟨⟨3, by omega, rfl, refAt_step rfl hR.out (by omega) (by omega)⟩, by simp [intOf]⟩
    · go_wp2
      exact ⟨⟨4, by omega, rfl, refAt_step rfl hR.out (by omega) (by omega)⟩, by simp [intOf]⟩
    · go_wp2
      exact ⟨⟨5, by omega, rfl, refAt_step rfl hR.out (by omega) (by omega)⟩, by simp [intOf]⟩
    · go_wp2
      exact ⟨⟨6, by omega, rfl, refAt_step rfl hR.out (by omega) (by omega)⟩, by simp [intOf]⟩
    · go_wp2
      exact ⟨⟨7, by omega, rfl, refAt_step rfl hR.out (by omega) (by omega)⟩, by simp [intOf]⟩
    · go_wp2
      exact ⟨⟨8, by omega, rfl, refAt_step rfl hR.out (by omega) (by omega)⟩, by simp [intOf]⟩
    · go_wp2
      exact ⟨⟨9, by omega, rfl, refAt_step rfl hR.out (by omega) (by omega)⟩, by simp [intOf]⟩
    · go_wp2
      go_ret
      exact ⟨by rw [← hR.out]; rfl, (Below.refl _ _).alloc (Nat.le_refl _) _⟩
end Go.Proofs.Ytnikhfcjnimbdaa
