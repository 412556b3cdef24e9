/- Layer 16: the document's Do tells of each deed what the program's deeds do. For every configuration and car. No condition. -/
import Derived.Test.YtejepddoindnlaaCar3
namespace Go.Proofs.Ytejepddoindnlaa
open Go.RowKit

theorem do_bad {c : Nat → Int} {x : Cr} (h : cokV c x = false) (k : Nat) (dir : Int) : doV c x k dir = Cr.zero ∧ doE c x k dir = 1 := by
  have hf := fault_bad h
  constructor
  · unfold doV openV waitV goV restV
    rw [hf, hf]
    simp
  · unfold doE goE
    rw [hf, hf]
    simp
theorem do_door {c : Nat → Int} {x : Cr} (h : cokV c x = true) (k : Nat) (dir : Int) (hd : decide (0 < x.o) = !decide (k = 2 ∨ k = 3)) : doV c x k dir = Cr.zero ∧ doE c x k dir = 7 := by
  by_cases hk : k = 2 ∨ k = 3
  · rw [decide_eq_true hk] at hd
    have hf : faultV c x true = 7 := fault_7 h hd
    constructor
    · unfold doV waitV
      rw [hf]
      rcases hk with rfl | rfl <;> simp
    · unfold doE
      rw [if_pos hk, hf]
  · rw [decide_eq_false hk] at hd
    have hf : faultV c x false = 7 := fault_7 h hd
    have h2 : k ≠ 2 := fun e => hk (.inl e)
    have h3 : k ≠ 3 := fun e => hk (.inr e)
    constructor
    · unfold doV openV goV restV
      rw [hf]
      simp [h2, h3]
    · unfold doE goE
      rw [if_neg hk, hf]
      simp

/-- The document's Do. -/
theorem rdo_any (c : Nat → Int) (s : Int) (x : Cr) (k : Nat) (hk1 : 1 ≤ k) (hk5 : k ≤ 5) (dir : Int) (w : World) :
    Calls Try.prog 12 #[.agg (cfgCells c s), .agg x.cells, .int .i64 (k : Int), .int .i64 dir] w fun e w' => e = .returned (.tuple #[.agg (doV c x k dir).cells, .int .i64 (doE c x k dir)]) ∧ Below w.heap.size w w' := by
  obtain ⟨f, d, o, h, m⟩ := x
  have hk : k = 1 ∨ k = 2 ∨ k = 3 ∨ k = 4 ∨ k = 5 := by omega
  cases hc : cokV c ⟨f, d, o, h, m⟩
  · obtain ⟨hT, hE⟩ := do_bad hc k dir
    rcases hk with rfl | rfl | rfl | rfl | rfl
    · exact do1_bad c s f d o h dir m w hc hT hE
    · exact do2_bad c s f d o h dir m w hc hT hE
    · exact do3_bad c s f d o h dir m w hc hT hE
    · exact do4_bad c s f d o h dir m w hc hT hE
    · exact do5_bad c s f d o h dir m w hc hT hE
  · by_cases hd : decide (0 < o) = !decide (k = 2 ∨ k = 3)
    · obtain ⟨hT, hE⟩ := do_door hc k dir hd
      rcases hk with rfl | rfl | rfl | rfl | rfl
      · exact do1_door c s f d o h dir m w hc hd hT hE
      · exact do2_door c s f d o h dir m w hc hd hT hE
      · exact do3_door c s f d o h dir m w hc hd hT hE
      · exact do4_door c s f d o h dir m w hc hd hT hE
      · exact do5_door c s f d o h dir m w hc hd hT hE
    · obtain ⟨hg, ⟨f1, f2⟩, ⟨d1, d2⟩, ⟨o1, o2⟩, ⟨i1, i2⟩, hoh⟩ := cok_true hc
      obtain ⟨⟨g1, g2⟩, _, _, _, _, ⟨g3, g4⟩, ⟨g5, g6⟩⟩ := good_nums hg
      simp only at f1 f2 d1 d2 o1 o2 i1 i2 hoh
      rcases hk with rfl | rfl | rfl | rfl | rfl
      · have ho : ¬ 0 < o := by simpa using hd
        obtain rfl : o = 0 := by omega
        obtain rfl : h = 0 := by omega
        have hf : faultV c ⟨f, d, 0, 0, m⟩ false = 0 := fault_z hc rfl
        exact do1_ok c s f d dir m w hc (by unfold doV openV; rw [hf]; rfl) (by unfold doE; rw [hf]; rfl)
      · have ho : 0 < o := by simpa using hd
        have hf : faultV c ⟨f, d, o, h, m⟩ true = 0 := fault_z hc (decide_eq_true ho)
        have hE : doE c ⟨f, d, o, h, m⟩ 2 dir = 0 := by unfold doE; rw [hf]; rfl
        have hT : doV c ⟨f, d, o, h, m⟩ 2 dir = (if (true && decide (h < c 16)) = true then ⟨f, d, o, h + 1, m⟩ else ⟨f, d, o - 1, if o - 1 = 0 then 0 else h, m⟩) := by unfold doV waitV; rw [hf]; rfl
        by_cases hh : h < c 16
        · exact do2_hold c s f d o h dir m w hc (by omega) (by omega) (by omega) (by omega) hh (by rw [hT, if_pos (by simpa using hh)]) hE
        · rw [if_neg (by simpa using hh)] at hT
          by_cases h1 : o = 1
          · subst h1
            exact do2_shut c s f d h dir m w hc (by omega) (by omega) (by omega) hT hE
          · rw [if_neg (by omega)] at hT
            exact do2_wait c s f d o h dir m w hc (by omega) (by omega) (by omega) (by omega) (by omega) (by omega) hT hE
      · have ho : 0 < o := by simpa using hd
        have hf : faultV c ⟨f, d, o, h, m⟩ true = 0 := fault_z hc (decide_eq_true ho)
        have hE : doE c ⟨f, d, o, h, m⟩ 3 dir = 0 := by unfold doE; rw [hf]; rfl
        have hT : doV c ⟨f, d, o, h, m⟩ 3 dir = ⟨f, d, o - 1, if o - 1 = 0 then 0 else h, m⟩ := by unfold doV waitV; rw [hf]; rfl
        by_cases h1 : o = 1
        · subst h1
          exact do3_shut c s f d h dir m w hc (by omega) (by omega) hT hE
        · rw [if_neg (by omega)] at hT
          exact do3_wait c s f d o h dir m w hc (by omega) (by omega) (by omega) (by omega) (by omega) hT hE
      · have ho : ¬ 0 < o := by simpa using hd
        obtain rfl : o = 0 := by omega
        obtain rfl : h = 0 := by omega
        have hf : faultV c ⟨f, d, 0, 0, m⟩ false = 0 := fault_z hc rfl
        have hT : doV c ⟨f, d, 0, 0, m⟩ 4 dir = (if stepB c ⟨f, d, 0, 0, m⟩ dir = true then ⟨f + dir, dir, 0, 0, true⟩ else Cr.zero) := by unfold doV goV; rw [hf]; rfl
        have hE : doE c ⟨f, d, 0, 0, m⟩ 4 dir = (if stepB c ⟨f, d, 0, 0, m⟩ dir = true then 0 else 3) := by unfold doE goE; rw [hf]; rfl
        by_cases e1 : dir = 1
        · subst e1
          have hs : stepB c ⟨f, d, 0, 0, m⟩ 1 = decide (f < c 0) := by
            unfold stepB floorV
            rw [hg, Bool.eq_iff_iff]
            simp
            omega
          rw [hs] at hT hE
          by_cases hf : f < c 0
          · rw [if_pos (by simpa using hf)] at hT hE
            exact do4_up c s f d m w hc (by omega) (by omega) (by omega) hf hT hE
          · rw [if_neg (by simpa using hf)] at hT hE
            exact do4_top c s f d m w hc (by omega) (by omega) (by omega) (by omega) hT hE
        · by_cases e2 : dir = -1
          · subst e2
            have hs : stepB c ⟨f, d, 0, 0, m⟩ (-1) = decide (1 < f) := by
              unfold stepB floorV
              rw [hg, Bool.eq_iff_iff]
              simp
              omega
            rw [hs] at hT hE
            by_cases hf : 1 < f
            · rw [if_pos (by simpa using hf)] at hT hE
              exact do4_down c s f d m w hc (by omega) (by omega) (by omega) hf hT hE
            · rw [if_neg (by simpa using hf)] at hT hE
              exact do4_bottom c s f d m w hc (by omega) (by omega) (by omega) (by omega) hT hE
          · have hs : stepB c ⟨f, d, 0, 0, m⟩ dir = false := by
              unfold stepB
              rw [decide_eq_false e1, decide_eq_false e2]
              rfl
            rw [hs] at hT hE
            exact do4_none c s f d dir m w hc (by omega) (by omega) (by omega) e1 e2 hT hE
      · have ho : ¬ 0 < o := by simpa using hd
        obtain rfl : o = 0 := by omega
        obtain rfl : h = 0 := by omega
        have hf : faultV c ⟨f, d, 0, 0, m⟩ false = 0 := fault_z hc rfl
        exact do5_ok c s f d dir m w hc (by unfold doV restV; rw [hf]; rfl) (by unfold doE; rw [hf]; rfl)

/-- The program's deeds. -/
theorem does_any (c : Nat → Int) (s : Int) (x : Cr) (k : Nat) (hk1 : 1 ≤ k) (hk5 : k ≤ 5) (dir : Int) (w : World) :
    Calls Try.prog 11 #[.agg (cfgCells c s), .agg x.cells, .int .i64 (k : Int), .int .i64 dir] w fun e w' => e = .returned (.tuple #[.agg (doV c x k dir).cells, .int .i64 (doE c x k dir)]) ∧ Below w.heap.size w w' := by
  have hk : k = 1 ∨ k = 2 ∨ k = 3 ∨ k = 4 ∨ k = 5 := by omega
  rcases hk with rfl | rfl | rfl | rfl | rfl
  · exact does1 c s x dir w
  · exact does2 c s x dir w
  · exact does3 c s x dir w
  · exact does4 c s x dir w
  · exact does5 c s x dir w
end Go.Proofs.Ytejepddoindnlaa
