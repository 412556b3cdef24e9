/- The token law: for every secret of 32 bits and all whole numbers the Go function TokenExact returns true, and nothing that was in memory is changed. -/
import Derived.Test.YtnikhfcjnimbdaaTokRef
import Derived.Test.YtnikhfcjnimbdaaTokPlain
import Derived.Deep.DeepCutAuto
namespace Go.Proofs.Ytnikhfcjnimbdaa
open Go.RowKit
open Go.Proofs.Ytnikhfcjnimbdaa.TokMath
open Go.Proofs.Ytnikhfcjnimbdaa.PTokenExact Go.Proofs.Ytnikhfcjnimbdaa.Pure.ExactPure
open Go.Proofs.YtnikhfcjnimbdaaW.PrintWords

/-- A token of the program's is the document's. -/
theorem tok_ref (s who role : Int) (hs0 : 0 ≤ s) (hs1 : s < 4294967296) : mI (preV s who) (role % 256) = refV s who role := by
  have a1 : shr .u32 s 24 % 256 = s / 16777216 := by show s / 16777216 % 256 = _; omega
  have a2 : shr .u32 s 16 % 256 = s / 65536 % 256 := rfl
  have a3 : shr .u32 s 8 % 256 = s / 256 % 256 := rfl
  have a4 : shr .u32 s 0 % 256 = s % 256 := by show s / 1 % 256 = _; omega
  have b1 : shr .u32 (who % 4294967296) 24 % 256 = who % 4294967296 / 16777216 := by show who % 4294967296 / 16777216 % 256 = _; omega
  have b2 : shr .u32 (who % 4294967296) 16 % 256 = who % 4294967296 / 65536 % 256 := rfl
  have b3 : shr .u32 (who % 4294967296) 8 % 256 = who % 4294967296 / 256 % 256 := rfl
  have b4 : shr .u32 (who % 4294967296) 0 % 256 = who % 256 := by show who % 4294967296 / 1 % 256 = _; omega
  unfold preV wordV
  rw [a1, a2, a3, a4, b1, b2, b3, b4]
  rfl

def isV (s who role t : Int) : Bool := decide (0 < who ∧ who ≤ 1073741824 ∧ 0 < role ∧ role < 4) && (refV s who role == t)
def mayV (role kind : Int) : Bool := decide ((role = 1 ∧ (kind = 1 ∨ kind = 2 ∨ kind = 4)) ∨ (role = 2 ∧ kind = 4) ∨ (role = 3 ∧ 0 < kind ∧ kind < 5))

theorem awake_c (w : World) : Calls Try.prog 6 #[] w fun e w' => e = .returned (.bool true) ∧ Below w.heap.size w w' :=
  (hoistwaylaw12_awake.calls 5 true w (awake_eq 0)).mono fun _ _ ⟨he, hd⟩ => ⟨he, hd.below⟩

theorem of_c (s who role : Int) (hs0 : 0 ≤ s) (hs1 : s < 4294967296) (w : World) :
    Calls Try.prog 8 #[.int .u32 s, .int .i64 who, .int .i64 role] w fun e w' => e = .returned (.int .u32 (refV s who role)) ∧ Below w.heap.size w w' :=
  (token_Of.calls 5 s who role (refV s who role) w (by rw [← tok_ref s who role hs0 hs1]; exact of_eq 0 s who role)).mono fun _ _ ⟨he, hd⟩ => ⟨he, hd.below⟩

theorem pass_c (s who : Int) (hs0 : 0 ≤ s) (hs1 : s < 4294967296) (w : World) :
    Calls Try.prog 9 #[.int .u32 s, .int .i64 who] w fun e w' => e = .returned (.int .u32 (refV s who 255)) ∧ Below w.heap.size w w' := by
  go_enter Try.func9, Try.ntmps9
  go_wp2_with (go_at_call 8; refine (of_c s who 255 hs0 hs1 _).mono ?_; rintro e w1 ⟨rfl, hb1⟩)
  go_ret
  exact ⟨rfl, hb1⟩

theorem is_c (s who role t : Int) (hs0 : 0 ≤ s) (hs1 : s < 4294967296) (w : World) :
    Calls Try.prog 10 #[.int .u32 s, .int .i64 who, .int .i64 role, .int .u32 t] w fun e w' => e = .returned (.bool (isV s who role t)) ∧ Below w.heap.size w w' := by
  refine (token_Is.calls 5 s who role t (isV s who role t) w ?_).mono fun _ _ ⟨he, hd⟩ => ⟨he, hd.below⟩
  unfold token_Is.f token_isRole.f isV
  have h := of_eq 0 s who role
  rw [tok_ref s who role hs0 hs1] at h
  rw [h]
  by_cases h1 : who ≥ 1
  · by_cases h2 : who ≤ 1073741824
    · by_cases h3 : role ≥ 1
      · by_cases h4 : role ≤ 3
        · have hd : decide (0 < who ∧ who ≤ 1073741824 ∧ 0 < role ∧ role < 4) = true := by simp; omega
          rw [hd]; simp [h1, h2, h3, h4]
        · have hd : decide (0 < who ∧ who ≤ 1073741824 ∧ 0 < role ∧ role < 4) = false := by simp; omega
          rw [hd]; simp [h1, h2, h3, h4]
      · have hd : decide (0 < who ∧ who ≤ 1073741824 ∧ 0 < role ∧ role < 4) = false := by simp; omega
        rw [hd]; simp [h1, h2, h3]
    · have hd : decide (0 < who ∧ who ≤ 1073741824 ∧ 0 < role ∧ role < 4) = false := by simp; omega
      rw [hd]; simp [h1, h2]
  · have hd : decide (0 < who ∧ who ≤ 1073741824 ∧ 0 < role ∧ role < 4) = false := by simp; omega
    rw [hd]; simp [h1]

theorem place_c (role kind : Int) (w : World) :
    Calls Try.prog 11 #[.int .i64 role, .int .i64 kind] w fun e w' => e = .returned (.bool (mayV role kind)) ∧ Below w.heap.size w w' := by
  refine (token_MayPlace.calls role kind (mayV role kind) w ?_).mono fun _ _ ⟨he, hd⟩ => ⟨he, hd.below⟩
  unfold token_MayPlace.f mayV
  by_cases h1 : role = 1
  · subst h1
    by_cases k1 : kind = 1
    · simp [k1]
    · by_cases k2 : kind = 2
      · simp [k2]
      · by_cases k4 : kind = 4
        · simp [k4]
        · simp [k1, k2, k4]
  · by_cases h2 : role = 2
    · subst h2
      by_cases k4 : kind = 4
      · simp [k4]
      · simp [k4]
    · by_cases h3 : role = 3
      · subst h3
        by_cases k1 : kind ≥ 1
        · by_cases k5 : kind ≤ 4
          · have a : kind < 5 := by omega
            have b : 0 < kind := by omega
            simp [k1, k5, a, b]
          · have a : ¬ kind < 5 := by omega
            simp [k1, k5, a]
        · have b : ¬ 0 < kind := by omega
          simp [k1, b]
      · simp [h1, h2, h3]

theorem bel {w a b : World} (h : Below w.heap.size w a) (k : Below a.heap.size a b) : Below w.heap.size w b := h.trans (k.mono h.size)

def Rel7 (s who role t kind : Int) (w : World) (s2 s4 s11 s12 : Value) (wx : World) : Prop :=
  s2 = .int .i64 role ∧ s4 = .int .i64 kind ∧ s11 = .bool (isV s who role t) ∧ s12 = .bool (mayV role kind) ∧ Below w.heap.size w wx

theorem rel_t {s who role t kind role' kind' : Int} {w wx : World} (hb : Below w.heap.size w wx) (hr : role' = role) (hk : kind' = kind)
    (hp : (role = 1 ∧ (kind = 1 ∨ kind = 2 ∨ kind = 4)) ∨ (role = 2 ∧ kind = 4) ∨ (role = 3 ∧ 0 < kind ∧ kind < 5)) :
    Rel7 s who role t kind w (.int .i64 role') (.int .i64 kind') (.bool (isV s who role' t)) (.bool true) wx := by
  subst hr; subst hk
  exact ⟨rfl, rfl, rfl, congrArg Value.bool (decide_eq_true hp).symm, hb⟩
theorem rel_f {s who role t kind role' kind' : Int} {w wx : World} (hb : Below w.heap.size w wx) (hr : role' = role) (hk : kind' = kind)
    (hp : ¬ ((role = 1 ∧ (kind = 1 ∨ kind = 2 ∨ kind = 4)) ∨ (role = 2 ∧ kind = 4) ∨ (role = 3 ∧ 0 < kind ∧ kind < 5))) :
    Rel7 s who role t kind w (.int .i64 role') (.int .i64 kind') (.bool (isV s who role' t)) (.bool false) wx := by
  subst hr; subst hk
  exact ⟨rfl, rfl, rfl, congrArg Value.bool (decide_eq_false hp).symm, hb⟩
theorem rel_d {s who role t kind role' kind' : Int} {w wx : World} (hb : Below w.heap.size w wx) (hr : role' = role) (hk : kind' = kind)
    (hp : kind' < 5 ↔ ((role = 1 ∧ (kind = 1 ∨ kind = 2 ∨ kind = 4)) ∨ (role = 2 ∧ kind = 4) ∨ (role = 3 ∧ 0 < kind ∧ kind < 5))) :
    Rel7 s who role t kind w (.int .i64 role') (.int .i64 kind') (.bool (isV s who role' t)) (.bool (decide (kind' < 5))) wx := by
  subst hr; subst hk
  exact ⟨rfl, rfl, rfl, congrArg Value.bool (decide_eq_decide.2 hp), hb⟩

theorem rel_b {s who role t kind role' kind' : Int} {w wx : World} {b : Bool} (hb : Below w.heap.size w wx) (hr : role' = role) (hk : kind' = kind)
    (hp : b = true ↔ ((role = 1 ∧ (kind = 1 ∨ kind = 2 ∨ kind = 4)) ∨ (role = 2 ∧ kind = 4) ∨ (role = 3 ∧ 0 < kind ∧ kind < 5))) :
    Rel7 s who role t kind w (.int .i64 role') (.int .i64 kind') (.bool (isV s who role' t)) (.bool b) wx := by
  subst hr; subst hk
  exact ⟨rfl, rfl, rfl, congrArg Value.bool (by unfold mayV; rw [Bool.eq_iff_iff, decide_eq_true_eq]; exact hp), hb⟩

theorem cancel_c (role : Int) (w : World) : Calls Try.prog 12 #[.int .i64 role] w fun e w' => e = .returned (.bool (role == 1 || role == 3)) ∧ Below w.heap.size w w' := by
  refine (token_MayCancel.calls role (role == 1 || role == 3) w ?_).mono fun _ _ ⟨he, hd⟩ => ⟨he, hd.below⟩
  unfold token_MayCancel.f
  by_cases h : role = 1 <;> simp [h]
theorem set_c (role : Int) (w : World) : Calls Try.prog 13 #[.int .i64 role] w fun e w' => e = .returned (.bool (role == 3)) ∧ Below w.heap.size w w' :=
  (token_MaySet.calls role (role == 3) w rfl).mono fun _ _ ⟨he, hd⟩ => ⟨he, hd.below⟩
theorem feed_c (role : Int) (w : World) : Calls Try.prog 14 #[.int .i64 role] w fun e w' => e = .returned (.bool (role == 1 || role == 3)) ∧ Below w.heap.size w w' := by
  refine (token_MayFeed.calls role (role == 1 || role == 3) w ?_).mono fun _ _ ⟨he, hd⟩ => ⟨he, hd.below⟩
  unfold token_MayFeed.f
  by_cases h : role = 1 <;> simp [h]

set_option maxRecDepth 100000 in
set_option maxHeartbeats 2000000 in
theorem law_any (s who role t kind : Int) (hs0 : 0 ≤ s) (hs1 : s < 4294967296) (w : World) :
    Calls Try.prog 3 #[.int .u32 s, .int .i64 who, .int .i64 role, .int .u32 t, .int .i64 kind] w fun e w' => e = .returned (.bool true) ∧ Below w.heap.size w w' := by
  go_enter Try.func3, Try.ntmps3
  go_upto_region 3 with (go_at_call 6; refine (awake_c _).mono ?_; rintro e w1 ⟨rfl, hb1⟩)
  go_cut [11] (fun s11 wx => s11 = .bool (isV s who role t) ∧ Below w.heap.size w wx)
  case first =>
    by_cases c1 : 0 < who
    · by_cases c2 : who ≤ 1073741824
      · by_cases c3 : 0 < role
        · by_cases c4 : role < 4
          · have hi : isV s who role t = (refV s who role == t) := by simp [isV, c1, c2, c3, c4]
            have hI := Lib.hid hi
            clear hi
            go_wp2_with (go_at_call 7; refine (ref_any _ _ _ hs0 hs1 _).mono ?_; rintro e w2 ⟨rfl, hb2⟩)
            go_meet
            exact ⟨congrArg Value.bool hI.out.symm, bel hb1 hb2⟩
          · have hi : isV s who role t = false := by simp [isV, c4]
            have hI := Lib.hid hi
            clear hi
            go_wp2_with fail
            go_meet
            exact ⟨congrArg Value.bool hI.out.symm, hb1⟩
        · have hi : isV s who role t = false := by simp [isV, c3]
          have hI := Lib.hid hi
          clear hi
          go_wp2_with fail
          go_meet
          exact ⟨congrArg Value.bool hI.out.symm, hb1⟩
      · have hi : isV s who role t = false := by simp [isV, c2]
        have hI := Lib.hid hi
        clear hi
        go_wp2_with fail
        go_meet
        exact ⟨congrArg Value.bool hI.out.symm, hb1⟩
    · have hi : isV s who role t = false := by simp [isV, c1]
      have hI := Lib.hid hi
      clear hi
      go_wp2_with fail
      go_meet
      exact ⟨congrArg Value.bool hI.out.symm, hb1⟩
  case rest =>
  obtain ⟨rfl, hb⟩ := hcut
  clear hb1
  go_upto_region 6 with (first | (go_at_call 8; refine (of_c _ _ _ hs0 hs1 _).mono ?_; rintro e w2 ⟨rfl, hb2⟩; replace hb := bel hb hb2; clear hb2) | (go_at_call 7; refine (ref_any _ _ _ hs0 hs1 _).mono ?_; rintro e w3 ⟨rfl, hb3⟩; replace hb := bel hb hb3; clear hb3) | (go_at_call 9; refine (pass_c _ _ hs0 hs1 _).mono ?_; rintro e w4 ⟨rfl, hb4⟩; replace hb := bel hb hb4; clear hb4) | (go_at_call 10; refine (is_c _ _ _ _ hs0 hs1 _).mono ?_; rintro e w5 ⟨rfl, hb5⟩; replace hb := bel hb hb5; clear hb5))
  go_cut [2, 4, 11, 12] from 13 (fun s2 s4 s11 s12 wx => Rel7 s who role t kind w s2 s4 s11 s12 wx)
  case first =>
    go_wp2_with fail
    all_goals (go_meet; first | (refine rel_t hb ?_ ?_ ?_ <;> omega) | (refine rel_f hb ?_ ?_ ?_ <;> omega) | (refine rel_d hb ?_ ?_ ?_ <;> omega) | (refine rel_b hb ?_ ?_ ?_; omega; omega; (simp only [Bool.or_eq_true, beq_iff_eq]; omega)))
  case rest =>
  obtain ⟨rfl, rfl, rfl, rfl, hb'⟩ := hcut
  clear hb
  by_cases r1 : role = 1
  · subst r1
    go_wp2_with (first | (go_at_call 11; refine (place_c _ _ _).mono ?_; rintro e w2 ⟨rfl, hb2⟩; replace hb' := bel hb' hb2; clear hb2) | (go_at_call 12; refine (cancel_c _ _).mono ?_; rintro e w3 ⟨rfl, hb3⟩; replace hb' := bel hb' hb3; clear hb3) | (go_at_call 13; refine (set_c _ _).mono ?_; rintro e w4 ⟨rfl, hb4⟩; replace hb' := bel hb' hb4; clear hb4) | (go_at_call 14; refine (feed_c _ _).mono ?_; rintro e w5 ⟨rfl, hb5⟩; replace hb' := bel hb' hb5; clear hb5))
    go_ret
    exact ⟨rfl, hb'⟩
  · go_wp2_with (first | (go_at_call 11; refine (place_c _ _ _).mono ?_; rintro e w2 ⟨rfl, hb2⟩; replace hb' := bel hb' hb2; clear hb2) | (go_at_call 12; refine (cancel_c _ _).mono ?_; rintro e w3 ⟨rfl, hb3⟩; replace hb' := bel hb' hb3; clear hb3) | (go_at_call 13; refine (set_c _ _).mono ?_; rintro e w4 ⟨rfl, hb4⟩; replace hb' := bel hb' hb4; clear hb4) | (go_at_call 14; refine (feed_c _ _).mono ?_; rintro e w5 ⟨rfl, hb5⟩; replace hb' := bel hb' hb5; clear hb5))
    go_ret
    exact ⟨rfl, hb'⟩
end Go.Proofs.Ytnikhfcjnimbdaa
