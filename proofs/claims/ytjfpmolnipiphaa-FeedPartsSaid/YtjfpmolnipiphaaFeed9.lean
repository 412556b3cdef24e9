/- Layer 22: awake answers true. No condition. -/
import Derived.Test.YtjfpmolnipiphaaFeed6
import Derived.Test.YtjfpmolnipiphaaFeed7
import Derived.Test.YtjfpmolnipiphaaSite5
namespace Go.Proofs.Ytjfpmolnipiphaa
open Go.RowKit
set_option linter.unusedVariables false
set_option linter.unusedSimpArgs false

def nmF : ByteArray := ⟨#[102, 101, 101, 100]⟩
theorem nmF_ix : findIx nmF = 12 := by kernel_rfl
theorem feed_good : good (setV smallC nmF 1) = true := by
  unfold good
  rw [decide_eq_true_eq]
  intro k hk
  have e : setV smallC nmF 1 = fun j => if j = 12 then 1 else smallC j := by unfold setV; rw [nmF_ix]; simp
  rw [e]
  have hk2 : k ∈ List.range 17 := List.mem_range.2 hk
  revert k
  decide
theorem feed_12 : setV smallC nmF 1 12 = 1 := by unfold setV; rw [nmF_ix]; simp
/-- A change of a car. -/
def awx (i m : Int) (j : Nat) : Int := ([i, 0, 0, 0, 0, 0, 0, 0, 0, 1, m] : List Int).getD j 0
def aw4 : List (Nat → Int) := [awx 4 1, awx 5 1, awx 6 2, awx 7 1]
theorem aw4_fold : aw4.foldl (hearF 0 0 1) ⟨4, 0, []⟩ = ⟨7, 6, [(5, awx 5 1)]⟩ := by kernel_rfl
theorem aw4_cells : ∀ i x, aw4[i]? = some x → ∀ j v, (CC x).toList[j]? = some v → (#[.int .i64 4, .int .i64 0, .int .i64 0, .int .i64 0, .int .i64 0, .int .i64 0, .int .i64 0, .int .i64 0, .int .i64 0, .int .i64 1, .int .i64 1, .int .i64 5, .int .i64 0, .int .i64 0, .int .i64 0, .int .i64 0, .int .i64 0, .int .i64 0, .int .i64 0, .int .i64 0, .int .i64 1, .int .i64 1, .int .i64 6, .int .i64 0, .int .i64 0, .int .i64 0, .int .i64 0, .int .i64 0, .int .i64 0, .int .i64 0, .int .i64 0, .int .i64 1, .int .i64 2, .int .i64 7, .int .i64 0, .int .i64 0, .int .i64 0, .int .i64 0, .int .i64 0, .int .i64 0, .int .i64 0, .int .i64 0, .int .i64 1, .int .i64 1] : Array Value)[i * 11 + j]? = some v := fun i x hx j v hv => by
  have := flat_at (fun x => (CC x).toList) (S := 11) (fun _ => rfl) aw4 i x hx j (lt_of_get hv)
  rw [← Array.getElem?_toList]
  exact this.trans hv
set_option maxRecDepth 100000 in
set_option maxHeartbeats 2000000 in
theorem awake22 (w : World) : Calls Try.prog 5 #[] w fun e w' => e = .returned (.bool true) ∧ Below w.heap.size w w' := by
  have hS := SR.ofSt (St.nil w)
  have HF : RowKit.Hid (findIx nmF < 17) := by show findIx nmF < 17; rw [nmF_ix]; omega
  have HG := Lib.hid feed_good
  have H12 := Lib.hid feed_12
  go_enter Try.func5, Try.ntmps5
  go_wp2_with (first
    | (go_at_call 15; refine (small_any _).mono ?_; rintro e w1 ⟨rfl, hB⟩; have hS1 := hS.step hB; clear hS hB)
    | (go_at_call 14; refine (set_yes _ _ _ _ _ HF.out).mono ?_; rintro e w2 ⟨rfl, hB⟩; have hS2 := hS1.step hB; clear hS1 hB)
    | (refine store_newR hS2 rfl rfl 24 _ _ rfl 24 _ (cfgCells (setV smallC nmF 1) 7) rfl rfl (by kernel_rfl) rfl (by simp [Value.oneCell']) ?_; intro w3 hS3 hlt3; have lc := lcfg (hS3.st.get 0 rfl); clear hS2 hlt3)
    | (go_at_call 6; refine (fnew_ok hS3 HG.out).mono ?_; rintro e w4 ⟨gf, gr, room, rfl, hR4, hrm, hrm1, hrm2⟩; obtain rfl : room = 1 := (by have h0 : setV smallC nmF 1 12 = 1 := H12.out; omega); clear hS3 lc hrm hrm1 hrm2)
    | (go_at_call 7; refine (start_any (k2 := 0) (n2 := 0) (x := 4) hR4 (by decide) (by omega)).mono ?_; rintro e w5 ⟨rfl, hR5⟩; clear hR4)
    | (go_at_call 9; refine (Hear_any aw4 (s := ⟨4, 0, []⟩) ((hR5.alloc 38 _).permL (List.Perm.swap _ _ _)) (by decide) (by decide) (by decide) (by decide) aw4_cells).mono ?_; rintro e w6 ⟨rfl, hR6⟩; rw [aw4_fold] at hR6 ⊢; clear hR5)
    | (go_at_call 12; refine (lost_any hR6).mono ?_; rintro e w9 ⟨rfl, rfl⟩)
    | (go_at_call 10; refine (tell_gap (y := (5, awx 5 1)) (q := []) hR6 (by decide) (by decide)).mono ?_; rintro e w10 ⟨rfl, hR7⟩; clear hR6)
    | (refine store_newF hR7 rfl rfl 42 _ _ rfl 42 _ (#[.int .i64 ((5, awx 5 1) : Int × (Nat → Int)).1, .int .i64 (((5, awx 5 1) : Int × (Nat → Int)).2 0), .int .i64 (((5, awx 5 1) : Int × (Nat → Int)).2 1), .int .i64 (((5, awx 5 1) : Int × (Nat → Int)).2 2), .int .i64 (((5, awx 5 1) : Int × (Nat → Int)).2 3), .int .i64 (((5, awx 5 1) : Int × (Nat → Int)).2 4), .int .i64 (((5, awx 5 1) : Int × (Nat → Int)).2 5), .int .i64 (((5, awx 5 1) : Int × (Nat → Int)).2 6), .int .i64 (((5, awx 5 1) : Int × (Nat → Int)).2 7), .int .i64 (((5, awx 5 1) : Int × (Nat → Int)).2 8), .int .i64 (((5, awx 5 1) : Int × (Nat → Int)).2 9), .int .i64 (((5, awx 5 1) : Int × (Nat → Int)).2 10)] : Array Value) rfl rfl (by kernel_rfl) rfl (by simp [Value.oneCell']) ?_; intro w7 hR80 hlt7; clear hlt7; have hR8 := hR80.permL (List.Perm.swap _ _ _); clear hR80 hR7)
    | (go_at_call 10; refine (tell_one (y := (6, fun _ => 0)) (q := []) hR8).mono ?_; rintro e w10 ⟨rfl, hR9⟩; clear hR8)
    | (refine store_newF hR9 rfl rfl 42 _ _ rfl 42 _ (#[.int .i64 ((6, fun _ => 0) : Int × (Nat → Int)).1, .int .i64 (((6, fun _ => 0) : Int × (Nat → Int)).2 0), .int .i64 (((6, fun _ => 0) : Int × (Nat → Int)).2 1), .int .i64 (((6, fun _ => 0) : Int × (Nat → Int)).2 2), .int .i64 (((6, fun _ => 0) : Int × (Nat → Int)).2 3), .int .i64 (((6, fun _ => 0) : Int × (Nat → Int)).2 4), .int .i64 (((6, fun _ => 0) : Int × (Nat → Int)).2 5), .int .i64 (((6, fun _ => 0) : Int × (Nat → Int)).2 6), .int .i64 (((6, fun _ => 0) : Int × (Nat → Int)).2 7), .int .i64 (((6, fun _ => 0) : Int × (Nat → Int)).2 8), .int .i64 (((6, fun _ => 0) : Int × (Nat → Int)).2 9), .int .i64 (((6, fun _ => 0) : Int × (Nat → Int)).2 10)] : Array Value) rfl rfl (by kernel_rfl) rfl (by simp [Value.oneCell']) ?_; intro w7 hR100 hlt7; clear hlt7; have hR10 := hR100.permL (List.Perm.swap _ _ _); clear hR100 hR9)
    | (go_at_call 10; refine (tell_none hR10).mono ?_; rintro e w10 ⟨rfl, hR11⟩; clear hR10)
    | (refine store_newF hR11 rfl rfl 42 _ _ rfl 42 _ (#[.int .i64 0, .int .i64 0, .int .i64 0, .int .i64 0, .int .i64 0, .int .i64 0, .int .i64 0, .int .i64 0, .int .i64 0, .int .i64 0, .int .i64 0, .int .i64 0] : Array Value) rfl rfl (by kernel_rfl) rfl (by simp [Value.oneCell']) ?_; intro w7 hR120 hlt7; clear hlt7; have hR12 := hR120.permL (List.Perm.swap _ _ _); clear hR120 hR11; have ci := (hR12.sr.st.get 3 rfl).cell 0; have lb := St.big (w0 := w) 2 42 _ rfl Try.underlying42 rfl (by kernel_rfl) _ hR12.sr.st)
    | (go_at_call 16; refine (heard_any hR12).mono ?_; rintro e w9 ⟨rfl, rfl⟩)
    | (go_at_call 17; refine (isOn_any hR12).mono ?_; rintro e w9 ⟨rfl, rfl⟩)
    | (go_at_call 11; refine (flen_any (m := 0) hR12 rfl).mono ?_; rintro e w9 ⟨rfl, hR13⟩; clear hR12 ci lb)
    | (go_at_call 6; refine (fnew_no (fun _ => 0) 0 _ (by decide)).mono ?_; rintro e w9 ⟨rfl, hB⟩; have hR14 := hR13.step hB; clear hR13 hB))
  go_ret
  exact ⟨rfl, hR14.sr.below⟩
end Go.Proofs.Ytjfpmolnipiphaa
