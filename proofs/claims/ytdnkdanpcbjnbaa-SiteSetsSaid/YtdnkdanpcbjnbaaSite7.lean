/- Layer 7: the anchors of the statements (awake) hold: the program answers on the small building as the document fixes; nothing that was in memory is changed. No condition. -/
import Derived.Test.YtdnkdanpcbjnbaaSite6
namespace Go.Proofs.Ytdnkdanpcbjnbaa
open Go.RowKit

def nFloors : ByteArray := ⟨#[102, 108, 111, 111, 114, 115]⟩
def nWindow : ByteArray := ⟨#[119, 105, 110, 100, 111, 119]⟩
abbrev smallD : Nat → Int := setV smallC ⟨#[102, 108, 111, 111, 114, 115]⟩ 1

theorem sm_good : good smallC = true := by decide +kernel
theorem sm_trip : tripV smallC = 50 := by decide +kernel
theorem sm_ride : rideV smallC = 750 := by decide +kernel
theorem sm_answer : answerV smallC = 52 := by decide +kernel
theorem sm_get : getV smallC ⟨#[119, 105, 110, 100, 111, 119]⟩ = 20 := by decide +kernel
theorem sm_is : isName ⟨#[119, 105, 110, 100, 111, 119]⟩ = true := by decide +kernel
theorem sm_is2 : isName ⟨#[102, 108, 111, 111, 114, 115]⟩ = true := by decide +kernel
theorem sm_d0 : smallD 0 = 1 := by decide +kernel
theorem sm_dgood : good smallD = false := by decide +kernel
theorem sm_floor : floorV smallC 5 = true := by decide +kernel
theorem sm_car : carV smallC 2 = false := by decide +kernel
theorem sm_chk : chkV smallC = 0 := by unfold chkV; rw [sm_good]; rfl
theorem sm_chkd : chkV smallD = 3 := by unfold chkV; rw [sm_dgood]; rfl

theorem smd_cell {w : World} {g : Nat} (h : Blk w g 24 (cfgCells smallD 7)) : w.cell? ⟨g, 0, none⟩ = some (.int .i64 1) := by
  rw [cfg_cell h 0 (by omega), sm_d0]

set_option maxRecDepth 100000 in
set_option maxHeartbeats 2000000 in
theorem awake7 (w : World) : Calls Try.prog 7 #[] w fun e w' => e = .returned (.bool true) ∧ Below w.heap.size w w' := by
  go_enter Try.func7, Try.ntmps7
  go_wp2_with fail
  refine (small_any _).mono ?_
  rintro e w1 ⟨rfl, hbb⟩
  go_wp2_with (refine store_cfg rfl _ _ rfl _ _ _ rfl rfl (cfgCells (fun _ => 0) 0) rfl (Blk.new _ _ _) ?_; intro w2 ho hc; replace hbb := (hbb.alloc hbb.size (.cells (cfgCells (fun _ => 0) 0) 24)).trans (ho.below hbb.size); have HL := lcfg hc; clear ho)
  refine (get_any _ _ _ _).mono ?_
  rintro e w3 ⟨rfl, hB⟩
  rw [sm_get, sm_is]
  replace hc := hc.below hB hc.lt
  replace HL := lcfg hc
  replace hbb := bel hbb hB (Nat.le_refl _)
  clear hB
  go_wp2_with fail
  refine (set_any _ _ _ _ _).mono ?_
  rintro e w4 ⟨rfl, hB⟩
  rw [sm_is2]
  replace hc := hc.below hB hc.lt
  replace HL := lcfg hc
  replace hbb := bel hbb hB (Nat.le_refl _)
  clear hB
  have e1 := sm_chk
  have e2 := sm_chkd
  have e3 := sm_trip
  have e4 := sm_ride
  have e5 := sm_answer
  have e6 := sm_floor
  have e7 := sm_car
  go_wp2_with (refine store_cfg rfl _ _ rfl _ _ _ rfl rfl (cfgCells (fun _ => 0) 0) rfl (Blk.new _ _ _) ?_; intro w5 ho hd; have hcl := hc.lt; replace hc := (hc.alloc (.cells (cfgCells (fun _ => 0) 0) 24)).only ho (by omega); replace hbb := (hbb.alloc hbb.size (.cells (cfgCells (fun _ => 0) 0) 24)).trans (ho.below hbb.size); clear ho hcl; replace HL := lcfg hc; have HD := lcfg hd; have qd : w5.cell? ⟨_, 0, none⟩ = some (.int .i64 1) := smd_cell hd; have qs : w5.cell? ⟨_, 17, none⟩ = some (.int .u32 7) := hc.cell 17)
  go_wp2_with (first | (go_at_call 9; refine (check_any _ _ _).mono ?_; rintro e w9 ⟨rfl, hB⟩; replace hc := hc.below hB hc.lt; replace HL := lcfg hc; replace hbb := bel hbb hB (Nat.le_refl _); replace hd := hd.below hB hd.lt; replace HD := lcfg hd; replace qs : w9.cell? ⟨_, 17, none⟩ = some (.int .u32 7) := hc.cell 17; replace qd : w9.cell? ⟨_, 0, none⟩ = some (.int .i64 1) := smd_cell hd; clear hB) | (go_at_call 10; refine (trip_any _ _ _).mono ?_; rintro e w9 ⟨rfl, hB⟩; replace hc := hc.below hB hc.lt; replace HL := lcfg hc; replace hbb := bel hbb hB (Nat.le_refl _); replace hd := hd.below hB hd.lt; replace HD := lcfg hd; replace qs : w9.cell? ⟨_, 17, none⟩ = some (.int .u32 7) := hc.cell 17; replace qd : w9.cell? ⟨_, 0, none⟩ = some (.int .i64 1) := smd_cell hd; clear hB) | (go_at_call 12; refine (ride_any _ _ _).mono ?_; rintro e w9 ⟨rfl, hB⟩; replace hc := hc.below hB hc.lt; replace HL := lcfg hc; replace hbb := bel hbb hB (Nat.le_refl _); replace hd := hd.below hB hd.lt; replace HD := lcfg hd; replace qs : w9.cell? ⟨_, 17, none⟩ = some (.int .u32 7) := hc.cell 17; replace qd : w9.cell? ⟨_, 0, none⟩ = some (.int .i64 1) := smd_cell hd; clear hB) | (go_at_call 13; refine (answer_any _ _ _).mono ?_; rintro e w9 ⟨rfl, hB⟩; replace hc := hc.below hB hc.lt; replace HL := lcfg hc; replace hbb := bel hbb hB (Nat.le_refl _); replace hd := hd.below hB hd.lt; replace HD := lcfg hd; replace qs : w9.cell? ⟨_, 17, none⟩ = some (.int .u32 7) := hc.cell 17; replace qd : w9.cell? ⟨_, 0, none⟩ = some (.int .i64 1) := smd_cell hd; clear hB) | (go_at_call 14; refine (floor_any _ _ _ _).mono ?_; rintro e w9 ⟨rfl, hB⟩; replace hc := hc.below hB hc.lt; replace HL := lcfg hc; replace hbb := bel hbb hB (Nat.le_refl _); replace hd := hd.below hB hd.lt; replace HD := lcfg hd; replace qs : w9.cell? ⟨_, 17, none⟩ = some (.int .u32 7) := hc.cell 17; replace qd : w9.cell? ⟨_, 0, none⟩ = some (.int .i64 1) := smd_cell hd; clear hB) | (go_at_call 15; refine (car_any _ _ _ _).mono ?_; rintro e w9 ⟨rfl, hB⟩; replace hc := hc.below hB hc.lt; replace HL := lcfg hc; replace hbb := bel hbb hB (Nat.le_refl _); replace hd := hd.below hB hd.lt; replace HD := lcfg hd; replace qs : w9.cell? ⟨_, 17, none⟩ = some (.int .u32 7) := hc.cell 17; replace qd : w9.cell? ⟨_, 0, none⟩ = some (.int .i64 1) := smd_cell hd; clear hB))
  go_ret
  exact ⟨rfl, hbb⟩
end Go.Proofs.Ytdnkdanpcbjnbaa
