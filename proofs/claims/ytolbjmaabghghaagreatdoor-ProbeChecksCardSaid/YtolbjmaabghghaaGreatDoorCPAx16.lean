/- A part of the proof. -/
import Derived.Test.YtolbjmaabghghaaGreatDoorCPAx0
import Derived.Test.YtolbjmaabghghaaGreatDoorCPAx1
import Derived.Test.YtolbjmaabghghaaGreatDoorCPAx6
import Derived.Test.YtolbjmaabghghaaGreatDoorCPAx7
import Derived.Test.YtolbjmaabghghaaGreatDoorCPAx13
import Derived.Test.YtolbjmaabghghaaGreatDoorCPAx15
import Derived.Test.YtolbjmaabghghaaGreatDoorCERun
namespace Go.Proofs.YtolbjmaabghghaaGreatDoor.PA
open Go.RowKit Go.PW Go.PL Go.PM
attribute [local go_sem] max2_int min2_int max_two min_two max_three min_three max_four min_four   -- for this text's walks alone
set_option linter.unusedVariables false
set_option maxHeartbeats 8000000
set_option maxRecDepth 100000
set_option linter.unusedSimpArgs false
attribute [local go_sem high] eqA23
mutual
def metrolablaw30_awake.j0 : Nat → Bool → Int → Int → Int → Option (Bool)
 | 0, _, _, _, _ => none
 | k + 1, x72, x308000, x308001, x308002 => if x72 = true then (none) else ((some (([(⟨#[116, 111, 117, 99, 104, 32, 43, 88]⟩ : ByteArray), (⟨#[109, 111, 118, 101, 32, 49, 48, 32, 53, 32, 50]⟩ : ByteArray), (⟨#[116, 111, 117, 99, 104, 32, 45, 88]⟩ : ByteArray), (⟨#[116, 97, 107, 101, 32, 104, 111, 108, 101]⟩ : ByteArray)] : List ByteArray) : List ByteArray)).bind fun y366 => (metrolablaw30_awake.l0 k ([] : List (S47)) y366 (y366.length : Int) 0 x308000 x308001 x308002))
def metrolablaw30_awake.l0 : Nat → List (S47) → List ByteArray → Int → Int → Int → Int → Int → Option (Bool)
 | 0, _, _, _, _, _, _, _ => none
 | k + 1, x12, x73, x74, x75, x308000, x308001, x308002 => if x75 < x74 then (if 0 ≤ x75 then (if x75 < (x73.length : Int) then ((probe_Read.f k (rdOf ByteArray.empty x73 x75)).bind fun bt370 => (if bt370.2.2.2.2.2.2 = 0 then (if x12.length < 2513169434916 then (metrolablaw30_awake.l0 k (x12 ++ [(⟨bt370.1, (⟨bt370.2.1, bt370.2.2.1, bt370.2.2.2.1⟩ : S23), bt370.2.2.2.2.1, bt370.2.2.2.2.2.1⟩ : S47)]) x73 x74 (wrap64 (x75 + 1)) x308000 x308001 x308002) else (none)) else (none))) else (none)) else (none)) else ((metrolablaw30_Plate.f).bind fun bt381 => ((probe_Run.f bt381.1 bt381.2.1 bt381.2.2.1 bt381.2.2.2.1 bt381.2.2.2.2.1 bt381.2.2.2.2.2.1 bt381.2.2.2.2.2.2 x308000 x308001 x308002 x12).bind fun bt390 => (if bt390.2.2.2 = 0 then (if (bt390.2.1.length : Int) = 1 then (if 0 < (bt390.2.1.length : Int) then (if ((rd_T76 bt390.2.1 0).f0).toList = ([104, 111, 108, 101] : List UInt8) then ((api_Spot.f k ((rd_T76 bt390.2.1 0).f1) (([(⟨13, 5, 2⟩ : S23), (⟨7, 5, 2⟩ : S23)] : List (S23)))).bind fun t402 => (some t402)) else (none)) else (none)) else (none)) else (none))))
end
def metrolablaw30_awake.f (k : Nat)  : Option (Bool) := (metrolablaw30_Plate.f).bind fun bt308 => ((probe_Material.f k bt308.1 bt308.2.1 bt308.2.2.1 bt308.2.2.2.1 bt308.2.2.2.2.1 bt308.2.2.2.2.2.1 bt308.2.2.2.2.2.2 12 5 2).bind fun bt317 => ((metrolablaw30_Plate.f).bind fun bt319 => ((probe_Material.f k bt319.1 bt319.2.1 bt319.2.2.1 bt319.2.2.2.1 bt319.2.2.2.2.1 bt319.2.2.2.2.2.1 bt319.2.2.2.2.2.2 13 5 2).bind fun bt328 => ((metrolablaw30_Plate.f).bind fun bt330 => ((probe_Touch.f k bt330.1 bt330.2.1 bt330.2.2.1 bt330.2.2.2.1 bt330.2.2.2.2.1 bt330.2.2.2.2.2.1 bt330.2.2.2.2.2.2 10 5 2 0).bind fun bt339 => ((metrolablaw30_Plate.f).bind fun bt348 => ((probe_Touch.f k bt348.1 bt348.2.1 bt348.2.2.1 bt348.2.2.2.1 bt348.2.2.2.2.1 bt348.2.2.2.2.2.1 bt348.2.2.2.2.2.2 10 5 9 5).bind fun bt357 => (if (wrap64 ((wrap64 (bt317.2 + bt328.2)) + bt339.2.2.2.2.2.2)) = 0 then (if bt357.2.2.2.2.2.2 = 6 then (if bt317.1 = true then (metrolablaw30_awake.j0 k true 10 5 2) else (if bt328.1 = true then (if (!(bt339.1 == 13) || (!(bt339.2.1 == 5) || (!(bt339.2.2.1 == 2)))) = true then (metrolablaw30_awake.j0 k true 10 5 2) else (metrolablaw30_awake.j0 k (!(bt339.2.2.2.1 == 12) || (!(bt339.2.2.2.2.1 == 5) || (!(bt339.2.2.2.2.2.1 == 2)))) 10 5 2)) else (metrolablaw30_awake.j0 k true 10 5 2))) else (metrolablaw30_awake.j0 k true 10 5 2)) else (metrolablaw30_awake.j0 k true 10 5 2)))))))))
def metrolablaw30_awake.T4 : Bool × List (List Nat × List Nat) := (true, [([], []), ([], []), ([0, 1, 0], [0, 1]), ([2], [2]), ([3], [3]), ([3], [3]), ([3], [3]), ([], []), ([], []), ([7, 4, 2, 0, 1, 2, 3, 4, 7, 8], [4, 7]), ([8, 5, 9, 0, 1, 2, 3, 4, 5, 7, 8, 9], [5, 8]), ([6, 10, 0, 1, 2, 3, 4, 5, 6, 7, 8, 9, 10], [6])])
def metrolablaw30_awake.B4 : List Nat := [0, 0, 3, 7, 15, 15, 15, 0, 0, 415, 959, 2047]
theorem metrolablaw30_awake.tab4 : rtab .any (opsOf Tryz.f14 4) = metrolablaw30_awake.T4 := by kernel_rfl
theorem metrolablaw30_awake.bits4 : waitsOk metrolablaw30_awake.T4.2 metrolablaw30_awake.B4 = true := by kernel_rfl
def metrolablaw30_awake.T17 : Bool × List (List Nat × List Nat) := (true, [([], []), ([], []), ([], []), ([0, 1, 2, 0], [0, 1, 2]), ([3], [3]), ([4], [4]), ([4], [4]), ([4], [4]), ([], []), ([8, 5, 3, 0, 1, 2, 3, 4, 5, 8], [5, 8]), ([6, 9, 0, 1, 2, 3, 4, 5, 6, 8, 9], [6]), ([7, 10, 0, 1, 2, 3, 4, 5, 6, 7, 8, 9, 10], [7])])
def metrolablaw30_awake.B17 : List Nat := [0, 0, 0, 7, 15, 31, 31, 31, 0, 319, 895, 2047]
theorem metrolablaw30_awake.tab17 : rtab .any (opsOf Tryz.f14 17) = metrolablaw30_awake.T17 := by kernel_rfl
theorem metrolablaw30_awake.bits17 : waitsOk metrolablaw30_awake.T17.2 metrolablaw30_awake.B17 = true := by kernel_rfl
theorem metrolablaw30_awake.calls (k : Nat)  (r : Bool) (w : World) (hG : GW w) (h : metrolablaw30_awake.f k  = some r) :
  Calls Tryz.prog 14 #[] w fun e w' => e = .returned (.bool r) ∧ Below w.heap.size w w' := by
 have hu23 := Tryz.underlying23
 have hu47 := Tryz.underlying47
 have hu67 := Tryz.underlying67
 have HG := mk0 hG
 clear hG
 have HB := mk0 (Below.refl w.heap.size w)
 have H : ((metrolablaw30_Plate.f).bind fun bt308 => ((probe_Material.f k bt308.1 bt308.2.1 bt308.2.2.1 bt308.2.2.2.1 bt308.2.2.2.2.1 bt308.2.2.2.2.2.1 bt308.2.2.2.2.2.2 12 5 2).bind fun bt317 => ((metrolablaw30_Plate.f).bind fun bt319 => ((probe_Material.f k bt319.1 bt319.2.1 bt319.2.2.1 bt319.2.2.2.1 bt319.2.2.2.2.1 bt319.2.2.2.2.2.1 bt319.2.2.2.2.2.2 13 5 2).bind fun bt328 => ((metrolablaw30_Plate.f).bind fun bt330 => ((probe_Touch.f k bt330.1 bt330.2.1 bt330.2.2.1 bt330.2.2.2.1 bt330.2.2.2.2.1 bt330.2.2.2.2.2.1 bt330.2.2.2.2.2.2 10 5 2 0).bind fun bt339 => ((metrolablaw30_Plate.f).bind fun bt348 => ((probe_Touch.f k bt348.1 bt348.2.1 bt348.2.2.1 bt348.2.2.2.1 bt348.2.2.2.2.1 bt348.2.2.2.2.2.1 bt348.2.2.2.2.2.2 10 5 9 5).bind fun bt357 => (if (wrap64 ((wrap64 (bt317.2 + bt328.2)) + bt339.2.2.2.2.2.2)) = 0 then (if bt357.2.2.2.2.2.2 = 6 then (if bt317.1 = true then (metrolablaw30_awake.j0 k true 10 5 2) else (if bt328.1 = true then (if (!(bt339.1 == 13) || (!(bt339.2.1 == 5) || (!(bt339.2.2.1 == 2)))) = true then (metrolablaw30_awake.j0 k true 10 5 2) else (metrolablaw30_awake.j0 k (!(bt339.2.2.2.1 == 12) || (!(bt339.2.2.2.2.1 == 5) || (!(bt339.2.2.2.2.2.1 == 2)))) 10 5 2)) else (metrolablaw30_awake.j0 k true 10 5 2))) else (metrolablaw30_awake.j0 k true 10 5 2)) else (metrolablaw30_awake.j0 k true 10 5 2)))))))))) = some r := h
 clear h
 replace H := Option.bind_eq_some_iff.mp H
 obtain ⟨⟨t308, t309, t310, t311, t312, t313, t314⟩, A10, H⟩ := H
 replace H : ((probe_Material.f k t308 t309 t310 t311 t312 t313 t314 12 5 2).bind fun bt317 => ((metrolablaw30_Plate.f).bind fun bt319 => ((probe_Material.f k bt319.1 bt319.2.1 bt319.2.2.1 bt319.2.2.2.1 bt319.2.2.2.2.1 bt319.2.2.2.2.2.1 bt319.2.2.2.2.2.2 13 5 2).bind fun bt328 => ((metrolablaw30_Plate.f).bind fun bt330 => ((probe_Touch.f k bt330.1 bt330.2.1 bt330.2.2.1 bt330.2.2.2.1 bt330.2.2.2.2.1 bt330.2.2.2.2.2.1 bt330.2.2.2.2.2.2 10 5 2 0).bind fun bt339 => ((metrolablaw30_Plate.f).bind fun bt348 => ((probe_Touch.f k bt348.1 bt348.2.1 bt348.2.2.1 bt348.2.2.2.1 bt348.2.2.2.2.1 bt348.2.2.2.2.2.1 bt348.2.2.2.2.2.2 10 5 9 5).bind fun bt357 => (if (wrap64 ((wrap64 (bt317.2 + bt328.2)) + bt339.2.2.2.2.2.2)) = 0 then (if bt357.2.2.2.2.2.2 = 6 then (if bt317.1 = true then (metrolablaw30_awake.j0 k true 10 5 2) else (if bt328.1 = true then (if (!(bt339.1 == 13) || (!(bt339.2.1 == 5) || (!(bt339.2.2.1 == 2)))) = true then (metrolablaw30_awake.j0 k true 10 5 2) else (metrolablaw30_awake.j0 k (!(bt339.2.2.2.1 == 12) || (!(bt339.2.2.2.2.1 == 5) || (!(bt339.2.2.2.2.2.1 == 2)))) 10 5 2)) else (metrolablaw30_awake.j0 k true 10 5 2))) else (metrolablaw30_awake.j0 k true 10 5 2)) else (metrolablaw30_awake.j0 k true 10 5 2))))))))) = some r := H
 have A1 := mk0 A10
 clear A10
 replace H := Option.bind_eq_some_iff.mp H
 obtain ⟨⟨t317, t318⟩, A20, H⟩ := H
 replace H : ((metrolablaw30_Plate.f).bind fun bt319 => ((probe_Material.f k bt319.1 bt319.2.1 bt319.2.2.1 bt319.2.2.2.1 bt319.2.2.2.2.1 bt319.2.2.2.2.2.1 bt319.2.2.2.2.2.2 13 5 2).bind fun bt328 => ((metrolablaw30_Plate.f).bind fun bt330 => ((probe_Touch.f k bt330.1 bt330.2.1 bt330.2.2.1 bt330.2.2.2.1 bt330.2.2.2.2.1 bt330.2.2.2.2.2.1 bt330.2.2.2.2.2.2 10 5 2 0).bind fun bt339 => ((metrolablaw30_Plate.f).bind fun bt348 => ((probe_Touch.f k bt348.1 bt348.2.1 bt348.2.2.1 bt348.2.2.2.1 bt348.2.2.2.2.1 bt348.2.2.2.2.2.1 bt348.2.2.2.2.2.2 10 5 9 5).bind fun bt357 => (if (wrap64 ((wrap64 (t318 + bt328.2)) + bt339.2.2.2.2.2.2)) = 0 then (if bt357.2.2.2.2.2.2 = 6 then (if t317 = true then (metrolablaw30_awake.j0 k true 10 5 2) else (if bt328.1 = true then (if (!(bt339.1 == 13) || (!(bt339.2.1 == 5) || (!(bt339.2.2.1 == 2)))) = true then (metrolablaw30_awake.j0 k true 10 5 2) else (metrolablaw30_awake.j0 k (!(bt339.2.2.2.1 == 12) || (!(bt339.2.2.2.2.1 == 5) || (!(bt339.2.2.2.2.2.1 == 2)))) 10 5 2)) else (metrolablaw30_awake.j0 k true 10 5 2))) else (metrolablaw30_awake.j0 k true 10 5 2)) else (metrolablaw30_awake.j0 k true 10 5 2)))))))) = some r := H
 have A2 := mk0 A20
 clear A20
 replace H := Option.bind_eq_some_iff.mp H
 obtain ⟨⟨t319, t320, t321, t322, t323, t324, t325⟩, A30, H⟩ := H
 replace H : ((probe_Material.f k t319 t320 t321 t322 t323 t324 t325 13 5 2).bind fun bt328 => ((metrolablaw30_Plate.f).bind fun bt330 => ((probe_Touch.f k bt330.1 bt330.2.1 bt330.2.2.1 bt330.2.2.2.1 bt330.2.2.2.2.1 bt330.2.2.2.2.2.1 bt330.2.2.2.2.2.2 10 5 2 0).bind fun bt339 => ((metrolablaw30_Plate.f).bind fun bt348 => ((probe_Touch.f k bt348.1 bt348.2.1 bt348.2.2.1 bt348.2.2.2.1 bt348.2.2.2.2.1 bt348.2.2.2.2.2.1 bt348.2.2.2.2.2.2 10 5 9 5).bind fun bt357 => (if (wrap64 ((wrap64 (t318 + bt328.2)) + bt339.2.2.2.2.2.2)) = 0 then (if bt357.2.2.2.2.2.2 = 6 then (if t317 = true then (metrolablaw30_awake.j0 k true 10 5 2) else (if bt328.1 = true then (if (!(bt339.1 == 13) || (!(bt339.2.1 == 5) || (!(bt339.2.2.1 == 2)))) = true then (metrolablaw30_awake.j0 k true 10 5 2) else (metrolablaw30_awake.j0 k (!(bt339.2.2.2.1 == 12) || (!(bt339.2.2.2.2.1 == 5) || (!(bt339.2.2.2.2.2.1 == 2)))) 10 5 2)) else (metrolablaw30_awake.j0 k true 10 5 2))) else (metrolablaw30_awake.j0 k true 10 5 2)) else (metrolablaw30_awake.j0 k true 10 5 2))))))) = some r := H
 have A3 := mk0 A30
 clear A30
 replace H := Option.bind_eq_some_iff.mp H
 obtain ⟨⟨t328, t329⟩, A40, H⟩ := H
 replace H : ((metrolablaw30_Plate.f).bind fun bt330 => ((probe_Touch.f k bt330.1 bt330.2.1 bt330.2.2.1 bt330.2.2.2.1 bt330.2.2.2.2.1 bt330.2.2.2.2.2.1 bt330.2.2.2.2.2.2 10 5 2 0).bind fun bt339 => ((metrolablaw30_Plate.f).bind fun bt348 => ((probe_Touch.f k bt348.1 bt348.2.1 bt348.2.2.1 bt348.2.2.2.1 bt348.2.2.2.2.1 bt348.2.2.2.2.2.1 bt348.2.2.2.2.2.2 10 5 9 5).bind fun bt357 => (if (wrap64 ((wrap64 (t318 + t329)) + bt339.2.2.2.2.2.2)) = 0 then (if bt357.2.2.2.2.2.2 = 6 then (if t317 = true then (metrolablaw30_awake.j0 k true 10 5 2) else (if t328 = true then (if (!(bt339.1 == 13) || (!(bt339.2.1 == 5) || (!(bt339.2.2.1 == 2)))) = true then (metrolablaw30_awake.j0 k true 10 5 2) else (metrolablaw30_awake.j0 k (!(bt339.2.2.2.1 == 12) || (!(bt339.2.2.2.2.1 == 5) || (!(bt339.2.2.2.2.2.1 == 2)))) 10 5 2)) else (metrolablaw30_awake.j0 k true 10 5 2))) else (metrolablaw30_awake.j0 k true 10 5 2)) else (metrolablaw30_awake.j0 k true 10 5 2)))))) = some r := H
 have A4 := mk0 A40
 clear A40
 replace H := Option.bind_eq_some_iff.mp H
 obtain ⟨⟨t330, t331, t332, t333, t334, t335, t336⟩, A50, H⟩ := H
 replace H : ((probe_Touch.f k t330 t331 t332 t333 t334 t335 t336 10 5 2 0).bind fun bt339 => ((metrolablaw30_Plate.f).bind fun bt348 => ((probe_Touch.f k bt348.1 bt348.2.1 bt348.2.2.1 bt348.2.2.2.1 bt348.2.2.2.2.1 bt348.2.2.2.2.2.1 bt348.2.2.2.2.2.2 10 5 9 5).bind fun bt357 => (if (wrap64 ((wrap64 (t318 + t329)) + bt339.2.2.2.2.2.2)) = 0 then (if bt357.2.2.2.2.2.2 = 6 then (if t317 = true then (metrolablaw30_awake.j0 k true 10 5 2) else (if t328 = true then (if (!(bt339.1 == 13) || (!(bt339.2.1 == 5) || (!(bt339.2.2.1 == 2)))) = true then (metrolablaw30_awake.j0 k true 10 5 2) else (metrolablaw30_awake.j0 k (!(bt339.2.2.2.1 == 12) || (!(bt339.2.2.2.2.1 == 5) || (!(bt339.2.2.2.2.2.1 == 2)))) 10 5 2)) else (metrolablaw30_awake.j0 k true 10 5 2))) else (metrolablaw30_awake.j0 k true 10 5 2)) else (metrolablaw30_awake.j0 k true 10 5 2))))) = some r := H
 have A5 := mk0 A50
 clear A50
 replace H := Option.bind_eq_some_iff.mp H
 obtain ⟨⟨t339, t340, t341, t342, t343, t344, t345⟩, A60, H⟩ := H
 replace H : ((metrolablaw30_Plate.f).bind fun bt348 => ((probe_Touch.f k bt348.1 bt348.2.1 bt348.2.2.1 bt348.2.2.2.1 bt348.2.2.2.2.1 bt348.2.2.2.2.2.1 bt348.2.2.2.2.2.2 10 5 9 5).bind fun bt357 => (if (wrap64 ((wrap64 (t318 + t329)) + t345)) = 0 then (if bt357.2.2.2.2.2.2 = 6 then (if t317 = true then (metrolablaw30_awake.j0 k true 10 5 2) else (if t328 = true then (if (!(t339 == 13) || (!(t340 == 5) || (!(t341 == 2)))) = true then (metrolablaw30_awake.j0 k true 10 5 2) else (metrolablaw30_awake.j0 k (!(t342 == 12) || (!(t343 == 5) || (!(t344 == 2)))) 10 5 2)) else (metrolablaw30_awake.j0 k true 10 5 2))) else (metrolablaw30_awake.j0 k true 10 5 2)) else (metrolablaw30_awake.j0 k true 10 5 2)))) = some r := H
 have A6 := mk0 A60
 clear A60
 replace H := Option.bind_eq_some_iff.mp H
 obtain ⟨⟨t348, t349, t350, t351, t352, t353, t354⟩, A70, H⟩ := H
 replace H : ((probe_Touch.f k t348 t349 t350 t351 t352 t353 t354 10 5 9 5).bind fun bt357 => (if (wrap64 ((wrap64 (t318 + t329)) + t345)) = 0 then (if bt357.2.2.2.2.2.2 = 6 then (if t317 = true then (metrolablaw30_awake.j0 k true 10 5 2) else (if t328 = true then (if (!(t339 == 13) || (!(t340 == 5) || (!(t341 == 2)))) = true then (metrolablaw30_awake.j0 k true 10 5 2) else (metrolablaw30_awake.j0 k (!(t342 == 12) || (!(t343 == 5) || (!(t344 == 2)))) 10 5 2)) else (metrolablaw30_awake.j0 k true 10 5 2))) else (metrolablaw30_awake.j0 k true 10 5 2)) else (metrolablaw30_awake.j0 k true 10 5 2))) = some r := H
 have A7 := mk0 A70
 clear A70
 replace H := Option.bind_eq_some_iff.mp H
 obtain ⟨⟨t357, t358, t359, t360, t361, t362, t363⟩, A80, H⟩ := H
 replace H : (if (wrap64 ((wrap64 (t318 + t329)) + t345)) = 0 then (if t363 = 6 then (if t317 = true then (metrolablaw30_awake.j0 k true 10 5 2) else (if t328 = true then (if (!(t339 == 13) || (!(t340 == 5) || (!(t341 == 2)))) = true then (metrolablaw30_awake.j0 k true 10 5 2) else (metrolablaw30_awake.j0 k (!(t342 == 12) || (!(t343 == 5) || (!(t344 == 2)))) 10 5 2)) else (metrolablaw30_awake.j0 k true 10 5 2))) else (metrolablaw30_awake.j0 k true 10 5 2)) else (metrolablaw30_awake.j0 k true 10 5 2)) = some r := H
 have A8 := mk0 A80
 clear A80
 have HC9 := mk0 H
 clear H
 go_enter Tryz.func14, Tryz.ntmps14
 try go_wp2_with (first | ((with_reducible refine gate_dst (N := 1) rfl ?_); (try (refine gate_guard (by rfl) ?_; dsimp only)); refine box_event ?hg (N := 1) ?hd (cs := #[.int .i64 0, .int .i64 0, .int .i64 0]) (t := 23) ?hr ?_; (case hd => rfl); (case hg => rfl); (case hr => first | (go_simp; done) | (go_simp; rfl)); intro gb307 hg w10 hbox hb; have n0_ := mk0 (below_step (wT HB.out) hb); have n1_ := mk0 (hbox); have n2_ := mk0 ((szT HB.out hg)); have n3_ := mk0 ((szT HB.out hg)); clear HB; have HB := n0_; have BK307 := n1_; have GW307 := n2_; have GE307 := n3_; clear n0_ n1_ n2_ n3_; clear hb hbox hg; have X11_0 := ct BK307.out 0; have X11_1 := ct BK307.out 1; have X11_2 := ct BK307.out 2; have Y11_0 := blk_frozen BK307.out 0; have Y11_1 := blk_frozen BK307.out 1; have Y11_2 := blk_frozen BK307.out 2) | ((with_reducible refine gate_callee (f := 36) rfl ?_); refine goesL_ (some 21) rfl rfl Tryz.func36 (by kernel_rfl) rfl #[] rfl (by (try simp only [List.map_toArray, List.map_cons, List.map_nil]); first | done | rfl | (simp only [List.length_drop, List.length_take]; rfl)) ?_; (with_reducible refine (metrolablaw30_Plate.calls  t308 t309 t310 t311 t312 t313 t314 _ A1.out).mono ?_); rintro e w12 ⟨v315, rfl, ho0, hb⟩; refine ⟨_, rfl, ?_⟩; have n0_ := mk0 (Kd.R_lower ho0 (below_size (by repeat (first | (with_reducible first | exact HB.out | apply below_alloc | apply pw_below_drewN | apply below_drew1 | refine below_set ?_ GE307.out) | exact HB.out)))); have n1_ := mk0 (blk_below (g := gb307) (o := .cells #[.int .i64 10, .int .i64 5, .int .i64 2] 23 (0, 0)) (by (with_reducible repeat (first | refine blk_drewN ?_ _ | refine blk_drew ?_ | refine blk_alloc ?_ _)); refine blk_put (cs := #[.int .i64 10, .int .i64 5, .int .i64 0]) ?_ 2 _ rfl; refine blk_put (cs := #[.int .i64 10, .int .i64 0, .int .i64 0]) ?_ 1 _ rfl; refine blk_put (cs := #[.int .i64 0, .int .i64 0, .int .i64 0]) ?_ 0 _ rfl; (with_reducible repeat (first | refine blk_drewN ?_ _ | refine blk_drew ?_ | refine blk_alloc ?_ _)); exact BK307.out) hb); have n2_ := mk0 (below_step (by repeat (first | (with_reducible first | exact HB.out | apply below_alloc | apply pw_below_drewN | apply below_drew1 | refine below_set ?_ GE307.out) | exact HB.out)) hb); clear BK307; clear HB; have HO316 := n0_; have BK307 := n1_; have HB := n2_; clear n0_ n1_ n2_; (try clear hb); (try clear hb2); (try clear hk); (try clear hi); (try clear ho0); obtain ⟨Ao13, co13, eo13⟩ := Kd.R_slice HO316.out; subst eo13) | ((with_reducible refine gate_callee (f := 15) rfl ?_); refine goesL_ (some 23) rfl rfl Tryz.func15 (by kernel_rfl) rfl #[.agg #[.int .i64 t308, .int .i64 t309, .int .i64 t310, .int .i64 t311, .int .i64 t312, .int .i64 t313, .slice Ao13 t314.length co13], .agg #[.int .i64 12, .int .i64 5, .int .i64 2]] rfl (by (try simp only [List.map_toArray, List.map_cons, List.map_nil]); first | done | rfl | (simp only [List.length_drop, List.length_take]; rfl)) ?_; (with_reducible refine (probe_Material.calls k t308 t309 t310 t311 t312 t313 _ _ t314 12 5 2 t317 t318 _ ?side1 ?side2 A2.out).mono ?_); (case side1 => repeat (first | exact (Kd.R_reads' HO316.out).2.2 | (with_reducible refine Kd.C_alloc ?_ _) | (with_reducible refine Kd.C_drewN ?_ _) | (with_reducible refine Kd.C_drew ?_))); (case side2 => exact (Kd.R_reads' HO316.out).2.1); rintro e w14 ⟨rfl, hb⟩; refine ⟨_, rfl, ?_⟩; have n0_ := mk0 (Kd.R_below (rT HO316.out) hb); have n1_ := mk0 (blk_below (g := gb307) (o := .cells #[.int .i64 10, .int .i64 5, .int .i64 2] 23 (0, 0)) (bT BK307.out) hb); have n2_ := mk0 (below_step (wT HB.out) hb); clear HO316; clear BK307; clear HB; have HO316 := n0_; have BK307 := n1_; have HB := n2_; clear n0_ n1_ n2_; (try clear hb); (try clear hb2); (try clear hk); (try clear hi)) | ((with_reducible refine gate_callee (f := 36) rfl ?_); refine goesL_ (some 27) rfl rfl Tryz.func36 (by kernel_rfl) rfl #[] rfl (by (try simp only [List.map_toArray, List.map_cons, List.map_nil]); first | done | rfl | (simp only [List.length_drop, List.length_take]; rfl)) ?_; (with_reducible refine (metrolablaw30_Plate.calls  t319 t320 t321 t322 t323 t324 t325 _ A3.out).mono ?_); rintro e w15 ⟨v326, rfl, ho0, hb⟩; refine ⟨_, rfl, ?_⟩; have n0_ := mk0 (Kd.R_elder' (rT HO316.out) (Kd.R_base ho0) hb); have n1_ := mk0 (Kd.R_lower (Kd.R_new' ho0 (Kd.R_lt (rT HO316.out))) (below_size (wT HB.out))); have n2_ := mk0 (blk_below (g := gb307) (o := .cells #[.int .i64 10, .int .i64 5, .int .i64 2] 23 (0, 0)) (bT BK307.out) hb); have n3_ := mk0 (below_step (wT HB.out) hb); clear HO316; clear BK307; clear HB; have HO316 := n0_; have HO327 := n1_; have BK307 := n2_; have HB := n3_; clear n0_ n1_ n2_ n3_; (try clear hb); (try clear hb2); (try clear hk); (try clear hi); (try clear ho0); obtain ⟨Ao16, co16, eo16⟩ := Kd.R_slice HO327.out; subst eo16) | ((with_reducible refine gate_callee (f := 15) rfl ?_); refine goesL_ (some 29) rfl rfl Tryz.func15 (by kernel_rfl) rfl #[.agg #[.int .i64 t319, .int .i64 t320, .int .i64 t321, .int .i64 t322, .int .i64 t323, .int .i64 t324, .slice Ao16 t325.length co16], .agg #[.int .i64 13, .int .i64 5, .int .i64 2]] rfl (by (try simp only [List.map_toArray, List.map_cons, List.map_nil]); first | done | rfl | (simp only [List.length_drop, List.length_take]; rfl)) ?_; (with_reducible refine (probe_Material.calls k t319 t320 t321 t322 t323 t324 _ _ t325 13 5 2 t328 t329 _ ?side1 ?side2 A4.out).mono ?_); (case side1 => repeat (first | exact (Kd.R_reads' HO327.out).2.2 | (with_reducible refine Kd.C_alloc ?_ _) | (with_reducible refine Kd.C_drewN ?_ _) | (with_reducible refine Kd.C_drew ?_))); (case side2 => exact (Kd.R_reads' HO327.out).2.1); rintro e w17 ⟨rfl, hb⟩; refine ⟨_, rfl, ?_⟩; have n0_ := mk0 (Kd.R_below (rT HO316.out) hb); have n1_ := mk0 (Kd.R_below (rT HO327.out) hb); have n2_ := mk0 (blk_below (g := gb307) (o := .cells #[.int .i64 10, .int .i64 5, .int .i64 2] 23 (0, 0)) (bT BK307.out) hb); have n3_ := mk0 (below_step (wT HB.out) hb); clear HO316; clear HO327; clear BK307; clear HB; have HO316 := n0_; have HO327 := n1_; have BK307 := n2_; have HB := n3_; clear n0_ n1_ n2_ n3_; (try clear hb); (try clear hb2); (try clear hk); (try clear hi)))
 have n0_ := mk0 (Kd.R_drew HO316.out)
 have n1_ := mk0 (Kd.R_drew HO327.out)
 have n2_ := mk0 (blk_drew BK307.out)
 have n3_ := mk0 (below_drew1 HB.out)
 clear HO316
 clear HO327
 clear BK307
 clear HB
 have HO316 := n0_
 have HO327 := n1_
 have BK307 := n2_
 have HB := n3_
 clear n0_ n1_ n2_ n3_
 refine start_ (n := 12) (S := fun w' => True) (ds := []) #[false, false, false, false, false, false, false, false, false, false, false, false] (by kernel_rfl) rfl rfl trivial (fun hHeld => ?_); refine with_tabW metrolablaw30_awake.tab4 metrolablaw30_awake.bits4 (fun HT_ HW_ => ?_)
 generalize w17.drew = w18 at HO316 HO327 BK307 HB hHeld ⊢
 refine inv_at [0, 1, 2, 3, 4, 5, 6, 7, 8, 9, 10, 11] (fun a0_ b a w' => ∃ (v337 : Value) (gb346 : Nat) (gb347 : Nat) (m0_ : Value) (m7_ : Value) (m8_ : Value), a = putSel a0_ b [(0, 33, m0_), (1, 34, .agg #[.int .i64 10, .int .i64 5, .int .i64 2]), (2, 35, .tuple #[.agg #[.int .i64 t339, .int .i64 t340, .int .i64 t341], .agg #[.int .i64 t342, .int .i64 t343, .int .i64 t344], .int .i64 t345]), (3, 32, .tuple #[.agg #[.int .i64 t339, .int .i64 t340, .int .i64 t341], .agg #[.int .i64 t342, .int .i64 t343, .int .i64 t344], .int .i64 t345]), (4, 36, .agg #[.int .i64 t339, .int .i64 t340, .int .i64 t341]), (5, 37, .agg #[.int .i64 t342, .int .i64 t343, .int .i64 t344]), (6, 38, .int .i64 t345), (7, 6, m7_), (8, 7, m8_), (11, 8, .int .i64 t345)] ∧ (Kd.R k84 84 w' w.heap.size (fun k_ => True ∧ some k_ ≠ (.slice Ao16 t325.length co16 : Value).ownBlock) (.slice Ao13 t314.length co13) t314) ∧ (Kd.R k84 84 w' w.heap.size (fun k_ => True ∧ some k_ ≠ (.slice Ao13 t314.length co13 : Value).ownBlock) (.slice Ao16 t325.length co16) t325) ∧ (w'.heap[gb307]? = some (.cells #[.int .i64 10, .int .i64 5, .int .i64 2] 23 (0, 0))) ∧ (Below w.heap.size w w') ∧ (b 7 = true → b 8 = true → gb347 ≠ gb346) ∧ (b 7 = true → b 8 = true → gb346 ≠ gb347) ∧ (b 0 = true → Kd.R k84 84 w' w.heap.size (fun k_ => True ∧ some k_ ≠ (.slice Ao13 t314.length co13 : Value).ownBlock ∧ some k_ ≠ (.slice Ao16 t325.length co16 : Value).ownBlock) v337 t336) ∧ (b 7 = true → b 9 = false → w'.heap[gb346]? = some (.cells #[.int .i64 0, .int .i64 0, .int .i64 0] 23 (0, 0))) ∧ (b 7 = true → w.heap.size ≤ gb346) ∧ (b 7 = true → w.heap.size ≤ gb346) ∧ (b 7 = true → gb307 ≠ gb346) ∧ (b 7 = true → gb346 ≠ gb307) ∧ (b 8 = true → b 10 = false → w'.heap[gb347]? = some (.cells #[.int .i64 0, .int .i64 0, .int .i64 0] 23 (0, 0))) ∧ (b 8 = true → w.heap.size ≤ gb347) ∧ (b 8 = true → w.heap.size ≤ gb347) ∧ (b 8 = true → gb307 ≠ gb347) ∧ (b 8 = true → gb347 ≠ gb307) ∧ (b 9 = true → w'.heap[gb346]? = some (.cells #[.int .i64 t339, .int .i64 t340, .int .i64 t341] 23 (0, 0))) ∧ (b 10 = true → w'.heap[gb347]? = some (.cells #[.int .i64 t342, .int .i64 t343, .int .i64 t344] 23 (0, 0))) ∧ (b 0 = true → (m0_ : Value) = .agg #[.int .i64 t330, .int .i64 t331, .int .i64 t332, .int .i64 t333, .int .i64 t334, .int .i64 t335, v337]) ∧ (b 7 = true → (m7_ : Value) = .pointer (some ⟨gb346, 0, none⟩)) ∧ (b 8 = true → (m8_ : Value) = .pointer (some ⟨gb347, 0, none⟩))) HT_.out HW_.out (by kernel_rfl) (by kernel_rfl) ?_ ?_ ?_
 ·exact ⟨.bool false, 0, 0, .bool false, .bool false, .bool false, by simp only [putSel, Bool.false_eq_true, if_false], HO316.out, HO327.out, BK307.out, HB.out, fun h_ => absurd h_ (by decide), fun h_ => absurd h_ (by decide), fun h_ => absurd h_ (by decide), fun h_ => absurd h_ (by decide), fun h_ => absurd h_ (by decide), fun h_ => absurd h_ (by decide), fun h_ => absurd h_ (by decide), fun h_ => absurd h_ (by decide), fun h_ => absurd h_ (by decide), fun h_ => absurd h_ (by decide), fun h_ => absurd h_ (by decide), fun h_ => absurd h_ (by decide), fun h_ => absurd h_ (by decide), fun h_ => absurd h_ (by decide), fun h_ => absurd h_ (by decide), fun h_ => absurd h_ (by decide), fun h_ => absurd h_ (by decide), fun h_ => absurd h_ (by decide)⟩
 ·skip
  clear BK307 HB HO316 HO327
  refine steps_cons ?_ ?_
  ·rintro b a w' ⟨v337, gb346, gb347, m0_, m7_, m8_, ha, Q_HO316, Q_HO327, Q_BK307, Q_HB, Q_NB347_346, Q_NB346_347, Q_HO338, Q_BK346, Q_GW346, Q_GE346, Q_NB307_346, Q_NB346_307, Q_BK347, Q_GW347, Q_GE347, Q_NB307_347, Q_NB347_307, Q_BK346_e9, Q_BK347_e10, Q_X0_, Q_X7_, Q_X8_⟩ hb_ hon hoff
   refine ⟨_, rfl, fun K hK => ?_⟩
   replace ha := mk0 ha
   have HO316 := mk0 Q_HO316
   have HO327 := mk0 Q_HO327
   have BK307 := mk0 Q_BK307
   have HB := mk0 Q_HB
   refine goes_ Tryz.func36 (by kernel_rfl) rfl #[] (by rfl) rfl rfl (by first | (simp only [List.map_toArray, List.map_cons, List.map_nil, Act.eval, Array.getD_eq_getD_getElem?, Option.getD_some]; done) | (simp only [List.map_toArray, List.map_cons, List.map_nil, Act.eval, Array.getD_eq_getD_getElem?, Option.getD_some]; rfl)) ?_
   with_reducible refine (metrolablaw30_Plate.calls  t330 t331 t332 t333 t334 t335 t336 _ A5.out).mono ?_
   rintro e w19 ⟨v337, rfl, ho0, hb⟩
   refine ⟨_, rfl, ?_⟩
   have n0_ := mk0 (Kd.R_elder' (rT HO316.out) (Kd.R_base ho0) hb)
   have n1_ := mk0 (Kd.R_elder' (rT HO327.out) (Kd.R_base ho0) hb)
   have n2_ := mk0 (Kd.R_lower (Kd.R_new' (Kd.R_new' ho0 (Kd.R_lt (rT HO316.out))) (Kd.R_lt (rT HO327.out))) (below_size (wT HB.out)))
   have n3_ := mk0 (blk_below (g := gb307) (o := .cells #[.int .i64 10, .int .i64 5, .int .i64 2] 23 (0, 0)) (bT BK307.out) hb)
   have n4_ := mk0 (below_step (wT HB.out) hb)
   have z_BK346 := fun (h0_ : b 7 = true) (h1_ : b 9 = false) => (bbT (Q_BK346 h0_ h1_) hb)
   have z_BK347 := fun (h0_ : b 8 = true) (h1_ : b 10 = false) => (bbT (Q_BK347 h0_ h1_) hb)
   clear HO316
   clear HO327
   clear BK307
   clear HB
   have HO316 := n0_
   have HO327 := n1_
   have HO338 := n2_
   have BK307 := n3_
   have HB := n4_
   clear n0_ n1_ n2_ n3_ n4_
   (try clear hb)
   (try clear hb2)
   (try clear hk)
   (try clear hi)
   (try clear ho0)
   refine hK.out _ _ ⟨v337, gb346, gb347, (.agg #[.int .i64 t330, .int .i64 t331, .int .i64 t332, .int .i64 t333, .int .i64 t334, .int .i64 t335, v337]), m7_, m8_, (by rw [ha.out]; exact putSel_upk 0 hb_ rfl rfl rfl), (by (with_reducible repeat (first | apply Kd.R_alloc | apply Kd.R_drewN | apply Kd.R_drew)); exact Kd.R_mono HO316.out (fun _ hk => by first | exact hk | exact hk.1 | exact hk.2 | exact hk.1.2 | exact ⟨hk.1.2, hk.2⟩ | exact ⟨trivial, hk.1.2, hk.2⟩ | exact ⟨trivial, hk.2⟩ | (simp_all; done))), (by (with_reducible repeat (first | apply Kd.R_alloc | apply Kd.R_drewN | apply Kd.R_drew)); exact Kd.R_mono HO327.out (fun _ hk => by first | exact hk | exact hk.1 | exact hk.2 | exact hk.1.2 | exact ⟨hk.1.2, hk.2⟩ | exact ⟨trivial, hk.1.2, hk.2⟩ | exact ⟨trivial, hk.2⟩ | (simp_all; done))), (bT BK307.out), (wT HB.out), Q_NB347_346, Q_NB346_347, fun _ => (by (with_reducible repeat (first | apply Kd.R_alloc | apply Kd.R_drewN | apply Kd.R_drew)); exact Kd.R_mono HO338.out (fun _ hk => by first | exact hk | exact hk.1 | exact hk.2 | exact hk.1.2 | exact ⟨hk.1.2, hk.2⟩ | exact ⟨trivial, hk.1.2, hk.2⟩ | exact ⟨trivial, hk.2⟩ | (simp_all; done))), z_BK346, Q_GW346, Q_GE346, Q_NB307_346, Q_NB346_307, z_BK347, Q_GW347, Q_GE347, Q_NB307_347, Q_NB347_307, fun h0_ => absurd ((hoff 9 (by kernel_rfl)).symm.trans h0_) (by decide), fun h0_ => absurd ((hoff 10 (by kernel_rfl)).symm.trans h0_) (by decide), fun _ => rfl, Q_X7_, Q_X8_⟩
  refine steps_cons ?_ ?_
  ·rintro b a w' ⟨v337, gb346, gb347, m0_, m7_, m8_, ha, Q_HO316, Q_HO327, Q_BK307, Q_HB, Q_NB347_346, Q_NB346_347, Q_HO338, Q_BK346, Q_GW346, Q_GE346, Q_NB307_346, Q_NB346_307, Q_BK347, Q_GW347, Q_GE347, Q_NB307_347, Q_NB347_307, Q_BK346_e9, Q_BK347_e10, Q_X0_, Q_X7_, Q_X8_⟩ hb_ hon hoff
   refine ⟨_, rfl, fun K hK => ?_⟩
   have e1 : a.tmps[1]? = some (.pointer (some ⟨gb307, 0, none⟩)) := by rw [ha]; exact (putSel_off rfl).trans rfl
   replace ha := mk0 ha
   have HO316 := mk0 Q_HO316
   have HO327 := mk0 Q_HO327
   have BK307 := mk0 Q_BK307
   have HB := mk0 Q_HB
   have hc0_ := ct BK307.out 0
   have hc1_ := ct BK307.out 1
   have hc2_ := ct BK307.out 2
   refine value_ (w1 := w') (v := .agg #[.int .i64 10, .int .i64 5, .int .i64 2]) (by rfl) rfl ?_ ?_
   ·go_simp
    (try simp only [i64_w])
    try rfl
   refine hK.out _ _ ⟨v337, gb346, gb347, m0_, m7_, m8_, (by rw [ha.out]; exact putSel_upk 1 hb_ rfl rfl rfl), Q_HO316, Q_HO327, Q_BK307, Q_HB, Q_NB347_346, Q_NB346_347, Q_HO338, Q_BK346, Q_GW346, Q_GE346, Q_NB307_346, Q_NB346_307, Q_BK347, Q_GW347, Q_GE347, Q_NB307_347, Q_NB347_307, fun h0_ => absurd ((hoff 9 (by kernel_rfl)).symm.trans h0_) (by decide), fun h0_ => absurd ((hoff 10 (by kernel_rfl)).symm.trans h0_) (by decide), Q_X0_, Q_X7_, Q_X8_⟩
  refine steps_cons ?_ ?_
  ·rintro b a w' ⟨v337, gb346, gb347, m0_, m7_, m8_, ha, Q_HO316, Q_HO327, Q_BK307, Q_HB, Q_NB347_346, Q_NB346_347, Q_HO338, Q_BK346, Q_GW346, Q_GE346, Q_NB307_346, Q_NB346_307, Q_BK347, Q_GW347, Q_GE347, Q_NB307_347, Q_NB347_307, Q_BK346_e9, Q_BK347_e10, Q_X0_, Q_X7_, Q_X8_⟩ hb_ hon hoff
   refine ⟨_, rfl, fun K hK => ?_⟩
   have e33 : a.tmps[33]? = some (m0_) := by rw [ha]; exact putSel_on (e := (0, 33, m0_)) 0 rfl rfl (hon 0 (by kernel_rfl)) rfl
   rw [Q_X0_ (hon 0 (by kernel_rfl))] at e33
   have e34 : a.tmps[34]? = some (.agg #[.int .i64 10, .int .i64 5, .int .i64 2]) := by rw [ha]; exact putSel_on (e := (1, 34, .agg #[.int .i64 10, .int .i64 5, .int .i64 2])) 1 rfl rfl (hon 1 (by kernel_rfl)) rfl
   replace ha := mk0 ha
   have HO316 := mk0 Q_HO316
   have HO327 := mk0 Q_HO327
   have BK307 := mk0 Q_BK307
   have HB := mk0 Q_HB
   have HO338 := mk0 (Q_HO338 (hon 0 (by kernel_rfl)))
   obtain ⟨Ao21, co21, eo21⟩ := Kd.R_slice HO338.out
   (first | subst eo21 | (injection eo21 with f1_ f2_ f3_; have f4_ := f1_.symm; have f5_ := f3_.symm; clear f1_ f2_ f3_; subst f4_; subst f5_))
   refine goes_ Tryz.func19 (by kernel_rfl) rfl #[.agg #[.int .i64 t330, .int .i64 t331, .int .i64 t332, .int .i64 t333, .int .i64 t334, .int .i64 t335, .slice Ao21 t336.length co21], .agg #[.int .i64 10, .int .i64 5, .int .i64 2], .int .i64 0] (by rfl) rfl rfl (by first | (simp only [List.map_toArray, List.map_cons, List.map_nil, Act.eval, Array.getD_eq_getD_getElem?, Option.getD_some, e33, e34]; done) | (simp only [List.map_toArray, List.map_cons, List.map_nil, Act.eval, Array.getD_eq_getD_getElem?, Option.getD_some, e33, e34]; rfl)) ?_
   with_reducible refine (probe_Touch.calls k t330 t331 t332 t333 t334 t335 _ _ t336 10 5 2 0 t339 t340 t341 t342 t343 t344 t345 _ ?side1 ?side2 A6.out).mono ?_
   (case side1 => repeat (first | exact (Kd.R_reads' HO338.out).2.2 | (with_reducible refine Kd.C_alloc ?_ _) | (with_reducible refine Kd.C_drewN ?_ _) | (with_reducible refine Kd.C_drew ?_)))
   (case side2 => exact (Kd.R_reads' HO338.out).2.1)
   rintro e w22 ⟨rfl, hb⟩
   refine ⟨_, rfl, ?_⟩
   have n0_ := mk0 (Kd.R_below (rT HO316.out) hb)
   have n1_ := mk0 (Kd.R_below (rT HO327.out) hb)
   have n2_ := mk0 (Kd.R_below (rT HO338.out) hb)
   have n3_ := mk0 (blk_below (g := gb307) (o := .cells #[.int .i64 10, .int .i64 5, .int .i64 2] 23 (0, 0)) (bT BK307.out) hb)
   have n4_ := mk0 (below_step (wT HB.out) hb)
   have z_BK346 := fun (h0_ : b 7 = true) (h1_ : b 9 = false) => (bbT (Q_BK346 h0_ h1_) hb)
   have z_BK347 := fun (h0_ : b 8 = true) (h1_ : b 10 = false) => (bbT (Q_BK347 h0_ h1_) hb)
   clear HO316
   clear HO327
   clear HO338
   clear BK307
   clear HB
   have HO316 := n0_
   have HO327 := n1_
   have HO338 := n2_
   have BK307 := n3_
   have HB := n4_
   clear n0_ n1_ n2_ n3_ n4_
   (try clear hb)
   (try clear hb2)
   (try clear hk)
   (try clear hi)
   refine hK.out _ _ ⟨.slice Ao21 t336.length co21, gb346, gb347, m0_, m7_, m8_, (by rw [ha.out]; exact putSel_upk 2 hb_ rfl rfl rfl), (rT HO316.out), (rT HO327.out), (bT BK307.out), (wT HB.out), Q_NB347_346, Q_NB346_347, fun _ => (rT HO338.out), z_BK346, Q_GW346, Q_GE346, Q_NB307_346, Q_NB346_307, z_BK347, Q_GW347, Q_GE347, Q_NB307_347, Q_NB347_307, fun h0_ => absurd ((hoff 9 (by kernel_rfl)).symm.trans h0_) (by decide), fun h0_ => absurd ((hoff 10 (by kernel_rfl)).symm.trans h0_) (by decide), Q_X0_, Q_X7_, Q_X8_⟩
  refine steps_cons ?_ ?_
  ·rintro b a w' ⟨v337, gb346, gb347, m0_, m7_, m8_, ha, Q_HO316, Q_HO327, Q_BK307, Q_HB, Q_NB347_346, Q_NB346_347, Q_HO338, Q_BK346, Q_GW346, Q_GE346, Q_NB307_346, Q_NB346_307, Q_BK347, Q_GW347, Q_GE347, Q_NB307_347, Q_NB347_307, Q_BK346_e9, Q_BK347_e10, Q_X0_, Q_X7_, Q_X8_⟩ hb_ hon hoff
   refine ⟨_, rfl, fun K hK => ?_⟩
   have e35 : a.tmps[35]? = some (.tuple #[.agg #[.int .i64 t339, .int .i64 t340, .int .i64 t341], .agg #[.int .i64 t342, .int .i64 t343, .int .i64 t344], .int .i64 t345]) := by rw [ha]; exact putSel_on (e := (2, 35, .tuple #[.agg #[.int .i64 t339, .int .i64 t340, .int .i64 t341], .agg #[.int .i64 t342, .int .i64 t343, .int .i64 t344], .int .i64 t345])) 2 rfl rfl (hon 2 (by kernel_rfl)) rfl
   replace ha := mk0 ha
   have HO316 := mk0 Q_HO316
   have HO327 := mk0 Q_HO327
   have BK307 := mk0 Q_BK307
   have HB := mk0 Q_HB
   have HO338 := mk0 (Q_HO338 (hon 0 (by kernel_rfl)))
   refine value_ (w1 := w') (v := .tuple #[.agg #[.int .i64 t339, .int .i64 t340, .int .i64 t341], .agg #[.int .i64 t342, .int .i64 t343, .int .i64 t344], .int .i64 t345]) (by rfl) rfl ?_ ?_
   ·go_simp
    (try simp only [i64_w])
    try rfl
   refine hK.out _ _ ⟨v337, gb346, gb347, m0_, m7_, m8_, (by rw [ha.out]; exact putSel_upk 3 hb_ rfl rfl rfl), Q_HO316, Q_HO327, Q_BK307, Q_HB, Q_NB347_346, Q_NB346_347, Q_HO338, Q_BK346, Q_GW346, Q_GE346, Q_NB307_346, Q_NB346_307, Q_BK347, Q_GW347, Q_GE347, Q_NB307_347, Q_NB347_307, fun h0_ => absurd ((hoff 9 (by kernel_rfl)).symm.trans h0_) (by decide), fun h0_ => absurd ((hoff 10 (by kernel_rfl)).symm.trans h0_) (by decide), Q_X0_, Q_X7_, Q_X8_⟩
  refine steps_cons ?_ ?_
  ·rintro b a w' ⟨v337, gb346, gb347, m0_, m7_, m8_, ha, Q_HO316, Q_HO327, Q_BK307, Q_HB, Q_NB347_346, Q_NB346_347, Q_HO338, Q_BK346, Q_GW346, Q_GE346, Q_NB307_346, Q_NB346_307, Q_BK347, Q_GW347, Q_GE347, Q_NB307_347, Q_NB347_307, Q_BK346_e9, Q_BK347_e10, Q_X0_, Q_X7_, Q_X8_⟩ hb_ hon hoff
   refine ⟨_, rfl, fun K hK => ?_⟩
   have e32 : a.tmps[32]? = some (.tuple #[.agg #[.int .i64 t339, .int .i64 t340, .int .i64 t341], .agg #[.int .i64 t342, .int .i64 t343, .int .i64 t344], .int .i64 t345]) := by rw [ha]; exact putSel_on (e := (3, 32, .tuple #[.agg #[.int .i64 t339, .int .i64 t340, .int .i64 t341], .agg #[.int .i64 t342, .int .i64 t343, .int .i64 t344], .int .i64 t345])) 3 rfl rfl (hon 3 (by kernel_rfl)) rfl
   replace ha := mk0 ha
   have HO316 := mk0 Q_HO316
   have HO327 := mk0 Q_HO327
   have BK307 := mk0 Q_BK307
   have HB := mk0 Q_HB
   have HO338 := mk0 (Q_HO338 (hon 0 (by kernel_rfl)))
   refine value_ (w1 := w') (v := .agg #[.int .i64 t339, .int .i64 t340, .int .i64 t341]) (by rfl) rfl ?_ ?_
   ·go_simp
    (try simp only [i64_w])
    try rfl
   refine hK.out _ _ ⟨v337, gb346, gb347, m0_, m7_, m8_, (by rw [ha.out]; exact putSel_upk 4 hb_ rfl rfl rfl), Q_HO316, Q_HO327, Q_BK307, Q_HB, Q_NB347_346, Q_NB346_347, Q_HO338, Q_BK346, Q_GW346, Q_GE346, Q_NB307_346, Q_NB346_307, Q_BK347, Q_GW347, Q_GE347, Q_NB307_347, Q_NB347_307, fun h0_ => absurd ((hoff 9 (by kernel_rfl)).symm.trans h0_) (by decide), fun h0_ => absurd ((hoff 10 (by kernel_rfl)).symm.trans h0_) (by decide), Q_X0_, Q_X7_, Q_X8_⟩
  refine steps_cons ?_ ?_
  ·rintro b a w' ⟨v337, gb346, gb347, m0_, m7_, m8_, ha, Q_HO316, Q_HO327, Q_BK307, Q_HB, Q_NB347_346, Q_NB346_347, Q_HO338, Q_BK346, Q_GW346, Q_GE346, Q_NB307_346, Q_NB346_307, Q_BK347, Q_GW347, Q_GE347, Q_NB307_347, Q_NB347_307, Q_BK346_e9, Q_BK347_e10, Q_X0_, Q_X7_, Q_X8_⟩ hb_ hon hoff
   refine ⟨_, rfl, fun K hK => ?_⟩
   have e32 : a.tmps[32]? = some (.tuple #[.agg #[.int .i64 t339, .int .i64 t340, .int .i64 t341], .agg #[.int .i64 t342, .int .i64 t343, .int .i64 t344], .int .i64 t345]) := by rw [ha]; exact putSel_on (e := (3, 32, .tuple #[.agg #[.int .i64 t339, .int .i64 t340, .int .i64 t341], .agg #[.int .i64 t342, .int .i64 t343, .int .i64 t344], .int .i64 t345])) 3 rfl rfl (hon 3 (by kernel_rfl)) rfl
   replace ha := mk0 ha
   have HO316 := mk0 Q_HO316
   have HO327 := mk0 Q_HO327
   have BK307 := mk0 Q_BK307
   have HB := mk0 Q_HB
   have HO338 := mk0 (Q_HO338 (hon 0 (by kernel_rfl)))
   refine value_ (w1 := w') (v := .agg #[.int .i64 t342, .int .i64 t343, .int .i64 t344]) (by rfl) rfl ?_ ?_
   ·go_simp
    (try simp only [i64_w])
    try rfl
   refine hK.out _ _ ⟨v337, gb346, gb347, m0_, m7_, m8_, (by rw [ha.out]; exact putSel_upk 5 hb_ rfl rfl rfl), Q_HO316, Q_HO327, Q_BK307, Q_HB, Q_NB347_346, Q_NB346_347, Q_HO338, Q_BK346, Q_GW346, Q_GE346, Q_NB307_346, Q_NB346_307, Q_BK347, Q_GW347, Q_GE347, Q_NB307_347, Q_NB347_307, Q_BK346_e9, fun h0_ => absurd ((hoff 10 (by kernel_rfl)).symm.trans h0_) (by decide), Q_X0_, Q_X7_, Q_X8_⟩
  refine steps_cons ?_ ?_
  ·rintro b a w' ⟨v337, gb346, gb347, m0_, m7_, m8_, ha, Q_HO316, Q_HO327, Q_BK307, Q_HB, Q_NB347_346, Q_NB346_347, Q_HO338, Q_BK346, Q_GW346, Q_GE346, Q_NB307_346, Q_NB346_307, Q_BK347, Q_GW347, Q_GE347, Q_NB307_347, Q_NB347_307, Q_BK346_e9, Q_BK347_e10, Q_X0_, Q_X7_, Q_X8_⟩ hb_ hon hoff
   refine ⟨_, rfl, fun K hK => ?_⟩
   have e32 : a.tmps[32]? = some (.tuple #[.agg #[.int .i64 t339, .int .i64 t340, .int .i64 t341], .agg #[.int .i64 t342, .int .i64 t343, .int .i64 t344], .int .i64 t345]) := by rw [ha]; exact putSel_on (e := (3, 32, .tuple #[.agg #[.int .i64 t339, .int .i64 t340, .int .i64 t341], .agg #[.int .i64 t342, .int .i64 t343, .int .i64 t344], .int .i64 t345])) 3 rfl rfl (hon 3 (by kernel_rfl)) rfl
   replace ha := mk0 ha
   have HO316 := mk0 Q_HO316
   have HO327 := mk0 Q_HO327
   have BK307 := mk0 Q_BK307
   have HB := mk0 Q_HB
   have HO338 := mk0 (Q_HO338 (hon 0 (by kernel_rfl)))
   refine value_ (w1 := w') (v := .int .i64 t345) (by rfl) rfl ?_ ?_
   ·go_simp
    (try simp only [i64_w])
    try rfl
   refine hK.out _ _ ⟨v337, gb346, gb347, m0_, m7_, m8_, (by rw [ha.out]; exact putSel_upk 6 hb_ rfl rfl rfl), Q_HO316, Q_HO327, Q_BK307, Q_HB, Q_NB347_346, Q_NB346_347, Q_HO338, Q_BK346, Q_GW346, Q_GE346, Q_NB307_346, Q_NB346_307, Q_BK347, Q_GW347, Q_GE347, Q_NB307_347, Q_NB347_307, Q_BK346_e9, Q_BK347_e10, Q_X0_, Q_X7_, Q_X8_⟩
  refine steps_cons ?_ ?_
  ·rintro b a w' ⟨v337, gb346, gb347, m0_, m7_, m8_, ha, Q_HO316, Q_HO327, Q_BK307, Q_HB, Q_NB347_346, Q_NB346_347, Q_HO338, Q_BK346, Q_GW346, Q_GE346, Q_NB307_346, Q_NB346_307, Q_BK347, Q_GW347, Q_GE347, Q_NB307_347, Q_NB347_307, Q_BK346_e9, Q_BK347_e10, Q_X0_, Q_X7_, Q_X8_⟩ hb_ hon hoff
   refine ⟨_, rfl, fun K hK => ?_⟩
   replace ha := mk0 ha
   have HO316 := mk0 Q_HO316
   have HO327 := mk0 Q_HO327
   have BK307 := mk0 Q_BK307
   have HB := mk0 Q_HB
   refine box_step ?hg (N := 6) ?hd (cs := #[.int .i64 0, .int .i64 0, .int .i64 0]) (t := 23) ?hr ?_; (case hd => rfl); (case hg => rfl); (case hr => first | (go_simp; done) | (go_simp; rfl))
   intro gb346 hg w19 hbox hb
   have n0_ := mk0 (Kd.R_below (rT HO316.out) hb)
   have n1_ := mk0 (Kd.R_below (rT HO327.out) hb)
   have n2_ := mk0 (blk_below (g := gb307) (o := .cells #[.int .i64 10, .int .i64 5, .int .i64 2] 23 (0, 0)) (bT BK307.out) hb)
   have n3_ := mk0 (below_step (wT HB.out) hb)
   have n4_ := mk0 (hbox)
   have n5_ := mk0 ((szT HB.out hg))
   have n6_ := mk0 ((szT HB.out hg))
   have n7_ := mk0 ((neL BK307.out hg))
   have n8_ := mk0 ((neG BK307.out hg))
   have z_NB347_346 := fun (h0_ : up b 7 7 = true) (h1_ : up b 7 8 = true) => (show gb347 ≠ gb346 from by rw [hg]; exact Nat.ne_of_lt ((show gb347 < w'.heap.size by cases hq_ : b 10 with | false => exact blk_lt (Q_BK347 h1_ hq_) | true => exact blk_lt (Q_BK347_e10 hq_))))
   have z_NB346_347 := fun (h0_ : up b 7 7 = true) (h1_ : up b 7 8 = true) => (show gb346 ≠ gb347 from by rw [hg]; exact Nat.ne_of_gt ((show gb347 < w'.heap.size by cases hq_ : b 10 with | false => exact blk_lt (Q_BK347 h1_ hq_) | true => exact blk_lt (Q_BK347_e10 hq_))))
   have z_HO338 := fun (h0_ : b 0 = true) => (show Kd.R k84 84 w19 w.heap.size (fun k_ => True ∧ some k_ ≠ (.slice Ao13 t314.length co13 : Value).ownBlock ∧ some k_ ≠ (.slice Ao16 t325.length co16 : Value).ownBlock) v337 t336 from by first | exact (Kd.R_below (by (with_reducible repeat (first | apply Kd.R_alloc | apply Kd.R_drewN | apply Kd.R_drew)); exact (Q_HO338 h0_)) hb) | exact Kd.R_mono (Kd.R_below (by (with_reducible repeat (first | apply Kd.R_alloc | apply Kd.R_drewN | apply Kd.R_drew)); exact (Q_HO338 h0_)) hb) (fun _ h_ => by first | trivial | exact h_ | exact h_.1))
   have z_BK347 := fun (h0_ : b 8 = true) (h1_ : b 10 = false) => (bbT (Q_BK347 h0_ h1_) hb)
   clear HO316
   clear HO327
   clear BK307
   clear HB
   have HO316 := n0_
   have HO327 := n1_
   have BK307 := n2_
   have HB := n3_
   have BK346 := n4_
   have GW346 := n5_
   have GE346 := n6_
   have NB307_346 := n7_
   have NB346_307 := n8_
   clear n0_ n1_ n2_ n3_ n4_ n5_ n6_ n7_ n8_
   clear hb hbox hg
   refine hK.out _ _ ⟨v337, gb346, gb347, m0_, (.pointer (some ⟨gb346, 0, none⟩)), m8_, (by rw [ha.out]; exact putSel_upk 7 hb_ rfl rfl rfl), (by (with_reducible repeat (first | apply Kd.R_alloc | apply Kd.R_drewN | apply Kd.R_drew)); exact Kd.R_mono HO316.out (fun _ hk => by first | exact hk | exact hk.1 | exact hk.2 | exact hk.1.2 | exact ⟨hk.1.2, hk.2⟩ | exact ⟨trivial, hk.1.2, hk.2⟩ | exact ⟨trivial, hk.2⟩ | (simp_all; done))), (by (with_reducible repeat (first | apply Kd.R_alloc | apply Kd.R_drewN | apply Kd.R_drew)); exact Kd.R_mono HO327.out (fun _ hk => by first | exact hk | exact hk.1 | exact hk.2 | exact hk.1.2 | exact ⟨hk.1.2, hk.2⟩ | exact ⟨trivial, hk.1.2, hk.2⟩ | exact ⟨trivial, hk.2⟩ | (simp_all; done))), (bT BK307.out), (wT HB.out), z_NB347_346, z_NB346_347, z_HO338, fun _ _ => (bT BK346.out), fun _ => GW346.out, fun _ => GE346.out, fun _ => NB307_346.out, fun _ => NB346_307.out, z_BK347, Q_GW347, Q_GE347, Q_NB307_347, Q_NB347_307, fun h0_ => absurd ((hoff 9 (by kernel_rfl)).symm.trans h0_) (by decide), fun h0_ => absurd ((hoff 10 (by kernel_rfl)).symm.trans h0_) (by decide), Q_X0_, fun _ => rfl, Q_X8_⟩
  refine steps_cons ?_ ?_
  ·rintro b a w' ⟨v337, gb346, gb347, m0_, m7_, m8_, ha, Q_HO316, Q_HO327, Q_BK307, Q_HB, Q_NB347_346, Q_NB346_347, Q_HO338, Q_BK346, Q_GW346, Q_GE346, Q_NB307_346, Q_NB346_307, Q_BK347, Q_GW347, Q_GE347, Q_NB307_347, Q_NB347_307, Q_BK346_e9, Q_BK347_e10, Q_X0_, Q_X7_, Q_X8_⟩ hb_ hon hoff
   refine ⟨_, rfl, fun K hK => ?_⟩
   replace ha := mk0 ha
   have HO316 := mk0 Q_HO316
   have HO327 := mk0 Q_HO327
   have BK307 := mk0 Q_BK307
   have HB := mk0 Q_HB
   refine box_step ?hg (N := 7) ?hd (cs := #[.int .i64 0, .int .i64 0, .int .i64 0]) (t := 23) ?hr ?_; (case hd => rfl); (case hg => rfl); (case hr => first | (go_simp; done) | (go_simp; rfl))
   intro gb347 hg w19 hbox hb
   have n0_ := mk0 (Kd.R_below (rT HO316.out) hb)
   have n1_ := mk0 (Kd.R_below (rT HO327.out) hb)
   have n2_ := mk0 (blk_below (g := gb307) (o := .cells #[.int .i64 10, .int .i64 5, .int .i64 2] 23 (0, 0)) (bT BK307.out) hb)
   have n3_ := mk0 (below_step (wT HB.out) hb)
   have n4_ := mk0 (hbox)
   have n5_ := mk0 ((szT HB.out hg))
   have n6_ := mk0 ((szT HB.out hg))
   have n7_ := mk0 ((neL BK307.out hg))
   have n8_ := mk0 ((neG BK307.out hg))
   have z_NB347_346 := fun (h0_ : up b 8 7 = true) (h1_ : up b 8 8 = true) => (show gb347 ≠ gb346 from by rw [hg]; exact Nat.ne_of_gt ((show gb346 < w'.heap.size by cases hq_ : b 9 with | false => exact blk_lt (Q_BK346 h0_ hq_) | true => exact blk_lt (Q_BK346_e9 hq_))))
   have z_NB346_347 := fun (h0_ : up b 8 7 = true) (h1_ : up b 8 8 = true) => (show gb346 ≠ gb347 from by rw [hg]; exact Nat.ne_of_lt ((show gb346 < w'.heap.size by cases hq_ : b 9 with | false => exact blk_lt (Q_BK346 h0_ hq_) | true => exact blk_lt (Q_BK346_e9 hq_))))
   have z_HO338 := fun (h0_ : b 0 = true) => (show Kd.R k84 84 w19 w.heap.size (fun k_ => True ∧ some k_ ≠ (.slice Ao13 t314.length co13 : Value).ownBlock ∧ some k_ ≠ (.slice Ao16 t325.length co16 : Value).ownBlock) v337 t336 from by first | exact (Kd.R_below (by (with_reducible repeat (first | apply Kd.R_alloc | apply Kd.R_drewN | apply Kd.R_drew)); exact (Q_HO338 h0_)) hb) | exact Kd.R_mono (Kd.R_below (by (with_reducible repeat (first | apply Kd.R_alloc | apply Kd.R_drewN | apply Kd.R_drew)); exact (Q_HO338 h0_)) hb) (fun _ h_ => by first | trivial | exact h_ | exact h_.1))
   have z_BK346 := fun (h0_ : b 7 = true) (h1_ : b 9 = false) => (bbT (Q_BK346 h0_ h1_) hb)
   clear HO316
   clear HO327
   clear BK307
   clear HB
   have HO316 := n0_
   have HO327 := n1_
   have BK307 := n2_
   have HB := n3_
   have BK347 := n4_
   have GW347 := n5_
   have GE347 := n6_
   have NB307_347 := n7_
   have NB347_307 := n8_
   clear n0_ n1_ n2_ n3_ n4_ n5_ n6_ n7_ n8_
   clear hb hbox hg
   refine hK.out _ _ ⟨v337, gb346, gb347, m0_, m7_, (.pointer (some ⟨gb347, 0, none⟩)), (by rw [ha.out]; exact putSel_upk 8 hb_ rfl rfl rfl), (by (with_reducible repeat (first | apply Kd.R_alloc | apply Kd.R_drewN | apply Kd.R_drew)); exact Kd.R_mono HO316.out (fun _ hk => by first | exact hk | exact hk.1 | exact hk.2 | exact hk.1.2 | exact ⟨hk.1.2, hk.2⟩ | exact ⟨trivial, hk.1.2, hk.2⟩ | exact ⟨trivial, hk.2⟩ | (simp_all; done))), (by (with_reducible repeat (first | apply Kd.R_alloc | apply Kd.R_drewN | apply Kd.R_drew)); exact Kd.R_mono HO327.out (fun _ hk => by first | exact hk | exact hk.1 | exact hk.2 | exact hk.1.2 | exact ⟨hk.1.2, hk.2⟩ | exact ⟨trivial, hk.1.2, hk.2⟩ | exact ⟨trivial, hk.2⟩ | (simp_all; done))), (bT BK307.out), (wT HB.out), z_NB347_346, z_NB346_347, z_HO338, z_BK346, Q_GW346, Q_GE346, Q_NB307_346, Q_NB346_307, fun _ _ => (bT BK347.out), fun _ => GW347.out, fun _ => GE347.out, fun _ => NB307_347.out, fun _ => NB347_307.out, fun h0_ => absurd ((hoff 9 (by kernel_rfl)).symm.trans h0_) (by decide), fun h0_ => absurd ((hoff 10 (by kernel_rfl)).symm.trans h0_) (by decide), Q_X0_, Q_X7_, fun _ => rfl⟩
  refine steps_cons ?_ ?_
  ·rintro b a w' ⟨v337, gb346, gb347, m0_, m7_, m8_, ha, Q_HO316, Q_HO327, Q_BK307, Q_HB, Q_NB347_346, Q_NB346_347, Q_HO338, Q_BK346, Q_GW346, Q_GE346, Q_NB307_346, Q_NB346_307, Q_BK347, Q_GW347, Q_GE347, Q_NB307_347, Q_NB347_307, Q_BK346_e9, Q_BK347_e10, Q_X0_, Q_X7_, Q_X8_⟩ hb_ hon hoff
   refine ⟨_, rfl, fun K hK => ?_⟩
   have e6 : a.tmps[6]? = some (m7_) := by rw [ha]; exact putSel_on (e := (7, 6, m7_)) 7 rfl rfl (hon 7 (by kernel_rfl)) rfl
   rw [Q_X7_ (hon 7 (by kernel_rfl))] at e6
   have e36 : a.tmps[36]? = some (.agg #[.int .i64 t339, .int .i64 t340, .int .i64 t341]) := by rw [ha]; exact putSel_on (e := (4, 36, .agg #[.int .i64 t339, .int .i64 t340, .int .i64 t341])) 4 rfl rfl (hon 4 (by kernel_rfl)) rfl
   replace ha := mk0 ha
   have HO316 := mk0 Q_HO316
   have HO327 := mk0 Q_HO327
   have BK307 := mk0 Q_BK307
   have HB := mk0 Q_HB
   have NB347_346 := mk0 (Q_NB347_346 (hon 7 (by kernel_rfl)) (hon 8 (by kernel_rfl)))
   have NB346_347 := mk0 (Q_NB346_347 (hon 7 (by kernel_rfl)) (hon 8 (by kernel_rfl)))
   have HO338 := mk0 (Q_HO338 (hon 0 (by kernel_rfl)))
   have BK346 := mk0 (Q_BK346 (hon 7 (by kernel_rfl)) hb_)
   have GW346 := mk0 (Q_GW346 (hon 7 (by kernel_rfl)))
   have GE346 := mk0 (Q_GE346 (hon 7 (by kernel_rfl)))
   have NB307_346 := mk0 (Q_NB307_346 (hon 7 (by kernel_rfl)))
   have NB346_307 := mk0 (Q_NB346_307 (hon 7 (by kernel_rfl)))
   have BK347 := mk0 (Q_BK347 (hon 8 (by kernel_rfl)) (hoff 10 (by kernel_rfl)))
   have GW347 := mk0 (Q_GW347 (hon 8 (by kernel_rfl)))
   have GE347 := mk0 (Q_GE347 (hon 8 (by kernel_rfl)))
   have NB307_347 := mk0 (Q_NB307_347 (hon 8 (by kernel_rfl)))
   have NB347_307 := mk0 (Q_NB347_307 (hon 8 (by kernel_rfl)))
   have hs25 := ct BK346.out 0
   have hfs25 := blk_frozen BK346.out 0
   have hns25_0 := NB307_346.out
   have hns25_2 := NB347_346.out
   have hms25_0 := NB346_307.out
   have hms25_2 := NB346_347.out
   have hs26 := ct BK346.out 1
   have hfs26 := blk_frozen BK346.out 1
   have hns26_0 := NB307_346.out
   have hns26_2 := NB347_346.out
   have hms26_0 := NB346_307.out
   have hms26_2 := NB346_347.out
   have hs27 := ct BK346.out 2
   have hfs27 := blk_frozen BK346.out 2
   have hns27_0 := NB307_346.out
   have hns27_2 := NB347_346.out
   have hms27_0 := NB346_307.out
   have hms27_2 := NB346_347.out
   refine skip_ (w1 := ?_) (by rfl) rfl ?_ ?_
   rotate_left
   ·go_simp
    rfl
   refine hK.out _ _ ⟨v337, gb346, gb347, m0_, m7_, m8_, (by rw [ha.out]; exact putSel_none (v := undef) rfl), (by (with_reducible repeat (first | apply Kd.R_alloc | apply Kd.R_drewN | apply Kd.R_drew)); exact Kd.R_mono (Kd.R_far (p := ⟨gb346, 2, none⟩) (Kd.R_far (p := ⟨gb346, 1, none⟩) (Kd.R_far (p := ⟨gb346, 0, none⟩) (Kd.R_types HO316.out BK346.out (by decide)) (fun _ hk => by first | exact hk | exact hk.1 | exact hk.2 | exact hk.1.2 | exact ⟨hk.1.2, hk.2⟩ | exact ⟨trivial, hk.1.2, hk.2⟩ | exact ⟨trivial, hk.2⟩ | (simp_all; done)) (.int .i64 t339)) (fun _ hk => by first | exact hk | exact hk.1 | exact hk.2 | exact hk.1.2 | exact ⟨hk.1.2, hk.2⟩ | exact ⟨trivial, hk.1.2, hk.2⟩ | exact ⟨trivial, hk.2⟩ | (simp_all; done)) (.int .i64 t340)) (fun _ hk => by first | exact hk | exact hk.1 | exact hk.2 | exact hk.1.2 | exact ⟨hk.1.2, hk.2⟩ | exact ⟨trivial, hk.1.2, hk.2⟩ | exact ⟨trivial, hk.2⟩ | (simp_all; done)) (.int .i64 t341)) (fun _ hk => ⟨hk.1.1, hk.1.2⟩)), (by (with_reducible repeat (first | apply Kd.R_alloc | apply Kd.R_drewN | apply Kd.R_drew)); exact Kd.R_mono (Kd.R_far (p := ⟨gb346, 2, none⟩) (Kd.R_far (p := ⟨gb346, 1, none⟩) (Kd.R_far (p := ⟨gb346, 0, none⟩) (Kd.R_types HO327.out BK346.out (by decide)) (fun _ hk => by first | exact hk | exact hk.1 | exact hk.2 | exact hk.1.2 | exact ⟨hk.1.2, hk.2⟩ | exact ⟨trivial, hk.1.2, hk.2⟩ | exact ⟨trivial, hk.2⟩ | (simp_all; done)) (.int .i64 t339)) (fun _ hk => by first | exact hk | exact hk.1 | exact hk.2 | exact hk.1.2 | exact ⟨hk.1.2, hk.2⟩ | exact ⟨trivial, hk.1.2, hk.2⟩ | exact ⟨trivial, hk.2⟩ | (simp_all; done)) (.int .i64 t340)) (fun _ hk => by first | exact hk | exact hk.1 | exact hk.2 | exact hk.1.2 | exact ⟨hk.1.2, hk.2⟩ | exact ⟨trivial, hk.1.2, hk.2⟩ | exact ⟨trivial, hk.2⟩ | (simp_all; done)) (.int .i64 t341)) (fun _ hk => ⟨hk.1.1, hk.1.2⟩)), (by (with_reducible repeat (first | refine blk_drewN ?_ _ | refine blk_drew ?_ | refine blk_alloc ?_ _)); refine blk_far ?_ NB307_346.out _; refine blk_far ?_ NB307_346.out _; refine blk_far ?_ NB307_346.out _; (with_reducible repeat (first | refine blk_drewN ?_ _ | refine blk_drew ?_ | refine blk_alloc ?_ _)); exact BK307.out), (by repeat (first | (with_reducible first | exact HB.out | apply below_alloc | apply pw_below_drewN | apply below_drew1 | refine below_set ?_ GE346.out) | exact HB.out)), fun _ _ => NB347_346.out, fun _ _ => NB346_347.out, fun _ => (by (with_reducible repeat (first | apply Kd.R_alloc | apply Kd.R_drewN | apply Kd.R_drew)); exact Kd.R_mono (Kd.R_far (p := ⟨gb346, 2, none⟩) (Kd.R_far (p := ⟨gb346, 1, none⟩) (Kd.R_far (p := ⟨gb346, 0, none⟩) (Kd.R_types HO338.out BK346.out (by decide)) (fun _ hk => by first | exact hk | exact hk.1 | exact hk.2 | exact hk.1.2 | exact ⟨hk.1.2, hk.2⟩ | exact ⟨trivial, hk.1.2, hk.2⟩ | exact ⟨trivial, hk.2⟩ | (simp_all; done)) (.int .i64 t339)) (fun _ hk => by first | exact hk | exact hk.1 | exact hk.2 | exact hk.1.2 | exact ⟨hk.1.2, hk.2⟩ | exact ⟨trivial, hk.1.2, hk.2⟩ | exact ⟨trivial, hk.2⟩ | (simp_all; done)) (.int .i64 t340)) (fun _ hk => by first | exact hk | exact hk.1 | exact hk.2 | exact hk.1.2 | exact ⟨hk.1.2, hk.2⟩ | exact ⟨trivial, hk.1.2, hk.2⟩ | exact ⟨trivial, hk.2⟩ | (simp_all; done)) (.int .i64 t341)) (fun _ hk => ⟨hk.1.1, hk.1.2⟩)), fun _ h1_ => absurd ((up_self b 9).symm.trans h1_) (by decide), fun _ => GW346.out, fun _ => GE346.out, fun _ => NB307_346.out, fun _ => NB346_307.out, fun _ _ => (by (with_reducible repeat (first | refine blk_drewN ?_ _ | refine blk_drew ?_ | refine blk_alloc ?_ _)); refine blk_far ?_ NB347_346.out _; refine blk_far ?_ NB347_346.out _; refine blk_far ?_ NB347_346.out _; (with_reducible repeat (first | refine blk_drewN ?_ _ | refine blk_drew ?_ | refine blk_alloc ?_ _)); exact BK347.out), fun _ => GW347.out, fun _ => GE347.out, fun _ => NB307_347.out, fun _ => NB347_307.out, fun _ => (by (with_reducible repeat (first | refine blk_drewN ?_ _ | refine blk_drew ?_ | refine blk_alloc ?_ _)); refine blk_put (cs := #[.int .i64 t339, .int .i64 t340, .int .i64 0]) ?_ 2 _ rfl; refine blk_put (cs := #[.int .i64 t339, .int .i64 0, .int .i64 0]) ?_ 1 _ rfl; refine blk_put (cs := #[.int .i64 0, .int .i64 0, .int .i64 0]) ?_ 0 _ rfl; (with_reducible repeat (first | refine blk_drewN ?_ _ | refine blk_drew ?_ | refine blk_alloc ?_ _)); exact BK346.out), fun h0_ => absurd ((hoff 10 (by kernel_rfl)).symm.trans h0_) (by decide), Q_X0_, Q_X7_, Q_X8_⟩
  refine steps_cons ?_ ?_
  ·rintro b a w' ⟨v337, gb346, gb347, m0_, m7_, m8_, ha, Q_HO316, Q_HO327, Q_BK307, Q_HB, Q_NB347_346, Q_NB346_347, Q_HO338, Q_BK346, Q_GW346, Q_GE346, Q_NB307_346, Q_NB346_307, Q_BK347, Q_GW347, Q_GE347, Q_NB307_347, Q_NB347_307, Q_BK346_e9, Q_BK347_e10, Q_X0_, Q_X7_, Q_X8_⟩ hb_ hon hoff
   refine ⟨_, rfl, fun K hK => ?_⟩
   have e7 : a.tmps[7]? = some (m8_) := by rw [ha]; exact putSel_on (e := (8, 7, m8_)) 8 rfl rfl (hon 8 (by kernel_rfl)) rfl
   rw [Q_X8_ (hon 8 (by kernel_rfl))] at e7
   have e37 : a.tmps[37]? = some (.agg #[.int .i64 t342, .int .i64 t343, .int .i64 t344]) := by rw [ha]; exact putSel_on (e := (5, 37, .agg #[.int .i64 t342, .int .i64 t343, .int .i64 t344])) 5 rfl rfl (hon 5 (by kernel_rfl)) rfl
   replace ha := mk0 ha
   have HO316 := mk0 Q_HO316
   have HO327 := mk0 Q_HO327
   have BK307 := mk0 Q_BK307
   have HB := mk0 Q_HB
   have NB347_346 := mk0 (Q_NB347_346 (hon 7 (by kernel_rfl)) (hon 8 (by kernel_rfl)))
   have NB346_347 := mk0 (Q_NB346_347 (hon 7 (by kernel_rfl)) (hon 8 (by kernel_rfl)))
   have HO338 := mk0 (Q_HO338 (hon 0 (by kernel_rfl)))
   have GW346 := mk0 (Q_GW346 (hon 7 (by kernel_rfl)))
   have GE346 := mk0 (Q_GE346 (hon 7 (by kernel_rfl)))
   have NB307_346 := mk0 (Q_NB307_346 (hon 7 (by kernel_rfl)))
   have NB346_307 := mk0 (Q_NB346_307 (hon 7 (by kernel_rfl)))
   have BK347 := mk0 (Q_BK347 (hon 8 (by kernel_rfl)) hb_)
   have GW347 := mk0 (Q_GW347 (hon 8 (by kernel_rfl)))
   have GE347 := mk0 (Q_GE347 (hon 8 (by kernel_rfl)))
   have NB307_347 := mk0 (Q_NB307_347 (hon 8 (by kernel_rfl)))
   have NB347_307 := mk0 (Q_NB347_307 (hon 8 (by kernel_rfl)))
   have BK346 := mk0 (Q_BK346_e9 (hon 9 (by kernel_rfl)))
   have hs28 := ct BK347.out 0
   have hfs28 := blk_frozen BK347.out 0
   have hns28_0 := NB307_347.out
   have hns28_1 := NB346_347.out
   have hms28_0 := NB347_307.out
   have hms28_1 := NB347_346.out
   have hs29 := ct BK347.out 1
   have hfs29 := blk_frozen BK347.out 1
   have hns29_0 := NB307_347.out
   have hns29_1 := NB346_347.out
   have hms29_0 := NB347_307.out
   have hms29_1 := NB347_346.out
   have hs30 := ct BK347.out 2
   have hfs30 := blk_frozen BK347.out 2
   have hns30_0 := NB307_347.out
   have hns30_1 := NB346_347.out
   have hms30_0 := NB347_307.out
   have hms30_1 := NB347_346.out
   refine skip_ (w1 := ?_) (by rfl) rfl ?_ ?_
   rotate_left
   ·go_simp
    rfl
   refine hK.out _ _ ⟨v337, gb346, gb347, m0_, m7_, m8_, (by rw [ha.out]; exact putSel_none (v := undef) rfl), (by (with_reducible repeat (first | apply Kd.R_alloc | apply Kd.R_drewN | apply Kd.R_drew)); exact Kd.R_mono (Kd.R_far (p := ⟨gb347, 2, none⟩) (Kd.R_far (p := ⟨gb347, 1, none⟩) (Kd.R_far (p := ⟨gb347, 0, none⟩) (Kd.R_types HO316.out BK347.out (by decide)) (fun _ hk => by first | exact hk | exact hk.1 | exact hk.2 | exact hk.1.2 | exact ⟨hk.1.2, hk.2⟩ | exact ⟨trivial, hk.1.2, hk.2⟩ | exact ⟨trivial, hk.2⟩ | (simp_all; done)) (.int .i64 t342)) (fun _ hk => by first | exact hk | exact hk.1 | exact hk.2 | exact hk.1.2 | exact ⟨hk.1.2, hk.2⟩ | exact ⟨trivial, hk.1.2, hk.2⟩ | exact ⟨trivial, hk.2⟩ | (simp_all; done)) (.int .i64 t343)) (fun _ hk => by first | exact hk | exact hk.1 | exact hk.2 | exact hk.1.2 | exact ⟨hk.1.2, hk.2⟩ | exact ⟨trivial, hk.1.2, hk.2⟩ | exact ⟨trivial, hk.2⟩ | (simp_all; done)) (.int .i64 t344)) (fun _ hk => ⟨hk.1.1, hk.1.2⟩)), (by (with_reducible repeat (first | apply Kd.R_alloc | apply Kd.R_drewN | apply Kd.R_drew)); exact Kd.R_mono (Kd.R_far (p := ⟨gb347, 2, none⟩) (Kd.R_far (p := ⟨gb347, 1, none⟩) (Kd.R_far (p := ⟨gb347, 0, none⟩) (Kd.R_types HO327.out BK347.out (by decide)) (fun _ hk => by first | exact hk | exact hk.1 | exact hk.2 | exact hk.1.2 | exact ⟨hk.1.2, hk.2⟩ | exact ⟨trivial, hk.1.2, hk.2⟩ | exact ⟨trivial, hk.2⟩ | (simp_all; done)) (.int .i64 t342)) (fun _ hk => by first | exact hk | exact hk.1 | exact hk.2 | exact hk.1.2 | exact ⟨hk.1.2, hk.2⟩ | exact ⟨trivial, hk.1.2, hk.2⟩ | exact ⟨trivial, hk.2⟩ | (simp_all; done)) (.int .i64 t343)) (fun _ hk => by first | exact hk | exact hk.1 | exact hk.2 | exact hk.1.2 | exact ⟨hk.1.2, hk.2⟩ | exact ⟨trivial, hk.1.2, hk.2⟩ | exact ⟨trivial, hk.2⟩ | (simp_all; done)) (.int .i64 t344)) (fun _ hk => ⟨hk.1.1, hk.1.2⟩)), (by (with_reducible repeat (first | refine blk_drewN ?_ _ | refine blk_drew ?_ | refine blk_alloc ?_ _)); refine blk_far ?_ NB307_347.out _; refine blk_far ?_ NB307_347.out _; refine blk_far ?_ NB307_347.out _; (with_reducible repeat (first | refine blk_drewN ?_ _ | refine blk_drew ?_ | refine blk_alloc ?_ _)); exact BK307.out), (by repeat (first | (with_reducible first | exact HB.out | apply below_alloc | apply pw_below_drewN | apply below_drew1 | refine below_set ?_ GE347.out) | exact HB.out)), fun _ _ => NB347_346.out, fun _ _ => NB346_347.out, fun _ => (by (with_reducible repeat (first | apply Kd.R_alloc | apply Kd.R_drewN | apply Kd.R_drew)); exact Kd.R_mono (Kd.R_far (p := ⟨gb347, 2, none⟩) (Kd.R_far (p := ⟨gb347, 1, none⟩) (Kd.R_far (p := ⟨gb347, 0, none⟩) (Kd.R_types HO338.out BK347.out (by decide)) (fun _ hk => by first | exact hk | exact hk.1 | exact hk.2 | exact hk.1.2 | exact ⟨hk.1.2, hk.2⟩ | exact ⟨trivial, hk.1.2, hk.2⟩ | exact ⟨trivial, hk.2⟩ | (simp_all; done)) (.int .i64 t342)) (fun _ hk => by first | exact hk | exact hk.1 | exact hk.2 | exact hk.1.2 | exact ⟨hk.1.2, hk.2⟩ | exact ⟨trivial, hk.1.2, hk.2⟩ | exact ⟨trivial, hk.2⟩ | (simp_all; done)) (.int .i64 t343)) (fun _ hk => by first | exact hk | exact hk.1 | exact hk.2 | exact hk.1.2 | exact ⟨hk.1.2, hk.2⟩ | exact ⟨trivial, hk.1.2, hk.2⟩ | exact ⟨trivial, hk.2⟩ | (simp_all; done)) (.int .i64 t344)) (fun _ hk => ⟨hk.1.1, hk.1.2⟩)), fun _ h1_ => absurd ((hon 9 (by kernel_rfl)).symm.trans h1_) (by decide), fun _ => GW346.out, fun _ => GE346.out, fun _ => NB307_346.out, fun _ => NB346_307.out, fun _ h1_ => absurd ((up_self b 10).symm.trans h1_) (by decide), fun _ => GW347.out, fun _ => GE347.out, fun _ => NB307_347.out, fun _ => NB347_307.out, fun _ => (by (with_reducible repeat (first | refine blk_drewN ?_ _ | refine blk_drew ?_ | refine blk_alloc ?_ _)); refine blk_far ?_ NB346_347.out _; refine blk_far ?_ NB346_347.out _; refine blk_far ?_ NB346_347.out _; (with_reducible repeat (first | refine blk_drewN ?_ _ | refine blk_drew ?_ | refine blk_alloc ?_ _)); exact BK346.out), fun _ => (by (with_reducible repeat (first | refine blk_drewN ?_ _ | refine blk_drew ?_ | refine blk_alloc ?_ _)); refine blk_put (cs := #[.int .i64 t342, .int .i64 t343, .int .i64 0]) ?_ 2 _ rfl; refine blk_put (cs := #[.int .i64 t342, .int .i64 0, .int .i64 0]) ?_ 1 _ rfl; refine blk_put (cs := #[.int .i64 0, .int .i64 0, .int .i64 0]) ?_ 0 _ rfl; (with_reducible repeat (first | refine blk_drewN ?_ _ | refine blk_drew ?_ | refine blk_alloc ?_ _)); exact BK347.out), Q_X0_, Q_X7_, Q_X8_⟩
  refine steps_cons ?_ ?_
  ·rintro b a w' ⟨v337, gb346, gb347, m0_, m7_, m8_, ha, Q_HO316, Q_HO327, Q_BK307, Q_HB, Q_NB347_346, Q_NB346_347, Q_HO338, Q_BK346, Q_GW346, Q_GE346, Q_NB307_346, Q_NB346_307, Q_BK347, Q_GW347, Q_GE347, Q_NB307_347, Q_NB347_307, Q_BK346_e9, Q_BK347_e10, Q_X0_, Q_X7_, Q_X8_⟩ hb_ hon hoff
   refine ⟨_, rfl, fun K hK => ?_⟩
   have e38 : a.tmps[38]? = some (.int .i64 t345) := by rw [ha]; exact putSel_on (e := (6, 38, .int .i64 t345)) 6 rfl rfl (hon 6 (by kernel_rfl)) rfl
   replace ha := mk0 ha
   have HO316 := mk0 Q_HO316
   have HO327 := mk0 Q_HO327
   have BK307 := mk0 Q_BK307
   have HB := mk0 Q_HB
   have NB347_346 := mk0 (Q_NB347_346 (hon 7 (by kernel_rfl)) (hon 8 (by kernel_rfl)))
   have NB346_347 := mk0 (Q_NB346_347 (hon 7 (by kernel_rfl)) (hon 8 (by kernel_rfl)))
   have HO338 := mk0 (Q_HO338 (hon 0 (by kernel_rfl)))
   have GW346 := mk0 (Q_GW346 (hon 7 (by kernel_rfl)))
   have GE346 := mk0 (Q_GE346 (hon 7 (by kernel_rfl)))
   have NB307_346 := mk0 (Q_NB307_346 (hon 7 (by kernel_rfl)))
   have NB346_307 := mk0 (Q_NB346_307 (hon 7 (by kernel_rfl)))
   have GW347 := mk0 (Q_GW347 (hon 8 (by kernel_rfl)))
   have GE347 := mk0 (Q_GE347 (hon 8 (by kernel_rfl)))
   have NB307_347 := mk0 (Q_NB307_347 (hon 8 (by kernel_rfl)))
   have NB347_307 := mk0 (Q_NB347_307 (hon 8 (by kernel_rfl)))
   have BK346 := mk0 (Q_BK346_e9 (hon 9 (by kernel_rfl)))
   have BK347 := mk0 (Q_BK347_e10 (hon 10 (by kernel_rfl)))
   refine value_ (w1 := w') (v := .int .i64 t345) (by rfl) rfl ?_ ?_
   ·go_simp
    (try simp only [i64_w])
    try rfl
   refine hK.out _ _ ⟨v337, gb346, gb347, m0_, m7_, m8_, (by rw [ha.out]; exact putSel_upk 9 hb_ rfl rfl rfl), Q_HO316, Q_HO327, Q_BK307, Q_HB, Q_NB347_346, Q_NB346_347, Q_HO338, fun _ h1_ => absurd ((hon 9 (by kernel_rfl)).symm.trans h1_) (by decide), Q_GW346, Q_GE346, Q_NB307_346, Q_NB346_307, fun _ h1_ => absurd ((hon 10 (by kernel_rfl)).symm.trans h1_) (by decide), Q_GW347, Q_GE347, Q_NB307_347, Q_NB347_307, Q_BK346_e9, Q_BK347_e10, Q_X0_, Q_X7_, Q_X8_⟩
  exact steps_nil
 rintro b a w30 hall ⟨v337, gb346, gb347, m0_, m7_, m8_, ha, Q_HO316, Q_HO327, Q_BK307, Q_HB, Q_NB347_346, Q_NB346_347, Q_HO338, Q_BK346, Q_GW346, Q_GE346, Q_NB307_346, Q_NB346_307, Q_BK347, Q_GW347, Q_GE347, Q_NB307_347, Q_NB347_307, Q_BK346_e9, Q_BK347_e10, Q_X0_, Q_X7_, Q_X8_⟩
 clear BK307 HB HO316 HO327
 have hb0_ := hall 0 (by kernel_rfl)
 have hb1_ := hall 1 (by kernel_rfl)
 have hb2_ := hall 2 (by kernel_rfl)
 have hb3_ := hall 3 (by kernel_rfl)
 have hb4_ := hall 4 (by kernel_rfl)
 have hb5_ := hall 5 (by kernel_rfl)
 have hb6_ := hall 6 (by kernel_rfl)
 have hb7_ := hall 7 (by kernel_rfl)
 have hb8_ := hall 8 (by kernel_rfl)
 have hb9_ := hall 9 (by kernel_rfl)
 have hb10_ := hall 10 (by kernel_rfl)
 have hb11_ := hall 11 (by kernel_rfl)
 subst ha
 obtain rfl := Q_X0_ hb0_
 obtain rfl := Q_X7_ hb7_
 obtain rfl := Q_X8_ hb8_
 simp only [putSel, hb0_, hb1_, hb2_, hb3_, hb4_, hb5_, hb6_, hb7_, hb8_, hb9_, hb10_, hb11_, if_true, Act.put, List.setIfInBounds_toArray, List.set_cons_zero, List.set_cons_succ]
 have HO316 := mk0 Q_HO316
 clear Q_HO316
 have HO327 := mk0 Q_HO327
 clear Q_HO327
 have BK307 := mk0 Q_BK307
 clear Q_BK307
 have HB := mk0 Q_HB
 clear Q_HB
 have NB347_346 := mk0 (Q_NB347_346 hb7_ hb8_)
 clear Q_NB347_346
 have NB346_347 := mk0 (Q_NB346_347 hb7_ hb8_)
 clear Q_NB346_347
 have HO338 := mk0 (Q_HO338 hb0_)
 clear Q_HO338
 clear Q_BK346
 have GW346 := mk0 (Q_GW346 hb7_)
 clear Q_GW346
 have GE346 := mk0 (Q_GE346 hb7_)
 clear Q_GE346
 have NB307_346 := mk0 (Q_NB307_346 hb7_)
 clear Q_NB307_346
 have NB346_307 := mk0 (Q_NB346_307 hb7_)
 clear Q_NB346_307
 clear Q_BK347
 have GW347 := mk0 (Q_GW347 hb8_)
 clear Q_GW347
 have GE347 := mk0 (Q_GE347 hb8_)
 clear Q_GE347
 have NB307_347 := mk0 (Q_NB307_347 hb8_)
 clear Q_NB307_347
 have NB347_307 := mk0 (Q_NB347_307 hb8_)
 clear Q_NB347_307
 have BK346 := mk0 (Q_BK346_e9 hb9_)
 clear Q_BK346_e9
 have BK347 := mk0 (Q_BK347_e10 hb10_)
 clear Q_BK347_e10
 clear hall hb0_ hb1_ hb2_ hb3_ hb4_ hb5_ hb6_ hb7_ hb8_ hb9_ hb10_ hb11_
 go_upto_region 6 with (first | ((with_reducible refine gate_callee (f := 36) rfl ?_); refine goesL_ (some 40) rfl rfl Tryz.func36 (by kernel_rfl) rfl #[] rfl (by (try simp only [List.map_toArray, List.map_cons, List.map_nil]); first | done | rfl | (simp only [List.length_drop, List.length_take]; rfl)) ?_; (with_reducible refine (metrolablaw30_Plate.calls  t348 t349 t350 t351 t352 t353 t354 _ A7.out).mono ?_); rintro e w31 ⟨v355, rfl, ho0, hb⟩; refine ⟨_, rfl, ?_⟩; have n0_ := mk0 (Kd.R_elder' (rT HO316.out) (Kd.R_base ho0) hb); have n1_ := mk0 (Kd.R_elder' (rT HO327.out) (Kd.R_base ho0) hb); have n2_ := mk0 (Kd.R_elder' (rT HO338.out) (Kd.R_base ho0) hb); have n3_ := mk0 (Kd.R_lower (Kd.R_new' (Kd.R_new' (Kd.R_new' ho0 (Kd.R_lt (rT HO316.out))) (Kd.R_lt (rT HO327.out))) (Kd.R_lt (rT HO338.out))) (below_size (wT HB.out))); have n4_ := mk0 (blk_below (g := gb307) (o := .cells #[.int .i64 10, .int .i64 5, .int .i64 2] 23 (0, 0)) (bT BK307.out) hb); have n5_ := mk0 (blk_below (g := gb346) (o := .cells #[.int .i64 t339, .int .i64 t340, .int .i64 t341] 23 (0, 0)) (bT BK346.out) hb); have n6_ := mk0 (blk_below (g := gb347) (o := .cells #[.int .i64 t342, .int .i64 t343, .int .i64 t344] 23 (0, 0)) (bT BK347.out) hb); have n7_ := mk0 (below_step (wT HB.out) hb); clear HO316; clear HO327; clear HO338; clear BK307; clear BK346; clear BK347; clear HB; have HO316 := n0_; have HO327 := n1_; have HO338 := n2_; have HO356 := n3_; have BK307 := n4_; have BK346 := n5_; have BK347 := n6_; have HB := n7_; clear n0_ n1_ n2_ n3_ n4_ n5_ n6_ n7_; (try clear hb); (try clear hb2); (try clear hk); (try clear hi); (try clear ho0); obtain ⟨Ao32, co32, eo32⟩ := Kd.R_slice HO356.out; subst eo32) | ((with_reducible refine gate_callee (f := 19) rfl ?_); refine goesL_ (some 42) rfl rfl Tryz.func19 (by kernel_rfl) rfl #[.agg #[.int .i64 t348, .int .i64 t349, .int .i64 t350, .int .i64 t351, .int .i64 t352, .int .i64 t353, .slice Ao32 t354.length co32], .agg #[.int .i64 10, .int .i64 5, .int .i64 9], .int .i64 5] rfl (by (try simp only [List.map_toArray, List.map_cons, List.map_nil]); first | done | rfl | (simp only [List.length_drop, List.length_take]; rfl)) ?_; (with_reducible refine (probe_Touch.calls k t348 t349 t350 t351 t352 t353 _ _ t354 10 5 9 5 t357 t358 t359 t360 t361 t362 t363 _ ?side1 ?side2 A8.out).mono ?_); (case side1 => repeat (first | exact (Kd.R_reads' HO356.out).2.2 | (with_reducible refine Kd.C_alloc ?_ _) | (with_reducible refine Kd.C_drewN ?_ _) | (with_reducible refine Kd.C_drew ?_))); (case side2 => exact (Kd.R_reads' HO356.out).2.1); rintro e w33 ⟨rfl, hb⟩; refine ⟨_, rfl, ?_⟩; have n0_ := mk0 (Kd.R_below (rT HO316.out) hb); have n1_ := mk0 (Kd.R_below (rT HO327.out) hb); have n2_ := mk0 (Kd.R_below (rT HO338.out) hb); have n3_ := mk0 (Kd.R_below (rT HO356.out) hb); have n4_ := mk0 (blk_below (g := gb307) (o := .cells #[.int .i64 10, .int .i64 5, .int .i64 2] 23 (0, 0)) (bT BK307.out) hb); have n5_ := mk0 (blk_below (g := gb346) (o := .cells #[.int .i64 t339, .int .i64 t340, .int .i64 t341] 23 (0, 0)) (bT BK346.out) hb); have n6_ := mk0 (blk_below (g := gb347) (o := .cells #[.int .i64 t342, .int .i64 t343, .int .i64 t344] 23 (0, 0)) (bT BK347.out) hb); have n7_ := mk0 (below_step (wT HB.out) hb); clear HO316; clear HO327; clear HO338; clear HO356; clear BK307; clear BK346; clear BK347; clear HB; have HO316 := n0_; have HO327 := n1_; have HO338 := n2_; have HO356 := n3_; have BK307 := n4_; have BK346 := n5_; have BK347 := n6_; have HB := n7_; clear n0_ n1_ n2_ n3_ n4_ n5_ n6_ n7_; (try clear hb); (try clear hb2); (try clear hk); (try clear hi)) | ((with_reducible refine gate_dst (N := 9) rfl ?_); (try (refine gate_guard (by rfl) ?_; dsimp only)); refine box_event ?hg (N := 9) ?hd (cs := #[.int .i64 0, .int .i64 0, .int .i64 0]) (t := 23) ?hr ?_; (case hd => rfl); (case hg => rfl); (case hr => first | (go_simp; done) | (go_simp; rfl)); intro gb364 hg w34 hbox hb; have n0_ := mk0 (Kd.R_below (rT HO316.out) hb); have n1_ := mk0 (Kd.R_below (rT HO327.out) hb); have n2_ := mk0 (Kd.R_below (rT HO338.out) hb); have n3_ := mk0 (Kd.R_below (rT HO356.out) hb); have n4_ := mk0 (blk_below (g := gb307) (o := .cells #[.int .i64 10, .int .i64 5, .int .i64 2] 23 (0, 0)) (bT BK307.out) hb); have n5_ := mk0 (blk_below (g := gb346) (o := .cells #[.int .i64 t339, .int .i64 t340, .int .i64 t341] 23 (0, 0)) (bT BK346.out) hb); have n6_ := mk0 (blk_below (g := gb347) (o := .cells #[.int .i64 t342, .int .i64 t343, .int .i64 t344] 23 (0, 0)) (bT BK347.out) hb); have n7_ := mk0 (below_step (wT HB.out) hb); have n8_ := mk0 (hbox); have n9_ := mk0 ((szT HB.out hg)); have n10_ := mk0 ((szT HB.out hg)); have n11_ := mk0 ((neL BK307.out hg)); have n12_ := mk0 ((neG BK307.out hg)); have n13_ := mk0 ((neL BK346.out hg)); have n14_ := mk0 ((neG BK346.out hg)); have n15_ := mk0 ((neL BK347.out hg)); have n16_ := mk0 ((neG BK347.out hg)); clear HO316; clear HO327; clear HO338; clear HO356; clear BK307; clear BK346; clear BK347; clear HB; have HO316 := n0_; have HO327 := n1_; have HO338 := n2_; have HO356 := n3_; have BK307 := n4_; have BK346 := n5_; have BK347 := n6_; have HB := n7_; have BK364 := n8_; have GW364 := n9_; have GE364 := n10_; have NB307_364 := n11_; have NB364_307 := n12_; have NB346_364 := n13_; have NB364_346 := n14_; have NB347_364 := n15_; have NB364_347 := n16_; clear n0_ n1_ n2_ n3_ n4_ n5_ n6_ n7_ n8_ n9_ n10_ n11_ n12_ n13_ n14_ n15_ n16_; clear hb hbox hg) | ((with_reducible refine gate_dst (N := 10) rfl ?_); (try (refine gate_guard (by rfl) ?_; dsimp only)); refine box_event ?hg (N := 10) ?hd (cs := #[.int .i64 0, .int .i64 0, .int .i64 0]) (t := 23) ?hr ?_; (case hd => rfl); (case hg => rfl); (case hr => first | (go_simp; done) | (go_simp; rfl)); intro gb365 hg w35 hbox hb; have n0_ := mk0 (Kd.R_below (rT HO316.out) hb); have n1_ := mk0 (Kd.R_below (rT HO327.out) hb); have n2_ := mk0 (Kd.R_below (rT HO338.out) hb); have n3_ := mk0 (Kd.R_below (rT HO356.out) hb); have n4_ := mk0 (blk_below (g := gb307) (o := .cells #[.int .i64 10, .int .i64 5, .int .i64 2] 23 (0, 0)) (bT BK307.out) hb); have n5_ := mk0 (blk_below (g := gb346) (o := .cells #[.int .i64 t339, .int .i64 t340, .int .i64 t341] 23 (0, 0)) (bT BK346.out) hb); have n6_ := mk0 (blk_below (g := gb347) (o := .cells #[.int .i64 t342, .int .i64 t343, .int .i64 t344] 23 (0, 0)) (bT BK347.out) hb); have n7_ := mk0 (blk_below (g := gb364) (o := .cells #[.int .i64 0, .int .i64 0, .int .i64 0] 23 (0, 0)) (bT BK364.out) hb); have n8_ := mk0 (below_step (wT HB.out) hb); have n9_ := mk0 (hbox); have n10_ := mk0 ((szT HB.out hg)); have n11_ := mk0 ((szT HB.out hg)); have n12_ := mk0 ((neL BK307.out hg)); have n13_ := mk0 ((neG BK307.out hg)); have n14_ := mk0 ((neL BK346.out hg)); have n15_ := mk0 ((neG BK346.out hg)); have n16_ := mk0 ((neL BK347.out hg)); have n17_ := mk0 ((neG BK347.out hg)); have n18_ := mk0 ((neL BK364.out hg)); have n19_ := mk0 ((neG BK364.out hg)); clear HO316; clear HO327; clear HO338; clear HO356; clear BK307; clear BK346; clear BK347; clear BK364; clear HB; have HO316 := n0_; have HO327 := n1_; have HO338 := n2_; have HO356 := n3_; have BK307 := n4_; have BK346 := n5_; have BK347 := n6_; have BK364 := n7_; have HB := n8_; have BK365 := n9_; have GW365 := n10_; have GE365 := n11_; have NB307_365 := n12_; have NB365_307 := n13_; have NB346_365 := n14_; have NB365_346 := n15_; have NB347_365 := n16_; have NB365_347 := n17_; have NB364_365 := n18_; have NB365_364 := n19_; clear n0_ n1_ n2_ n3_ n4_ n5_ n6_ n7_ n8_ n9_ n10_ n11_ n12_ n13_ n14_ n15_ n16_ n17_ n18_ n19_; clear hb hbox hg; have hnb36 := NB364_307.out; have hnc36 := NB307_364.out; have hnb37 := NB364_346.out; have hnc37 := NB346_364.out; have hnb38 := NB364_347.out; have hnc38 := NB347_364.out; have hnb39 := NB364_365.out; have hnc39 := NB365_364.out; have X40_0 := ct BK364.out 0; have X40_1 := ct BK364.out 1; have X40_2 := ct BK364.out 2; have Y40_0 := blk_frozen BK364.out 0; have Y40_1 := blk_frozen BK364.out 1; have Y40_2 := blk_frozen BK364.out 2; have hnb41 := NB365_307.out; have hnc41 := NB307_365.out; have hnb42 := NB365_346.out; have hnc42 := NB346_365.out; have hnb43 := NB365_347.out; have hnc43 := NB347_365.out; have X44_0 := ct BK365.out 0; have X44_1 := ct BK365.out 1; have X44_2 := ct BK365.out 2; have Y44_0 := blk_frozen BK365.out 0; have Y44_1 := blk_frozen BK365.out 1; have Y44_2 := blk_frozen BK365.out 2))
 (try simp only [Act.put, List.setIfInBounds_toArray, List.set_cons_zero, List.set_cons_succ])
 go_cut [72] (fun v72 wc => ∃ (kq : Nat) (x72_8 : Bool), v72 = .bool x72_8 ∧ Aside0 (metrolablaw30_awake.j0 kq x72_8 10 5 2 = some r) ∧ Aside0 (kq ≤ k) ∧ Aside0 (wc.heap[gb307]? = some (.cells #[.int .i64 10, .int .i64 5, .int .i64 2] 23 (0, 0))) ∧ Aside0 (Below w.heap.size w wc))
 case first =>
  have H := HC9.out
  clear HC9
  by_cases c45 : (wrap64 ((wrap64 (t318 + t329)) + t345)) = 0
  ·rw [if_pos c45] at H
   have c45b0 : ((wrap64 ((wrap64 (t318 + t329)) + t345)) == 0) = true := beq_iff_eq.mpr c45
   have c45b1 : ((wrap64 ((wrap64 (t318 + t329)) + t345)) != 0) = false := bne_eq_false_iff_eq.mpr c45
   clear c45
   (first | rw [c45b0] | (simp only [i64_w, i32_w]; rw [c45b0]) | skip)
   by_cases c46 : t363 = 6
   ·rw [if_pos c46] at H
    have c46b0 : (t363 == 6) = true := beq_iff_eq.mpr c46
    have c46b1 : (t363 != 6) = false := bne_eq_false_iff_eq.mpr c46
    clear c46
    by_cases c47 : t317 = true
    ·subst c47
     have H1 : (metrolablaw30_awake.j0 k true 10 5 2) = some r := by rw [if_pos rfl] at H; exact H
     clear H
     have H := H1
     clear H1
     have H' := mk0 H
     clear H
     go_wp2
     go_meet
     case rel => exact ⟨_, (true), (by first | rfl | (simp; done) | (simp [*]; done) | exact congrArg (Value.int .i64) (by unfold wrap64; omega)), H', ⟨by first | omega | exact Nat.le_refl _⟩, ⟨by (with_reducible repeat (first | refine blk_drewN ?_ _ | refine blk_drew ?_ | refine blk_alloc ?_ _)); refine blk_far ?_ NB307_365.out _; refine blk_far ?_ NB307_365.out _; refine blk_far ?_ NB307_365.out _; refine blk_far ?_ NB307_364.out _; refine blk_far ?_ NB307_364.out _; refine blk_far ?_ NB307_364.out _; (with_reducible repeat (first | refine blk_drewN ?_ _ | refine blk_drew ?_ | refine blk_alloc ?_ _)); exact BK307.out⟩, ⟨by repeat (first | (with_reducible first | exact HB.out | apply below_alloc | apply pw_below_drewN | apply below_drew1 | refine below_set ?_ GE364.out | refine below_set ?_ GE365.out) | exact HB.out)⟩⟩
    ·replace c47 := Bool.eq_false_iff.mpr c47
     subst c47
     have H1 : (if t328 = true then (if (!(t339 == 13) || (!(t340 == 5) || (!(t341 == 2)))) = true then (metrolablaw30_awake.j0 k true 10 5 2) else (metrolablaw30_awake.j0 k (!(t342 == 12) || (!(t343 == 5) || (!(t344 == 2)))) 10 5 2)) else (metrolablaw30_awake.j0 k true 10 5 2)) = some r := by rw [if_neg (show ¬ (false = true) by decide)] at H; exact H
     clear H
     have H := H1
     clear H1
     by_cases c48 : t328 = true
     ·subst c48
      have H1 : (if (!(t339 == 13) || (!(t340 == 5) || (!(t341 == 2)))) = true then (metrolablaw30_awake.j0 k true 10 5 2) else (metrolablaw30_awake.j0 k (!(t342 == 12) || (!(t343 == 5) || (!(t344 == 2)))) 10 5 2)) = some r := by rw [if_pos rfl] at H; exact H
      clear H
      have H := H1
      clear H1
      by_cases c49 : (!(t339 == 13) || (!(t340 == 5) || (!(t341 == 2)))) = true
      ·rw [if_pos c49] at H
       have c49b0 : (!(t339 == 13) || (!(t340 == 5) || (!(t341 == 2)))) = true := c49
       clear c49
       have H' := mk0 H
       clear H
       have hnb50 := NB346_307.out
       have hnc50 := NB307_346.out
       have hnb51 := NB346_347.out
       have hnc51 := NB347_346.out
       have hnb52 := NB346_364.out
       have hnc52 := NB364_346.out
       have hnb53 := NB346_365.out
       have hnc53 := NB365_346.out
       have X54_0 := ct BK346.out 0
       have X54_1 := ct BK346.out 1
       have X54_2 := ct BK346.out 2
       have Y54_0 := blk_frozen BK346.out 0
       have Y54_1 := blk_frozen BK346.out 1
       have Y54_2 := blk_frozen BK346.out 2
       go_wp2
       go_meet
       case rel => exact ⟨_, (true), (by first | rfl | (simp; done) | (simp [*]; done) | exact congrArg (Value.int .i64) (by unfold wrap64; omega)), H', ⟨by first | omega | exact Nat.le_refl _⟩, ⟨by (with_reducible repeat (first | refine blk_drewN ?_ _ | refine blk_drew ?_ | refine blk_alloc ?_ _)); refine blk_far ?_ NB307_365.out _; refine blk_far ?_ NB307_365.out _; refine blk_far ?_ NB307_365.out _; refine blk_far ?_ NB307_364.out _; refine blk_far ?_ NB307_364.out _; refine blk_far ?_ NB307_364.out _; (with_reducible repeat (first | refine blk_drewN ?_ _ | refine blk_drew ?_ | refine blk_alloc ?_ _)); exact BK307.out⟩, ⟨by repeat (first | (with_reducible first | exact HB.out | apply below_alloc | apply pw_below_drewN | apply below_drew1 | refine below_set ?_ GE364.out | refine below_set ?_ GE365.out) | exact HB.out)⟩⟩
      ·rw [if_neg c49] at H
       have c49b0 : (!(t339 == 13) || (!(t340 == 5) || (!(t341 == 2)))) = false := by simpa using c49
       clear c49
       have H' := mk0 H
       clear H
       have hnb55 := NB346_307.out
       have hnc55 := NB307_346.out
       have hnb56 := NB346_347.out
       have hnc56 := NB347_346.out
       have hnb57 := NB346_364.out
       have hnc57 := NB364_346.out
       have hnb58 := NB346_365.out
       have hnc58 := NB365_346.out
       have X59_0 := ct BK346.out 0
       have X59_1 := ct BK346.out 1
       have X59_2 := ct BK346.out 2
       have Y59_0 := blk_frozen BK346.out 0
       have Y59_1 := blk_frozen BK346.out 1
       have Y59_2 := blk_frozen BK346.out 2
       have hnb60 := NB347_307.out
       have hnc60 := NB307_347.out
       have hnb61 := NB347_364.out
       have hnc61 := NB364_347.out
       have hnb62 := NB347_365.out
       have hnc62 := NB365_347.out
       have X63_0 := ct BK347.out 0
       have X63_1 := ct BK347.out 1
       have X63_2 := ct BK347.out 2
       have Y63_0 := blk_frozen BK347.out 0
       have Y63_1 := blk_frozen BK347.out 1
       have Y63_2 := blk_frozen BK347.out 2
       go_wp2
       go_meet
       case rel => exact ⟨_, ((!(t342 == 12) || (!(t343 == 5) || (!(t344 == 2))))), (by first | rfl | (simp; done) | (simp [*]; done) | exact congrArg (Value.int .i64) (by unfold wrap64; omega)), H', ⟨by first | omega | exact Nat.le_refl _⟩, ⟨by (with_reducible repeat (first | refine blk_drewN ?_ _ | refine blk_drew ?_ | refine blk_alloc ?_ _)); refine blk_far ?_ NB307_365.out _; refine blk_far ?_ NB307_365.out _; refine blk_far ?_ NB307_365.out _; refine blk_far ?_ NB307_364.out _; refine blk_far ?_ NB307_364.out _; refine blk_far ?_ NB307_364.out _; (with_reducible repeat (first | refine blk_drewN ?_ _ | refine blk_drew ?_ | refine blk_alloc ?_ _)); exact BK307.out⟩, ⟨by repeat (first | (with_reducible first | exact HB.out | apply below_alloc | apply pw_below_drewN | apply below_drew1 | refine below_set ?_ GE364.out | refine below_set ?_ GE365.out) | exact HB.out)⟩⟩
     ·replace c48 := Bool.eq_false_iff.mpr c48
      subst c48
      have H1 : (metrolablaw30_awake.j0 k true 10 5 2) = some r := by rw [if_neg (show ¬ (false = true) by decide)] at H; exact H
      clear H
      have H := H1
      clear H1
      have H' := mk0 H
      clear H
      go_wp2
      go_meet
      case rel => exact ⟨_, (true), (by first | rfl | (simp; done) | (simp [*]; done) | exact congrArg (Value.int .i64) (by unfold wrap64; omega)), H', ⟨by first | omega | exact Nat.le_refl _⟩, ⟨by (with_reducible repeat (first | refine blk_drewN ?_ _ | refine blk_drew ?_ | refine blk_alloc ?_ _)); refine blk_far ?_ NB307_365.out _; refine blk_far ?_ NB307_365.out _; refine blk_far ?_ NB307_365.out _; refine blk_far ?_ NB307_364.out _; refine blk_far ?_ NB307_364.out _; refine blk_far ?_ NB307_364.out _; (with_reducible repeat (first | refine blk_drewN ?_ _ | refine blk_drew ?_ | refine blk_alloc ?_ _)); exact BK307.out⟩, ⟨by repeat (first | (with_reducible first | exact HB.out | apply below_alloc | apply pw_below_drewN | apply below_drew1 | refine below_set ?_ GE364.out | refine below_set ?_ GE365.out) | exact HB.out)⟩⟩
   ·rw [if_neg c46] at H
    have c46b0 : (t363 == 6) = false := beq_eq_false_iff_ne.mpr c46
    have c46b1 : (t363 != 6) = true := bne_iff_ne.mpr c46
    have H' := mk0 H
    clear H
    go_wp2
    go_meet
    case rel => exact ⟨_, (true), (by first | rfl | (simp; done) | (simp [*]; done) | exact congrArg (Value.int .i64) (by unfold wrap64; omega)), H', ⟨by first | omega | exact Nat.le_refl _⟩, ⟨by (with_reducible repeat (first | refine blk_drewN ?_ _ | refine blk_drew ?_ | refine blk_alloc ?_ _)); refine blk_far ?_ NB307_365.out _; refine blk_far ?_ NB307_365.out _; refine blk_far ?_ NB307_365.out _; refine blk_far ?_ NB307_364.out _; refine blk_far ?_ NB307_364.out _; refine blk_far ?_ NB307_364.out _; (with_reducible repeat (first | refine blk_drewN ?_ _ | refine blk_drew ?_ | refine blk_alloc ?_ _)); exact BK307.out⟩, ⟨by repeat (first | (with_reducible first | exact HB.out | apply below_alloc | apply pw_below_drewN | apply below_drew1 | refine below_set ?_ GE364.out | refine below_set ?_ GE365.out) | exact HB.out)⟩⟩
  ·rw [if_neg c45] at H
   have c45b0 : ((wrap64 ((wrap64 (t318 + t329)) + t345)) == 0) = false := beq_eq_false_iff_ne.mpr c45
   have c45b1 : ((wrap64 ((wrap64 (t318 + t329)) + t345)) != 0) = true := bne_iff_ne.mpr c45
   (first | rw [c45b0] | (simp only [i64_w, i32_w]; rw [c45b0]) | skip)
   have H' := mk0 H
   clear H
   go_wp2
   go_meet
   case rel => exact ⟨_, (true), (by first | rfl | (simp; done) | (simp [*]; done) | exact congrArg (Value.int .i64) (by unfold wrap64; omega)), H', ⟨by first | omega | exact Nat.le_refl _⟩, ⟨by (with_reducible repeat (first | refine blk_drewN ?_ _ | refine blk_drew ?_ | refine blk_alloc ?_ _)); refine blk_far ?_ NB307_365.out _; refine blk_far ?_ NB307_365.out _; refine blk_far ?_ NB307_365.out _; refine blk_far ?_ NB307_364.out _; refine blk_far ?_ NB307_364.out _; refine blk_far ?_ NB307_364.out _; (with_reducible repeat (first | refine blk_drewN ?_ _ | refine blk_drew ?_ | refine blk_alloc ?_ _)); exact BK307.out⟩, ⟨by repeat (first | (with_reducible first | exact HB.out | apply below_alloc | apply pw_below_drewN | apply below_drew1 | refine below_set ?_ GE364.out | refine below_set ?_ GE365.out) | exact HB.out)⟩⟩
 case rest =>
  clear HC9
  try clear c1
  try clear c2
  try clear p2
  try clear c3
  try clear c4
  try clear c5
  try clear c6
  try clear p6
  try clear c14
  try clear c15
  try clear c19
  try clear c36
  try clear c37
  try clear c38
  try clear c39
  try clear c41
  try clear c42
  try clear c43
  try clear c45
  try clear c45b0
  try clear c45b1
  try clear c46
  try clear c46b0
  try clear c46b1
  try clear c47
  try clear c48
  try clear c49
  try clear c49b0
  try clear c50
  try clear c51
  try clear c52
  try clear c53
  try clear c55
  try clear c56
  try clear c57
  try clear c58
  try clear c60
  try clear c61
  try clear c62
  try clear X11_0
  try clear X11_1
  try clear X11_2
  try clear X40_0
  try clear X40_1
  try clear X40_2
  try clear X44_0
  try clear X44_1
  try clear X44_2
  try clear X54_0
  try clear X54_1
  try clear X54_2
  try clear X59_0
  try clear X59_1
  try clear X59_2
  try clear X63_0
  try clear X63_1
  try clear X63_2
  try clear Y11_0
  try clear Y11_1
  try clear Y11_2
  try clear Y40_0
  try clear Y40_1
  try clear Y40_2
  try clear Y44_0
  try clear Y44_1
  try clear Y44_2
  try clear Y54_0
  try clear Y54_1
  try clear Y54_2
  try clear Y59_0
  try clear Y59_1
  try clear Y59_2
  try clear Y63_0
  try clear Y63_1
  try clear Y63_2
  obtain ⟨kq, x72_8, rfl, HA, HJ8, BK307, HB⟩ := hcut
  cases kq with
  | zero => exact absurd HA.out (by simp [metrolablaw30_awake.j0])
  | succ kj8 =>
   have H := HA.out
   clear HA
   simp only [metrolablaw30_awake.j0] at H
   by_cases c64 : x72_8 = true
   ·subst c64
    have H1 : (none) = some r := by rw [if_pos rfl] at H; exact H
    clear H
    have H := H1
    clear H1
    exact absurd H (by simp)
   ·replace c64 := Bool.eq_false_iff.mpr c64
    subst c64
    have H1 : ((some (([(⟨#[116, 111, 117, 99, 104, 32, 43, 88]⟩ : ByteArray), (⟨#[109, 111, 118, 101, 32, 49, 48, 32, 53, 32, 50]⟩ : ByteArray), (⟨#[116, 111, 117, 99, 104, 32, 45, 88]⟩ : ByteArray), (⟨#[116, 97, 107, 101, 32, 104, 111, 108, 101]⟩ : ByteArray)] : List ByteArray) : List ByteArray)).bind fun y366 => (metrolablaw30_awake.l0 kj8 ([] : List (S47)) y366 (y366.length : Int) 0 10 5 2)) = some r := by rw [if_neg (show ¬ (false = true) by decide)] at H; exact H
    clear H
    have H := H1
    clear H1
    obtain ⟨y366, hy366⟩ : ∃ y_ : List ByteArray, y_ = (([(⟨#[116, 111, 117, 99, 104, 32, 43, 88]⟩ : ByteArray), (⟨#[109, 111, 118, 101, 32, 49, 48, 32, 53, 32, 50]⟩ : ByteArray), (⟨#[116, 111, 117, 99, 104, 32, 45, 88]⟩ : ByteArray), (⟨#[116, 97, 107, 101, 32, 104, 111, 108, 101]⟩ : ByteArray)] : List ByteArray)) := ⟨_, rfl⟩
    replace H : (metrolablaw30_awake.l0 kj8 ([] : List (S47)) y366 (y366.length : Int) 0 10 5 2) = some r := by first | (rw [hy366]; with_reducible exact H) | (have H2_ := (Option.bind_some _ _).symm.trans H; rw [hy366]; with_reducible exact H2_) | (have H2_ := (Option.bind_some _ _).symm.trans H; with_reducible exact H2_) | with_reducible exact H | (rw [hy366]; exact H) | exact H
    have Ny366 := mk0 hy366
    clear hy366
    have H' := mk0 H
    clear H
    go_wp2_with (first | ((with_reducible refine gate_dst (N := 73) rfl ?_); (try (refine gate_guard (by rfl) ?_; dsimp only)); refine Kd.R_lit Kd.string _ 9 ?hg (N := 73) ?hd (xs := ([(⟨#[116, 111, 117, 99, 104, 32, 43, 88]⟩ : ByteArray), (⟨#[109, 111, 118, 101, 32, 49, 48, 32, 53, 32, 50]⟩ : ByteArray), (⟨#[116, 111, 117, 99, 104, 32, 45, 88]⟩ : ByteArray), (⟨#[116, 97, 107, 101, 32, 104, 111, 108, 101]⟩ : ByteArray)] : List ByteArray)) (inner := [.string (⟨#[116, 111, 117, 99, 104, 32, 43, 88]⟩ : ByteArray), .string (⟨#[109, 111, 118, 101, 32, 49, 48, 32, 53, 32, 50]⟩ : ByteArray), .string (⟨#[116, 111, 117, 99, 104, 32, 45, 88]⟩ : ByteArray), .string (⟨#[116, 97, 107, 101, 32, 104, 111, 108, 101]⟩ : ByteArray)]) (ok := fun _ => True) (okp := fun _ => True) ?hr ?hp (fun _ hk => hk) trivial (Below.refl _ _) (Nat.le_refl _) (by simp) ?_; (case hd => rfl); (case hg => rfl); (case hr => first | (go_simp; done) | (go_simp; rfl)); (case hp => exact (Reps.one (show Kd.M Kd.string _ _ _ (⟨#[116, 111, 117, 99, 104, 32, 43, 88]⟩ : ByteArray) [.string (⟨#[116, 111, 117, 99, 104, 32, 43, 88]⟩ : ByteArray)] from rfl) (Reps.one (show Kd.M Kd.string _ _ _ (⟨#[109, 111, 118, 101, 32, 49, 48, 32, 53, 32, 50]⟩ : ByteArray) [.string (⟨#[109, 111, 118, 101, 32, 49, 48, 32, 53, 32, 50]⟩ : ByteArray)] from rfl) (Reps.one (show Kd.M Kd.string _ _ _ (⟨#[116, 111, 117, 99, 104, 32, 45, 88]⟩ : ByteArray) [.string (⟨#[116, 111, 117, 99, 104, 32, 45, 88]⟩ : ByteArray)] from rfl) (Reps.one (show Kd.M Kd.string _ _ _ (⟨#[116, 97, 107, 101, 32, 104, 111, 108, 101]⟩ : ByteArray) [.string (⟨#[116, 97, 107, 101, 32, 104, 111, 108, 101]⟩ : ByteArray)] from rfl) (Reps.none _ _)))))); intro v367 w65 ho66 hb hg_ hnew_; clear hg_ hnew_; (first | rw [← Ny366.out] at ho66 | (simp only [Int.reduceToNat] at ho66; rw [← Ny366.out] at ho66)); have n0_ := mk0 (Kd.R_lower ho66 (below_size (wT HB.out))); have n1_ := mk0 (blk_below (g := gb307) (o := .cells #[.int .i64 10, .int .i64 5, .int .i64 2] 23 (0, 0)) (bT BK307.out) hb); have n2_ := mk0 (below_step (wT HB.out) hb); clear BK307; clear HB; have HO368 := n0_; have BK307 := n1_; have HB := n2_; clear n0_ n1_ n2_; clear hb ho66; obtain ⟨Ao67, co67, eo67⟩ := Kd.R_slice HO368.out; subst eo67))
    go_loopg [12, 75] kj8 (fun kq v12 v75 w' => ∃ (x12_2 : List (S47)) (x75_2 : Int), v75 = .int .i64 x75_2 ∧ Aside0 (metrolablaw30_awake.l0 kq x12_2 y366 (y366.length : Int) x75_2 10 5 2 = some r) ∧ Aside0 (kq ≤ kj8) ∧ Aside0 (Kd.R k47 47 w' w.heap.size (fun _ => True) v12 x12_2) ∧ Aside0 (Kd.R Kd.string 9 w' w.heap.size (fun _ => True) (.slice Ao67 y366.length co67) y366) ∧ Aside0 (w'.heap[gb307]? = some (.cells #[.int .i64 10, .int .i64 5, .int .i64 2] 23 (0, 0))) ∧ Aside0 (Below w.heap.size w w'))
    case atStart => exact ⟨(([] : List (S47))), (0), (by first | rfl | (simp; done) | (simp [*]; done) | exact congrArg (Value.int .i64) (by unfold wrap64; omega)), H', ⟨Nat.le_refl _⟩, ⟨by first | exact Kd.R_nil _ _ _ _ _ | exact Kd.N_nil _ _ _ _ _ | exact Kd.V_nil _ _ _ _ _ | exact Kd.Q_nil _ _ _ _ _ | exact Kd.S_nil _ _ _ _ _⟩, ⟨rT HO368.out⟩, ⟨bT BK307.out⟩, ⟨wT HB.out⟩⟩
    case round =>
     clear H'
     try clear c1
     try clear c2
     try clear p2
     try clear c3
     try clear c4
     try clear c5
     try clear c6
     try clear p6
     try clear c14
     try clear c15
     try clear c19
     try clear c36
     try clear c37
     try clear c38
     try clear c39
     try clear c41
     try clear c42
     try clear c43
     try clear c45
     try clear c45b0
     try clear c45b1
     try clear c46
     try clear c46b0
     try clear c46b1
     try clear c47
     try clear c48
     try clear c49
     try clear c49b0
     try clear c50
     try clear c51
     try clear c52
     try clear c53
     try clear c55
     try clear c56
     try clear c57
     try clear c58
     try clear c60
     try clear c61
     try clear c62
     try clear c64
     try clear p64
     try clear X11_0
     try clear X11_1
     try clear X11_2
     try clear X40_0
     try clear X40_1
     try clear X40_2
     try clear X44_0
     try clear X44_1
     try clear X44_2
     try clear X54_0
     try clear X54_1
     try clear X54_2
     try clear X59_0
     try clear X59_1
     try clear X59_2
     try clear X63_0
     try clear X63_1
     try clear X63_2
     try clear Y11_0
     try clear Y11_1
     try clear Y11_2
     try clear Y40_0
     try clear Y40_1
     try clear Y40_2
     try clear Y44_0
     try clear Y44_1
     try clear Y44_2
     try clear Y54_0
     try clear Y54_1
     try clear Y54_2
     try clear Y59_0
     try clear Y59_1
     try clear Y59_2
     try clear Y63_0
     try clear Y63_1
     try clear Y63_2
     try clear p2
     try clear p6
     obtain ⟨x12_2, x75_2, rfl, HA, HK2, HO_12, HO_73, BK307, HB⟩ := hrel
     cases gk with
     | zero => exact absurd HA.out (by simp [metrolablaw30_awake.l0])
     | succ k2 =>
      have H := HA.out
      clear HA
      simp only [metrolablaw30_awake.l0] at H
      by_cases c68 : x75_2 < (y366.length : Int)
      ·rw [if_pos c68] at H
       have c68b0 : decide (x75_2 < (y366.length : Int)) = true := decide_eq_true c68
       clear c68
       by_cases c69 : 0 ≤ x75_2
       ·rw [if_pos c69] at H
        have c69b0 : decide (0 ≤ x75_2) = true := decide_eq_true c69
        clear c69
        by_cases c70 : x75_2 < (y366.length : Int)
        ·rw [if_pos c70] at H
         have c70b0 : decide (x75_2 < (y366.length : Int)) = true := decide_eq_true c70
         clear c70
         replace H := Option.bind_eq_some_iff.mp H
         obtain ⟨⟨t370, t371, t372, t373, t374, t375, t376⟩, A710, H⟩ := H
         replace H : (if t376 = 0 then (if x12_2.length < 2513169434916 then (metrolablaw30_awake.l0 k2 (x12_2 ++ [(⟨t370, (⟨t371, t372, t373⟩ : S23), t374, t375⟩ : S47)]) y366 (y366.length : Int) (wrap64 (x75_2 + 1)) 10 5 2) else (none)) else (none)) = some r := H
         have A71 := mk0 A710
         clear A710
         by_cases c72 : t376 = 0
         ·rw [if_pos c72] at H
          have c72b0 : (t376 == 0) = true := beq_iff_eq.mpr c72
          have c72b1 : (t376 != 0) = false := bne_eq_false_iff_eq.mpr c72
          clear c72
          by_cases c73 : x12_2.length < 2513169434916
          ·rw [if_pos c73] at H
           have LMc73 := mk0 c73
           clear c73
           obtain ⟨y378, hy378⟩ : ∃ y_ : List (S47), y_ = (x12_2 ++ [(⟨t370, (⟨t371, t372, t373⟩ : S23), t374, t375⟩ : S47)]) := ⟨_, rfl⟩
           replace H : (metrolablaw30_awake.l0 k2 y378 y366 (y366.length : Int) (wrap64 (x75_2 + 1)) 10 5 2) = some r := by first | (rw [hy378]; with_reducible exact H) | (have H2_ := (Option.bind_some _ _).symm.trans H; rw [hy378]; with_reducible exact H2_) | (have H2_ := (Option.bind_some _ _).symm.trans H; with_reducible exact H2_) | with_reducible exact H | (rw [hy378]; exact H) | exact H
           have Ny378 := mk0 hy378
           clear hy378
           have H' := mk0 H
           clear H
           have p369 : 0 ≤ (x75_2 : Int) := of_decide_eq_true (by first | (with_reducible assumption) | assumption)
           have q369 : x75_2 < (y366.length : Int) := of_decide_eq_true (by first | (with_reducible assumption) | assumption)
           obtain ⟨ad369, e369, hx369_0⟩ := Kd.at_string (Kd.R_reads' HO_73.out).2.2 x75_2 p369 q369
           cases e369
           replace p369 := eq_true p369
           replace q369 := eq_true q369
           go_wp2_with (first | ((with_reducible refine gate_callee (f := 23) rfl ?_); refine goesL_ (some 81) rfl rfl Tryz.func23 (by kernel_rfl) rfl #[.string (rdOf ByteArray.empty y366 x75_2)] rfl (by (try simp only [List.map_toArray, List.map_cons, List.map_nil]); first | done | rfl | (simp only [List.length_drop, List.length_take]; rfl)) ?_; (with_reducible refine (probe_Read.calls k2 (rdOf ByteArray.empty y366 x75_2) t370 t371 t372 t373 t374 t375 t376 _ ?side1 A71.out).mono ?_); (case side1 => exact GW_below HG.out (wT HB.out)); rintro e w74 ⟨rfl, hb⟩; refine ⟨_, rfl, ?_⟩; have n0_ := mk0 (Kd.R_below (rT HO_12.out) hb); have n1_ := mk0 (Kd.R_below (rT HO_73.out) hb); have n2_ := mk0 (blk_below (g := gb307) (o := .cells #[.int .i64 10, .int .i64 5, .int .i64 2] 23 (0, 0)) (bT BK307.out) hb); have n3_ := mk0 (below_step (wT HB.out) hb); clear HO_12; clear HO_73; clear BK307; clear HB; have HO_12 := n0_; have HO_73 := n1_; have BK307 := n2_; have HB := n3_; clear n0_ n1_ n2_ n3_; (try clear hb); (try clear hb2); (try clear hk); (try clear hi)) | ((with_reducible refine gate_dst (N := 15) rfl ?_); (try (refine gate_guard (by rfl) ?_; dsimp only)); refine box_event ?hg (N := 15) ?hd (cs := #[.int .i64 0, .int .i64 0, .int .i64 0, .int .i64 0, .int .i64 0, .string (⟨#[]⟩ : ByteArray)]) (t := 47) ?hr ?_; (case hd => rfl); (case hg => rfl); (case hr => first | (go_simp; done) | (go_simp; rfl)); intro gb377 hg w75 hbox hb; have n0_ := mk0 (Kd.R_below (Kd.R_elderB (rT HO_12.out) gb377 (Nat.le_of_eq hg.symm)) hb); have n1_ := mk0 (Kd.R_below (rT HO_73.out) hb); have n2_ := mk0 (blk_below (g := gb307) (o := .cells #[.int .i64 10, .int .i64 5, .int .i64 2] 23 (0, 0)) (bT BK307.out) hb); have n3_ := mk0 (below_step (wT HB.out) hb); have n4_ := mk0 (hbox); have n5_ := mk0 ((szT HB.out hg)); have n6_ := mk0 ((szT HB.out hg)); have n7_ := mk0 ((neL BK307.out hg)); have n8_ := mk0 ((neG BK307.out hg)); clear HO_12; clear HO_73; clear BK307; clear HB; have HO_12 := n0_; have HO_73 := n1_; have BK307 := n2_; have HB := n3_; have BK377 := n4_; have GW377 := n5_; have GE377 := n6_; have NB307_377 := n7_; have NB377_307 := n8_; clear n0_ n1_ n2_ n3_ n4_ n5_ n6_ n7_ n8_; clear hb hbox hg; have hnb76 := NB377_307.out; have hnc76 := NB307_377.out; have X77_0 := ct BK377.out 0; have X77_1 := ct BK377.out 1; have X77_2 := ct BK377.out 2; have X77_3 := ct BK377.out 3; have X77_4 := ct BK377.out 4; have X77_5 := ct BK377.out 5; have Y77_0 := blk_frozen BK377.out 0; have Y77_1 := blk_frozen BK377.out 1; have Y77_2 := blk_frozen BK377.out 2; have Y77_3 := blk_frozen BK377.out 3; have Y77_4 := blk_frozen BK377.out 4; have Y77_5 := blk_frozen BK377.out 5) | ((with_reducible refine gate_builtin (b := .append) (xs := #[.tmp 86, .tmp 88]) rfl ?_); (try (refine gate_guard (by rfl) ?_; dsimp only)); at_builtin; refine Kd.R_append k47 (w0 := w) w.heap.size rfl (.tmp 86) (.tmp 88) 60 47 (.agg #[(.int .i64 0), (.int .i64 0), (.int .i64 0), (.int .i64 0), (.int .i64 0), (.string ⟨#[]⟩)]) 56 rfl Tryz.underlying60 info47 rfl (by decide) (by omega) u12 x12_2 (⟨t370, (⟨t371, t372, t373⟩ : S23), t374, t375⟩ : S47) [.int .i64 t370, .int .i64 t371, .int .i64 t372, .int .i64 t373, .int .i64 t374, .string t375] (fun k_ => k_ ≠ gb377) (fun _ => False) rfl (by first | (go_simp; done) | (go_simp; rfl)) ?aP (fun _ hk => hk.elim) ?aF ?aO ?aB ?aS ?aL ?_; (case aP => exact k47_mkM _ _ _ (⟨t370, (⟨t371, t372, t373⟩ : S23), t374, t375⟩ : S47)); (case aB => exact (by repeat (first | (with_reducible first | exact HB.out | apply below_alloc | apply pw_below_drewN | apply below_drew1 | refine below_set ?_ GE377.out) | exact HB.out))); (case aF => exact (fun k_ hk => Kd.freshB (g := gb377) (o := .cells #[.int .i64 t370, .int .i64 t371, .int .i64 t372, .int .i64 t373, .int .i64 t374, .string t375] 47 (0, 0)) (by (with_reducible repeat (first | refine blk_drewN ?_ _ | refine blk_drew ?_ | refine blk_alloc ?_ _)); refine blk_put (cs := #[.int .i64 t370, .int .i64 t371, .int .i64 t372, .int .i64 t373, .int .i64 t374, .string (⟨#[]⟩ : ByteArray)]) ?_ 5 _ rfl; refine blk_put (cs := #[.int .i64 t370, .int .i64 t371, .int .i64 t372, .int .i64 t373, .int .i64 0, .string (⟨#[]⟩ : ByteArray)]) ?_ 4 _ rfl; refine blk_put (cs := #[.int .i64 t370, .int .i64 t371, .int .i64 t372, .int .i64 0, .int .i64 0, .string (⟨#[]⟩ : ByteArray)]) ?_ 3 _ rfl; refine blk_put (cs := #[.int .i64 t370, .int .i64 t371, .int .i64 0, .int .i64 0, .int .i64 0, .string (⟨#[]⟩ : ByteArray)]) ?_ 2 _ rfl; refine blk_put (cs := #[.int .i64 t370, .int .i64 0, .int .i64 0, .int .i64 0, .int .i64 0, .string (⟨#[]⟩ : ByteArray)]) ?_ 1 _ rfl; refine blk_put (cs := #[.int .i64 0, .int .i64 0, .int .i64 0, .int .i64 0, .int .i64 0, .string (⟨#[]⟩ : ByteArray)]) ?_ 0 _ rfl; (with_reducible repeat (first | refine blk_drewN ?_ _ | refine blk_drew ?_ | refine blk_alloc ?_ _)); exact BK377.out) k_ hk)); (case aO => exact (by (with_reducible repeat (first | apply Kd.R_alloc | apply Kd.R_drewN | apply Kd.R_drew)); exact Kd.R_mono (Kd.R_far (p := ⟨gb377, 5, none⟩) (Kd.R_far (p := ⟨gb377, 4, none⟩) (Kd.R_far (p := ⟨gb377, 3, none⟩) (Kd.R_far (p := ⟨gb377, 2, none⟩) (Kd.R_far (p := ⟨gb377, 1, none⟩) (Kd.R_far (p := ⟨gb377, 0, none⟩) (Kd.R_mono HO_12.out (fun k_ hk => (⟨hk, hk.2⟩ : _ ∧ k_ ≠ gb377))) (fun _ hk => by first | exact hk | exact hk.1 | exact hk.2 | exact hk.1.2 | exact ⟨hk.1.2, hk.2⟩ | exact ⟨trivial, hk.1.2, hk.2⟩ | exact ⟨trivial, hk.2⟩ | (simp_all; done)) (.int .i64 t370)) (fun _ hk => by first | exact hk | exact hk.1 | exact hk.2 | exact hk.1.2 | exact ⟨hk.1.2, hk.2⟩ | exact ⟨trivial, hk.1.2, hk.2⟩ | exact ⟨trivial, hk.2⟩ | (simp_all; done)) (.int .i64 t371)) (fun _ hk => by first | exact hk | exact hk.1 | exact hk.2 | exact hk.1.2 | exact ⟨hk.1.2, hk.2⟩ | exact ⟨trivial, hk.1.2, hk.2⟩ | exact ⟨trivial, hk.2⟩ | (simp_all; done)) (.int .i64 t372)) (fun _ hk => by first | exact hk | exact hk.1 | exact hk.2 | exact hk.1.2 | exact ⟨hk.1.2, hk.2⟩ | exact ⟨trivial, hk.1.2, hk.2⟩ | exact ⟨trivial, hk.2⟩ | (simp_all; done)) (.int .i64 t373)) (fun _ hk => by first | exact hk | exact hk.1 | exact hk.2 | exact hk.1.2 | exact ⟨hk.1.2, hk.2⟩ | exact ⟨trivial, hk.1.2, hk.2⟩ | exact ⟨trivial, hk.2⟩ | (simp_all; done)) (.int .i64 t374)) (fun _ hk => by first | exact hk | exact hk.1 | exact hk.2 | exact hk.1.2 | exact ⟨hk.1.2, hk.2⟩ | exact ⟨trivial, hk.1.2, hk.2⟩ | exact ⟨trivial, hk.2⟩ | (simp_all; done)) (.string t375)) (fun _ hk => hk.1.2))); (case aS => exact (below_size (by repeat (first | (with_reducible first | exact HB.out | apply below_alloc | apply pw_below_drewN | apply below_drew1 | refine below_set ?_ GE377.out) | exact HB.out)))); (case aL => have := LMc73.out; omega); intro v379 w78 ho hb hg hat; rw [← Ny378.out] at ho; have n0_ := mk0 (Kd.R_over' (by (with_reducible repeat (first | apply Kd.R_alloc | apply Kd.R_drewN | apply Kd.R_drew)); exact (Kd.R_mono (Kd.R_far (p := ⟨gb377, 5, none⟩) (Kd.R_far (p := ⟨gb377, 4, none⟩) (Kd.R_far (p := ⟨gb377, 3, none⟩) (Kd.R_far (p := ⟨gb377, 2, none⟩) (Kd.R_far (p := ⟨gb377, 1, none⟩) (Kd.R_far (p := ⟨gb377, 0, none⟩) (Kd.R_types HO_73.out BK377.out (by decide)) (fun _ hk => by first | exact hk | exact hk.1 | exact hk.2 | exact hk.1.2 | exact ⟨hk.1.2, hk.2⟩ | exact ⟨trivial, hk.1.2, hk.2⟩ | exact ⟨trivial, hk.2⟩ | (simp_all; done)) (.int .i64 t370)) (fun _ hk => by first | exact hk | exact hk.1 | exact hk.2 | exact hk.1.2 | exact ⟨hk.1.2, hk.2⟩ | exact ⟨trivial, hk.1.2, hk.2⟩ | exact ⟨trivial, hk.2⟩ | (simp_all; done)) (.int .i64 t371)) (fun _ hk => by first | exact hk | exact hk.1 | exact hk.2 | exact hk.1.2 | exact ⟨hk.1.2, hk.2⟩ | exact ⟨trivial, hk.1.2, hk.2⟩ | exact ⟨trivial, hk.2⟩ | (simp_all; done)) (.int .i64 t372)) (fun _ hk => by first | exact hk | exact hk.1 | exact hk.2 | exact hk.1.2 | exact ⟨hk.1.2, hk.2⟩ | exact ⟨trivial, hk.1.2, hk.2⟩ | exact ⟨trivial, hk.2⟩ | (simp_all; done)) (.int .i64 t373)) (fun _ hk => by first | exact hk | exact hk.1 | exact hk.2 | exact hk.1.2 | exact ⟨hk.1.2, hk.2⟩ | exact ⟨trivial, hk.1.2, hk.2⟩ | exact ⟨trivial, hk.2⟩ | (simp_all; done)) (.int .i64 t374)) (fun _ hk => by first | exact hk | exact hk.1 | exact hk.2 | exact hk.1.2 | exact ⟨hk.1.2, hk.2⟩ | exact ⟨trivial, hk.1.2, hk.2⟩ | exact ⟨trivial, hk.2⟩ | (simp_all; done)) (.string t375)) (fun _ h_ => h_.1))) (Kd.R_typed (by (with_reducible repeat (first | apply Kd.R_alloc | apply Kd.R_drewN | apply Kd.R_drew)); exact (Kd.R_mono (Kd.R_far (p := ⟨gb377, 5, none⟩) (Kd.R_far (p := ⟨gb377, 4, none⟩) (Kd.R_far (p := ⟨gb377, 3, none⟩) (Kd.R_far (p := ⟨gb377, 2, none⟩) (Kd.R_far (p := ⟨gb377, 1, none⟩) (Kd.R_far (p := ⟨gb377, 0, none⟩) (Kd.R_mono HO_12.out (fun k_ hk => (⟨hk, hk.2⟩ : _ ∧ k_ ≠ gb377))) (fun _ hk => by first | exact hk | exact hk.1 | exact hk.2 | exact hk.1.2 | exact ⟨hk.1.2, hk.2⟩ | exact ⟨trivial, hk.1.2, hk.2⟩ | exact ⟨trivial, hk.2⟩ | (simp_all; done)) (.int .i64 t370)) (fun _ hk => by first | exact hk | exact hk.1 | exact hk.2 | exact hk.1.2 | exact ⟨hk.1.2, hk.2⟩ | exact ⟨trivial, hk.1.2, hk.2⟩ | exact ⟨trivial, hk.2⟩ | (simp_all; done)) (.int .i64 t371)) (fun _ hk => by first | exact hk | exact hk.1 | exact hk.2 | exact hk.1.2 | exact ⟨hk.1.2, hk.2⟩ | exact ⟨trivial, hk.1.2, hk.2⟩ | exact ⟨trivial, hk.2⟩ | (simp_all; done)) (.int .i64 t372)) (fun _ hk => by first | exact hk | exact hk.1 | exact hk.2 | exact hk.1.2 | exact ⟨hk.1.2, hk.2⟩ | exact ⟨trivial, hk.1.2, hk.2⟩ | exact ⟨trivial, hk.2⟩ | (simp_all; done)) (.int .i64 t373)) (fun _ hk => by first | exact hk | exact hk.1 | exact hk.2 | exact hk.1.2 | exact ⟨hk.1.2, hk.2⟩ | exact ⟨trivial, hk.1.2, hk.2⟩ | exact ⟨trivial, hk.2⟩ | (simp_all; done)) (.int .i64 t374)) (fun _ hk => by first | exact hk | exact hk.1 | exact hk.2 | exact hk.1.2 | exact ⟨hk.1.2, hk.2⟩ | exact ⟨trivial, hk.1.2, hk.2⟩ | exact ⟨trivial, hk.2⟩ | (simp_all; done)) (.string t375)) (fun _ h_ => h_.1)))) (by decide) hg); have n1_ := mk0 (blk_grown (g := gb307) (o := .cells #[.int .i64 10, .int .i64 5, .int .i64 2] 23 (0, 0)) (by (with_reducible repeat (first | refine blk_drewN ?_ _ | refine blk_drew ?_ | refine blk_alloc ?_ _)); refine blk_far ?_ NB307_377.out _; refine blk_far ?_ NB307_377.out _; refine blk_far ?_ NB307_377.out _; refine blk_far ?_ NB307_377.out _; refine blk_far ?_ NB307_377.out _; refine blk_far ?_ NB307_377.out _; (with_reducible repeat (first | refine blk_drewN ?_ _ | refine blk_drew ?_ | refine blk_alloc ?_ _)); exact BK307.out) hg (Kd.R_ne HO_12.out BK307.out (by decide))); have n2_ := mk0 (blk_grown (g := gb377) (o := .cells #[.int .i64 t370, .int .i64 t371, .int .i64 t372, .int .i64 t373, .int .i64 t374, .string t375] 47 (0, 0)) (by (with_reducible repeat (first | refine blk_drewN ?_ _ | refine blk_drew ?_ | refine blk_alloc ?_ _)); refine blk_put (cs := #[.int .i64 t370, .int .i64 t371, .int .i64 t372, .int .i64 t373, .int .i64 t374, .string (⟨#[]⟩ : ByteArray)]) ?_ 5 _ rfl; refine blk_put (cs := #[.int .i64 t370, .int .i64 t371, .int .i64 t372, .int .i64 t373, .int .i64 0, .string (⟨#[]⟩ : ByteArray)]) ?_ 4 _ rfl; refine blk_put (cs := #[.int .i64 t370, .int .i64 t371, .int .i64 t372, .int .i64 0, .int .i64 0, .string (⟨#[]⟩ : ByteArray)]) ?_ 3 _ rfl; refine blk_put (cs := #[.int .i64 t370, .int .i64 t371, .int .i64 0, .int .i64 0, .int .i64 0, .string (⟨#[]⟩ : ByteArray)]) ?_ 2 _ rfl; refine blk_put (cs := #[.int .i64 t370, .int .i64 0, .int .i64 0, .int .i64 0, .int .i64 0, .string (⟨#[]⟩ : ByteArray)]) ?_ 1 _ rfl; refine blk_put (cs := #[.int .i64 0, .int .i64 0, .int .i64 0, .int .i64 0, .int .i64 0, .string (⟨#[]⟩ : ByteArray)]) ?_ 0 _ rfl; (with_reducible repeat (first | refine blk_drewN ?_ _ | refine blk_drew ?_ | refine blk_alloc ?_ _)); exact BK377.out) hg (Kd.R_away HO_12.out (fun _ hk => by first | exact hk | exact hk.1 | exact hk.2 | exact hk.1.2 | exact ⟨hk.1.2, hk.2⟩ | exact ⟨trivial, hk.1.2, hk.2⟩ | exact ⟨trivial, hk.2⟩ | (simp_all; done)))); have n3_ := mk0 (hb); have n4_ := mk0 (ho); clear HO_73; clear BK307; clear BK377; clear HB; clear HO_12; have HO_73 := n0_; have BK307 := n1_; have BK377 := n2_; have HB := n3_; have HO380 := n4_; clear n0_ n1_ n2_ n3_ n4_; clear ho hb hg hat))
           go_roundg k2
           case measure => have := HJ8.out; have := HK2.out; omega
           case rel => exact ⟨(y378), (wrap64 (x75_2 + 1)), (by first | rfl | (simp; done) | (simp [*]; done) | exact congrArg (Value.int .i64) (by unfold wrap64; omega)), H', ⟨by have := HJ8.out; have := HK2.out; omega⟩, ⟨by (with_reducible repeat (first | apply Kd.R_alloc | apply Kd.R_drewN | apply Kd.R_drew)); exact Kd.R_mono HO380.out (fun _ hk => trivial)⟩, ⟨rT HO_73.out⟩, ⟨bT BK307.out⟩, ⟨wT HB.out⟩⟩
          ·rw [if_neg c73] at H
           exact absurd H (by simp)
         ·rw [if_neg c72] at H
          exact absurd H (by simp)
        ·rw [if_neg c70] at H
         exact absurd H (by simp)
       ·rw [if_neg c69] at H
        exact absurd H (by simp)
      ·rw [if_neg c68] at H
       have c68b0 : decide (x75_2 < (y366.length : Int)) = false := decide_eq_false c68
       clear c68
       replace H := Option.bind_eq_some_iff.mp H
       obtain ⟨⟨t381, t382, t383, t384, t385, t386, t387⟩, A790, H⟩ := H
       replace H : ((probe_Run.f t381 t382 t383 t384 t385 t386 t387 10 5 2 x12_2).bind fun bt390 => (if bt390.2.2.2 = 0 then (if (bt390.2.1.length : Int) = 1 then (if 0 < (bt390.2.1.length : Int) then (if ((rd_T76 bt390.2.1 0).f0).toList = ([104, 111, 108, 101] : List UInt8) then ((api_Spot.f k2 ((rd_T76 bt390.2.1 0).f1) (([(⟨13, 5, 2⟩ : S23), (⟨7, 5, 2⟩ : S23)] : List (S23)))).bind fun t402 => (some t402)) else (none)) else (none)) else (none)) else (none))) = some r := H
       have A79 := mk0 A790
       clear A790
       replace H := Option.bind_eq_some_iff.mp H
       obtain ⟨⟨t390, t391, t394, t395⟩, A800, H⟩ := H
       replace H : (if t395 = 0 then (if (t391.length : Int) = 1 then (if 0 < (t391.length : Int) then (if ((rd_T76 t391 0).f0).toList = ([104, 111, 108, 101] : List UInt8) then ((api_Spot.f k2 ((rd_T76 t391 0).f1) (([(⟨13, 5, 2⟩ : S23), (⟨7, 5, 2⟩ : S23)] : List (S23)))).bind fun t402 => (some t402)) else (none)) else (none)) else (none)) else (none)) = some r := H
       have A80 := mk0 A800
       clear A800
       by_cases c81 : t395 = 0
       ·rw [if_pos c81] at H
        have c81b0 : (t395 == 0) = true := beq_iff_eq.mpr c81
        have c81b1 : (t395 != 0) = false := bne_eq_false_iff_eq.mpr c81
        clear c81
        by_cases c82 : (t391.length : Int) = 1
        ·rw [if_pos c82] at H
         have c82b0 : ((t391.length : Int) == 1) = true := beq_iff_eq.mpr c82
         have c82b1 : ((t391.length : Int) != 1) = false := bne_eq_false_iff_eq.mpr c82
         clear c82
         by_cases c83 : 0 < (t391.length : Int)
         ·rw [if_pos c83] at H
          have c83b0 : decide (0 < (t391.length : Int)) = true := decide_eq_true c83
          have c83b1 : decide (0 < t391.length) = true := decide_eq_true (by omega)
          clear c83
          by_cases c84 : ((rd_T76 t391 0).f0).toList = ([104, 111, 108, 101] : List UInt8)
          ·rw [if_pos c84] at H
           have c84b0 : (((rd_T76 t391 0).f0).toList == ([104, 111, 108, 101] : List UInt8)) = true := beq_iff_eq.mpr c84
           have c84b1 : (((rd_T76 t391 0).f0).toList != ([104, 111, 108, 101] : List UInt8)) = false := bne_eq_false_iff_eq.mpr c84
           clear c84
           obtain ⟨y399, hy399⟩ : ∃ y_ : List (S23), y_ = (([(⟨13, 5, 2⟩ : S23), (⟨7, 5, 2⟩ : S23)] : List (S23))) := ⟨_, rfl⟩
           replace H : ((api_Spot.f k2 ((rd_T76 t391 0).f1) y399).bind fun t402 => (some t402)) = some r := by first | (rw [hy399]; with_reducible exact H) | (have H2_ := (Option.bind_some _ _).symm.trans H; rw [hy399]; with_reducible exact H2_) | (have H2_ := (Option.bind_some _ _).symm.trans H; with_reducible exact H2_) | with_reducible exact H | (rw [hy399]; exact H) | exact H
           have Ny399 := mk0 hy399
           clear hy399
           replace H := Option.bind_eq_some_iff.mp H
           obtain ⟨t402, A850, H⟩ := H
           replace H : (some t402) = some r := H
           have A85 := mk0 A850
           clear A850
           obtain rfl := Option.some.inj H
           obtain ⟨Ao86, co86, eo86⟩ := Kd.R_slice HO_12.out
           subst eo86
           try go_wp2
           have n0_ := mk0 (Kd.R_drew HO_12.out)
           have n1_ := mk0 (Kd.R_drew HO_73.out)
           have n2_ := mk0 (blk_drew BK307.out)
           have n3_ := mk0 (below_drew1 HB.out)
           clear HO_12
           clear HO_73
           clear BK307
           clear HB
           have HO_12 := n0_
           have HO_73 := n1_
           have BK307 := n2_
           have HB := n3_
           clear n0_ n1_ n2_ n3_
           refine start_ (n := 12) (S := fun w' => w'.cell? ⟨gb307, 0, none⟩ = some (.int .i64 10) ∧ w'.cell? ⟨gb307, 1, none⟩ = some (.int .i64 5) ∧ w'.cell? ⟨gb307, 2, none⟩ = some (.int .i64 2)) (ds := []) #[false, false, false, false, false, false, false, false, false, false, false, false] (by kernel_rfl) rfl rfl ⟨ct BK307.out 0, ct BK307.out 1, ct BK307.out 2⟩ (fun hHeld => ?_); refine with_tabW metrolablaw30_awake.tab17 metrolablaw30_awake.bits17 (fun HT_ HW_ => ?_)
           generalize wr.drew = w87 at HO_12 HO_73 BK307 HB hHeld ⊢
           refine pure_ (i := 2) (N := some 94) (v := ?_) (a' := ?_) #[false, false, true, false, false, false, false, false, false, false, false, false] rfl rfl (any_of HT_.out (by kernel_rfl)) (fun _ _ _ h => h) (Or.inl ⟨by rfl, ?_⟩) ?_ ?_
           rotate_left
           ·intro w'
            go_simp
            with_reducible rfl
           rotate_left
           ·simp only [Act.put, List.setIfInBounds_toArray, List.set_cons_zero, List.set_cons_succ, i64_w, i32_w]
            rfl
           refine take_ (i := 1) (N := some 93) (v := ?_) (a' := ?_) #[false, true, true, false, false, false, false, false, false, false, false, false] rfl rfl (take_ofW HT_.out HW_.out (by kernel_rfl)) (fun _ _ _ h => h) (Or.inl ⟨by rfl, ?_⟩) hHeld ?_ ?_
           rotate_left
           ·rintro w' ⟨s0, s1, s2⟩
            go_simp
            with_reducible rfl
           rotate_left
           ·simp only [Act.put, List.setIfInBounds_toArray, List.set_cons_zero, List.set_cons_succ, i64_w, i32_w]
            rfl
           refine join_ (σ := Value × Value × Nat) 3 #[true, true, true, true, true, true, true, true, true, false, false, false] (fun s_ => [(92, .agg #[.int .i64 t381, .int .i64 t382, .int .i64 t383, .int .i64 t384, .int .i64 t385, .int .i64 t386, s_.1]), (95, .tuple #[.agg #[.string t390, s_.2.1], .int .i64 t394, .int .i64 t395]), (17, .pointer (some ⟨s_.2.2, 0, none⟩)), (91, .tuple #[.agg #[.string t390, s_.2.1], .int .i64 t394, .int .i64 t395]), (96, .agg #[.string t390, s_.2.1]), (97, .int .i64 t394), (98, .int .i64 t395)]) (fun s_ w' => (w'.cell? ⟨gb307, 0, none⟩ = some (.int .i64 10) ∧ w'.cell? ⟨gb307, 1, none⟩ = some (.int .i64 5) ∧ w'.cell? ⟨gb307, 2, none⟩ = some (.int .i64 2)) ∧ (Kd.R k84 84 w' w.heap.size (fun _ => True) s_.1 t387) ∧ (Kd.S k76 76 w' w.heap.size (fun k_ => k_ ≠ gb307) s_.2.1 t391) ∧ (Kd.R k47 47 w' w.heap.size (fun _ => True) (.slice Ao86 x12_2.length co86) x12_2) ∧ (Kd.R Kd.string 9 w' w.heap.size (fun _ => True) (.slice Ao67 y366.length co67) y366) ∧ (w'.heap[gb307]? = some (.cells #[.int .i64 10, .int .i64 5, .int .i64 2] 23 (0, 0))) ∧ (w'.heap[s_.2.2]? = some (.cells #[.string (⟨#[]⟩ : ByteArray), .slice none 0 0] 67 (0, 0))) ∧ (w.heap.size ≤ s_.2.2) ∧ (w.heap.size ≤ s_.2.2) ∧ (gb307 ≠ s_.2.2) ∧ (s_.2.2 ≠ gb307) ∧ (Below w.heap.size w w')) ?_ ?_
           rotate_left
           ·intro hCont
            refine two_ (i := 0) (j := 8) (Ni := some 92) (Nj := some 17) #[true, true, true, false, false, false, false, false, false, false, false, false] #[false, true, true, false, false, false, false, false, true, false, false, false] rfl rfl rfl rfl (two_of HT_.out (by kernel_rfl)) (by decide) (by decide) (fun K hK => ?_) (fun K hK => ?_)
            ·skip
             refine goes_ Tryz.func36 (by kernel_rfl) rfl #[] (by rfl) rfl rfl (by (try simp only [List.map_toArray, List.map_cons, List.map_nil]); first | done | rfl | (simp only [List.length_drop, List.length_take]; rfl)) ?_
             with_reducible refine (metrolablaw30_Plate.calls  t381 t382 t383 t384 t385 t386 t387 _ A79.out).mono ?_
             rintro e w88 ⟨v388, rfl, ho0, hb⟩
             refine ⟨_, rfl, ?_⟩
             have n0_ := mk0 (Kd.R_below (rT HO_12.out) hb)
             have n1_ := mk0 (Kd.R_below (rT HO_73.out) hb)
             have n2_ := mk0 (Kd.R_lower ho0 (below_size (wT HB.out)))
             have n3_ := mk0 (blk_below (g := gb307) (o := .cells #[.int .i64 10, .int .i64 5, .int .i64 2] 23 (0, 0)) (bT BK307.out) hb)
             have n4_ := mk0 (below_step (wT HB.out) hb)
             clear HO_12
             clear HO_73
             clear BK307
             clear HB
             have HO_12 := n0_
             have HO_73 := n1_
             have HO389 := n2_
             have BK307 := n3_
             have HB := n4_
             clear n0_ n1_ n2_ n3_ n4_
             (try clear hb)
             (try clear hb2)
             (try clear hk)
             (try clear hi)
             (try clear ho0)
             obtain ⟨Ao89, co89, eo89⟩ := Kd.R_slice HO389.out
             (first | subst eo89 | (injection eo89 with f1_ f2_ f3_; have f4_ := f1_.symm; have f5_ := f3_.symm; clear f1_ f2_ f3_; subst f4_; subst f5_))
             refine hK.out _ _ ⟨ct BK307.out 0, ct BK307.out 1, ct BK307.out 2⟩ (fun hHeld => ?_)
             clear hK K
             refine norm_ (a' := ?_) ?_ ?_
             rotate_left
             ·show Act.put _ (some 92) _ = _
              simp only [Act.put, List.setIfInBounds_toArray, List.set_cons_zero, List.set_cons_succ, i64_w, i32_w]
              rfl
             refine two_ (i := 3) (j := 8) (Ni := some 95) (Nj := some 17) #[true, true, true, true, false, false, false, false, false, false, false, false] #[true, true, true, false, false, false, false, false, true, false, false, false] rfl rfl rfl rfl (two_of HT_.out (by kernel_rfl)) (by decide) (by decide) (fun K hK => ?_) (fun K hK => ?_)
             ·skip
              refine goes_ Tryz.func30 (by kernel_rfl) rfl #[.agg #[.int .i64 t381, .int .i64 t382, .int .i64 t383, .int .i64 t384, .int .i64 t385, .int .i64 t386, .slice Ao89 t387.length co89], .agg #[.int .i64 10, .int .i64 5, .int .i64 2], .slice Ao86 x12_2.length co86] (by rfl) rfl rfl (by (try simp only [List.map_toArray, List.map_cons, List.map_nil]); first | done | rfl | (simp only [List.length_drop, List.length_take]; rfl)) ?_
              with_reducible refine (probe_Run.calls t381 t382 t383 t384 t385 t386 _ _ t387 10 5 2 _ _ x12_2 t390 t391 t394 t395 _ ?side1 ?side2 ?side3 ?side4 ?side5 A80.out).mono ?_
              (case side1 => exact GW_below HG.out (wT HB.out))
              (case side2 => repeat (first | exact (Kd.R_reads' HO389.out).2.2 | (with_reducible refine Kd.C_alloc ?_ _) | (with_reducible refine Kd.C_drewN ?_ _) | (with_reducible refine Kd.C_drew ?_)))
              (case side3 => exact (Kd.R_reads' HO389.out).2.1)
              (case side4 => repeat (first | exact (Kd.R_reads' HO_12.out).2.2 | (with_reducible refine Kd.C_alloc ?_ _) | (with_reducible refine Kd.C_drewN ?_ _) | (with_reducible refine Kd.C_drew ?_)))
              (case side5 => exact (Kd.R_reads' HO_12.out).2.1)
              rintro e w90 ⟨v392, rfl, ho0, hb⟩
              refine ⟨_, rfl, ?_⟩
              have n0_ := mk0 (Kd.R_below (rT HO_12.out) hb)
              have n1_ := mk0 (Kd.R_below (rT HO_73.out) hb)
              have n2_ := mk0 (Kd.R_below (rT HO389.out) hb)
              have n3_ := mk0 (Kd.S_lower (Kd.S_newB ho0 (g := gb307) (o := .cells #[.int .i64 10, .int .i64 5, .int .i64 2] 23 (0, 0)) (bT BK307.out)) (below_size (wT HB.out)))
              have n4_ := mk0 (blk_below (g := gb307) (o := .cells #[.int .i64 10, .int .i64 5, .int .i64 2] 23 (0, 0)) (bT BK307.out) hb)
              have n5_ := mk0 (below_step (wT HB.out) hb)
              clear HO_12
              clear HO_73
              clear HO389
              clear BK307
              clear HB
              have HO_12 := n0_
              have HO_73 := n1_
              have HO389 := n2_
              have HO393 := n3_
              have BK307 := n4_
              have HB := n5_
              clear n0_ n1_ n2_ n3_ n4_ n5_
              (try clear hb)
              (try clear hb2)
              (try clear hk)
              (try clear hi)
              (try clear ho0)
              refine hK.out _ _ ⟨ct BK307.out 0, ct BK307.out 1, ct BK307.out 2⟩ (fun hHeld => ?_)
              clear hK K
              refine norm_ (a' := ?_) ?_ ?_
              rotate_left
              ·show Act.put _ (some 95) _ = _
               simp only [Act.put, List.setIfInBounds_toArray, List.set_cons_zero, List.set_cons_succ, i64_w, i32_w]
               rfl
              refine pure_ (i := 4) (N := some 91) (v := ?_) (a' := ?_) #[true, true, true, true, true, false, false, false, false, false, false, false] rfl rfl (any_of HT_.out (by kernel_rfl)) (fun _ _ _ h => h) (Or.inl ⟨by rfl, ?_⟩) ?_ ?_
              rotate_left
              ·intro w'
               go_simp
               with_reducible rfl
              rotate_left
              ·simp only [Act.put, List.setIfInBounds_toArray, List.set_cons_zero, List.set_cons_succ, i64_w, i32_w]
               rfl
              refine pure_ (i := 5) (N := some 96) (v := ?_) (a' := ?_) #[true, true, true, true, true, true, false, false, false, false, false, false] rfl rfl (any_of HT_.out (by kernel_rfl)) (fun _ _ _ h => h) (Or.inl ⟨by rfl, ?_⟩) ?_ ?_
              rotate_left
              ·intro w'
               go_simp
               with_reducible rfl
              rotate_left
              ·simp only [Act.put, List.setIfInBounds_toArray, List.set_cons_zero, List.set_cons_succ, i64_w, i32_w]
               rfl
              refine pure_ (i := 6) (N := some 97) (v := ?_) (a' := ?_) #[true, true, true, true, true, true, true, false, false, false, false, false] rfl rfl (any_of HT_.out (by kernel_rfl)) (fun _ _ _ h => h) (Or.inl ⟨by rfl, ?_⟩) ?_ ?_
              rotate_left
              ·intro w'
               go_simp
               with_reducible rfl
              rotate_left
              ·simp only [Act.put, List.setIfInBounds_toArray, List.set_cons_zero, List.set_cons_succ, i64_w, i32_w]
               rfl
              refine pure_ (i := 7) (N := some 98) (v := ?_) (a' := ?_) #[true, true, true, true, true, true, true, true, false, false, false, false] rfl rfl (any_of HT_.out (by kernel_rfl)) (fun _ _ _ h => h) (Or.inl ⟨by rfl, ?_⟩) ?_ ?_
              rotate_left
              ·intro w'
               go_simp
               with_reducible rfl
              rotate_left
              ·simp only [Act.put, List.setIfInBounds_toArray, List.set_cons_zero, List.set_cons_succ, i64_w, i32_w]
               rfl
              refine one_ (i := 8) (N := some 17) #[true, true, true, true, true, true, true, true, true, false, false, false] rfl rfl (one_of HT_.out (by kernel_rfl)) (by decide) (fun K hK => ?_)
              refine box_step ?hg (N := 17) ?hd (cs := #[.string (⟨#[]⟩ : ByteArray), .slice none 0 0]) (t := 67) ?hr ?_; (case hd => rfl); (case hg => rfl); (case hr => first | (go_simp; done) | (go_simp; rfl))
              intro gb396 hg w91 hbox hb
              have n0_ := mk0 (Kd.R_below (rT HO_12.out) hb)
              have n1_ := mk0 (Kd.R_below (rT HO_73.out) hb)
              have n2_ := mk0 (Kd.R_below (rT HO389.out) hb)
              have n3_ := mk0 (Kd.S_below (by (with_reducible repeat (first | apply Kd.S_alloc | apply Kd.S_drewN | apply Kd.S_drew)); exact HO393.out) hb)
              have n4_ := mk0 (blk_below (g := gb307) (o := .cells #[.int .i64 10, .int .i64 5, .int .i64 2] 23 (0, 0)) (bT BK307.out) hb)
              have n5_ := mk0 (below_step (wT HB.out) hb)
              have n6_ := mk0 (hbox)
              have n7_ := mk0 ((szT HB.out hg))
              have n8_ := mk0 ((szT HB.out hg))
              have n9_ := mk0 ((neL BK307.out hg))
              have n10_ := mk0 ((neG BK307.out hg))
              clear HO_12
              clear HO_73
              clear HO389
              clear HO393
              clear BK307
              clear HB
              have HO_12 := n0_
              have HO_73 := n1_
              have HO389 := n2_
              have HO393 := n3_
              have BK307 := n4_
              have HB := n5_
              have BK396 := n6_
              have GW396 := n7_
              have GE396 := n8_
              have NB307_396 := n9_
              have NB396_307 := n10_
              clear n0_ n1_ n2_ n3_ n4_ n5_ n6_ n7_ n8_ n9_ n10_
              clear hb hbox hg
              refine hK.out _ _ ⟨ct BK307.out 0, ct BK307.out 1, ct BK307.out 2⟩ (fun hHeld => ?_)
              clear hK K
              refine norm_ (a' := ?_) ?_ ?_
              rotate_left
              ·show Act.put _ (some 17) _ = _
               simp only [Act.put, List.setIfInBounds_toArray, List.set_cons_zero, List.set_cons_succ, i64_w, i32_w]
               rfl
              exact norm_ (by simp only [putAll, Act.put, List.setIfInBounds_toArray, List.set_cons_zero, List.set_cons_succ]) (hCont (.slice Ao89 t387.length co89, v392, gb396) _ ⟨hHeld, (rT HO389.out), (by (with_reducible repeat (first | apply Kd.S_alloc | apply Kd.S_drewN | apply Kd.S_drew)); exact Kd.S_mono HO393.out (fun _ hk => by first | exact hk | exact hk.1 | exact hk.2 | exact hk.1.2 | exact ⟨hk.1.2, hk.2⟩ | exact ⟨trivial, hk.1.2, hk.2⟩ | exact ⟨trivial, hk.2⟩ | (simp_all; done))), (rT HO_12.out), (rT HO_73.out), (bT BK307.out), (bT BK396.out), GW396.out, GE396.out, NB307_396.out, NB396_307.out, (wT HB.out)⟩)
             ·skip
              refine box_step ?hg (N := 17) ?hd (cs := #[.string (⟨#[]⟩ : ByteArray), .slice none 0 0]) (t := 67) ?hr ?_; (case hd => rfl); (case hg => rfl); (case hr => first | (go_simp; done) | (go_simp; rfl))
              intro gb396 hg w89 hbox hb
              have n0_ := mk0 (Kd.R_below (rT HO_12.out) hb)
              have n1_ := mk0 (Kd.R_below (rT HO_73.out) hb)
              have n2_ := mk0 (Kd.R_below (rT HO389.out) hb)
              have n3_ := mk0 (blk_below (g := gb307) (o := .cells #[.int .i64 10, .int .i64 5, .int .i64 2] 23 (0, 0)) (bT BK307.out) hb)
              have n4_ := mk0 (below_step (wT HB.out) hb)
              have n5_ := mk0 (hbox)
              have n6_ := mk0 ((szT HB.out hg))
              have n7_ := mk0 ((szT HB.out hg))
              have n8_ := mk0 ((neL BK307.out hg))
              have n9_ := mk0 ((neG BK307.out hg))
              clear HO_12
              clear HO_73
              clear HO389
              clear BK307
              clear HB
              have HO_12 := n0_
              have HO_73 := n1_
              have HO389 := n2_
              have BK307 := n3_
              have HB := n4_
              have BK396 := n5_
              have GW396 := n6_
              have GE396 := n7_
              have NB307_396 := n8_
              have NB396_307 := n9_
              clear n0_ n1_ n2_ n3_ n4_ n5_ n6_ n7_ n8_ n9_
              clear hb hbox hg
              obtain ⟨Ao90, co90, eo90⟩ := Kd.R_slice HO389.out
              (first | subst eo90 | (injection eo90 with f1_ f2_ f3_; have f4_ := f1_.symm; have f5_ := f3_.symm; clear f1_ f2_ f3_; subst f4_; subst f5_))
              refine hK.out _ _ ⟨ct BK307.out 0, ct BK307.out 1, ct BK307.out 2⟩ (fun hHeld => ?_)
              clear hK K
              refine norm_ (a' := ?_) ?_ ?_
              rotate_left
              ·show Act.put _ (some 17) _ = _
               simp only [Act.put, List.setIfInBounds_toArray, List.set_cons_zero, List.set_cons_succ, i64_w, i32_w]
               rfl
              refine one_ (i := 3) (N := some 95) #[true, true, true, true, false, false, false, false, true, false, false, false] rfl rfl (one_of HT_.out (by kernel_rfl)) (by decide) (fun K hK => ?_)
              refine goes_ Tryz.func30 (by kernel_rfl) rfl #[.agg #[.int .i64 t381, .int .i64 t382, .int .i64 t383, .int .i64 t384, .int .i64 t385, .int .i64 t386, .slice Ao90 t387.length co90], .agg #[.int .i64 10, .int .i64 5, .int .i64 2], .slice Ao86 x12_2.length co86] (by rfl) rfl rfl (by (try simp only [List.map_toArray, List.map_cons, List.map_nil]); first | done | rfl | (simp only [List.length_drop, List.length_take]; rfl)) ?_
              with_reducible refine (probe_Run.calls t381 t382 t383 t384 t385 t386 _ _ t387 10 5 2 _ _ x12_2 t390 t391 t394 t395 _ ?side1 ?side2 ?side3 ?side4 ?side5 A80.out).mono ?_
              (case side1 => exact GW_below HG.out (wT HB.out))
              (case side2 => repeat (first | exact (Kd.R_reads' HO389.out).2.2 | (with_reducible refine Kd.C_alloc ?_ _) | (with_reducible refine Kd.C_drewN ?_ _) | (with_reducible refine Kd.C_drew ?_)))
              (case side3 => exact (Kd.R_reads' HO389.out).2.1)
              (case side4 => repeat (first | exact (Kd.R_reads' HO_12.out).2.2 | (with_reducible refine Kd.C_alloc ?_ _) | (with_reducible refine Kd.C_drewN ?_ _) | (with_reducible refine Kd.C_drew ?_)))
              (case side5 => exact (Kd.R_reads' HO_12.out).2.1)
              rintro e w91 ⟨v392, rfl, ho0, hb⟩
              refine ⟨_, rfl, ?_⟩
              have n0_ := mk0 (Kd.R_below (rT HO_12.out) hb)
              have n1_ := mk0 (Kd.R_below (rT HO_73.out) hb)
              have n2_ := mk0 (Kd.R_below (rT HO389.out) hb)
              have n3_ := mk0 (Kd.S_lower (Kd.S_newB ho0 (g := gb307) (o := .cells #[.int .i64 10, .int .i64 5, .int .i64 2] 23 (0, 0)) (bT BK307.out)) (below_size (wT HB.out)))
              have n4_ := mk0 (blk_below (g := gb307) (o := .cells #[.int .i64 10, .int .i64 5, .int .i64 2] 23 (0, 0)) (bT BK307.out) hb)
              have n5_ := mk0 (blk_below (g := gb396) (o := .cells #[.string (⟨#[]⟩ : ByteArray), .slice none 0 0] 67 (0, 0)) (bT BK396.out) hb)
              have n6_ := mk0 (below_step (wT HB.out) hb)
              clear HO_12
              clear HO_73
              clear HO389
              clear BK307
              clear BK396
              clear HB
              have HO_12 := n0_
              have HO_73 := n1_
              have HO389 := n2_
              have HO393 := n3_
              have BK307 := n4_
              have BK396 := n5_
              have HB := n6_
              clear n0_ n1_ n2_ n3_ n4_ n5_ n6_
              (try clear hb)
              (try clear hb2)
              (try clear hk)
              (try clear hi)
              (try clear ho0)
              refine hK.out _ _ ⟨ct BK307.out 0, ct BK307.out 1, ct BK307.out 2⟩ (fun hHeld => ?_)
              clear hK K
              refine norm_ (a' := ?_) ?_ ?_
              rotate_left
              ·show Act.put _ (some 95) _ = _
               simp only [Act.put, List.setIfInBounds_toArray, List.set_cons_zero, List.set_cons_succ, i64_w, i32_w]
               rfl
              refine pure_ (i := 4) (N := some 91) (v := ?_) (a' := ?_) #[true, true, true, true, true, false, false, false, true, false, false, false] rfl rfl (any_of HT_.out (by kernel_rfl)) (fun _ _ _ h => h) (Or.inl ⟨by rfl, ?_⟩) ?_ ?_
              rotate_left
              ·intro w'
               go_simp
               with_reducible rfl
              rotate_left
              ·simp only [Act.put, List.setIfInBounds_toArray, List.set_cons_zero, List.set_cons_succ, i64_w, i32_w]
               rfl
              refine pure_ (i := 5) (N := some 96) (v := ?_) (a' := ?_) #[true, true, true, true, true, true, false, false, true, false, false, false] rfl rfl (any_of HT_.out (by kernel_rfl)) (fun _ _ _ h => h) (Or.inl ⟨by rfl, ?_⟩) ?_ ?_
              rotate_left
              ·intro w'
               go_simp
               with_reducible rfl
              rotate_left
              ·simp only [Act.put, List.setIfInBounds_toArray, List.set_cons_zero, List.set_cons_succ, i64_w, i32_w]
               rfl
              refine pure_ (i := 6) (N := some 97) (v := ?_) (a' := ?_) #[true, true, true, true, true, true, true, false, true, false, false, false] rfl rfl (any_of HT_.out (by kernel_rfl)) (fun _ _ _ h => h) (Or.inl ⟨by rfl, ?_⟩) ?_ ?_
              rotate_left
              ·intro w'
               go_simp
               with_reducible rfl
              rotate_left
              ·simp only [Act.put, List.setIfInBounds_toArray, List.set_cons_zero, List.set_cons_succ, i64_w, i32_w]
               rfl
              refine pure_ (i := 7) (N := some 98) (v := ?_) (a' := ?_) #[true, true, true, true, true, true, true, true, true, false, false, false] rfl rfl (any_of HT_.out (by kernel_rfl)) (fun _ _ _ h => h) (Or.inl ⟨by rfl, ?_⟩) ?_ ?_
              rotate_left
              ·intro w'
               go_simp
               with_reducible rfl
              rotate_left
              ·simp only [Act.put, List.setIfInBounds_toArray, List.set_cons_zero, List.set_cons_succ, i64_w, i32_w]
               rfl
              exact norm_ (by simp only [putAll, Act.put, List.setIfInBounds_toArray, List.set_cons_zero, List.set_cons_succ]) (hCont (.slice Ao90 t387.length co90, v392, gb396) _ ⟨hHeld, (rT HO389.out), (by (with_reducible repeat (first | apply Kd.S_alloc | apply Kd.S_drewN | apply Kd.S_drew)); exact Kd.S_mono HO393.out (fun _ hk => by first | exact hk | exact hk.1 | exact hk.2 | exact hk.1.2 | exact ⟨hk.1.2, hk.2⟩ | exact ⟨trivial, hk.1.2, hk.2⟩ | exact ⟨trivial, hk.2⟩ | (simp_all; done))), (rT HO_12.out), (rT HO_73.out), (bT BK307.out), (bT BK396.out), GW396.out, GE396.out, NB307_396.out, NB396_307.out, (wT HB.out)⟩)
            ·skip
             refine box_step ?hg (N := 17) ?hd (cs := #[.string (⟨#[]⟩ : ByteArray), .slice none 0 0]) (t := 67) ?hr ?_; (case hd => rfl); (case hg => rfl); (case hr => first | (go_simp; done) | (go_simp; rfl))
             intro gb396 hg w88 hbox hb
             have n0_ := mk0 (Kd.R_below (rT HO_12.out) hb)
             have n1_ := mk0 (Kd.R_below (rT HO_73.out) hb)
             have n2_ := mk0 (blk_below (g := gb307) (o := .cells #[.int .i64 10, .int .i64 5, .int .i64 2] 23 (0, 0)) (bT BK307.out) hb)
             have n3_ := mk0 (below_step (wT HB.out) hb)
             have n4_ := mk0 (hbox)
             have n5_ := mk0 ((szT HB.out hg))
             have n6_ := mk0 ((szT HB.out hg))
             have n7_ := mk0 ((neL BK307.out hg))
             have n8_ := mk0 ((neG BK307.out hg))
             clear HO_12
             clear HO_73
             clear BK307
             clear HB
             have HO_12 := n0_
             have HO_73 := n1_
             have BK307 := n2_
             have HB := n3_
             have BK396 := n4_
             have GW396 := n5_
             have GE396 := n6_
             have NB307_396 := n7_
             have NB396_307 := n8_
             clear n0_ n1_ n2_ n3_ n4_ n5_ n6_ n7_ n8_
             clear hb hbox hg
             refine hK.out _ _ ⟨ct BK307.out 0, ct BK307.out 1, ct BK307.out 2⟩ (fun hHeld => ?_)
             clear hK K
             refine norm_ (a' := ?_) ?_ ?_
             rotate_left
             ·show Act.put _ (some 17) _ = _
              simp only [Act.put, List.setIfInBounds_toArray, List.set_cons_zero, List.set_cons_succ, i64_w, i32_w]
              rfl
             refine one_ (i := 0) (N := some 92) #[true, true, true, false, false, false, false, false, true, false, false, false] rfl rfl (one_of HT_.out (by kernel_rfl)) (by decide) (fun K hK => ?_)
             refine goes_ Tryz.func36 (by kernel_rfl) rfl #[] (by rfl) rfl rfl (by (try simp only [List.map_toArray, List.map_cons, List.map_nil]); first | done | rfl | (simp only [List.length_drop, List.length_take]; rfl)) ?_
             with_reducible refine (metrolablaw30_Plate.calls  t381 t382 t383 t384 t385 t386 t387 _ A79.out).mono ?_
             rintro e w89 ⟨v388, rfl, ho0, hb⟩
             refine ⟨_, rfl, ?_⟩
             have n0_ := mk0 (Kd.R_below (rT HO_12.out) hb)
             have n1_ := mk0 (Kd.R_below (rT HO_73.out) hb)
             have n2_ := mk0 (Kd.R_lower ho0 (below_size (wT HB.out)))
             have n3_ := mk0 (blk_below (g := gb307) (o := .cells #[.int .i64 10, .int .i64 5, .int .i64 2] 23 (0, 0)) (bT BK307.out) hb)
             have n4_ := mk0 (blk_below (g := gb396) (o := .cells #[.string (⟨#[]⟩ : ByteArray), .slice none 0 0] 67 (0, 0)) (bT BK396.out) hb)
             have n5_ := mk0 (below_step (wT HB.out) hb)
             clear HO_12
             clear HO_73
             clear BK307
             clear BK396
             clear HB
             have HO_12 := n0_
             have HO_73 := n1_
             have HO389 := n2_
             have BK307 := n3_
             have BK396 := n4_
             have HB := n5_
             clear n0_ n1_ n2_ n3_ n4_ n5_
             (try clear hb)
             (try clear hb2)
             (try clear hk)
             (try clear hi)
             (try clear ho0)
             obtain ⟨Ao90, co90, eo90⟩ := Kd.R_slice HO389.out
             (first | subst eo90 | (injection eo90 with f1_ f2_ f3_; have f4_ := f1_.symm; have f5_ := f3_.symm; clear f1_ f2_ f3_; subst f4_; subst f5_))
             refine hK.out _ _ ⟨ct BK307.out 0, ct BK307.out 1, ct BK307.out 2⟩ (fun hHeld => ?_)
             clear hK K
             refine norm_ (a' := ?_) ?_ ?_
             rotate_left
             ·show Act.put _ (some 92) _ = _
              simp only [Act.put, List.setIfInBounds_toArray, List.set_cons_zero, List.set_cons_succ, i64_w, i32_w]
              rfl
             refine one_ (i := 3) (N := some 95) #[true, true, true, true, false, false, false, false, true, false, false, false] rfl rfl (one_of HT_.out (by kernel_rfl)) (by decide) (fun K hK => ?_)
             refine goes_ Tryz.func30 (by kernel_rfl) rfl #[.agg #[.int .i64 t381, .int .i64 t382, .int .i64 t383, .int .i64 t384, .int .i64 t385, .int .i64 t386, .slice Ao90 t387.length co90], .agg #[.int .i64 10, .int .i64 5, .int .i64 2], .slice Ao86 x12_2.length co86] (by rfl) rfl rfl (by (try simp only [List.map_toArray, List.map_cons, List.map_nil]); first | done | rfl | (simp only [List.length_drop, List.length_take]; rfl)) ?_
             with_reducible refine (probe_Run.calls t381 t382 t383 t384 t385 t386 _ _ t387 10 5 2 _ _ x12_2 t390 t391 t394 t395 _ ?side1 ?side2 ?side3 ?side4 ?side5 A80.out).mono ?_
             (case side1 => exact GW_below HG.out (wT HB.out))
             (case side2 => repeat (first | exact (Kd.R_reads' HO389.out).2.2 | (with_reducible refine Kd.C_alloc ?_ _) | (with_reducible refine Kd.C_drewN ?_ _) | (with_reducible refine Kd.C_drew ?_)))
             (case side3 => exact (Kd.R_reads' HO389.out).2.1)
             (case side4 => repeat (first | exact (Kd.R_reads' HO_12.out).2.2 | (with_reducible refine Kd.C_alloc ?_ _) | (with_reducible refine Kd.C_drewN ?_ _) | (with_reducible refine Kd.C_drew ?_)))
             (case side5 => exact (Kd.R_reads' HO_12.out).2.1)
             rintro e w91 ⟨v392, rfl, ho0, hb⟩
             refine ⟨_, rfl, ?_⟩
             have n0_ := mk0 (Kd.R_below (rT HO_12.out) hb)
             have n1_ := mk0 (Kd.R_below (rT HO_73.out) hb)
             have n2_ := mk0 (Kd.R_below (rT HO389.out) hb)
             have n3_ := mk0 (Kd.S_lower (Kd.S_newB ho0 (g := gb307) (o := .cells #[.int .i64 10, .int .i64 5, .int .i64 2] 23 (0, 0)) (bT BK307.out)) (below_size (wT HB.out)))
             have n4_ := mk0 (blk_below (g := gb307) (o := .cells #[.int .i64 10, .int .i64 5, .int .i64 2] 23 (0, 0)) (bT BK307.out) hb)
             have n5_ := mk0 (blk_below (g := gb396) (o := .cells #[.string (⟨#[]⟩ : ByteArray), .slice none 0 0] 67 (0, 0)) (bT BK396.out) hb)
             have n6_ := mk0 (below_step (wT HB.out) hb)
             clear HO_12
             clear HO_73
             clear HO389
             clear BK307
             clear BK396
             clear HB
             have HO_12 := n0_
             have HO_73 := n1_
             have HO389 := n2_
             have HO393 := n3_
             have BK307 := n4_
             have BK396 := n5_
             have HB := n6_
             clear n0_ n1_ n2_ n3_ n4_ n5_ n6_
             (try clear hb)
             (try clear hb2)
             (try clear hk)
             (try clear hi)
             (try clear ho0)
             refine hK.out _ _ ⟨ct BK307.out 0, ct BK307.out 1, ct BK307.out 2⟩ (fun hHeld => ?_)
             clear hK K
             refine norm_ (a' := ?_) ?_ ?_
             rotate_left
             ·show Act.put _ (some 95) _ = _
              simp only [Act.put, List.setIfInBounds_toArray, List.set_cons_zero, List.set_cons_succ, i64_w, i32_w]
              rfl
             refine pure_ (i := 4) (N := some 91) (v := ?_) (a' := ?_) #[true, true, true, true, true, false, false, false, true, false, false, false] rfl rfl (any_of HT_.out (by kernel_rfl)) (fun _ _ _ h => h) (Or.inl ⟨by rfl, ?_⟩) ?_ ?_
             rotate_left
             ·intro w'
              go_simp
              with_reducible rfl
             rotate_left
             ·simp only [Act.put, List.setIfInBounds_toArray, List.set_cons_zero, List.set_cons_succ, i64_w, i32_w]
              rfl
             refine pure_ (i := 5) (N := some 96) (v := ?_) (a' := ?_) #[true, true, true, true, true, true, false, false, true, false, false, false] rfl rfl (any_of HT_.out (by kernel_rfl)) (fun _ _ _ h => h) (Or.inl ⟨by rfl, ?_⟩) ?_ ?_
             rotate_left
             ·intro w'
              go_simp
              with_reducible rfl
             rotate_left
             ·simp only [Act.put, List.setIfInBounds_toArray, List.set_cons_zero, List.set_cons_succ, i64_w, i32_w]
              rfl
             refine pure_ (i := 6) (N := some 97) (v := ?_) (a' := ?_) #[true, true, true, true, true, true, true, false, true, false, false, false] rfl rfl (any_of HT_.out (by kernel_rfl)) (fun _ _ _ h => h) (Or.inl ⟨by rfl, ?_⟩) ?_ ?_
             rotate_left
             ·intro w'
              go_simp
              with_reducible rfl
             rotate_left
             ·simp only [Act.put, List.setIfInBounds_toArray, List.set_cons_zero, List.set_cons_succ, i64_w, i32_w]
              rfl
             refine pure_ (i := 7) (N := some 98) (v := ?_) (a' := ?_) #[true, true, true, true, true, true, true, true, true, false, false, false] rfl rfl (any_of HT_.out (by kernel_rfl)) (fun _ _ _ h => h) (Or.inl ⟨by rfl, ?_⟩) ?_ ?_
             rotate_left
             ·intro w'
              go_simp
              with_reducible rfl
             rotate_left
             ·simp only [Act.put, List.setIfInBounds_toArray, List.set_cons_zero, List.set_cons_succ, i64_w, i32_w]
              rfl
             exact norm_ (by simp only [putAll, Act.put, List.setIfInBounds_toArray, List.set_cons_zero, List.set_cons_succ]) (hCont (.slice Ao90 t387.length co90, v392, gb396) _ ⟨hHeld, (rT HO389.out), (by (with_reducible repeat (first | apply Kd.S_alloc | apply Kd.S_drewN | apply Kd.S_drew)); exact Kd.S_mono HO393.out (fun _ hk => by first | exact hk | exact hk.1 | exact hk.2 | exact hk.1.2 | exact ⟨hk.1.2, hk.2⟩ | exact ⟨trivial, hk.1.2, hk.2⟩ | exact ⟨trivial, hk.2⟩ | (simp_all; done))), (rT HO_12.out), (rT HO_73.out), (bT BK307.out), (bT BK396.out), GW396.out, GE396.out, NB307_396.out, NB396_307.out, (wT HB.out)⟩)
           rintro ⟨v388, v392, gb396⟩ w92 ⟨hS_, h0_, h1_, h2_, h3_, h4_, h5_, h6_, h7_, h8_, h9_, h10_⟩
           have n0_ : Aside0 (Kd.R k84 84 w92 w.heap.size (fun _ => True) v388 t387) := ⟨h0_⟩
           have n1_ : Aside0 (Kd.S k76 76 w92 w.heap.size (fun k_ => k_ ≠ gb307) v392 t391) := ⟨h1_⟩
           have n2_ : Aside0 (Kd.R k47 47 w92 w.heap.size (fun _ => True) (.slice Ao86 x12_2.length co86) x12_2) := ⟨h2_⟩
           have n3_ : Aside0 (Kd.R Kd.string 9 w92 w.heap.size (fun _ => True) (.slice Ao67 y366.length co67) y366) := ⟨h3_⟩
           have n4_ : Aside0 (w92.heap[gb307]? = some (.cells #[.int .i64 10, .int .i64 5, .int .i64 2] 23 (0, 0))) := ⟨h4_⟩
           have n5_ : Aside0 (w92.heap[gb396]? = some (.cells #[.string (⟨#[]⟩ : ByteArray), .slice none 0 0] 67 (0, 0))) := ⟨h5_⟩
           have n6_ : Aside0 (w.heap.size ≤ gb396) := ⟨h6_⟩
           have n7_ : Aside0 (w.heap.size ≤ gb396) := ⟨h7_⟩
           have n8_ : Aside0 (gb307 ≠ gb396) := ⟨h8_⟩
           have n9_ : Aside0 (gb396 ≠ gb307) := ⟨h9_⟩
           have n10_ : Aside0 (Below w.heap.size w w92) := ⟨h10_⟩
           clear HO_12
           clear HO_73
           clear BK307
           clear HB
           clear h0_ h1_ h2_ h3_ h4_ h5_ h6_ h7_ h8_ h9_ h10_
           have HO389 := n0_
           have HO393 := n1_
           have HO_12 := n2_
           have HO_73 := n3_
           have BK307 := n4_
           have BK396 := n5_
           have GW396 := n6_
           have GE396 := n7_
           have NB307_396 := n8_
           have NB396_307 := n9_
           have HB := n10_
           clear n0_ n1_ n2_ n3_ n4_ n5_ n6_ n7_ n8_ n9_ n10_
           have hHeld : w92.cell? ⟨gb307, 0, none⟩ = some (.int .i64 10) ∧ w92.cell? ⟨gb307, 1, none⟩ = some (.int .i64 5) ∧ w92.cell? ⟨gb307, 2, none⟩ = some (.int .i64 2) := hS_
           obtain ⟨Ao94, co94, eo94⟩ := Kd.S_slice HO393.out
           (first | subst eo94 | (injection eo94 with f1_ f2_ f3_; have f4_ := f1_.symm; have f5_ := f3_.symm; clear f1_ f2_ f3_; subst f4_; subst f5_))
           refine norm_ (a' := ?_) ?_ ?_
           rotate_left
           ·simp only [putAll, Act.put, List.setIfInBounds_toArray, List.set_cons_zero, List.set_cons_succ]
            rfl
           refine one_ (i := 9) (N := none) #[true, true, true, true, true, true, true, true, true, true, false, false] rfl rfl (one_of HT_.out (by kernel_rfl)) (by decide) (fun K hK => ?_)
           have hs93 := ct BK396.out 0
           have hfs93 := blk_frozen BK396.out 0
           have hns93_0 := NB307_396.out
           have hms93_0 := NB396_307.out
           have hs95 := ct BK396.out 1
           have hfs95 := blk_frozen BK396.out 1
           have hns95_0 := NB307_396.out
           have hms95_0 := NB396_307.out
           refine skip_ (w1 := ?_) (by rfl) rfl ?_ ?_
           rotate_left
           ·go_simp
            rfl
           refine hK.out _ _ ⟨((cell_far (p := ⟨gb396, _, none⟩) NB307_396.out _).trans (((cell_far (p := ⟨gb396, _, none⟩) NB307_396.out _).trans (hHeld.1)))), ((cell_far (p := ⟨gb396, _, none⟩) NB307_396.out _).trans (((cell_far (p := ⟨gb396, _, none⟩) NB307_396.out _).trans (hHeld.2.1)))), ((cell_far (p := ⟨gb396, _, none⟩) NB307_396.out _).trans (((cell_far (p := ⟨gb396, _, none⟩) NB307_396.out _).trans (hHeld.2.2))))⟩ (fun hHeld => ?_)
           clear hK K
           refine pure_ (i := 10) (N := some 18) (v := ?_) (a' := ?_) #[true, true, true, true, true, true, true, true, true, true, true, false] rfl rfl (any_of HT_.out (by kernel_rfl)) (fun _ _ _ h => h) (Or.inl ⟨by rfl, ?_⟩) ?_ ?_
           rotate_left
           ·intro w'
            go_simp
            with_reducible rfl
           rotate_left
           ·simp only [Act.put, List.setIfInBounds_toArray, List.set_cons_zero, List.set_cons_succ, i64_w, i32_w]
            rfl
           refine pure_ (i := 11) (N := some 3) (v := ?_) (a' := ?_) #[true, true, true, true, true, true, true, true, true, true, true, true] rfl rfl (any_of HT_.out (by kernel_rfl)) (fun _ _ _ h => h) (Or.inl ⟨by rfl, ?_⟩) ?_ ?_
           rotate_left
           ·intro w'
            go_simp
            with_reducible rfl
           rotate_left
           ·simp only [Act.put, List.setIfInBounds_toArray, List.set_cons_zero, List.set_cons_succ, i64_w, i32_w]
            rfl
           refine done_ (done_of HT_.out (by kernel_rfl)) ?_
           have n0_ : Aside0 (Kd.R k47 47 ((w92.setCell ⟨gb396, 0, none⟩ (.string t390)).setCell ⟨gb396, 1, none⟩ (.slice Ao94 t391.length co94)) w.heap.size (fun _ => True) (.slice Ao86 x12_2.length co86) x12_2) := ⟨by (with_reducible repeat (first | apply Kd.R_alloc | apply Kd.R_drewN | apply Kd.R_drew)); exact Kd.R_mono (Kd.R_far (p := ⟨gb396, 1, none⟩) (Kd.R_far (p := ⟨gb396, 0, none⟩) (Kd.R_types HO_12.out BK396.out (by decide)) (fun _ hk => by first | exact hk | exact hk.1 | exact hk.2 | exact hk.1.2 | exact ⟨hk.1.2, hk.2⟩ | exact ⟨trivial, hk.1.2, hk.2⟩ | exact ⟨trivial, hk.2⟩ | (simp_all; done)) (.string t390)) (fun _ hk => by first | exact hk | exact hk.1 | exact hk.2 | exact hk.1.2 | exact ⟨hk.1.2, hk.2⟩ | exact ⟨trivial, hk.1.2, hk.2⟩ | exact ⟨trivial, hk.2⟩ | (simp_all; done)) (.slice Ao94 t391.length co94)) (fun _ hk => trivial)⟩
           have n1_ : Aside0 (Kd.R Kd.string 9 ((w92.setCell ⟨gb396, 0, none⟩ (.string t390)).setCell ⟨gb396, 1, none⟩ (.slice Ao94 t391.length co94)) w.heap.size (fun _ => True) (.slice Ao67 y366.length co67) y366) := ⟨by (with_reducible repeat (first | apply Kd.R_alloc | apply Kd.R_drewN | apply Kd.R_drew)); exact Kd.R_mono (Kd.R_far (p := ⟨gb396, 1, none⟩) (Kd.R_far (p := ⟨gb396, 0, none⟩) (Kd.R_types HO_73.out BK396.out (by decide)) (fun _ hk => by first | exact hk | exact hk.1 | exact hk.2 | exact hk.1.2 | exact ⟨hk.1.2, hk.2⟩ | exact ⟨trivial, hk.1.2, hk.2⟩ | exact ⟨trivial, hk.2⟩ | (simp_all; done)) (.string t390)) (fun _ hk => by first | exact hk | exact hk.1 | exact hk.2 | exact hk.1.2 | exact ⟨hk.1.2, hk.2⟩ | exact ⟨trivial, hk.1.2, hk.2⟩ | exact ⟨trivial, hk.2⟩ | (simp_all; done)) (.slice Ao94 t391.length co94)) (fun _ hk => trivial)⟩
           have n2_ : Aside0 (Kd.R k84 84 ((w92.setCell ⟨gb396, 0, none⟩ (.string t390)).setCell ⟨gb396, 1, none⟩ (.slice Ao94 t391.length co94)) w.heap.size (fun _ => True) v388 t387) := ⟨by (with_reducible repeat (first | apply Kd.R_alloc | apply Kd.R_drewN | apply Kd.R_drew)); exact Kd.R_mono (Kd.R_far (p := ⟨gb396, 1, none⟩) (Kd.R_far (p := ⟨gb396, 0, none⟩) (Kd.R_types HO389.out BK396.out (by decide)) (fun _ hk => by first | exact hk | exact hk.1 | exact hk.2 | exact hk.1.2 | exact ⟨hk.1.2, hk.2⟩ | exact ⟨trivial, hk.1.2, hk.2⟩ | exact ⟨trivial, hk.2⟩ | (simp_all; done)) (.string t390)) (fun _ hk => by first | exact hk | exact hk.1 | exact hk.2 | exact hk.1.2 | exact ⟨hk.1.2, hk.2⟩ | exact ⟨trivial, hk.1.2, hk.2⟩ | exact ⟨trivial, hk.2⟩ | (simp_all; done)) (.slice Ao94 t391.length co94)) (fun _ hk => trivial)⟩
           have n3_ : Aside0 (Kd.S k76 76 ((w92.setCell ⟨gb396, 0, none⟩ (.string t390)).setCell ⟨gb396, 1, none⟩ (.slice Ao94 t391.length co94)) w.heap.size (fun k_ => k_ ≠ gb307) (.slice Ao94 t391.length co94) t391) := ⟨by (with_reducible repeat (first | apply Kd.S_alloc | apply Kd.S_drewN | apply Kd.S_drew)); exact Kd.S_mono (Kd.S_far (p := ⟨gb396, 1, none⟩) (Kd.S_far (p := ⟨gb396, 0, none⟩) (Kd.S_types HO393.out BK396.out (by decide)) (fun _ hk => by first | exact hk | exact hk.1 | exact hk.2 | exact hk.1.2 | exact ⟨hk.1.2, hk.2⟩ | exact ⟨trivial, hk.1.2, hk.2⟩ | exact ⟨trivial, hk.2⟩ | (simp_all; done)) (.string t390)) (fun _ hk => by first | exact hk | exact hk.1 | exact hk.2 | exact hk.1.2 | exact ⟨hk.1.2, hk.2⟩ | exact ⟨trivial, hk.1.2, hk.2⟩ | exact ⟨trivial, hk.2⟩ | (simp_all; done)) (.slice Ao94 t391.length co94)) (fun _ hk => hk.1)⟩
           have n4_ : Aside0 (((w92.setCell ⟨gb396, 0, none⟩ (.string t390)).setCell ⟨gb396, 1, none⟩ (.slice Ao94 t391.length co94)).heap[gb307]? = some (.cells #[.int .i64 10, .int .i64 5, .int .i64 2] 23 (0, 0))) := ⟨by (with_reducible repeat (first | refine blk_drewN ?_ _ | refine blk_drew ?_ | refine blk_alloc ?_ _)); refine blk_far ?_ NB307_396.out _; refine blk_far ?_ NB307_396.out _; (with_reducible repeat (first | refine blk_drewN ?_ _ | refine blk_drew ?_ | refine blk_alloc ?_ _)); exact BK307.out⟩
           have n5_ : Aside0 (((w92.setCell ⟨gb396, 0, none⟩ (.string t390)).setCell ⟨gb396, 1, none⟩ (.slice Ao94 t391.length co94)).heap[gb396]? = some (.cells #[.string t390, .slice Ao94 t391.length co94] 67 (0, 0))) := ⟨by (with_reducible repeat (first | refine blk_drewN ?_ _ | refine blk_drew ?_ | refine blk_alloc ?_ _)); refine blk_put (cs := #[.string t390, .slice none 0 0]) ?_ 1 _ rfl; refine blk_put (cs := #[.string (⟨#[]⟩ : ByteArray), .slice none 0 0]) ?_ 0 _ rfl; (with_reducible repeat (first | refine blk_drewN ?_ _ | refine blk_drew ?_ | refine blk_alloc ?_ _)); exact BK396.out⟩
           have n6_ : Aside0 (Below w.heap.size w ((w92.setCell ⟨gb396, 0, none⟩ (.string t390)).setCell ⟨gb396, 1, none⟩ (.slice Ao94 t391.length co94))) := ⟨by repeat (first | (with_reducible first | exact HB.out | apply below_alloc | apply pw_below_drewN | apply below_drew1 | refine below_set ?_ GE396.out) | exact HB.out)⟩
           (try clear HO_12)
           (try clear HO_73)
           (try clear HO389)
           (try clear HO393)
           (try clear BK307)
           (try clear BK396)
           (try clear HB)
           generalize ((w92.setCell ⟨gb396, 0, none⟩ (.string t390)).setCell ⟨gb396, 1, none⟩ (.slice Ao94 t391.length co94)) = w96 at n0_ n1_ n2_ n3_ n4_ n5_ n6_ ⊢
           have HO_12 := n0_
           have HO_73 := n1_
           have HO389 := n2_
           have HO393 := n3_
           have BK307 := n4_
           have BK396 := n5_
           have HB := n6_
           clear n0_ n1_ n2_ n3_ n4_ n5_ n6_
           have hnb97 := NB396_307.out
           have hnc97 := NB307_396.out
           have X98_0 := ct BK396.out 0
           have X98_1 := ct BK396.out 1
           have Y98_0 := blk_frozen BK396.out 0
           have Y98_1 := blk_frozen BK396.out 1
           have p397 : 0 ≤ (0 : Int) := (by omega)
           have q397 : 0 < (t391.length : Int) := of_decide_eq_true (by first | (with_reducible assumption) | assumption)
           obtain ⟨ad397, A397_1, c397_1, e397, hx397_0, hx397_1, hl397_1, hi397_1⟩ := at_T76 (Kd.S_reads' HO393.out).2.2 0 p397 q397
           cases e397
           obtain ⟨ce397, hce397, hMe397, hcc397⟩ := Kd.S_get HO393.out z76 0 p397 (by first | exact q397 | exact of_decide_eq_true (by first | (with_reducible assumption) | assumption) | (have e_ := (Kd.S_reads' HO393.out).1; omega))
           obtain ⟨ve397_1, rfl, ge397_1⟩ := k76_openM hMe397
           have hv397_1 := hcc397 1 _ rfl
           rw [add_field _ _ 1 (by omega)] at hv397_1
           replace hv397_1 := Option.some.inj (hv397_1.symm.trans hx397_1)
           rw [hv397_1] at ge397_1
           have HL397_1 := mk0 (show Kd.R k23 23 _ _ _ _ ((rd_T76 t391 0).f1) from ge397_1)
           clear hv397_1 ge397_1
           clear hcc397 hce397
           have qi397 : (0 < t391.length) = True := eq_true (by omega)
           (try rw [show ((0 : Int)).toNat = 0 from rfl] at hx397_0)
           (try rw [show 0 * 2 = 0 from rfl] at hx397_0)
           (try rw [Addr.add_zero'] at hx397_0)
           (try rw [show ((0 : Int)).toNat = 0 from rfl] at hx397_1)
           (try rw [show 0 * 2 = 0 from rfl] at hx397_1)
           (try rw [Addr.add_zero'] at hx397_1)
           have HR397_1 := mk0 hi397_1
           have HC397_1 := mk0 hl397_1
           clear hi397_1 hl397_1
           replace p397 := eq_true p397
           replace q397 := eq_true q397
           have p398 : 0 ≤ (0 : Int) := (by omega)
           have q398 : 0 < (t391.length : Int) := of_decide_eq_true (by first | (with_reducible assumption) | assumption)
           obtain ⟨ad398, A398_1, c398_1, e398, hx398_0, hx398_1, hl398_1, hi398_1⟩ := at_T76 (Kd.S_reads' HO393.out).2.2 0 p398 q398
           obtain rfl : ad397 = ad398 := (by injection e398)
           obtain ⟨ce398, hce398, hMe398, hcc398⟩ := Kd.S_get HO393.out z76 0 p398 (by first | exact q398 | exact of_decide_eq_true (by first | (with_reducible assumption) | assumption) | (have e_ := (Kd.S_reads' HO393.out).1; omega))
           obtain ⟨ve398_1, rfl, ge398_1⟩ := k76_openM hMe398
           have hv398_1 := hcc398 1 _ rfl
           rw [add_field _ _ 1 (by omega)] at hv398_1
           replace hv398_1 := Option.some.inj (hv398_1.symm.trans hx398_1)
           rw [hv398_1] at ge398_1
           have HL398_1 := mk0 (show Kd.R k23 23 _ _ _ _ ((rd_T76 t391 0).f1) from ge398_1)
           clear hv398_1 ge398_1
           clear hcc398 hce398
           have qi398 : (0 < t391.length) = True := eq_true (by omega)
           (try rw [show ((0 : Int)).toNat = 0 from rfl] at hx398_0)
           (try rw [show 0 * 2 = 0 from rfl] at hx398_0)
           (try rw [Addr.add_zero'] at hx398_0)
           (try rw [show ((0 : Int)).toNat = 0 from rfl] at hx398_1)
           (try rw [show 0 * 2 = 0 from rfl] at hx398_1)
           (try rw [Addr.add_zero'] at hx398_1)
           have HR398_1 := mk0 hi398_1
           have HC398_1 := mk0 hl398_1
           clear hi398_1 hl398_1
           replace p398 := eq_true p398
           replace q398 := eq_true q398
           have ea_ := Option.some.inj (hx397_1.symm.trans hx398_1)
           injection ea_ with ea_ en_ ec_
           subst ea_
           subst ec_
           clear en_
           try go_wp2_with (first | ((with_reducible refine gate_dst (N := 123) rfl ?_); (try (refine gate_guard (by rfl) ?_; dsimp only)); refine Kd.R_lit k23 _ 23 ?hg (N := 123) ?hd (xs := ([(⟨13, 5, 2⟩ : S23), (⟨7, 5, 2⟩ : S23)] : List (S23))) (inner := [.int .i64 13, .int .i64 5, .int .i64 2, .int .i64 7, .int .i64 5, .int .i64 2]) (ok := fun _ => True) (okp := fun _ => True) ?hr ?hp (fun _ hk => hk) trivial (Below.refl _ _) (Nat.le_refl _) (by simp) ?_; (case hd => rfl); (case hg => rfl); (case hr => first | (go_simp; done) | (go_simp; rfl)); (case hp => exact (Reps.c3 (show Kd.M k23 _ _ _ (⟨13, 5, 2⟩ : S23) [.int .i64 13, .int .i64 5, .int .i64 2] from (k23_mkM _ _ _ (⟨13, 5, 2⟩ : S23) )) (Reps.c3 (show Kd.M k23 _ _ _ (⟨7, 5, 2⟩ : S23) [.int .i64 7, .int .i64 5, .int .i64 2] from (k23_mkM _ _ _ (⟨7, 5, 2⟩ : S23) )) (Reps.none _ _)))); intro v400 w99 ho100 hb hg_ hnew_; clear hg_ hnew_; (first | rw [← Ny399.out] at ho100 | (simp only [Int.reduceToNat] at ho100; rw [← Ny399.out] at ho100)); have n0_ := mk0 (Kd.R_below (rT HO_12.out) hb); have n1_ := mk0 (Kd.R_below (rT HO_73.out) hb); have n2_ := mk0 (Kd.R_below (rT HO389.out) hb); have n3_ := mk0 (Kd.S_elder' (by (with_reducible repeat (first | apply Kd.S_alloc | apply Kd.S_drewN | apply Kd.S_drew)); exact HO393.out) (Kd.R_base ho100) hb); have n4_ := mk0 (Kd.R_elder' (rT HL397_1.out) (Kd.R_base ho100) hb); have n5_ := mk0 (Kd.R_elder' (rT HL398_1.out) (Kd.R_base ho100) hb); have n6_ := mk0 (Kd.R_lower (Kd.R_newB (Kd.R_new' (Kd.R_new' ho100 (Kd.R_lt (rT HL397_1.out))) (Kd.R_lt (rT HL398_1.out))) (g := gb307) (o := .cells #[.int .i64 10, .int .i64 5, .int .i64 2] 23 (0, 0)) (bT BK307.out)) (below_size (wT HB.out))); have n7_ := mk0 (blk_below (g := gb307) (o := .cells #[.int .i64 10, .int .i64 5, .int .i64 2] 23 (0, 0)) (bT BK307.out) hb); have n8_ := mk0 (Kd.C_below (by repeat (first | (with_reducible exact HR397_1.out) | (with_reducible refine Kd.C_alloc ?_ _) | (with_reducible refine Kd.C_drewN ?_ _) | (with_reducible refine Kd.C_drew ?_) | exact HR397_1.out)) hb); have n9_ := mk0 (Kd.C_below (by repeat (first | (with_reducible exact HR398_1.out) | (with_reducible refine Kd.C_alloc ?_ _) | (with_reducible refine Kd.C_drewN ?_ _) | (with_reducible refine Kd.C_drew ?_) | exact HR398_1.out)) hb); have n10_ := mk0 (below_step (wT HB.out) hb); clear HO_12; clear HO_73; clear HO389; clear HO393; clear HL397_1; clear HL398_1; clear BK307; clear HR397_1; clear HR398_1; clear HB; have HO_12 := n0_; have HO_73 := n1_; have HO389 := n2_; have HO393 := n3_; have HL397_1 := n4_; have HL398_1 := n5_; have HO401 := n6_; have BK307 := n7_; have HR397_1 := n8_; have HR398_1 := n9_; have HB := n10_; clear n0_ n1_ n2_ n3_ n4_ n5_ n6_ n7_ n8_ n9_ n10_; clear hb ho100; obtain ⟨Ao101, co101, eo101⟩ := Kd.R_slice HO401.out; subst eo101) | (go_at_call 37; (with_reducible refine (api_Spot.calls k2 _ _ ((rd_T76 t391 0).f1) _ _ y399 t402 _ ?side1 ?side2 ?side3 ?side4 A85.out).mono ?_); (case side1 => repeat (first | exact (by repeat (first | (with_reducible exact HR398_1.out) | (with_reducible refine Kd.C_alloc ?_ _) | (with_reducible refine Kd.C_drewN ?_ _) | (with_reducible refine Kd.C_drew ?_) | exact HR398_1.out)) | (with_reducible refine Kd.C_alloc ?_ _) | (with_reducible refine Kd.C_drewN ?_ _) | (with_reducible refine Kd.C_drew ?_))); (case side2 => exact HC398_1.out); (case side3 => repeat (first | exact (Kd.R_reads' HO401.out).2.2 | (with_reducible refine Kd.C_alloc ?_ _) | (with_reducible refine Kd.C_drewN ?_ _) | (with_reducible refine Kd.C_drew ?_))); (case side4 => exact (Kd.R_reads' HO401.out).2.1); rintro e w' ⟨rfl, ⟨nd, rfl⟩⟩))
           go_ret
           exact ⟨eqT, wT HB.out⟩
          ·rw [if_neg c84] at H
           exact absurd H (by simp)
         ·rw [if_neg c83] at H
          exact absurd H (by simp)
        ·rw [if_neg c82] at H
         exact absurd H (by simp)
       ·rw [if_neg c81] at H
        exact absurd H (by simp)
end Go.Proofs.YtolbjmaabghghaaGreatDoor.PA
