/- A part of the proof. -/
import Derived.Test.YtolbjmaabghghaaGreatDoorJ7PAx0
import Derived.Test.YtolbjmaabghghaaGreatDoorJ7EG
import Derived.Test.YtolbjmaabghghaaGreatDoorJ7Sh
import Derived.Lib.AppendIntMem
namespace Go.Proofs.YtolbjmaabghghaaGreatDoor.PA
open Go.RowKit Go.PW Go.PL Go.PM
def strconv_Itoa_49.f (a0 : Int) : Option ByteArray := if -9223372036854775808 ≤ a0 ∧ a0 ≤ 9223372036854775807 then some ⟨(Lib.itoa a0).toArray⟩ else none
theorem strconv_Itoa_49.calls (a0 : Int) (r : ByteArray) (w : World) (hG : GW w) (h : strconv_Itoa_49.f a0 = some r) : Calls Tryz.prog 49 #[.int .i64 a0] w fun e w' => e = .returned (.string r) ∧ Below w.heap.size w w' := by
 unfold strconv_Itoa_49.f at h
 split at h
 case isFalse => cases h
 case isTrue hs =>
 have hr := Option.some.inj h
 subst hr
 refine (Tryz.strconv_Itoa a0 hs.1 hs.2 w hG.pow10).mono ?_
 rintro e w' ⟨rfl, k, os, rfl⟩
 refine ⟨rfl, ?_⟩
 exact Lib.below_grow _ _ (Nat.le_refl _) _ _
end Go.Proofs.YtolbjmaabghghaaGreatDoor.PA
