/- Texts of a claim, packed. -/
import Derived.Test.YtjonnfmoocijlaaD26
set_option linter.all false
namespace Go.Proofs.Ytjonnfmoocijlaa.P
open Go.RowKit Go.Proofs.YtjonnfmoocijlaaKW.PrintWords Go.Proofs.YtjonnfmoocijlaaKW.PrintLast Go.Proofs.YtjonnfmoocijlaaKW.PrintMore
attribute [local go_sem] zz zA zS zT zn zo zB zC
def slices_Contains_int.f (k : Nat) (l0 : List Int) (a1 : Int) : Option (Bool) := (slices_Index_int.f k l0 a1).bind fun t234 => (some (decide (t234 ≥ 0)))
set_option maxHeartbeats 8000000 in
set_option maxRecDepth 100000 in
theorem slices_Contains_int.calls (k : Nat) (A0 : Option Addr) (c0 : Nat) (l0 : List Int) (a1 : Int) (r : Bool) (w : World) (hr0 : Kd.C (Kd.int .i64) w A0 l0.length l0) (hc0 : l0.length ≤ c0) (h : slices_Contains_int.f k l0 a1 = some r) :
  Calls Try.prog 37 #[.slice A0 l0.length c0, .int .i64 a1] w fun e w' => e = .returned (.bool r) ∧ zN w w' := by
 have Lm := yf.mk hr0;have WM := yf.mk hc0;clear hr0 hc0
 have H : ((slices_Index_int.f k l0 a1).bind fun t234 => (some (decide (t234 ≥ 0)))) = some r := h
 clear h;obtain ⟨t234, A3, H⟩ := bE H
 try dsimp only at H
 obtain rfl := Option.some.inj H
 go_enter Try.func37, Try.ntmps37
 go_wp2_with (((with_reducible refine yB (f := 65) rfl ?_); refine gL (some 7) Try.func65 #[.slice A0 l0.length c0, .int .i64 a1] ?_; (with_reducible refine (slices_Index_int.calls k _ _ l0 a1 t234 _ ?yF ?yM A3.out).mono ?_); (case yF => repeat (exact Lm.out)); (case yM => exact WM.out); rintro e w' ⟨rfl, ⟨nd, rfl⟩⟩; refine ⟨_, rfl, ?_⟩))
 go_ret
 exact ⟨by rfl, by repeat (first | exact zN.refl _ | apply zN.step)⟩
end Go.Proofs.Ytjonnfmoocijlaa.P
