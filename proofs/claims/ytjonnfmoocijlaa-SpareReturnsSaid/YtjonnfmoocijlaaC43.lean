/- Texts of a claim, packed. -/
import Derived.Test.YtjonnfmoocijlaaC42
set_option linter.all false
namespace Go.Proofs.Ytjonnfmoocijlaa.P
open Go.RowKit Go.Proofs.YtjonnfmoocijlaaKW.PrintWords
set_option maxRecDepth 1000000
theorem lo0 : Lo 5 ds0 4 5 4 1 2 := ⟨a4X, by decide, by decide⟩
theorem Sb (l : List Int) (hl : l.length ≤ 1000) : Ev (fun k => zS.f k l l) true := by
 have h0 : ∀ t j : Nat, l.length - j = t → j ≤ l.length → Ev (fun k => zS.l0 k l l (j : Int)) true := by
  intro t
  induction t with
  | zero =>
   intro j ht hj
   exact evs (fun k => by rw [zS.l0]) (BQ (by omega) (Ev.now _))
  | succ t ih =>
   intro j ht hj
   have hstep := ih (j + 1) (by omega) (by omega)
   refine evs (fun k => by rw [zS.l0]) (AJ (by omega) (AJ (by omega) (AJ (by omega) (AJ rfl ?_))))
   rw [vv j (by omega)]
   exact hstep
 unfold zS.f
 exact AJ rfl (h0 _ 0 rfl (Nat.zero_le _))
theorem Sc {α : Type} {F : Nat → Option α} {a b : α} (h : Ev F a) (e : a = b) : Ev F b := e ▸ h
theorem Jy : Ev (fun k => zN.f k) true := by
 have hm : CV 5 ds0 4 5 4 1 2 [] ⟨0, 2, ⟨4, 4⟩⟩ = ([⟨0, 2, ⟨4, 4⟩⟩], 0) := by kernel_rfl
 have hv : VM 5 ds0 4 5 4 1 2 [⟨0, 2, ⟨4, 4⟩⟩] := of_decide_eq_true (by kernel_rfl)
 have e1 : Ev (fun k => yV.f k 5 ds0 1 2 [] 0 [true, false, false, false, false]) (4, 4, 0) := Sc (lo0.Lc [] (by decide) lo0.Qn 0 [true, false, false, false, false] rfl) (by kernel_rfl)
 have e2 : Ev (fun k => yV.f k 5 ds0 1 2 [] 0 [false, false, false, false, true]) (0, 0, 11) := Sc (lo0.Lc [] (by decide) lo0.Qn 0 [false, false, false, false, true] rfl) (by kernel_rfl)
 have e3 : Ev (fun k => zl.f k 5 ds0 1 2 [] 0 2 4 4) ([⟨0, 2, ⟨4, 4⟩⟩], 0) := Sc (lo0.LU [] (by decide) lo0.Qn ⟨0, 2, ⟨4, 4⟩⟩) hm
 have e4 : Ev (fun k => yV.f k 5 ds0 1 2 [⟨0, 2, ⟨4, 4⟩⟩] 1 [true, false, false, false, false]) (3, 4, 0) := Sc (lo0.Lc [⟨0, 2, ⟨4, 4⟩⟩] (by decide) hv 1 [true, false, false, false, false] rfl) (by kernel_rfl)
 have e5 : Ev (fun k => EF.f k 5 ds0 1 2 [⟨0, 2, ⟨4, 4⟩⟩] 4) ([4], 0) := by
  unfold EF.f
  refine DN (lo0.check [⟨0, 2, ⟨4, 4⟩⟩] (by decide)) ?_
  rw [if_pos hv]
  exact AJ rfl (BQ (by decide) (BQ (by decide) (DN (NY [⟨0, 2, ⟨4, 4⟩⟩] (by decide) _ _ _ _ _ _ _) (Ev.now _))))
 unfold zN.f
 refine DN (U2 (fun k => ym.mono _ _ k) cmp0) ?_
 refine DN e1 (DN e2 (DN e3 (DN e5 (DN e4 ?_))))
 exact AJ rfl (AJ rfl (AJ rfl (AJ rfl (AJ rfl (AJ rfl (DN (Sb [4] (by decide)) (AJ rfl (AJ rfl (AJ rfl (Ev.now _))))))))))
end Go.Proofs.Ytjonnfmoocijlaa.P
