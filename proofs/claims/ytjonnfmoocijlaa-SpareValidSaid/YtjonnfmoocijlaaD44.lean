/- Texts of a claim, packed. -/
import Derived.Test.YtjonnfmoocijlaaD43
set_option linter.all false
namespace Go.Proofs.Ytjonnfmoocijlaa.P
open Go.RowKit Go.Proofs.YtjonnfmoocijlaaKW.PrintWords
set_option maxRecDepth 100000
theorem Ma : Ev (fun k => Ai.f k 0 [] 0 0 []) false := MJ (fun k => Ai.mono _ _ _ _ _ k) (show Ai.f 60 0 [] 0 0 [] = some false by kernel_rfl)
section
variable {d : Int} {L : List (List Int)} {w n r : Nat} {T S : Int} (H : Lo d L w n r T S)
include H
theorem Lo.Nr (ms : List Mv) (hl : ms.length ≤ 1000) (g : Int) (dead : List Bool) (h : ¬ VM d L w n r T S ms ∨ (dead.length : Int) ≠ d) : Ev (fun k => yN.f k d L T S ms g dead) (0, 0, 1) := by
  unfold yN.f
  refine DL (H.check ms hl) ?_
  by_cases hv : VM d L w n r T S ms
  · rw [if_pos hv]
    refine AP rfl ?_
    have hne : ((dead.length : Int) != d) = true := bne_iff_ne.2 (h.resolve_left (fun h => h hv))
    rw [hne]
    refine evs (fun k => by rw [yN.j0]) ?_
    exact AP rfl (Ev.now _)
  · rw [if_neg hv]
    refine C8 (show ¬ (false = true) by decide) ?_
    refine evs (fun k => by rw [yN.j0]) ?_
    exact AP rfl (Ev.now _)
theorem Lo.Xe (ms : List Mv) (hl : ms.length ≤ 1000) (hv : VM d L w n r T S ms) (x : Int) (hx : 0 ≤ x ∧ x < d) : Ev (fun k => Cc.f k d L T S ms x) (EE ms x, 0) := by
 unfold Cc.f
 refine DL (H.check ms hl) ?_
 rw [if_pos hv]
 exact AP rfl (C8 (show ¬ x < 0 by omega) (C8 (show ¬ x ≥ d by omega) (DL (Jt ms hl _ _ _ _ _ _ _) (Ev.now _))))
theorem Lo.bad (ms : List Mv) (hl : ms.length ≤ 1000) (hv : ¬ VM d L w n r T S ms) (x g i : Int) (m : Mv) : Ev (fun k => Dr.f k d L T S ms g i) (0, 0, 1) ∧ Ev (fun k => zP.f k d L T S ms x) ([], 1) ∧ Ev (fun k => Cc.f k d L T S ms x) ([], 1) ∧ Ev (fun k => zi.f k d L T S ms m.f0 m.f1 m.f2.f0 m.f2.f1) ([], 1) := by
  refine ⟨?_, ?_, ?_, ?_⟩
  · unfold Dr.f
    refine DL (H.check ms hl) ?_
    rw [if_neg hv]
    exact C8 (show ¬ (false = true) by decide) (Ev.now _)
  · unfold zP.f
    refine DL (H.check ms hl) ?_
    rw [if_neg hv]
    exact C8 (show ¬ (false = true) by decide) (Ev.now _)
  · unfold Cc.f
    refine DL (H.check ms hl) ?_
    rw [if_neg hv]
    exact C8 (show ¬ (false = true) by decide) (Ev.now _)
  · unfold zi.f
    refine DL (H.Oe ms hl) ?_
    rw [decide_eq_false hv]
    exact C8 (show ¬ (false = true) by decide) (Ev.now _)
end
theorem MH (x : Int) (ms : List Mv) (h0 : 0 ≤ x) (h1 : x < 65536) : Ev (fun k => yO.f k x ms) true := by
  unfold yO.f
  refine DL VZ (AP rfl ?_)
  by_cases hl : (ms.length : Int) > 30
  · exact AP hl (Ev.now _)
  refine C8 hl ?_
  have hms : ms.length ≤ 800 := by omega
  obtain ⟨d, L, w, n, r, T, S, hs, H, A⟩ := W9 x h0 h1
  refine DL hs (Kv (a := ms) ?_ ?_)
  · unfold CU.f
    rw [Option.bind_some, if_pos (by rw [List.length_nil]; omega), List.nil_append]
  have hd1 := H.ok.d1
  have hn1 := H.ok.n1
  have hw1 := H.ok.w1
  have aa : 1 ≤ T * (n : Int) := by
    calc (1 : Int) ≤ 1 * n := by omega
      _ ≤ T * n := Int.mul_le_mul_of_nonneg_right H.t1.1 (by omega)
  have hww : wrap64 (d + 1) = d + 1 := ww (by omega) (by omega)
  have hdl : ((List.replicate d.toNat false).length : Int) = d := by rw [List.length_replicate]; omega
  have hcb := H.Nr [] (by decide) 0 (List.replicate (d + 1).toNat false) (.inr (by rw [List.length_replicate]; omega))
  have hin : (0 : Int) ≤ 0 ∧ (0 : Int) < T * n ∧ (0 : Int) ≤ 0 ∧ (0 : Int) < (w : Int) := ⟨by omega, by omega, by omega, by omega⟩
  refine DL (H.Oe ms (by omega)) (DL (H.a09 ms (by omega)) (C8 (show ¬ ((decide (VM d L w n r T S ms) != decide (VM d L w n r T S ms)) = true) by simp) ?_))
  by_cases hv : VM d L w n r T S ms
  · have hsw := H.a0f ms (by omega) hv 0 0
    rw [if_pos hin] at hsw
    have hso := H.We A ms (by omega) hv 0
    rw [if_pos ⟨by omega, by omega⟩] at hso
    have hsu := H.Xe ms (by omega) hv 0 ⟨by omega, by omega⟩
    have hch := H.KT ms (by omega) hv 0 (List.replicate d.toNat false) hdl
    rw [if_pos ⟨by omega, by omega⟩] at hch
    have hap : Ev (fun k => zi.f k d L T S ms 0 0 (-1) 0) (JP d L w n r T S ms ⟨0, 0, ⟨-1, 0⟩⟩) := H.VV ms (by omega) hv ⟨0, 0, ⟨-1, 0⟩⟩
    have ha2 : (JP d L w n r T S ms ⟨0, 0, ⟨-1, 0⟩⟩).2 ≠ 2 := by
      unfold JP
      rw [if_pos hin]
      split
      · show (9 : Int) ≠ 2; decide
      · split
        · show (0 : Int) ≠ 2; decide
        · show (1 : Int) ≠ 2; decide
    rw [decide_eq_true hv]
    refine DL hsw (DL hso (DL hsu (AP (show (0 : Int) ≤ d by omega) (AP (show d.toNat ≤ 281474976710656 by omega) ?_))))
    have hfin : ∀ c : Int × Int × Int, c.2.2 ≠ 1 → Ev (fun k => yN.f k d L T S ms 0 (List.replicate d.toNat false)) c → Ev (fun k => (yN.f k d L T S ms 0 (List.replicate d.toNat false)).bind fun Ib => ((zi.f k d L T S ms 0 0 (-1) 0).bind fun Ic => (if 0 ≤ (wrap64 (d + 1)) then (if (wrap64 (d + 1) : Int).toNat ≤ 281474976710656 then ((yN.f k d L T S ([] : List Mv) 0 (List.replicate (wrap64 (d + 1) : Int).toNat false)).bind fun Ie => (if Ie.2.2 = 1 then ((Ai.f k 0 ([] : List (List Int)) 0 0 ([] : List Mv)).bind fun JA => (yO.j0 k true 0 0 0 Ib.2.2 Ic.2 JA)) else (yO.j0 k true 0 0 0 Ib.2.2 Ic.2 true))) else (none)) else (none)))) true := by
      intro c hc hce
      rw [hww]
      refine DL hce (DL hap (AP (show (0 : Int) ≤ d + 1 by omega) (AP (show (d + 1).toNat ≤ 281474976710656 by omega) (DL hcb (AP rfl (DL Ma ?_))))))
      refine evs (fun k => by rw [yO.j0]) ?_
      exact C8 (by decide) (AP rfl (AP rfl (AP rfl (AP rfl (C8 hc (C8 ha2 (Ev.now _)))))))
    refine hfin _ ?_ hch
    cases Ir L w n r S ms 0 (List.replicate d.toNat false) d.toNat with
    | none => show (11 : Int) ≠ 1; decide
    | some p => show (0 : Int) ≠ 1; decide
  · obtain ⟨b1, b2, b3, b4⟩ := H.bad ms (by omega) hv 0 0 0 ⟨0, 0, ⟨-1, 0⟩⟩
    have hch := H.Nr ms (by omega) 0 (List.replicate d.toNat false) (.inl hv)
    rw [decide_eq_false hv, hww]
    refine DL b1 (DL b2 (DL b3 (AP (show (0 : Int) ≤ d by omega) (AP (show d.toNat ≤ 281474976710656 by omega) (DL hch (DL b4 (AP (show (0 : Int) ≤ d + 1 by omega) (AP (show (d + 1).toNat ≤ 281474976710656 by omega) (DL hcb (AP rfl (DL Ma ?_)))))))))))
    refine evs (fun k => by rw [yO.j0]) ?_
    exact C8 (by decide) (C8 (by decide) (AP rfl (AP rfl (AP rfl (AP rfl (AP rfl (Ev.now _)))))))
end Go.Proofs.Ytjonnfmoocijlaa.P
