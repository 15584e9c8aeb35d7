/- Texts of a claim, packed. -/
import Derived.Test.YtjonnfmoocijlaaC43
import Derived.Test.YtjonnfmoocijlaaC51
set_option linter.all false
namespace Go.Proofs.Ytjonnfmoocijlaa.P
open Go.RowKit Go.Proofs.YtjonnfmoocijlaaKW.PrintWords
theorem TV (a N : Int) (h0 : 1 ≤ N) (h1 : N ≤ 105) : ∃ g, Int.tmod (wrap64 (Int.tmod a N + N)) N = g ∧ 0 ≤ g ∧ g < N := by
 have h2 := Int.lt_tmod_of_pos a (show 0 < N by omega)
 have h3 := Int.tmod_lt_of_pos a (show 0 < N by omega)
 rw [ww (by omega) (by omega), Int.tmod_eq_emod_of_nonneg (by omega)]
 exact ⟨_, rfl, Int.emod_nonneg _ (by omega), Int.emod_lt_of_pos _ (by omega)⟩
section
variable {d : Int} {L : List (List Int)} {w n r : Nat} {T S : Int} (H : Lo d L w n r T S)
include H
theorem Lo.Sq (ms : List Mv) (hv : VM d L w n r T S ms) (g i : Int) (h0 : 0 ≤ g) (h1 : g < T * n) : 0 ≤ (Ca L w n r ms g i).1 ∧ (Ca L w n r ms g i).1 < d := by
 obtain ⟨_, hl, hg⟩ := H.Qj g h0 h1
 have Zy := H.ok.w1
 unfold Ca
 cases hf : ms.find? (D8 g i) with
 | some m =>
  have := H.O3 ms hv m (List.mem_of_find?_eq_some hf)
  exact ⟨this.1, this.2.1⟩
 | none =>
  have hm : (i.toNat + g.toNat / n) % w < (L.getD (g.toNat % n) []).length := by rw [hl]; exact Nat.mod_lt _ (by omega)
  show 0 ≤ (Fb L w n r g.toNat i.toNat).1 ∧ (Fb L w n r g.toNat i.toNat).1 < d
  unfold Fb
  simp only
  rw [getD_at _ _ _ hm]
  have hr := H.ok.rng (L.getD (g.toNat % n) []) (by rw [getD_at _ _ _ hg]; exact List.getElem_mem hg) _ (List.getElem_mem hm)
  exact hr
theorem Lo.fits (ms : List Mv) (hl : ms.length ≤ 800) (hv : VM d L w n r T S ms) (g : Int) (hg : 0 ≤ g ∧ g < T * n) (dead : List Bool) (hdl : (dead.length : Int) = d) (b c : Int) (hb : 0 ≤ b ∧ b < d ∧ T * r ≤ c ∧ c < T * r + S)
    (hf : ∀ x ∈ ms, Ec ⟨b, c⟩ x.f2 = false) (hnb : b ∉ Av L w n r ms g) : ∀ t i : Nat, w - i = t → i ≤ w → Ev (fun k => yl.l0 k ms dead g (i : Int) d L T S b c) true := by
  have Zy := H.ok.w1
  intro t
  induction t with
  | zero =>
    intro i ht hi
    exact evs (fun k => by rw [yl.l0]) (GJ H.FR (BQ (show ¬ (i : Int) < (w : Int) by omega) (Ev.now _)))
  | succ t ih =>
    intro i ht hi
    have hiw : i < w := by omega
    have hi0 : (0 : Int) ≤ (i : Int) := Int.natCast_nonneg i
    have hi1 : (i : Int) < (w : Int) := Int.ofNat_lt.2 hiw
    have hstep := ih (i + 1) (by omega) hiw
    have hr := H.Sq ms hv g (i : Int) hg.1 hg.2
    rw [← vv i (by omega)] at hstep
    have hms : ms.length ≤ 1000 := by omega
    refine evs (fun k => by rw [yl.l0]) (GJ H.FR (AJ hi1 (DN (H.K9 ms hms g (i : Int) hg.1 hg.2 hi0 hi1) (AJ hr.1 (AJ (show (Ca L w n r ms g (i : Int)).1 < (dead.length : Int) by omega) ?_)))))
    by_cases cd : Ha false dead (Ca L w n r ms g (i : Int)).1 = true
    · refine AJ cd ?_
      have hout : DD ms ⟨g, (i : Int), ⟨b, c⟩⟩ = Bg ⟨g, (i : Int), ⟨b, c⟩⟩ ms false := by unfold DD; rw [show (b == (-1 : Int)) = false from beq_eq_false_iff_ne.2 (by omega)]
      have hvo : VM d L w n r T S (Bg ⟨g, (i : Int), ⟨b, c⟩⟩ ms false) := H.a5V ms hv ⟨g, (i : Int), ⟨b, c⟩⟩ hg ⟨hi0, hi1⟩ hb hf hnb
      have hap : CV d L w n r T S ms ⟨g, (i : Int), ⟨b, c⟩⟩ = (Bg ⟨g, (i : Int), ⟨b, c⟩⟩ ms false, 0) := by
        unfold CV
        rw [if_pos ⟨hg.1, hg.2, hi0, hi1⟩, if_neg (fun h => by have h2 : b = -1 := h.1; omega), hout, if_pos hvo]
      have hal := H.LU ms (by omega) hv ⟨g, (i : Int), ⟨b, c⟩⟩
      have hol := Iq ms ⟨g, (i : Int), ⟨b, c⟩⟩
      have hw2 := fun k : Int => Lo.Kb H ms ⟨g, (i : Int), ⟨b, c⟩⟩ false g k
      have hwn : Ca L w n r (Bg ⟨g, (i : Int), ⟨b, c⟩⟩ ms false) g (i : Int) = (b, c) := H.PK ms ⟨g, (i : Int), ⟨b, c⟩⟩
      rw [hap] at hal
      rw [hout] at hol
      generalize Bg ⟨g, (i : Int), ⟨b, c⟩⟩ ms false = out at hal hvo hol hw2 hwn
      have hos : out.length ≤ 1000 := by omega
      refine DN hal (AJ rfl (DN (H.TQ out hos) ?_))
      rw [decide_eq_true hvo]
      have hl1 : ∀ t k : Nat, w - k = t → k ≤ w → Ev (fun q => yl.l1 q ms dead g (i : Int) out (k : Int) d L T S b c) true := by
        intro t
        induction t with
        | zero =>
          intro k ht hk
          exact evs (fun k => by rw [yl.l1]) (GJ H.FR (BQ (show ¬ (k : Int) < (w : Int) by omega) hstep))
        | succ t ih2 =>
          intro k ht hk
          have hkw : k < w := by omega
          have hk0 : (0 : Int) ≤ (k : Int) := Int.natCast_nonneg k
          have hk1 : (k : Int) < (w : Int) := Int.ofNat_lt.2 hkw
          have hnext := ih2 (k + 1) (by omega) hkw
          rw [← vv k (by omega)] at hnext
          have aa : ∀ bb : Bool, bb = false → Ev (fun q => yl.j4 q ms dead g (i : Int) out (k : Int) bb d L T S b c) true := by
            intro bb hbb
            subst hbb
            exact evs (fun k => by rw [yl.j4]) (BQ (by decide) hnext)
          have hsw := H.TU out hos hvo g (k : Int)
          rw [if_pos ⟨hg.1, hg.2, hk0, hk1⟩] at hsw
          refine evs (fun k => by rw [yl.l1]) (GJ H.FR (AJ hk1 (DN hsw (AJ rfl ?_))))
          by_cases ck : (k : Int) = (i : Int)
          · refine AJ ck ?_
            rw [ck, hwn]
            refine BQ (by simp) ?_
            have := aa false rfl
            rw [ck] at this
            exact this
          · refine BQ ck (DN (H.K9 ms hms g (k : Int) hg.1 hg.2 hk0 hk1) (aa _ ?_))
            rw [hw2 (k : Int) (fun h => ck h.2)]
            simp
      have hj2 : ∀ bb : Bool, bb = false → Ev (fun q => yl.j2 q ms dead g (i : Int) out bb d L T S b c) true := by
        intro bb hbb
        subst hbb
        refine evs (fun k => by rw [yl.j2]) ?_
        exact BQ (by decide) (hl1 _ 0 rfl (Nat.zero_le _))
      exact hj2 _ rfl
    · exact BQ cd hstep
end
theorem Qt (x : Int) (raw : List Int) (a y : Int) (h0 : 0 ≤ x) (h1 : x < 65536) (hraw : ∀ b ∈ raw, 0 ≤ b ∧ b < 256) : Ev (fun k => yl.f k x raw a y) true := by
 unfold yl.f
 refine DN Jy (AJ rfl ?_)
 by_cases hl : (raw.length : Int) > 20
 · exact AJ hl (Ev.now _)
 refine BQ hl ?_
 obtain ⟨d, L, w, n, r, T, S, hs, H⟩ := Jo x h0 h1
 refine DN hs ?_
 obtain ⟨ms, hm, hv, hml⟩ := H.NZ raw hraw (by omega)
 refine DN hm ?_
 obtain ⟨dead, hd, hdl⟩ := Ru d y ⟨by have := H.ok.d1; omega, H.ok.d1.2⟩
 refine DN hd ?_
 have hms : ms.length ≤ 800 := by omega
 have htn := H.tn
 have a3A : 1 ≤ T * (n : Int) := by
  have hn1 := H.ok.n1
  calc (1 : Int) ≤ 1 * n := by omega
   _ ≤ T * n := Int.mul_le_mul_of_nonneg_right H.t1.1 (by omega)
 refine GJ H.groups (BQ (show ¬ T * (n : Int) = 0 by omega) (GJ H.groups (GJ H.groups (BQ (show ¬ T * (n : Int) = 0 by omega) ?_))))
 obtain ⟨g, hge, hg⟩ := TV a (T * n) a3A htn.2
 simp only [hge]
 have hcs := H.Lc ms (by omega) hv g dead hdl
 rw [if_pos hg] at hcs
 cases hc : G6 L w n r S ms g dead d.toNat with
 | none =>
  rw [hc] at hcs
  refine DN hcs ?_
  exact BQ (show ¬ (11 : Int) = 0 by decide) (AJ rfl (Ev.now _))
 | some p =>
  rw [hc] at hcs
  have hgood := VB L w n r S ms g dead _ p hc
  obtain ⟨hb, hf⟩ := H.chosen ms hv g dead p hc
  replace hcs : Ev (fun k => yV.f k d L T S ms g dead) (p.1, EM (T * r) (Dr ms p.1), 0) := hcs
  generalize EM (T * r) (Dr ms p.1) = c at hb hf hcs
  refine DN hcs ?_
  have hrd : Ha false dead p.1 = false := hgood.1
  refine AJ rfl (BQ (show ¬ p.1 < 0 by omega) (BQ (show ¬ p.1 ≥ (dead.length : Int) by omega) (AJ (show 0 ≤ p.1 by omega) (AJ (show p.1 < (dead.length : Int) by omega) ?_))))
  refine BQ (show ¬ Ha false dead p.1 = true by rw [hrd]; decide) (GJ H.homes ?_)
  simp only []
  rw [decide_eq_false (show ¬ c < T * (r : Int) by omega)]
  have hj0 : ∀ bb : Bool, bb = false → Ev (fun q => yl.j0 q ms dead g bb d L T S p.1 c) true := by
   intro bb hbb
   subst hbb
   refine evs (fun k => by rw [yl.j0]) ?_
   exact BQ (by decide) (H.fits ms hms hv g hg dead hdl p.1 c hb hf hgood.2 _ 0 rfl (Nat.zero_le _))
  exact hj0 _ rfl
end Go.Proofs.Ytjonnfmoocijlaa.P
