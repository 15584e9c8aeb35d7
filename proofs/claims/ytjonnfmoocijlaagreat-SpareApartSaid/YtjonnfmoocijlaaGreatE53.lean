/- Texts of a claim, packed. -/
import Derived.Test.YtjonnfmoocijlaaGreatE46
import Derived.Test.YtjonnfmoocijlaaGreatE52
set_option linter.all false
namespace Go.Proofs.YtjonnfmoocijlaaGreat.P
open Go.RowKit Go.Proofs.YtjonnfmoocijlaaGreatKW.PrintWords
theorem OV : ∀ (D : List Mb),D.Pairwise (fun a b => a.f0 < b.f0) → ∀ y ∈ D,(D.filter fun z => z.f0 == y.f0).length = 1
  | [],_,y,h => by cases h
  | x :: D,hp,y,h => by
    have h1 := List.pairwise_cons.1 hp
    rcases List.mem_cons.1 h with e | h2
    · subst e
      rw [List.filter_cons_of_pos (by simp),List.filter_eq_nil_iff.2 fun z hz => by have := h1.1 z hz;simp;omega]
      rfl
    · have := h1.1 y h2
      rw [List.filter_cons_of_neg (by simp;omega)]
      exact OV D h1.2 y h2
section
variable {d : Int} {L : List (List Int)} {w n r : Nat} {T S : Int} (H : Lo d L w n r T S)
include H
theorem Lo.Yh (ms : List Mv) (hv : VM d L w n r T S ms) (g i : Int) (h0 : 0 ≤ g) (h1 : g < T * n) : 0 ≤ (BN L w n r ms g i).1 ∧ (BN L w n r ms g i).1 < d := by
 obtain ⟨_,hl,hg⟩ := H.PH g h0 h1
 have Yn := H.ok.w1
 unfold BN
 cases hf : ms.find? (F3 g i) with
 | some m =>
  have := H.Yg ms hv m (List.mem_of_find?_eq_some hf)
  exact ⟨this.1,this.2.1⟩
 | none =>
  have hm : (i.toNat + g.toNat / n) % w < (L.getD (g.toNat % n) []).length := by rw [hl];exact Nat.mod_lt _ (by omega)
  show 0 ≤ (Ed L w n r g.toNat i.toNat).1 ∧ (Ed L w n r g.toNat i.toNat).1 < d
  unfold Ed
  simp only
  rw [getD_at _ _ _ hm]
  exact H.ok.rng (L.getD (g.toNat % n) []) (by rw [getD_at _ _ _ hg];exact List.getElem_mem hg) _ (List.getElem_mem hm)
theorem Lo.YL (A : FB d L w n r) (ms : List Mv) (hl : ms.length ≤ 800) (hv : VM d L w n r T S ms) (g : Int) (hg : 0 ≤ g ∧ g < T * n) : ∀ t i : Nat,w - i = t → i ≤ w → ∀ used : List Bool,(used.length : Int) = d →
    (∀ x : Nat,x < d.toNat → (used.getD x false = true ↔ ∃ k : Nat,k < i ∧ (BN L w n r ms g (k : Int)).1 = (x : Int))) → Ev (fun k => yR.l0 k ms g used (i : Int) d L T S) true := by
  have Yn := H.ok.w1
  intro t
  induction t with
  | zero =>
    intro i ht hi
    obtain rfl : i = w := by omega
    intro used hul hu
    refine evs (fun k => by rw [yR.l0]) (GZ H.Gg ?_)
    exact BF (show ¬ (i : Int) < (i : Int) by omega) (Ev.now _)
  | succ t ih =>
    intro i ht hi
    have hiw : i < w := by omega
    have hi0 : (0 : Int) ≤ (i : Int) := Int.natCast_nonneg i
    have hi1 : (i : Int) < (w : Int) := Int.ofNat_lt.2 hiw
    have hnext := ih (i + 1) (by omega) hiw
    rw [← vv i (by omega)] at hnext
    have hsw := H.a2I ms (by omega) hv g (i : Int)
    rw [if_pos ⟨hg.1,hg.2,hi0,hi1⟩] at hsw
    have hr := Yh H ms hv g (i : Int) hg.1 hg.2
    have hone := fun k : Nat => fun hk : k < w => H.PR ms hv g (k : Int) (i : Int) hg ⟨Int.natCast_nonneg k,Int.ofNat_lt.2 hk⟩ ⟨hi0,hi1⟩
    obtain ⟨p,hp⟩ : ∃ p : Nat,(BN L w n r ms g (i : Int)).1 = (p : Int) := ⟨(BN L w n r ms g (i : Int)).1.toNat,by omega⟩
    have hpd : p < d.toNat := by omega
    obtain ⟨k1,k2⟩ := H.KI A ms hv (p : Int) ⟨Int.natCast_nonneg p,by omega⟩
    have hso := H.Ra A ms (by omega) hv (p : Int)
    rw [if_pos ⟨Int.natCast_nonneg p,by omega⟩] at hso
    have hDlen : (He (BZ d L w n r T S ms ((p : Nat) : Int).toNat ++ Cw ms (p : Int))).length ≤ 100000 := by
      have e1 := (K3 (BZ d L w n r T S ms ((p : Nat) : Int).toNat ++ Cw ms (p : Int))).1.length_eq
      have e2 : (BZ d L w n r T S ms ((p : Nat) : Int).toNat).length ≤ 75 := by
        unfold BZ
        refine Nat.le_trans (List.length_filter_le _ _) ?_
        unfold Ef
        rw [List.length_map,List.length_range]
        have := H.tr
        omega
      have e3 : (Cw ms (p : Int)).length ≤ ms.length := by unfold Cw;rw [List.length_map];exact List.length_filter_le _ _
      unfold He
      rw [e1,List.length_append]
      omega
    generalize He (BZ d L w n r T S ms ((p : Nat) : Int).toNat ++ Cw ms (p : Int)) = D at k1 k2 hso hDlen
    have hyD : (⟨g,(i : Int)⟩ : Mb) ∈ D := (k1 _).2 ⟨⟨hg.1,hg.2,hi0,hi1⟩,hp⟩
    have hcount := OV D k2 _ hyD
    have hDi : ∀ z ∈ D,z.f0 = g → z.f1 = (i : Int) := by
      intro z hz he
      obtain ⟨z1,z2⟩ := (k1 z).1 hz
      have := H.PR ms hv g z.f1 (i : Int) hg ⟨z1.2.2.1,z1.2.2.2⟩ ⟨hi0,hi1⟩ (by rw [← he,z2,he,hp])
      exact this
    intro used hul hu
    have hpu : (p : Int) < (used.length : Int) := by omega
    have hrd : Ir false used (p : Int) = false := by
      have : Ir false used (p : Int) = used.getD p false := by unfold Ir;rw [Int.toNat_natCast]
      rw [this,Bool.eq_false_iff]
      intro h
      obtain ⟨k,hk1,hk2⟩ := (hu p hpd).1 h
      have := hone k (by omega) (hk2.trans hp.symm)
      omega
    refine evs (fun k => by rw [yR.l0]) (GZ H.Gg (AA hi1 (Ep hsw (AA rfl ?_))))
    simp only [hp]
    refine BF (show ¬ (p : Int) < 0 by omega) (BF (show ¬ (p : Int) ≥ (used.length : Int) by omega) (AA (Int.natCast_nonneg p) (AA hpu ?_)))
    have hl1 : ∀ t j c : Nat,D.length - j = t → j ≤ D.length → c = ((D.take j).filter fun z => z.f0 == g).length → D.length ≤ 100000 → Ev (fun k => yR.l1 k ms g (used.set p true) (i : Int) D 0 (c : Int) (j : Int) d L T S) true := by
      intro t
      induction t with
      | zero =>
        intro j c ht hj hc hlen
        have hje : D.length ≤ j := by omega
        rw [List.take_of_length_le hje,hcount] at hc
        subst hc
        refine evs (fun k => by rw [yR.l1]) ?_
        refine BF (show ¬ (j : Int) < (D.length : Int) by omega) (AA rfl (AA rfl ?_))
        refine hnext (used.set p true) (by rw [List.length_set];exact hul) fun x hx => ?_
        rw [List.getD_eq_getElem?_getD,List.getElem?_set]
        by_cases e : p = x
        · subst e
          rw [if_pos rfl,if_pos (by omega)]
          exact ⟨fun _ => ⟨i,Nat.lt_succ_self i,hp⟩,fun _ => rfl⟩
        · rw [if_neg e,← List.getD_eq_getElem?_getD,hu x hx]
          constructor
          · rintro ⟨k,h1,h2⟩
            exact ⟨k,Nat.lt_succ_of_lt h1,h2⟩
          · rintro ⟨k,h1,h2⟩
            rcases Nat.lt_or_ge k i with h3 | h3
            · exact ⟨k,h3,h2⟩
            · have h4 : k = i := by omega
              subst h4
              rw [hp] at h2
              exact absurd (Int.ofNat_inj.1 h2) e
      | succ t ih2 =>
        intro j c ht hj hc hlen
        have hlt : j < D.length := by omega
        have hcj : c ≤ j := by
          rw [hc]
          have := List.length_filter_le (fun z : Mb => z.f0 == g) (D.take j)
          rw [List.length_take] at this
          omega
        have htk : (D.take (j + 1)).filter (fun z => z.f0 == g) = (D.take j).filter (fun z => z.f0 == g) ++ [D[j]].filter (fun z => z.f0 == g) := by rw [List.take_succ_eq_append_getElem hlt,List.filter_append]
        refine evs (fun k => by rw [yR.l1]) (AA (Int.ofNat_lt.2 hlt) (AA (Int.natCast_nonneg j) ?_))
        rw [XA D j hlt]
        by_cases c1 : D[j].f0 = g
        · have hs := ih2 (j + 1) (c + 1) (by omega) hlt (by rw [htk,List.filter_cons_of_pos (by simpa using c1),List.length_append,← hc];rfl) hlen
          rw [← vv j (by omega),← vv c (by omega)] at hs
          exact AA c1 (AA (hDi _ (List.getElem_mem hlt) c1) hs)
        · have hs := ih2 (j + 1) c (by omega) hlt (by rw [htk,List.filter_cons_of_neg (by simpa using c1),List.filter_nil,List.append_nil,← hc]) hlen
          rw [← vv j (by omega)] at hs
          exact BF c1 hs
    have hj1 : ∀ bb : Bool,bb = false → Ev (fun k => yR.j1 k ms g used (i : Int) bb d L T S (p : Int) (BN L w n r ms g (i : Int)).2) true := by
      intro bb hbb
      subst hbb
      refine evs (fun k => by rw [yR.j1]) ?_
      refine BF (by decide) (AA (Int.natCast_nonneg p) (AA hpu (Ep hso ?_)))
      rw [Int.toNat_natCast]
      exact hl1 _ 0 0 rfl (Nat.zero_le _) rfl hDlen
    exact hj1 _ hrd
end
theorem Oj (x : Int) (raw : List Int) (y : Int) (h0 : 0 ≤ x) (h1 : x < 65536) (hraw : ∀ b ∈ raw,0 ≤ b ∧ b < 256) (hy0 : 0 ≤ y) (hy1 : y < 65536) : Ev (fun k => yR.f k x raw y) true := by
 unfold yR.f
 refine Ep Q8 (AA rfl ?_)
 by_cases hl : (raw.length : Int) > 20
 · exact AA hl (Ev.now _)
 refine BF hl ?_
 obtain ⟨d,L,w,n,r,T,S,hs,H,A⟩ := R9 x h0 h1
 refine Ep hs ?_
 obtain ⟨ms,hm,hv,hml⟩ := H.XB raw hraw (by omega)
 have hd1 := H.ok.d1
 have a4Y : 1 ≤ T * (n : Int) := by
  have hn1 := H.ok.n1
  calc (1 : Int) ≤ 1 * n := by omega
   _ ≤ T * n := Int.mul_le_mul_of_nonneg_right H.t1.1 (by omega)
 refine Ep hm (GZ H.groups (BF (show ¬ T * (n : Int) = 0 by omega) (AA (show (0 : Int) ≤ d by omega) (AA (show d.toNat ≤ 281474976710656 by omega) ?_))))
 have e1 : Int.tmod (wrap64 y) (T * (n : Int)) = y % (T * n) := by rw [ww (by omega) (by omega),Int.tmod_eq_emod_of_nonneg hy0]
 rw [e1]
 refine H.YL A ms (by omega) hv _ ⟨Int.emod_nonneg _ (by omega),Int.emod_lt_of_pos _ (by omega)⟩ _ 0 rfl (Nat.zero_le _) _ (by rw [List.length_replicate];omega) fun x hx => ?_
 rw [List.getD_eq_getElem?_getD,List.getElem?_replicate,if_pos hx]
 exact ⟨fun h => (by cases h),fun ⟨k,h,_⟩ => absurd h (Nat.not_lt_zero k)⟩
end Go.Proofs.YtjonnfmoocijlaaGreat.P
