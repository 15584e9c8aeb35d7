/- Texts of a claim, packed. -/
import Derived.Test.YtjonnfmoocijlaaGreatE46
import Derived.Test.YtjonnfmoocijlaaGreatE48
set_option linter.all false
namespace Go.Proofs.YtjonnfmoocijlaaGreat.P
open Go.RowKit Go.Proofs.YtjonnfmoocijlaaGreatKW.PrintWords
abbrev Pr := KX
theorem a5h (l : List Pr) (i : Nat) (h : i < l.length) : Hq l (i : Int) = l[i] := by unfold Hq;rw [Int.toNat_natCast,getD_at _ _ _ h]
def toM (p : Pr) : Mb := ⟨p.f0,p.f1⟩
def onG (L : List (List Int)) (w n r : Nat) (ms : List Mv) (x : Int) (g : Nat) : List Pr := ((List.range w).filter fun i : Nat => (BN L w n r ms (g : Int) (i : Int)).1 == x).map fun i : Nat => ⟨(g : Int),(i : Int)⟩
def Rw (L : List (List Int)) (w n r : Nat) (ms : List Mv) (x : Int) (G : Nat) : List Pr := (List.range G).flatMap (onG L w n r ms x)
theorem QZ (L : List (List Int)) (w n r : Nat) (ms : List Mv) (x : Int) (G : Nat) : Rw L w n r ms x (G + 1) = Rw L w n r ms x G ++ onG L w n r ms x G := by
 unfold Rw
 rw [List.range_succ,List.flatMap_append]
 simp
theorem Zl (L : List (List Int)) (w n r : Nat) (ms : List Mv) (x : Int) (g : Nat) : (onG L w n r ms x g).length ≤ w := by
 unfold onG
 rw [List.length_map]
 have := List.length_filter_le (fun i : Nat => (BN L w n r ms (g : Int) (i : Int)).1 == x) (List.range w)
 rw [List.length_range] at this
 exact this
theorem PQ (L : List (List Int)) (w n r : Nat) (ms : List Mv) (x : Int) : ∀ G,(Rw L w n r ms x G).length ≤ G * w
 | 0 => Nat.zero_le _
 | G + 1 => by
  rw [QZ,List.length_append,Nat.succ_mul]
  exact Nat.add_le_add (PQ L w n r ms x G) (Zl L w n r ms x G)
section
variable {d : Int} {L : List (List Int)} {w n r : Nat} {T S : Int} (H : Lo d L w n r T S)
include H
theorem Lo.a6p (ms : List Mv) (hl : ms.length ≤ 1000) (x : Int) : Ev (fun k => zW.f k d L T S ms x) (Rw L w n r ms x (T * (n : Int)).toNat) := by
  have htn := H.tn
  have Yn := H.ok.w1
  have hG : (T * (n : Int)).toNat ≤ 105 := by omega
  have hl0 : ∀ t g : Nat,(T * (n : Int)).toNat - g = t → g ≤ (T * (n : Int)).toNat → Ev (fun k => zW.l0 k ms x (Rw L w n r ms x g) (g : Int) d L T S) (Rw L w n r ms x (T * (n : Int)).toNat) := by
    intro t
    induction t with
    | zero =>
      intro g ht hg
      obtain rfl : g = (T * (n : Int)).toNat := by omega
      refine evs (fun k => by rw [zW.l0]) (GZ H.groups ?_)
      exact BF (show ¬ (((T * (n : Int)).toNat : Nat) : Int) < T * n by omega) (Ev.now _)
    | succ t ih =>
      intro g ht hg
      have hlt : g < (T * (n : Int)).toNat := by omega
      have hg0 : (0 : Int) ≤ (g : Int) := Int.natCast_nonneg g
      have hg1 : (g : Int) < T * n := by omega
      have hstep := ih (g + 1) (by omega) hlt
      have hrl := PQ L w n r ms x g
      have hgw : g * w ≤ 105 * 5 := Nat.mul_le_mul (by omega) Yn.2
      rw [← vv g (by omega),QZ] at hstep
      refine evs (fun k => by rw [zW.l0]) (GZ H.groups (AA hg1 ?_))
      have hl1 : ∀ t i : Nat,w - i = t → i ≤ w → Ev (fun k => zW.l1 k ms x (Rw L w n r ms x g ++ ((List.range i).filter fun i : Nat => (BN L w n r ms (g : Int) (i : Int)).1 == x).map fun i : Nat => (⟨(g : Int),(i : Int)⟩ : Pr)) (g : Int) (i : Int) d L T S) (Rw L w n r ms x (T * (n : Int)).toNat) := by
        intro t
        induction t with
        | zero =>
          intro i ht hi
          obtain rfl : i = w := by omega
          refine evs (fun k => by rw [zW.l1]) (GZ H.Gg ?_)
          exact BF (show ¬ (i : Int) < (i : Int) by omega) hstep
        | succ t ih2 =>
          intro i ht hi
          have hiw : i < w := by omega
          have hi0 : (0 : Int) ≤ (i : Int) := Int.natCast_nonneg i
          have hi1 : (i : Int) < (w : Int) := Int.ofNat_lt.2 hiw
          have hnext := ih2 (i + 1) (by omega) hiw
          rw [← vv i (by omega),List.range_succ,List.filter_append,List.map_append] at hnext
          have hfl : (Rw L w n r ms x g ++ ((List.range i).filter fun i : Nat => (BN L w n r ms (g : Int) (i : Int)).1 == x).map fun i : Nat => (⟨(g : Int),(i : Int)⟩ : Pr)).length < 8796093022208 := by
            rw [List.length_append,List.length_map]
            have := List.length_filter_le (fun i : Nat => (BN L w n r ms (g : Int) (i : Int)).1 == x) (List.range i)
            rw [List.length_range] at this
            omega
          refine evs (fun k => by rw [zW.l1]) (GZ H.Gg (AA hi1 (Ep (H.Q0 ms hl (g : Int) (i : Int) hg0 hg1 hi0 hi1) ?_)))
          by_cases c : (BN L w n r ms (g : Int) (i : Int)).1 = x
          · rw [List.filter_cons_of_pos (by simpa using c),List.filter_nil,List.map_singleton,← List.append_assoc] at hnext
            exact AA c (AA hfl hnext)
          · rw [List.filter_cons_of_neg (by simpa using c),List.filter_nil,List.map_nil,List.append_nil] at hnext
            exact BF c hnext
      have := hl1 _ 0 rfl (Nat.zero_le _)
      rw [List.range_zero,List.filter_nil,List.map_nil,List.append_nil] at this
      exact this
  exact hl0 _ 0 rfl (Nat.zero_le _)
theorem Lo.XE (ms : List Mv) (hv : VM d L w n r T S ms) (x : Int) :
    (∀ y,y ∈ (Rw L w n r ms x (T * (n : Int)).toNat).map toM ↔ (0 ≤ y.f0 ∧ y.f0 < T * n ∧ 0 ≤ y.f1 ∧ y.f1 < (w : Int)) ∧ (BN L w n r ms y.f0 y.f1).1 = x) ∧
    ((Rw L w n r ms x (T * (n : Int)).toNat).map toM).Pairwise fun a b => a.f0 < b.f0 := by
  have htn := H.tn
  constructor
  · intro y
    rw [List.mem_map]
    constructor
    · rintro ⟨p,hp,rfl⟩
      unfold Rw at hp
      obtain ⟨g,hg,hp⟩ := List.mem_flatMap.1 hp
      have hg' := List.mem_range.1 hg
      unfold onG at hp
      obtain ⟨i,hi,rfl⟩ := List.mem_map.1 hp
      obtain ⟨h1,h2⟩ := List.mem_filter.1 hi
      have hi' := List.mem_range.1 h1
      exact ⟨⟨Int.natCast_nonneg g,by show (g : Int) < T * n;omega,Int.natCast_nonneg i,Int.ofNat_lt.2 hi'⟩,beq_iff_eq.1 h2⟩
    · rintro ⟨⟨h1,h2,h3,h4⟩,h5⟩
      refine ⟨⟨y.f0,y.f1⟩,?_,rfl⟩
      unfold Rw
      refine List.mem_flatMap.2 ⟨y.f0.toNat,List.mem_range.2 (show y.f0.toNat < (T * (n : Int)).toNat by omega),?_⟩
      unfold onG
      refine List.mem_map.2 ⟨y.f1.toNat,List.mem_filter.2 ⟨List.mem_range.2 (show y.f1.toNat < w by omega),?_⟩,?_⟩
      · rw [Int.toNat_of_nonneg h1,Int.toNat_of_nonneg h3]
        simpa using h5
      · rw [Int.toNat_of_nonneg h1,Int.toNat_of_nonneg h3]
  · rw [List.pairwise_map]
    unfold Rw
    rw [List.pairwise_flatMap]
    constructor
    · intro g hg
      have hg' := List.mem_range.1 hg
      unfold onG
      rw [List.pairwise_map]
      have hp : ((List.range w).filter fun i : Nat => (BN L w n r ms (g : Int) (i : Int)).1 == x).Pairwise (· < ·) := List.Pairwise.sublist List.filter_sublist List.pairwise_lt_range
      refine List.Pairwise.imp_of_mem ?_ hp
      intro a b ha hb hab
      obtain ⟨a1,a2⟩ := List.mem_filter.1 ha
      obtain ⟨b1,b2⟩ := List.mem_filter.1 hb
      have a3 := List.mem_range.1 a1
      have b3 := List.mem_range.1 b1
      have := H.PR ms hv (g : Int) (a : Int) (b : Int) ⟨Int.natCast_nonneg g,by omega⟩ ⟨Int.natCast_nonneg a,Int.ofNat_lt.2 a3⟩ ⟨Int.natCast_nonneg b,Int.ofNat_lt.2 b3⟩ (by
        have e1 := beq_iff_eq.1 a2
        have e2 := beq_iff_eq.1 b2
        exact e1.trans e2.symm)
      omega
    · refine List.Pairwise.imp ?_ List.pairwise_lt_range
      intro a b hab p hp q hq
      unfold onG at hp hq
      obtain ⟨i,_,rfl⟩ := List.mem_map.1 hp
      obtain ⟨j,_,rfl⟩ := List.mem_map.1 hq
      exact Int.ofNat_lt.2 hab
theorem Lo.XJ (ms : List Mv) (hl : ms.length ≤ 1000) (hv : VM d L w n r T S ms) (x : Int) : Ev (fun k => D6.f k d L T S ms x) (if 0 ≤ x ∧ x < d then (DR ms x,0) else ([],2)) := by
  unfold D6.f
  refine Ep (H.check ms hl) ?_
  rw [if_pos hv]
  refine AA rfl ?_
  by_cases c1 : x < 0
  · refine AA c1 ?_
    rw [if_neg (by omega)]
    exact Ev.now _
  refine BF c1 ?_
  by_cases c2 : x ≥ d
  · refine AA c2 ?_
    rw [if_neg (by omega)]
    exact Ev.now _
  refine BF c2 ?_
  rw [if_pos ⟨by omega,by omega⟩]
  exact Ep (KR ms hl _ _ _ _ _ _ _) (Ev.now _)
end
theorem NU (x : Int) (raw : List Int) (y : Int) (h0 : 0 ≤ x) (h1 : x < 65536) (hraw : ∀ b ∈ raw,0 ≤ b ∧ b < 256) : Ev (fun k => yQ.f k x raw y) true := by
  unfold yQ.f
  refine Ep Q8 (AA rfl ?_)
  by_cases hl : (raw.length : Int) > 20
  · exact AA hl (Ev.now _)
  refine BF hl ?_
  obtain ⟨d,L,w,n,r,T,S,hs,H,A⟩ := R9 x h0 h1
  refine Ep hs ?_
  obtain ⟨ms,hm,hv,hml⟩ := H.XB raw hraw (by omega)
  refine Ep hm ?_
  have hms : ms.length ≤ 800 := by omega
  have hso := H.Ra A ms (by omega) hv y
  have hsu := H.XJ ms (by omega) hv y
  by_cases hin : 0 ≤ y ∧ y < d
  · rw [if_pos hin] at hso hsu
    refine Ep hso (Ep hsu (BF (show ¬ y < 0 by omega) ?_))
    have hj0 : ∀ bb : Bool,bb = false → Ev (fun k => yQ.j0 k y ms (He (BZ d L w n r T S ms y.toNat ++ Cw ms y)) 0 (DR ms y) 0 bb d L T S) true := by
      intro bb hbb
      subst hbb
      obtain ⟨k1,k2⟩ := H.KI A ms hv y hin
      obtain ⟨m1,m2⟩ := H.XE ms hv y
      have he := KH _ _ k2 m2 fun z => (k1 z).trans (m1 z).symm
      have hur := H.a1d ms (by omega) hv.1.blocks y
      have hul := Jw y ms
      have hon := H.a6p ms (by omega) y
      have hrl := PQ L w n r ms y (T * (n : Int)).toNat
      have hb : (T * (n : Int)).toNat * w ≤ 105 * 5 := Nat.mul_le_mul (by have := H.tn;omega) H.ok.w1.2
      rw [he]
      generalize Rw L w n r ms y (T * (n : Int)).toNat = P at hon hrl
      refine evs (fun k => by rw [yQ.j0]) ?_
      refine BF (by decide) (Ep hon (AA rfl (AA rfl (AA (by rw [List.length_map]) (Ep hur (Ep (Mc (DR ms y) (by omega)) ?_))))))
      have hl0 : ∀ t j : Nat,P.length - j = t → j ≤ P.length → Ev (fun k => yQ.l0 k (P.map toM) P (j : Int)) true := by
        intro t
        induction t with
        | zero =>
          intro j ht hj
          have hje : ¬ (j : Int) < ((P.map toM).length : Int) := by rw [List.length_map];omega
          exact evs (fun k => by rw [yQ.l0]) (BF hje (Ev.now _))
        | succ t ih =>
          intro j ht hj
          have hlt : j < P.length := by omega
          have hlt2 : j < (P.map toM).length := by rw [List.length_map];exact hlt
          have hstep := ih (j + 1) (by omega) hlt
          rw [← vv j (by omega)] at hstep
          refine evs (fun k => by rw [yQ.l0]) (AA (Int.ofNat_lt.2 hlt2) (AA (Int.natCast_nonneg j) (AA (Int.ofNat_lt.2 hlt) ?_)))
          rw [XA _ j hlt2,a5h P j hlt,List.getElem_map]
          exact AA rfl (AA rfl hstep)
      have hj1 : ∀ bb : Bool,bb = false → Ev (fun k => yQ.j1 k (P.map toM) P bb) true := by
        intro bb hbb
        subst hbb
        refine evs (fun k => by rw [yQ.j1]) ?_
        exact BF (by decide) (hl0 _ 0 rfl (Nat.zero_le _))
      exact hj1 _ rfl
    exact hj0 _ (decide_eq_false (by omega))
  · rw [if_neg hin] at hso hsu
    have hj0 : ∀ bb : Bool,bb = true → Ev (fun k => yQ.j0 k y ms [] 2 [] 2 bb d L T S) true := by
      intro bb hbb
      subst hbb
      refine evs (fun k => by rw [yQ.j0]) ?_
      exact AA rfl (AA rfl (AA rfl (AA rfl (AA rfl (Ev.now _)))))
    refine Ep hso (Ep hsu ?_)
    by_cases c : y < 0
    · exact AA c (hj0 _ rfl)
    · exact BF c (hj0 _ (decide_eq_true (by omega)))
end Go.Proofs.YtjonnfmoocijlaaGreat.P
