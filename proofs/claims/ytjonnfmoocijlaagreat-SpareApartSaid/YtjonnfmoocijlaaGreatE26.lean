/- Texts of a claim, packed. -/
import Derived.Test.YtjonnfmoocijlaaGreatE25
set_option linter.all false
namespace Go.Proofs.YtjonnfmoocijlaaGreat.P
open Go.RowKit Go.Proofs.YtjonnfmoocijlaaGreatKW.PrintWords
theorem O8 (l : List Int) : (Lib.compact (sorted l)).length = l.length ↔ l.Nodup := by
  have hp := sorted_perm l
  have hs := Ib l
  rw [← hp.length_eq,← hp.nodup_iff]
  generalize sorted l = s at hs
  have hat : ∀ j (h : j < s.length),s.toArray[j]! = s[j] := fun j h => by simp [h]
  constructor
  · intro h
    have h1 : ∀ j,j < s.length → Lib.keeps s.toArray j = true := by
      have h2 : ((List.range s.length).filter (Lib.keeps s.toArray)).length = (List.range s.length).length := by
        simp only [Lib.compact,Lib.compactUpTo,List.length_map] at h
        rw [h,List.length_range]
      intro j hj
      exact List.length_filter_eq_length_iff.1 h2 j (List.mem_range.2 hj)
    rw [List.nodup_iff_pairwise_ne,List.pairwise_iff_getElem]
    intro i j hi hj hij he
    have h3 := h1 j hj
    have h4 : s[j - 1]'(by omega) ≤ s[j] := by
      rcases Nat.lt_or_ge (j - 1) j with h5 | h5
      · exact (List.pairwise_iff_getElem.1 hs) (j - 1) j (by omega) hj h5
      · omega
    have h6 : s[i] ≤ s[j - 1]'(by omega) := by
      rcases Nat.lt_or_ge i (j - 1) with h5 | h5
      · exact (List.pairwise_iff_getElem.1 hs) i (j - 1) hi (by omega) h5
      · have : i = j - 1 := by omega
        subst this
        exact Int.le_refl _
    have h7 : s[j] = s[j - 1]'(by omega) := by omega
    rw [Lib.keeps_neg (by omega) (by rw [hat j hj,hat (j - 1) (by omega)];exact h7)] at h3
    cases h3
  · intro h
    rw [Lib.compact_all s fun j hj => ?_]
    rcases Nat.eq_zero_or_pos j with rfl | h0
    · exact Lib.keeps_lt_one _ 0 (by omega)
    · refine Lib.keeps_pos ?_
      rw [hat j hj,hat (j - 1) (by omega)]
      rw [List.nodup_iff_pairwise_ne,List.pairwise_iff_getElem] at h
      exact fun e => h (j - 1) j (by omega) hj (by omega) e.symm
def Hf (d : Int) (w : Nat) (tn h b : Int) (ms : List Mv) (i : Nat) : Prop :=
 let m := ms.getD i z60
 (0 ≤ m.f0 ∧ m.f0 < tn ∧ 0 ≤ m.f1 ∧ m.f1 < (w : Int)) ∧ (0 < i → Ahead (ms.getD (i - 1) z60) m.f0 m.f1) ∧ (0 ≤ m.f2.f0 ∧ m.f2.f0 < d ∧ h ≤ m.f2.f1 ∧ m.f2.f1 < b) ∧ ∀ x ∈ ms.take i,Es m.f2 x.f2 = false
instance (d : Int) (w : Nat) (tn h b : Int) (ms : List Mv) (i : Nat) : Decidable (Hf d w tn h b ms i) := by unfold Hf;infer_instance
def DY (d : Int) (w : Nat) (tn h b : Int) (ms : List Mv) (j : Nat) : Prop := ∀ i,i < ms.length → j ≤ i → Hf d w tn h b ms i
instance (d : Int) (w : Nat) (tn h b : Int) (ms : List Mv) (j : Nat) : Decidable (DY d w tn h b ms j) := by unfold DY;infer_instance
theorem DY.step {d : Int} {w : Nat} {tn h b : Int} {ms : List Mv} {j : Nat} (hk : Hf d w tn h b ms j) : DY d w tn h b ms j ↔ DY d w tn h b ms (j + 1) := by
  refine ⟨fun f i h1 h2 => f i h1 (by omega),fun f i h1 h2 => ?_⟩
  rcases Nat.lt_or_ge j i with h3 | h3
  · exact f i h1 h3
  · obtain rfl : i = j := by omega
    exact hk
theorem DY.sorted {d : Int} {w : Nat} {tn h b : Int} {ms : List Mv} (hk : DY d w tn h b ms 0) : Sorted ms := by
  unfold Sorted
  rw [List.pairwise_iff_getElem]
  intro i j hi hj hij
  induction j with
  | zero => omega
  | succ j ih =>
    have h1 := (hk (j + 1) hj (by omega)).2.1 (by omega)
    simp only [Nat.add_sub_cancel] at h1
    rw [getD_at _ _ _ hj,getD_at _ _ _ (by omega)] at h1
    rcases Nat.lt_or_ge i j with h6 | h6
    · have h7 := ih (by omega) h6
      unfold Ahead at h1 h7 ⊢
      omega
    · obtain rfl : i = j := by omega
      exact h1
theorem DY.OM {d : Int} {w : Nat} {tn h b : Int} {ms : List Mv} (hk : DY d w tn h b ms 0) : Q7 w tn ms := by
 intro m hm
 obtain ⟨i,hi,rfl⟩ := List.getElem_of_mem hm
 have := (hk i hi (by omega)).1
 rwa [getD_at _ _ _ hi] at this
def VM (d : Int) (L : List (List Int)) (w n r : Nat) (T S : Int) (ms : List Mv) : Prop := DY d w (T * n) (T * r) (T * r + S) ms 0 ∧ ∀ m ∈ ms,(Av L w n r ms m.f0).Nodup
instance (d : Int) (L : List (List Int)) (w n r : Nat) (T S : Int) (ms : List Mv) : Decidable (VM d L w n r T S ms) := by unfold VM;infer_instance
section
variable {d : Int} {L : List (List Int)} {w n r : Nat} {T S : Int} (H : Lo d L w n r T S)
include H
theorem Lo.apart (ms : List Mv) (hs : Sorted ms) (hl : ms.length ≤ 1000) (hin : Q7 w (T * n) ms) (a b g : Int) (h0 : 0 ≤ g) (h1 : g < T * n) : Ev (fun k => BO.f k d L T S ms a b g) (decide (Av L w n r ms g).Nodup) := by
 have h5 := H.ok.w1
 have hw : (Av L w n r ms g).length = w := by simp [Av]
 unfold BO.f
 refine Ep (H.a01 ms hs hl hin a b g h0 h1) ?_
 refine GZ (a := sorted (Av L w n r ms g)) (by unfold slices_Sort_int.f;rw [if_pos (by omega)]) ?_
 refine GZ (a := Lib.compact (sorted (Av L w n r ms g))) (by unfold slices_Compact_int.f;rw [if_pos (by rw [Ht];omega)]) ?_
 refine GZ (H.PV ms a b) (Hw ?_)
 have hc := O8 (Av L w n r ms g)
 rw [hw] at hc
 rw [Bool.eq_iff_iff,beq_iff_eq,decide_eq_true_eq,← hc]
 omega
theorem Lo.has (ms : List Mv) (a b g i : Int) : Dy.f d L T S ms a b g i = some (decide (0 ≤ g ∧ g < T * n ∧ 0 ≤ i ∧ i < (w : Int))) := by
  have := H.tn
  unfold Dy.f
  rw [H.PV,H.ok.len,ww (by omega) (by omega)]
  simp only [Option.bind_some]
  by_cases h1 : g ≥ 0
  · rw [if_pos h1]
    by_cases h2 : g < T * n
    · rw [if_pos h2]
      by_cases h3 : i ≥ 0
      · rw [if_pos h3]
        congr 1
        rw [decide_eq_decide]
        omega
      · rw [if_neg h3,decide_eq_false (by omega)]
    · rw [if_neg h2,decide_eq_false (by omega)]
  · rw [if_neg h1,decide_eq_false (by omega)]
theorem R6 (ms : List Mv) (j : Nat) (hj : j < ms.length) : Jf ms (j : Int) = false ↔ ∀ x ∈ ms.take j,Es (ms.getD j z60).f2 x.f2 = false := by
 unfold Jf
 rw [Int.toNat_natCast,G5 ms j hj,getD_at _ _ _ hj,List.any_eq_false]
 simp
theorem Lo.check (ms : List Mv) (hl : ms.length ≤ 1000) : Ev (fun k => yS.f k d L T S ms) (if VM d L w n r T S ms then (d,L,T,S,ms,T * r,T * r + S,true) else (0,[],0,0,[],0,0,false)) := by
  have hr := H.tr
  have hs1 := H.s1
  have hS : wrap64 (T * r + S - S) = T * r := by rw [ww (by omega) (by omega)];omega
  have hl1 : ∀ t j : Nat,ms.length - j = t → j ≤ ms.length → DY d w (T * n) (T * r) (T * r + S) ms 0 → Ev (fun k => yS.l1 k ms (ms.length : Int) (j : Int) d L T S ms (T * r) (T * r + S)) (if ∀ m ∈ ms.drop j,(Av L w n r ms m.f0).Nodup then (d,L,T,S,ms,T * r,T * r + S,true) else (0,[],0,0,[],0,0,false)) := by
    intro t
    induction t with
    | zero =>
      intro j ht hj ha
      refine evs (fun k => by rw [yS.l1]) (BF (by omega) (Hw ?_))
      rw [List.drop_of_length_le (by omega),if_pos (by simp)]
    | succ t ih =>
      intro j ht hj ha
      have hlt : j < ms.length := by omega
      have hm := ha.OM _ (List.getElem_mem hlt)
      refine evs (fun k => by rw [yS.l1]) (AA (by omega) (AA (by omega) (AA (by omega) ?_)))
      rw [G5 ms j hlt]
      refine Ep (H.apart ms ha.sorted hl ha.OM _ _ _ hm.1 hm.2.1) ?_
      rw [List.drop_eq_getElem_cons hlt]
      by_cases c : (Av L w n r ms ms[j].f0).Nodup
      · rw [decide_eq_true c]
        refine AA rfl ?_
        rw [ww (by omega) (by omega),show (j : Int) + 1 = ((j + 1 : Nat) : Int) by omega]
        have := ih (j + 1) (by omega) (by omega) ha
        simp only [List.mem_cons,forall_eq_or_imp,c,true_and]
        exact this
      · rw [decide_eq_false c]
        refine BF (by decide) (Hw ?_)
        rw [if_neg (fun h => c (h _ (List.mem_cons_self ..)))]
  have hl0 : ∀ t j : Nat,ms.length - j = t → j ≤ ms.length → (∀ i,i < j → Hf d w (T * n) (T * r) (T * r + S) ms i) → Ev (fun k => yS.l0 k ms ms (ms.length : Int) (j : Int) d L T S d L T S ms (T * r) (T * r + S)) (if VM d L w n r T S ms then (d,L,T,S,ms,T * r,T * r + S,true) else (0,[],0,0,[],0,0,false)) := by
    intro t
    induction t with
    | zero =>
      intro j ht hj ha
      refine evs (fun k => by rw [yS.l0]) (BF (by omega) ?_)
      have ha' : DY d w (T * n) (T * r) (T * r + S) ms 0 := fun i h1 _ => ha i (by omega)
      have := hl1 _ 0 rfl (Nat.zero_le _) ha'
      rw [List.drop_zero] at this
      unfold VM
      simp only [ha',true_and]
      exact this
    | succ t ih =>
      intro j ht hj ha
      have hlt : j < ms.length := by omega
      have hgd := getD_at ms z60 j hlt
      have hbad : ¬ Hf d w (T * n) (T * r) (T * r + S) ms j → ¬ VM d L w n r T S ms := fun hb h => hb (h.1 j hlt (Nat.zero_le _))
      have hj2 : ∀ bb : Bool,(bb = true → ¬ Hf d w (T * n) (T * r) (T * r + S) ms j) → (bb = false → Hf d w (T * n) (T * r) (T * r + S) ms j) → Ev (fun k => yS.j2 k ms ms (ms.length : Int) (j : Int) bb d L T S d L T S ms (T * r) (T * r + S)) (if VM d L w n r T S ms then (d,L,T,S,ms,T * r,T * r + S,true) else (0,[],0,0,[],0,0,false)) := by
        intro bb h1 h2
        refine evs (fun k => by rw [yS.j2]) ?_
        cases bb with
        | true => exact AA rfl (Hw (by rw [if_neg (hbad (h1 rfl))]))
        | false =>
          refine BF (by decide) ?_
          rw [ww (by omega) (by omega),show (j : Int) + 1 = ((j + 1 : Nat) : Int) by omega]
          refine ih (j + 1) (by omega) (by omega) fun i hi => ?_
          rcases Nat.lt_or_ge i j with h3 | h3
          · exact ha i h3
          · obtain rfl : i = j := by omega
            exact h2 rfl
      have hj1 : ∀ bb : Bool,(0 ≤ ms[j].f0 ∧ ms[j].f0 < T * n ∧ 0 ≤ ms[j].f1 ∧ ms[j].f1 < (w : Int)) → (bb = true → ¬ Hf d w (T * n) (T * r) (T * r + S) ms j) → (bb = false → (0 < j → Ahead (ms.getD (j - 1) z60) ms[j].f0 ms[j].f1)) →
          Ev (fun k => yS.j1 k ms ms (ms.length : Int) (j : Int) bb d L T S d L T S ms (T * r) (T * r + S) ms[j].f0 ms[j].f1 ms[j].f2.f0 ms[j].f2.f1) (if VM d L w n r T S ms then (d,L,T,S,ms,T * r,T * r + S,true) else (0,[],0,0,[],0,0,false)) := by
        intro bb h0 h1 h2
        refine evs (fun k => by rw [yS.j1]) ?_
        cases bb with
        | true => exact AA rfl (Hw (by rw [if_neg (hbad (h1 rfl))]))
        | false =>
          refine BF (by decide) ?_
          have hno : ¬ (0 ≤ ms[j].f2.f0 ∧ ms[j].f2.f0 < d ∧ T * r ≤ ms[j].f2.f1 ∧ ms[j].f2.f1 < T * r + S) → ¬ Hf d w (T * n) (T * r) (T * r + S) ms j := fun h1 h2 => by
            have := h2.2.2.1
            rw [hgd] at this
            exact h1 this
          by_cases c1 : ms[j].f2.f0 < 0
          · exact AA c1 (hj2 true (fun _ => hno (by omega)) (by simp))
          refine BF c1 ?_
          by_cases c2 : ms[j].f2.f0 ≥ d
          · exact AA c2 (hj2 true (fun _ => hno (by omega)) (by simp))
          refine BF c2 ?_
          by_cases c3 : ms[j].f2.f1 < T * r
          · exact AA c3 (hj2 true (fun _ => hno (by omega)) (by simp))
          refine BF c3 ?_
          by_cases c4 : ms[j].f2.f1 ≥ T * r + S
          · exact AA c4 (hj2 true (fun _ => hno (by omega)) (by simp))
          refine BF c4 (hj2 _ (fun hb hm => ?_) fun hb => ?_)
          · have := (R6 H ms j hlt).2 hm.2.2.2
            rw [hb] at this
            cases this
          · have h4 := (R6 H ms j hlt).1 hb
            refine ⟨?_,?_,?_,h4⟩
            · rw [hgd];exact h0
            · rw [hgd];exact h2 rfl
            · rw [hgd];omega
      refine evs (fun k => by rw [yS.l0]) (AA (by omega) (AA (by omega) (AA (by omega) (GZ (H.has ms _ _ _ _) ?_))))
      rw [G5 ms j hlt]
      by_cases c : 0 ≤ ms[j].f0 ∧ ms[j].f0 < T * n ∧ 0 ≤ ms[j].f1 ∧ ms[j].f1 < (w : Int)
      · rw [decide_eq_true c]
        refine AA rfl ?_
        rcases Nat.eq_zero_or_pos j with hz | hz
        · refine BF (by omega) (hj1 false c (by simp) (fun _ h => by omega))
        · refine AA (by omega) ?_
          rw [ww (x := (j : Int) - 1) (by omega) (by omega),show (j : Int) - 1 = ((j - 1 : Nat) : Int) by omega]
          refine AA (by omega) (AA (by omega) (Ep (NN _ _ _ _ _ _) ?_))
          rw [G5 ms (j - 1) (by omega)]
          have hgd' := getD_at ms z60 (j - 1) (by omega)
          refine hj1 _ c (fun hb hm => ?_) fun hb _ => ?_
          · have h3 := hm.2.1 hz
            rw [hgd,hgd'] at h3
            have := (KJ _ _ _).2 h3
            have := of_decide_eq_true hb
            omega
          · rw [hgd']
            refine (KJ _ _ _).1 ?_
            have := of_decide_eq_false hb
            omega
      · rw [decide_eq_false c]
        refine BF (by decide) (Hw ?_)
        rw [if_neg (hbad fun h => c (by have := h.1;rwa [hgd] at this))]
  unfold yS.f
  refine Ep H.PN (BF (by omega) ?_)
  rw [hS]
  have := hl0 _ 0 rfl (Nat.zero_le _) (fun i hi => by omega)
  exact this
end
end Go.Proofs.YtjonnfmoocijlaaGreat.P
namespace Go.Proofs.YtjonnfmoocijlaaGreat.P
open Go.RowKit Go.Proofs.YtjonnfmoocijlaaGreatKW.PrintWords Go.Proofs.YtjonnfmoocijlaaGreatKW.PrintLast Go.Proofs.YtjonnfmoocijlaaGreatKW.PrintMore
attribute [local go_sem] zN zP Af Ag zz zA zO zQ
def zR.l0 : Nat → Int → List Int → List (AP) → Int → Int → Option (List Int)
 | 0,_,_,_,_,_ => none
 | k + 1,x1,x5,x9,EU,DX => if DX < EU then (if 0 ≤ DX then (if DX < (x9.length : Int) then (if ((yh x9 DX).f2.f0) = x1 then (if x5.length < 17592186044416 then (zR.l0 k x1 (x5 ++ [(yh x9 DX).f2.f1]) x9 EU (wrap64 (DX + 1))) else (none)) else (zR.l0 k x1 x5 x9 EU (wrap64 (DX + 1)))) else (none)) else (none)) else ((slices_Sort_int.f x5).bind fun t210 => (some t210))
def zR.f (k : Nat) (yj : Int) (yg : List (List Int)) (ym : Int) (yn : Int) (Aj : List (AP)) (Au : Int) (Ah : Int) (a1 : Int) : Option (List Int) := zR.l0 k a1 ([] : List Int) Aj (Aj.length : Int) 0
set_option maxHeartbeats 8000000 in
set_option maxRecDepth 100000 in
theorem zR.calls (k : Nat) (yj : Int) (yK : Option Addr) (yE : Nat) (yg : List (List Int)) (ym : Int) (yn : Int) (Eg : Option Addr) (Ea : Nat) (Aj : List (AP)) (Au : Int) (Ah : Int) (a1 : Int) (r : List Int) (w : World) (zS : Kd.C (Kd.slice 3 (Kd.int .i64)) w yK yg.length yg) (zT : yg.length ≤ yE) (FZ : Kd.C DN w Eg Aj.length Aj) (FY : Aj.length ≤ Ea) (h : zR.f k yj yg ym yn Aj Au Ah a1 = some r) :
  Calls Tryz.prog 29 #[.agg #[.int .i64 yj,.slice yK yg.length yE,.int .i64 ym,.int .i64 yn,.slice Eg Aj.length Ea,.int .i64 Au,.int .i64 Ah],.int .i64 a1] w fun e w' => ∃ G7 : Value,e = .returned (G7) ∧ Kd.R (Kd.int .i64) 3 w' w.heap.size (fun _ => True) G7 r ∧ Below w.heap.size w w' := by
 have Mq := Tryz.underlying65;have Ob := Tryz.underlying60;have zk := yf.mk zS;have zq := yf.mk zT;clear zS zT;have Fa := yf.mk FZ;have Hy := yf.mk FY;clear FZ FY;have HB := yf.mk (Below.refl w.heap.size w)
 have H : (zR.l0 k a1 ([] : List Int) Aj (Aj.length : Int) 0) = some r := h
 clear h;have H' := yf.mk H;clear H
 go_enter Tryz.func29,Tryz.ntmps29
 go_wp2_with (((with_reducible refine yG (N := 2) rfl ?_);refine yD rfl (N := 2) rfl (cs := #[.int .i64 yj,.slice yK yg.length yE,.int .i64 ym,.int .i64 yn,.slice Eg Aj.length Ea,.int .i64 Au,.int .i64 Ah]) (t := 65) (by go_simp) ?_;intro aC hg w3 yI hb;have aa := yf.mk (yI);have aN := bG (w := w) hg;have aM := bG (w := w) hg;replace HB := bS HB hb;clear hb yI hg;have SG := Fy aa;have SH := bf aa))
 go_loopg [5,11] k (fun kq v5 v11 w' => ∃ (yP : List Int) (Ae : Int),v11 = .int .i64 Ae ∧ yf (zR.l0 kq a1 yP Aj (Aj.length : Int) Ae = some r) ∧ yf (kq ≤ k) ∧ yf (Kd.R (Kd.int .i64) 3 w' w.heap.size (fun _ => True) v5 yP) ∧ yf (w'.heap[aC]? = some (.cells #[.int .i64 yj,(.slice yK yg.length yE),.int .i64 ym,.int .i64 yn,(.slice Eg Aj.length Ea),.int .i64 Au,.int .i64 Ah] 65 (0,0))) ∧ yf (Below w.heap.size w w'))
 case atStart => exact ⟨(([] : List Int)),(0),(by rfl),H',⟨Nat.le_refl _⟩,⟨by exact Kd.Dc _ _ _ _ _⟩,⟨kk aa⟩,⟨bO HB⟩⟩
 case round =>
 clear H' SG SH;obtain ⟨yP,Ae,rfl,HA,Bn,Bo,aa,HB⟩ := hrel
 cases gk with
 | zero => exact absurd HA.out (by simp [zR.l0])
 | succ k1 =>
 have H := HA.out;clear HA;simp only [zR.l0] at H
 by_cases c5 : Ae < (Aj.length : Int)
 rotate_left
 ·
  rw [if_neg c5] at H;have ES := decide_eq_false c5;clear c5;obtain ⟨t210,A17,H⟩ := bE H
  try dsimp only at H
  obtain rfl := Option.some.inj H;obtain ⟨EW,EE,Sq⟩ := Kd.zB Bo.out;subst Sq
  go_wp2_with (((with_reducible refine yz (f := 57) rfl ?_);refine gL (some 28) Tryz.func57 #[.slice EW yP.length EE] ?_;(with_reducible refine (slices_Sort_int.calls (fun k_ => some k_ = (.slice EW yP.length EE : Value).ownBlock) (.slice EW yP.length EE) yP t210 w _ ?yB ?yC A17.out).mono ?_);(case yB => repeat ((with_reducible exact HB.out)));(case yC => exact Kd.Gm rfl Bo.out);rintro e w19 ⟨rfl,hy0,hb,hkp⟩;refine ⟨_,rfl,?_⟩;have BR := yf.mk (Kd.RN rfl hy0 (fun k_ e_ => Bo.out.1 k_ e_));have BS := yf.mk (EC (kk aa) hkp (fun hs_ => (fun e_ => (Kd.DC Bo.out aa.out (by decide)) e_) hs_));have Ce := yf.mk (hb);clear Bo;clear aa;clear HB;have Bo := BR;have aa := BS;have HB := Ce;clear BR BS Ce;clear hb;clear hkp;clear hy0))
  go_ret
  exact ⟨_,by rfl,by (with_reducible repeat (apply Kd.zg));exact Bo.out,bO HB⟩
 rw [if_pos c5] at H;have ES := decide_eq_true c5;clear c5
 by_cases c6 : 0 ≤ Ae
 rotate_left
 ·
  rw [if_neg c6] at H;exact absurd H (by simp)
 rw [if_pos c6] at H;have Eu := decide_eq_true c6;clear c6
 by_cases c7 : Ae < (Aj.length : Int)
 rotate_left
 ·
  rw [if_neg c7] at H;exact absurd H (by simp)
 rw [if_pos c7] at H;have GL := decide_eq_true c7;clear c7
 by_cases c8 : ((yh Aj Ae).f2.f0) = a1
 rotate_left
 ·
  rw [if_neg c8] at H;have GN := beq_eq_false_iff_ne.mpr c8;have Nk := bne_iff_ne.mpr c8;have H' := yf.mk H;clear H
  have af : 0 ≤ (Ae : Int) := of_decide_eq_true ‹_›
  have ag : Ae < (Aj.length : Int) := of_decide_eq_true ‹_›
  obtain ⟨aA,ay,ah,ai,aj,ak⟩ := Ck Fa.out Ae af ag;cases ay;replace ah := cB HB ah;replace ai := cB HB ai;replace aj := cB HB aj;replace ak := cB HB ak;replace af := eq_true af;replace ag := eq_true ag
  go_wp2_with (((with_reducible refine yG (N := 7) rfl ?_);refine yD rfl (N := 7) rfl (cs := #[.int .i64 0,.int .i64 0,.int .i64 0,.int .i64 0]) (t := 60) (by go_simp) ?_;intro au hg w14 yI hb;have ae := yf.mk (yI);have aH := bG (w := w) hg;have aG := bG (w := w) hg;have av := Cq aa hg;have ax := Aq aa hg;replace Bo := CR Bo hb;replace aa := bB aa hb;replace HB := bS HB hb;clear hb yI hg;have X0 := ax.out;have Xf := av.out;have IA := AO ae;have IE := bf ae))
  go_roundg k1
  case measure => have := Bn.out;omega
  case rel => exact ⟨(yP),(wrap64 (Ae + 1)),(by rfl),H',⟨by have := Bn.out;omega⟩,⟨by (with_reducible repeat (apply Kd.zg));exact Kd.zf (GG (g := au) (Kd.Bw Bo.out ae.out (by decide)) (fun _ hk => hk.2)) (fun _ hk => trivial)⟩,bK aa rfl,⟨bO HB⟩⟩
 rw [if_pos c8] at H;have GN := beq_iff_eq.mpr c8
 have Nk : (((yh Aj Ae).f2.f0) != a1) = false := bne_eq_false_iff_eq.mpr c8
 clear c8
 by_cases c9 : yP.length < 17592186044416
 rotate_left
 ·
  rw [if_neg c9] at H;exact absurd H (by simp)
 rw [if_pos c9] at H;have aJ := yf.mk c9;clear c9;obtain ⟨aD,az⟩ : ∃ y_ : List Int,y_ = (yP ++ [(yh Aj Ae).f2.f1]) := ⟨_,rfl⟩
 replace H : (zR.l0 k1 a1 aD Aj (Aj.length : Int) (wrap64 (Ae + 1))) = some r := by (rw [az];with_reducible exact H)
 have aK := yf.mk az;clear az;have H' := yf.mk H;clear H
 have af : 0 ≤ (Ae : Int) := of_decide_eq_true ‹_›
 have ag : Ae < (Aj.length : Int) := of_decide_eq_true ‹_›
 obtain ⟨aA,ay,ah,ai,aj,ak⟩ := Ck Fa.out Ae af ag;cases ay;replace ah := cB HB ah;replace ai := cB HB ai;replace aj := cB HB aj;replace ak := cB HB ak;replace af := eq_true af;replace ag := eq_true ag
 go_wp2_with (first | ((with_reducible refine yG (N := 7) rfl ?_);refine yD rfl (N := 7) rfl (cs := #[.int .i64 0,.int .i64 0,.int .i64 0,.int .i64 0]) (t := 60) (by go_simp) ?_;intro au hg w10 yI hb;have ae := yf.mk (yI);have aH := bG (w := w) hg;have aG := bG (w := w) hg;have av := Cq aa hg;have ax := Aq aa hg;replace Bo := CR Bo hb;replace aa := bB aa hb;replace HB := bS HB hb;clear hb yI hg;have TV := ax.out;have U7 := av.out;have LP := AO ae;have LV := bf ae) | ((with_reducible refine Bf (b := .append) (xs := #[.tmp 20,.tmp 24]) rfl ?_);at_builtin;refine Kd.Dz (Kd.int .i64) (w0 := w) w.heap.size rfl (.tmp 20) (.tmp 24) 37 3 (.int .i64 0) 8 rfl Tryz.underlying37 info3 rfl (by decide) (by omega) u5 yP ((yh Aj Ae).f2.f1) [.int .i64 ((yh Aj Ae).f2.f1)] (fun _ => True) (fun _ => False) rfl (by go_simp) ?aP (fun _ hk => hk.elim) ?aF ?aO ?aB ?aS ?aL ?_;(case aP => exact rfl);(case aB => exact (bO HB));(case aF => exact (fun _ _ => trivial));(case aO => exact (by (with_reducible repeat (apply Kd.zg));exact Kd.zf (GG (g := au) (Kd.Bw Bo.out ae.out (by decide)) (fun _ hk => hk.2)) (fun _ hk => trivial)));(case aS => exact (yF (bO HB)));(case aL => have := aJ.out;omega);intro v208 w13 ho hb hg hat;rw [← aK.out] at ho;have BR := yf.mk (zL (g := aC) (o := .cells #[.int .i64 yj,.slice yK yg.length yE,.int .i64 ym,.int .i64 yn,.slice (some aA) Aj.length Ea,.int .i64 Au,.int .i64 Ah] 65 (0,0)) (CY aa rfl) hg (Kd.DC Bo.out aa.out (by decide)));have BS := yf.mk (zL (g := au) (o := .cells #[.int .i64 ((yh Aj Ae).f0),.int .i64 ((yh Aj Ae).f1),.int .i64 ((yh Aj Ae).f2.f0),.int .i64 ((yh Aj Ae).f2.f1)] 60 (0,0)) (CY ae rfl) hg (Kd.DC Bo.out ae.out (by decide)));have Ce := yf.mk (hb);have CZ := yf.mk (ho);clear aa;clear ae;clear HB;clear Bo;have aa := BR;have ae := BS;have HB := Ce;have aI := CZ;clear BR BS Ce CZ;clear ho hb hg hat))
 go_roundg k1
 case measure => have := Bn.out;omega
 case rel => exact ⟨(aD),(wrap64 (Ae + 1)),(by rfl),H',⟨by have := Bn.out;omega⟩,⟨kR aI⟩,⟨kk aa⟩,⟨bO HB⟩⟩
theorem WE (d : Nat) (w : World) (x0 y0 : Int) (x1 y1 : Int) :
  (Op.equalIn (d + 2) 51 (.agg #[.int .i64 x0,.int .i64 x1]) (.agg #[.int .i64 y0,.int .i64 y1])).run Tryz.prog w = .ok (x0 == y0 && (x1 == y1)) w := by
 refine WF Tryz.underlying51 (by kernel_rfl) ?_
 refine Qr (by rfl) (by go_simp;rfl) (by go_simp;rfl) (by go_simp) ?_
 exact Qs (by rfl) (by go_simp;rfl) (by go_simp;rfl) (by go_simp)
end Go.Proofs.YtjonnfmoocijlaaGreat.P
