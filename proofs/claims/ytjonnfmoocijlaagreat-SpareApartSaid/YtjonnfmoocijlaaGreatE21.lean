/- Texts of a claim, packed. -/
import Derived.Test.YtjonnfmoocijlaaGreatE20
set_option linter.all false
namespace Go.Proofs.YtjonnfmoocijlaaGreat.P
open Go.RowKit Go.Proofs.YtjonnfmoocijlaaGreatKW.PrintWords Go.Proofs.YtjonnfmoocijlaaGreatKW.PrintLast Go.Proofs.YtjonnfmoocijlaaGreatKW.PrintMore
attribute [local go_sem] zN zP Af Ag zz zA zO zQ
def zM.l0 : Nat → List (AP) → Int → Int → Int → Int → List (List Int) → Int → Int → Option (Int × Int)
 | 0,_,_,_,_,_,_,_,_ => none
 | k + 1,x1,x2,x3,x9,aa,ae,af,ag => if x9 < (x1.length : Int) then (if 0 ≤ x9 then (if ((yh x1 x9).f0) = x2 then (if ((yh x1 x9).f1) = x3 then (some ((yh x1 x9).f2.f0,(yh x1 x9).f2.f1)) else (zM.l0 k x1 x2 x3 (wrap64 (x9 + 1)) aa ae af ag)) else (zM.l0 k x1 x2 x3 (wrap64 (x9 + 1)) aa ae af ag)) else (none)) else ((yU.f k aa ae af ag x2 x3).bind fun ah => (some (ah.1,ah.2)))
def zM.f (k : Nat) (yj : Int) (yg : List (List Int)) (ym : Int) (yn : Int) (l1 : List (AP)) (a2 : Int) (a3 : Int) : Option (Int × Int) := zM.l0 k l1 a2 a3 0 yj yg ym yn
set_option maxHeartbeats 8000000 in
set_option maxRecDepth 100000 in
theorem zM.calls (k : Nat) (yj : Int) (yK : Option Addr) (yE : Nat) (yg : List (List Int)) (ym : Int) (yn : Int) (A1 : Option Addr) (c1 : Nat) (l1 : List (AP)) (a2 : Int) (a3 : Int) (r1 : Int) (r2 : Int) (w : World) (zS : Kd.C (Kd.slice 3 (Kd.int .i64)) w yK yg.length yg) (zT : yg.length ≤ yE) (hr1 : Kd.C DN w A1 l1.length l1) (hc1 : l1.length ≤ c1) (h : zM.f k yj yg ym yn l1 a2 a3 = some (r1,r2)) :
  Calls Tryz.prog 30 #[.agg #[.int .i64 yj,.slice yK yg.length yE,.int .i64 ym,.int .i64 yn],.slice A1 l1.length c1,.int .i64 a2,.int .i64 a3] w fun e w' => e = .returned (.agg #[.int .i64 r1,.int .i64 r2]) ∧ Below w.heap.size w w' := by
 have ET := Tryz.underlying29;have KE := Tryz.underlying51;have zk := yf.mk zS;have zq := yf.mk zT;clear zS zT;have HR1 := yf.mk hr1;have Gt := yf.mk hc1;clear hr1 hc1;have HB := yf.mk (Below.refl w.heap.size w)
 have H : (zM.l0 k l1 a2 a3 0 yj yg ym yn) = some (r1,r2) := h
 clear h;have H' := yf.mk H;clear H
 go_enter Tryz.func30,Tryz.ntmps30
 go_wp2_with (first | ((with_reducible refine yG (N := 4) rfl ?_);refine yD rfl (N := 4) rfl (cs := #[.int .i64 yj,.slice yK yg.length yE,.int .i64 ym,.int .i64 yn]) (t := 29) (by go_simp) ?_;intro bn hg w5 yI hb;have aa := yf.mk (yI);have bv := bG (w := w) hg;have bq := bG (w := w) hg;replace HB := bS HB hb;clear hb yI hg) | ((with_reducible refine yG (N := 8) rfl ?_);refine yD rfl (N := 8) rfl (cs := #[.int .i64 0,.int .i64 0]) (t := 51) (by go_simp) ?_;intro aK hg w6 yI hb;have ae := yf.mk (yI);have bA := bG (w := w) hg;have bu := bG (w := w) hg;have aQ := Cq aa hg;have aT := Aq aa hg;replace aa := bB aa hb;replace HB := bS HB hb;clear hb yI hg))
 go_loopg [9] k (fun kq v9 w' => ∃ (BJ : Int) (aG : Int) (aH : Int),v9 = .int .i64 BJ ∧ yf (zM.l0 kq l1 a2 a3 BJ yj yg ym yn = some (r1,r2)) ∧ yf (kq ≤ k) ∧ yf (w'.heap[bn]? = some (.cells #[.int .i64 yj,(.slice yK yg.length yE),.int .i64 ym,.int .i64 yn] 29 (0,0))) ∧ yf (w'.heap[aK]? = some (.cells #[.int .i64 aG,.int .i64 aH] 51 (0,0))) ∧ yf (Below w.heap.size w w'))
 case atStart => exact ⟨(0),(0),(0),(by rfl),H',⟨Nat.le_refl _⟩,⟨kk aa⟩,⟨kk ae⟩,⟨bO HB⟩⟩
 case round =>
 clear H';obtain ⟨BJ,aG,aH,rfl,HA,Bn,aa,ae,HB⟩ := hrel
 cases gk with
 | zero => exact absurd HA.out (by simp [zM.l0])
 | succ k1 =>
 have H := HA.out;clear HA;simp only [zM.l0] at H
 by_cases c7 : BJ < (l1.length : Int)
 rotate_left
 ·
  rw [if_neg c7] at H;have GL := decide_eq_false c7;clear c7;obtain ⟨⟨aY,aZ⟩,A13,H⟩ := bE H
  try dsimp only at H
  simp only [Option.some.injEq,Prod.mk.injEq] at H;obtain ⟨rfl,rfl⟩ := H;have a4h := aQ.out;have a4B := aT.out;have Qz := AO aa;have QF := bf aa
  go_wp2_with (((with_reducible refine yz (f := 58) rfl ?_);refine gL (some 40) Tryz.func58 #[.agg #[.int .i64 yj,.slice yK yg.length yE,.int .i64 ym,.int .i64 yn],.int .i64 a2,.int .i64 a3] ?_;(with_reducible refine (yU.calls k1 yj _ _ yg ym yn a2 a3 aY aZ _ ?yB ?yC A13.out).mono ?_);(case yB => exact CU zk);(case yC => exact zq.out);rintro e w16 ⟨rfl,hb⟩;refine ⟨_,rfl,?_⟩;replace aa := bB aa hb;replace ae := bB ae hb;replace HB := bS HB hb;clear hb;have IB := bc2 ae;have IG := bf ae))
  refine bodyPost_ret (results_cell_row rfl _ _ aK 51 #[.int .i64 aY,.int .i64 aZ] (0,0) _ rfl (CY ae rfl) Tryz.underlying51 rfl (by kernel_rfl)) rfl ?_
  exact ⟨by rfl,bO HB⟩
 rw [if_pos c7] at H;have GL := decide_eq_true c7;clear c7
 by_cases c8 : 0 ≤ BJ
 rotate_left
 ·
  rw [if_neg c8] at H;exact absurd H (by simp)
 rw [if_pos c8] at H;have GN := decide_eq_true c8;clear c8
 by_cases c9 : ((yh l1 BJ).f0) = a2
 rotate_left
 ·
  rw [if_neg c9] at H;have I5 := beq_eq_false_iff_ne.mpr c9;have Qo := bne_iff_ne.mpr c9;have H' := yf.mk H;clear H
  have af : 0 ≤ (BJ : Int) := of_decide_eq_true ‹_›
  have ag : BJ < (l1.length : Int) := of_decide_eq_true ‹_›
  obtain ⟨ax,ay,ah,ai,aj,ak⟩ := Ck HR1.out BJ af ag;cases ay;replace ah := cB HB ah;replace ai := cB HB ai;replace aj := cB HB aj;replace ak := cB HB ak;replace af := eq_true af;replace ag := eq_true ag
  go_wp2
  go_roundg k1
  case measure => have := Bn.out;omega
  case rel => exact ⟨(wrap64 (BJ + 1)),(aG),(aH),(by rfl),H',⟨by have := Bn.out;omega⟩,⟨kk aa⟩,⟨kk ae⟩,⟨bO HB⟩⟩
 rw [if_pos c9] at H;have I5 := beq_iff_eq.mpr c9
 have Qo : (((yh l1 BJ).f0) != a2) = false := bne_eq_false_iff_eq.mpr c9
 clear c9
 by_cases c10 : ((yh l1 BJ).f1) = a3
 rotate_left
 ·
  rw [if_neg c10] at H;have Fu := beq_eq_false_iff_ne.mpr c10;have N9 := bne_iff_ne.mpr c10;have H' := yf.mk H;clear H
  have af : 0 ≤ (BJ : Int) := of_decide_eq_true ‹_›
  have ag : BJ < (l1.length : Int) := of_decide_eq_true ‹_›
  obtain ⟨ax,ay,ah,ai,aj,ak⟩ := Ck HR1.out BJ af ag;cases ay;replace ah := cB HB ah;replace ai := cB HB ai;replace aj := cB HB aj;replace ak := cB HB ak;replace af := eq_true af;replace ag := eq_true ag
  have au : 0 ≤ (BJ : Int) := of_decide_eq_true ‹_›
  have av : BJ < (l1.length : Int) := of_decide_eq_true ‹_›
  obtain ⟨aI,aJ,az,aA,aC,aD⟩ := Ck HR1.out BJ au av;obtain rfl : ax = aI := (by injection aJ);replace az := cB HB az;replace aA := cB HB aA;replace aC := cB HB aC;replace aD := cB HB aD;replace au := eq_true au;replace av := eq_true av
  go_wp2
  go_roundg k1
  case measure => have := Bn.out;omega
  case rel => exact ⟨(wrap64 (BJ + 1)),(aG),(aH),(by rfl),H',⟨by have := Bn.out;omega⟩,⟨kk aa⟩,⟨kk ae⟩,⟨bO HB⟩⟩
 rw [if_pos c10] at H;have Fu := beq_iff_eq.mpr c10
 have N9 : (((yh l1 BJ).f1) != a3) = false := bne_eq_false_iff_eq.mpr c10
 clear c10;simp only [Option.some.injEq,Prod.mk.injEq] at H;obtain ⟨rfl,rfl⟩ := H
 have af : 0 ≤ (BJ : Int) := of_decide_eq_true ‹_›
 have ag : BJ < (l1.length : Int) := of_decide_eq_true ‹_›
 obtain ⟨ax,ay,ah,ai,aj,ak⟩ := Ck HR1.out BJ af ag;cases ay;replace ah := cB HB ah;replace ai := cB HB ai;replace aj := cB HB aj;replace ak := cB HB ak;replace af := eq_true af;replace ag := eq_true ag
 have au : 0 ≤ (BJ : Int) := of_decide_eq_true ‹_›
 have av : BJ < (l1.length : Int) := of_decide_eq_true ‹_›
 obtain ⟨aI,aJ,az,aA,aC,aD⟩ := Ck HR1.out BJ au av;obtain rfl : ax = aI := (by injection aJ);replace az := cB HB az;replace aA := cB HB aA;replace aC := cB HB aC;replace aD := cB HB aD;replace au := eq_true au;replace av := eq_true av
 have aM : 0 ≤ (BJ : Int) := of_decide_eq_true ‹_›
 have aN : BJ < (l1.length : Int) := of_decide_eq_true ‹_›
 obtain ⟨bg,bi,aU,aV,aW,aX⟩ := Ck HR1.out BJ aM aN;obtain rfl : ax = bg := (by injection bi);replace aU := cB HB aU;replace aV := cB HB aV;replace aW := cB HB aW;replace aX := cB HB aX;replace aM := eq_true aM;replace aN := eq_true aN;have TV := aT.out;have U7 := aQ.out;have LP := bc2 ae;have LV := bf ae
 go_wp2
 refine bodyPost_ret (results_cell_row rfl _ _ aK 51 #[.int .i64 ((yh l1 BJ).f2.f0),.int .i64 ((yh l1 BJ).f2.f1)] (0,0) _ rfl (CY ae rfl) Tryz.underlying51 rfl (by kernel_rfl)) rfl ?_
 exact ⟨by rfl,bO HB⟩
end Go.Proofs.YtjonnfmoocijlaaGreat.P
namespace Go.Proofs.YtjonnfmoocijlaaGreat.P
open Go.RowKit Go.Proofs.YtjonnfmoocijlaaGreatKW.PrintWords
abbrev Mv := AP
theorem G5 (l : List Mv) (i : Nat) (h : i < l.length) : yh l (i : Int) = l[i] := by unfold yh;rw [Int.toNat_natCast,getD_at _ _ _ h]
def Ahead (m : Mv) (g i : Int) : Prop := m.f0 < g ∨ m.f0 = g ∧ m.f1 < i
instance (m : Mv) (g i : Int) : Decidable (Ahead m g i) := by unfold Ahead;infer_instance
def F3 (g i : Int) (m : Mv) : Bool := m.f0 == g && m.f1 == i
theorem Dh {g i : Int} {m : Mv} : F3 g i m = true ↔ m.f0 = g ∧ m.f1 = i := by simp [F3]
def Sorted (ms : List Mv) : Prop := ms.Pairwise fun a b => Ahead a b.f0 b.f1
instance (ms : List Mv) : Decidable (Sorted ms) := by unfold Sorted;infer_instance
def Ee (ms : List Mv) (g i : Int) : Nat := (ms.takeWhile fun m => decide (Ahead m g i)).length
theorem PU (ms : List Mv) (g i : Int) : Ee ms g i ≤ ms.length := by
 unfold Ee
 exact (List.takeWhile_sublist _).length_le
theorem Iq (ms : List Mv) (hs : Sorted ms) (g i : Int) (j : Nat) (hj : j < ms.length) : j < Ee ms g i ↔ Ahead ms[j] g i := by
  induction ms generalizing j with
  | nil => simp at hj
  | cons m ms ih =>
    unfold Ee at ih ⊢
    have hs' := List.pairwise_cons.1 hs
    by_cases hm : Ahead m g i
    · rw [List.takeWhile_cons_of_pos (by simpa using hm)]
      cases j with
      | zero => simp [hm]
      | succ j =>
        simp only [List.length_cons,Nat.add_lt_add_iff_right,List.getElem_cons_succ]
        exact ih hs'.2 j (by simpa using hj)
    · rw [List.takeWhile_cons_of_neg (by simpa using hm)]
      simp only [List.length_nil,Nat.not_lt_zero,false_iff]
      cases j with
      | zero => exact hm
      | succ j =>
        simp only [List.getElem_cons_succ]
        have h1 := hs'.1 _ (List.getElem_mem (show j < ms.length by simpa using hj))
        unfold Ahead at hm h1 ⊢
        omega
def V3 (a b g i : Int) : Int := if a < g then -1 else if a > g then 1 else if b < i then -1 else if b > i then 1 else 0
theorem Wl (a b : Int) : cmp_Compare_int.f a b = some (if a < b then -1 else if a > b then 1 else 0) := by
 simp only [cmp_Compare_int.f,cmp_isNaN_int.f,Option.bind_some,bne_self_eq_false]
 rw [if_neg (by decide),if_neg (by decide)]
 split
 · rfl
 · split <;> rfl
theorem a5g (x y : Int) : Ev (fun k => Ch.f k [x,y]) (if x = 0 then y else x) := by
  unfold Ch.f
  refine evs (fun k => by rw [Ch.l0]) (AA (by simp) (AA (by simp) (AA (by simp) ?_)))
  have e0 : rd [x,y] 0 = x := rfl
  have e1 : rd [x,y] 1 = y := rfl
  rw [e0]
  by_cases h : x = 0
  · refine AA h ?_
    rw [if_pos h,show wrap64 (0 + 1) = 1 by unfold wrap64;omega]
    refine evs (fun k => by rw [Ch.l0]) (AA (by simp) (AA (by simp) (AA (by simp) ?_)))
    rw [e1]
    by_cases h2 : y = 0
    · refine AA h2 ?_
      rw [show wrap64 (1 + 1) = 2 by unfold wrap64;omega]
      exact evs (fun k => by rw [Ch.l0]) (BF (by simp) (Hw h2.symm))
    · exact BF h2 (Ev.now _)
  · refine BF h ?_
    rw [if_neg h]
    exact Ev.now _
theorem NN (a b c e g i : Int) : Ev (fun k => Bj.f k a b c e g i) (V3 a b g i) := by
  unfold Bj.f
  refine GZ (Wl _ _) (GZ (Wl _ _) (Ep (a5g _ _) (Hw ?_)))
  unfold V3
  split
  · simp
  · split
    · simp
    · simp
theorem KJ (m : Mv) (g i : Int) : V3 m.f0 m.f1 g i < 0 ↔ Ahead m g i := by
  unfold V3 Ahead
  split
  · omega
  · split
    · omega
    · split
      · omega
      · split <;> omega
theorem V4 (m : Mv) (g i : Int) : V3 m.f0 m.f1 g i = 0 ↔ m.f0 = g ∧ m.f1 = i := by
  unfold V3
  split
  · omega
  · split
    · omega
    · split
      · omega
      · split <;> omega
theorem Vb (ms : List Mv) (hs : Sorted ms) (hl : ms.length ≤ 1000) (g i : Int) (t : Nat) : ∀ lo hi : Nat,hi - lo = t → lo ≤ Ee ms g i → Ee ms g i ≤ hi → hi ≤ ms.length →
    Ev (fun k => yt.l0 k ms (ms.length : Int) (lo : Int) (hi : Int) g i) ((Ee ms g i : Int),(ms.drop (Ee ms g i)).head?.any (F3 g i)) := by
  induction t using Nat.strongRecOn with
  | _ t ih =>
    intro lo hi ht h1 h2 h3
    refine evs (fun k => by rw [yt.l0]) ?_
    by_cases hlt : lo < hi
    · refine AA (by omega) ?_
      have em : wrap64 (IntKind.u64.wrap (wrap64 ((lo : Int) + (hi : Int))) / 2) = (((lo + hi) / 2 : Nat) : Int) := by
        rw [ww (x := (lo : Int) + hi) (by omega) (by omega),Go.IntKind.wrap_u64,Int.emod_eq_of_lt (by omega) (by omega),ww (by omega) (by omega)]
        omega
      rw [em]
      have hm : (lo + hi) / 2 < ms.length := by omega
      refine AA (by omega) (AA (by omega) (Ep (NN _ _ _ _ _ _) ?_))
      rw [G5 ms _ hm]
      by_cases ha : Ahead ms[(lo + hi) / 2] g i
      · refine AA ((KJ _ _ _).2 ha) ?_
        have := (Iq ms hs g i _ hm).2 ha
        rw [ww (by omega) (by omega),show (((lo + hi) / 2 : Nat) : Int) + 1 = (((lo + hi) / 2 + 1 : Nat) : Int) by omega]
        exact ih (hi - ((lo + hi) / 2 + 1)) (by omega) _ _ rfl (by omega) h2 h3
      · refine BF (fun h => ha ((KJ _ _ _).1 h)) ?_
        have : ¬ ((lo + hi) / 2 < Ee ms g i) := fun h => ha ((Iq ms hs g i _ hm).1 h)
        exact ih ((lo + hi) / 2 - lo) (by omega) _ _ rfl h1 (by omega) (by omega)
    · have he : lo = Ee ms g i := by omega
      refine BF (by omega) ?_
      by_cases hp : lo < ms.length
      · refine AA (by omega) (AA (by omega) (AA (by omega) (Ep (NN _ _ _ _ _ _) (Hw ?_))))
        rw [G5 ms _ hp,← he,List.drop_eq_getElem_cons hp]
        simp only [List.head?_cons,Option.any_some,Prod.mk.injEq,true_and]
        rw [Bool.eq_iff_iff,Dh,beq_iff_eq,V4]
      · refine BF (by omega) (Hw ?_)
        rw [← he,List.drop_of_length_le (by omega)]
        rfl
theorem Jv (ms : List Mv) (hs : Sorted ms) (hl : ms.length ≤ 1000) (g i : Int) : Ev (fun k => yt.f k ms g i) ((Ee ms g i : Int),(ms.drop (Ee ms g i)).head?.any (F3 g i)) :=
 Vb ms hs hl g i _ 0 ms.length rfl (Nat.zero_le _) (PU _ _ _) (Nat.le_refl _)
theorem Qv (ms : List Mv) (hs : Sorted ms) (g i : Int) : ms.find? (F3 g i) = (ms.drop (Ee ms g i)).head?.filter (F3 g i) := by
  induction ms with
  | nil => rfl
  | cons m ms ih =>
    have hs' := List.pairwise_cons.1 hs
    unfold Ee at ih ⊢
    by_cases hm : Ahead m g i
    · rw [List.takeWhile_cons_of_pos (by simpa using hm),List.find?_cons_of_neg (by rw [Dh];unfold Ahead at hm;omega),ih hs'.2]
      rfl
    · rw [List.takeWhile_cons_of_neg (by simpa using hm)]
      simp only [List.length_nil,List.drop_zero,List.head?_cons]
      by_cases hi : F3 g i m = true
      · rw [List.find?_cons_of_pos hi,Option.filter_some,if_pos hi]
      · rw [List.find?_cons_of_neg hi,Option.filter_some,if_neg hi,List.find?_eq_none]
        intro x hx
        have h1 := hs'.1 x hx
        rw [Dh] at hi ⊢
        unfold Ahead at hm h1
        omega
def BN (L : List (List Int)) (w n r : Nat) (ms : List Mv) (g i : Int) : Int × Int := match ms.find? (F3 g i) with
 | some m => (m.f2.f0,m.f2.f1)
 | none => Ed L w n r g.toNat i.toNat
section
variable {d : Int} {L : List (List Int)} {w n r : Nat} {T S : Int} (H : Lo d L w n r T S)
include H
theorem Lo.Q0 (ms : List Mv) (hl : ms.length ≤ 1000) (g i : Int) (h0 : 0 ≤ g) (h1 : g < T * n) (h2 : 0 ≤ i) (h3 : i < (w : Int)) : Ev (fun k => zM.f k d L T S ms g i) (BN L w n r ms g i) := by
  have hj : ∀ t j : Nat,ms.length - j = t → j ≤ ms.length → Ev (fun k => zM.l0 k ms g i (j : Int) d L T S) (BN L w n r (ms.drop j) g i) := by
    intro t
    induction t with
    | zero =>
      intro j ht hj
      refine evs (fun k => by rw [zM.l0]) (BF (by omega) (Ep (H.a4V g i h0 h1 h2 h3) (Hw ?_)))
      rw [List.drop_of_length_le (by omega)]
      rfl
    | succ t ih =>
      intro j ht hj
      have hlt : j < ms.length := by omega
      refine evs (fun k => by rw [zM.l0]) (AA (by omega) (AA (by omega) ?_))
      have hstep := ih (j + 1) (by omega) (by omega)
      rw [G5 ms j hlt,ww (by omega) (by omega),show (j : Int) + 1 = ((j + 1 : Nat) : Int) by omega,List.drop_eq_getElem_cons hlt]
      by_cases c1 : ms[j].f0 = g
      · refine AA c1 ?_
        by_cases c2 : ms[j].f1 = i
        · refine AA c2 (Hw ?_)
          unfold BN
          rw [List.find?_cons_of_pos (Dh.2 ⟨c1,c2⟩)]
        · refine BF c2 ?_
          unfold BN
          rw [List.find?_cons_of_neg (by rw [Dh];exact fun h => c2 h.2)]
          exact hstep
      · refine BF c1 ?_
        unfold BN
        rw [List.find?_cons_of_neg (by rw [Dh];exact fun h => c1 h.1)]
        exact hstep
  have := hj ms.length 0 (by omega) (by omega)
  exact this
theorem Lo.a2Y (ms : List Mv) (hs : Sorted ms) (hl : ms.length ≤ 1000) (a b g i : Int) (h0 : 0 ≤ g) (h1 : g < T * n) (h2 : 0 ≤ i) (h3 : i < (w : Int)) : Ev (fun k => D7.f k d L T S ms a b g i) (BN L w n r ms g i) := by
  unfold D7.f
  refine Ep (Jv ms hs hl g i) ?_
  have hf := Qv ms hs g i
  unfold BN
  rw [hf]
  by_cases hp : Ee ms g i < ms.length
  · rw [List.drop_eq_getElem_cons hp]
    simp only [List.head?_cons,Option.any_some,Option.filter_some]
    by_cases hi : F3 g i ms[Ee ms g i] = true
    · rw [hi]
      refine AA rfl (AA (by omega) (AA (by omega) (Hw ?_)))
      rw [if_pos rfl,G5 ms _ hp]
    · rw [Bool.eq_false_iff.2 hi]
      refine BF (by decide) (Ep (H.Un g i) (Hw ?_))
      have hc : 0 ≤ g ∧ g < T * (n : Int) ∧ 0 ≤ i ∧ i < (w : Int) := ⟨h0,h1,h2,h3⟩
      rw [if_pos hc,if_neg (by decide)]
  · rw [List.drop_of_length_le (by omega)]
    refine BF (by simp) (Ep (H.Un g i) (Hw ?_))
    have hc : 0 ≤ g ∧ g < T * (n : Int) ∧ 0 ≤ i ∧ i < (w : Int) := ⟨h0,h1,h2,h3⟩
    rw [if_pos hc]
    rfl
end
end Go.Proofs.YtjonnfmoocijlaaGreat.P
namespace Go.Proofs.YtjonnfmoocijlaaGreat.P
open Go.RowKit Go.Proofs.YtjonnfmoocijlaaGreatKW.PrintWords Go.Proofs.YtjonnfmoocijlaaGreatKW.PrintLast Go.Proofs.YtjonnfmoocijlaaGreatKW.PrintMore
attribute [local go_sem] zN zP Af Ag zz zA zO zQ
def AJ.f (yj : Int) (yg : List (List Int)) (ym : Int) (yn : Int) (Aj : List (AP)) (Au : Int) (Ah : Int) : Option (Int) := if 0 < (yg.length : Int) then (some ((yX yg 0).length : Int)) else (none)
set_option maxHeartbeats 8000000 in
set_option maxRecDepth 100000 in
theorem AJ.calls (yj : Int) (yK : Option Addr) (yE : Nat) (yg : List (List Int)) (ym : Int) (yn : Int) (Eg : Option Addr) (Ea : Nat) (Aj : List (AP)) (Au : Int) (Ah : Int) (r : Int) (w : World) (zS : Kd.C (Kd.slice 3 (Kd.int .i64)) w yK yg.length yg) (zT : yg.length ≤ yE) (FZ : Kd.C DN w Eg Aj.length Aj) (FY : Aj.length ≤ Ea) (h : AJ.f yj yg ym yn Aj Au Ah = some r) :
  Calls Tryz.prog 63 #[.agg #[.int .i64 yj,.slice yK yg.length yE,.int .i64 ym,.int .i64 yn,.slice Eg Aj.length Ea,.int .i64 Au,.int .i64 Ah]] w fun e w' => e = .returned (.int .i64 r) ∧ Below w.heap.size w w' := by
 have Mq := Tryz.underlying65;have zk := yf.mk zS;have zq := yf.mk zT;clear zS zT;have Fa := yf.mk FZ;have Hy := yf.mk FY;clear FZ FY;have HB := yf.mk (Below.refl w.heap.size w)
 have H : (if 0 < (yg.length : Int) then (some ((yX yg 0).length : Int)) else (none)) = some r := h
 clear h
 by_cases c2 : 0 < (yg.length : Int)
 rotate_left
 ·
  rw [if_neg c2] at H;exact absurd H (by simp)
 rw [if_pos c2] at H;have Uz := decide_eq_true c2
 have a5K : decide (0 < yg.length) = true := decide_eq_true (by omega)
 clear c2;obtain rfl := Option.some.inj H
 go_enter Tryz.func63,Tryz.ntmps63
 go_wp2_with (((with_reducible refine yG (N := 1) rfl ?_);refine yD rfl (N := 1) rfl (cs := #[.int .i64 yj,.slice yK yg.length yE,.int .i64 ym,.int .i64 yn,.slice Eg Aj.length Ea,.int .i64 Au,.int .i64 Ah]) (t := 65) (by go_simp) ?_;intro aC hg w3 yI hb;have ag := yf.mk (yI);have av := bG (w := w) hg;have au := bG (w := w) hg;replace HB := bS HB hb;clear hb yI hg;have SG := Fy ag;have SH := bf ag;have ae : 0 ≤ (0 : Int) := (by omega);have af : 0 < (yg.length : Int) := of_decide_eq_true ‹_›;obtain ⟨az,ak,aA,aj,aa,ai,ah⟩ := Ec zk.out 0 ae af;cases aj;have aD : (0 < yg.length) = True := eq_true (by omega);(try rw [show ((0 : Int)).toNat = 0 from rfl] at aa);(try rw [Addr.add_zero'] at aa);replace aa := cB HB aa;have ay := yf.mk ah;have ax := yf.mk ai;clear ah ai;replace ae := eq_true ae;replace af := eq_true af))
 go_ret
 exact ⟨by rfl,bO HB⟩
end Go.Proofs.YtjonnfmoocijlaaGreat.P
