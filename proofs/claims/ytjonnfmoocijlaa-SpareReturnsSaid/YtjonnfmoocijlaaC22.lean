/- Texts of a claim, packed. -/
import Derived.Test.YtjonnfmoocijlaaC21
set_option linter.all false
namespace Go.Proofs.Ytjonnfmoocijlaa.P
open Go.RowKit Go.Proofs.YtjonnfmoocijlaaKW.PrintWords Go.Proofs.YtjonnfmoocijlaaKW.PrintLast Go.Proofs.YtjonnfmoocijlaaKW.PrintMore
attribute [local go_sem] zO zP Aj Ak zC zD zQ zR
def zy.l0 : Nat → List (AX) → Int → Int → Int → Int → List (List Int) → Int → Int → Option (Int × Int)
 | 0, _, _, _, _, _, _, _, _ => none
 | k + 1, x1, x2, x3, x9, aa, af, ae, ag => if x9 < (x1.length : Int) then (if 0 ≤ x9 then (if ((yg x1 x9).f0) = x2 then (if ((yg x1 x9).f1) = x3 then (some ((yg x1 x9).f2.f0, (yg x1 x9).f2.f1)) else (zy.l0 k x1 x2 x3 (wrap64 (x9 + 1)) aa af ae ag)) else (zy.l0 k x1 x2 x3 (wrap64 (x9 + 1)) aa af ae ag)) else (none)) else ((yU.f k aa af ae ag x2 x3).bind fun ah => (some (ah.1, ah.2)))
def zy.f (k : Nat) (yn : Int) (yh : List (List Int)) (yo : Int) (yu : Int) (l1 : List (AX)) (a2 : Int) (a3 : Int) : Option (Int × Int) := zy.l0 k l1 a2 a3 0 yn yh yo yu
set_option maxHeartbeats 8000000 in
set_option maxRecDepth 100000 in
theorem zy.calls (k : Nat) (yn : Int) (yQ : Option Addr) (yM : Nat) (yh : List (List Int)) (yo : Int) (yu : Int) (A1 : Option Addr) (c1 : Nat) (l1 : List (AX)) (a2 : Int) (a3 : Int) (r1 : Int) (r2 : Int) (w : World) (Ah : Kd.C (Kd.slice 3 (Kd.int .i64)) w yQ yh.length yh) (Ai : yh.length ≤ yM) (hr1 : Kd.C CS w A1 l1.length l1) (hc1 : l1.length ≤ c1) (h : zy.f k yn yh yo yu l1 a2 a3 = some (r1, r2)) :
  Calls Try.prog 22 #[.agg #[.int .i64 yn, .slice yQ yh.length yM, .int .i64 yo, .int .i64 yu], .slice A1 l1.length c1, .int .i64 a2, .int .i64 a3] w fun e w' => e = .returned (.agg #[.int .i64 r1, .int .i64 r2]) ∧ Below w.heap.size w w' := by
 have FH := Try.underlying31;have Jd := Try.underlying38;have zA := yf.mk Ah;have zK := yf.mk Ai;clear Ah Ai;have HR1 := yf.mk hr1;have GH := yf.mk hc1;clear hr1 hc1;have HB := yf.mk (Below.refl w.heap.size w)
 have H : (zy.l0 k l1 a2 a3 0 yn yh yo yu) = some (r1, r2) := h
 clear h;have H' := yf.mk H;clear H
 go_enter Try.func22, Try.ntmps22
 go_wp2_with (first | ((with_reducible refine yI (N := 4) rfl ?_); refine yG rfl (N := 4) rfl (cs := #[.int .i64 yn, .slice yQ yh.length yM, .int .i64 yo, .int .i64 yu]) (t := 31) (by go_simp) ?_; intro bn hg w5 yJ hb; have ae := yf.mk (yJ); have bu := bG (w := w) hg; have bq := bG (w := w) hg; replace HB := bS HB hb; clear hb yJ hg) | ((with_reducible refine yI (N := 8) rfl ?_); refine yG rfl (N := 8) rfl (cs := #[.int .i64 0, .int .i64 0]) (t := 38) (by go_simp) ?_; intro aK hg w6 yJ hb; have aa := yf.mk (yJ); have bA := bG (w := w) hg; have bv := bG (w := w) hg; have aY := Co ae hg; have aW := Ar ae hg; replace ae := bB ae hb; replace HB := bS HB hb; clear hb yJ hg))
 go_loopg [9] k (fun kq v9 w' => ∃ (Ce : Int) (aH : Int) (aG : Int), v9 = .int .i64 Ce ∧ yf (zy.l0 kq l1 a2 a3 Ce yn yh yo yu = some (r1, r2)) ∧ yf (kq ≤ k) ∧ yf (w'.heap[bn]? = some (.cells #[.int .i64 yn, (.slice yQ yh.length yM), .int .i64 yo, .int .i64 yu] 31 (0, 0))) ∧ yf (w'.heap[aK]? = some (.cells #[.int .i64 aH, .int .i64 aG] 38 (0, 0))) ∧ yf (Below w.heap.size w w'))
 case atStart => exact ⟨(0), (0), (0), (by rfl), H', ⟨Nat.le_refl _⟩, ⟨kk ae⟩, ⟨kk aa⟩, ⟨bO HB⟩⟩
 case round =>
 clear H';obtain ⟨Ce, aH, aG, rfl, HA, BJ, ae, aa, HB⟩ := hrel
 cases gk with
 | zero => exact absurd HA.out (by simp [zy.l0])
 | succ k1 =>
 have H := HA.out;clear HA;simp only [zy.l0] at H
 by_cases c7 : Ce < (l1.length : Int)
 rotate_left
 ·
  rw [if_neg c7] at H;have GN := decide_eq_false c7;clear c7;obtain ⟨⟨aT, aV⟩, A13, H⟩ := bE H
  try dsimp only at H
  simp only [Option.some.injEq, Prod.mk.injEq] at H;obtain ⟨rfl, rfl⟩ := H;have a5g := aY.out;have a5h := aW.out;have R8 := AP ae;have R9 := bf ae
  go_wp2_with (((with_reducible refine yw (f := 26) rfl ?_); refine gL (some 40) Try.func26 #[.agg #[.int .i64 yn, .slice yQ yh.length yM, .int .i64 yo, .int .i64 yu], .int .i64 a2, .int .i64 a3] ?_; (with_reducible refine (yU.calls k1 yn _ _ yh yo yu a2 a3 aT aV _ ?yD ?yF A13.out).mono ?_); (case yD => exact Di zA); (case yF => exact zK.out); rintro e w16 ⟨rfl, hb⟩; refine ⟨_, rfl, ?_⟩; replace ae := bB ae hb; replace aa := bB aa hb; replace HB := bS HB hb; clear hb; have NP := bc2 aa; have NQ := bf aa))
  refine bodyPost_ret (results_cell_row rfl _ _ aK 38 #[.int .i64 aT, .int .i64 aV] (0, 0) _ rfl (CJ aa rfl) Try.underlying38 rfl (by kernel_rfl)) rfl ?_
  exact ⟨by rfl, bO HB⟩
 rw [if_pos c7] at H;have GN := decide_eq_true c7;clear c7
 by_cases c8 : 0 ≤ Ce
 rotate_left
 ·
  rw [if_neg c8] at H;exact absurd H (by simp)
 rw [if_pos c8] at H;have GZ := decide_eq_true c8;clear c8
 by_cases c9 : ((yg l1 Ce).f0) = a2
 rotate_left
 ·
  rw [if_neg c9] at H;have IE := beq_eq_false_iff_ne.mpr c9;have QJ := bne_iff_ne.mpr c9;have H' := yf.mk H;clear H
  have af : 0 ≤ (Ce : Int) := of_decide_eq_true ‹_›
  have ag : Ce < (l1.length : Int) := of_decide_eq_true ‹_›
  obtain ⟨ay, az, ai, ah, aj, ak⟩ := BU HR1.out Ce af ag;cases az;replace ai := cB HB ai;replace ah := cB HB ah;replace aj := cB HB aj;replace ak := cB HB ak;replace af := eq_true af;replace ag := eq_true ag
  go_wp2
  go_roundg k1
  case measure => have := BJ.out; omega
  case rel => exact ⟨(wrap64 (Ce + 1)), (aH), (aG), (by rfl), H', ⟨by have := BJ.out; omega⟩, ⟨kk ae⟩, ⟨kk aa⟩, ⟨bO HB⟩⟩
 rw [if_pos c9] at H;have IE := beq_iff_eq.mpr c9
 have QJ : (((yg l1 Ce).f0) != a2) = false := bne_eq_false_iff_eq.mpr c9
 clear c9
 by_cases c10 : ((yg l1 Ce).f1) = a3
 rotate_left
 ·
  rw [if_neg c10] at H;have Gi := beq_eq_false_iff_ne.mpr c10;have M7 := bne_iff_ne.mpr c10;have H' := yf.mk H;clear H
  have af : 0 ≤ (Ce : Int) := of_decide_eq_true ‹_›
  have ag : Ce < (l1.length : Int) := of_decide_eq_true ‹_›
  obtain ⟨ay, az, ai, ah, aj, ak⟩ := BU HR1.out Ce af ag;cases az;replace ai := cB HB ai;replace ah := cB HB ah;replace aj := cB HB aj;replace ak := cB HB ak;replace af := eq_true af;replace ag := eq_true ag
  have av : 0 ≤ (Ce : Int) := of_decide_eq_true ‹_›
  have au : Ce < (l1.length : Int) := of_decide_eq_true ‹_›
  obtain ⟨aN, aJ, ax, aA, aD, aC⟩ := BU HR1.out Ce av au;obtain rfl : ay = aN := (by injection aJ);replace ax := cB HB ax;replace aA := cB HB aA;replace aD := cB HB aD;replace aC := cB HB aC;replace av := eq_true av;replace au := eq_true au
  go_wp2
  go_roundg k1
  case measure => have := BJ.out; omega
  case rel => exact ⟨(wrap64 (Ce + 1)), (aH), (aG), (by rfl), H', ⟨by have := BJ.out; omega⟩, ⟨kk ae⟩, ⟨kk aa⟩, ⟨bO HB⟩⟩
 rw [if_pos c10] at H;have Gi := beq_iff_eq.mpr c10
 have M7 : (((yg l1 Ce).f1) != a3) = false := bne_eq_false_iff_eq.mpr c10
 clear c10;simp only [Option.some.injEq, Prod.mk.injEq] at H;obtain ⟨rfl, rfl⟩ := H
 have af : 0 ≤ (Ce : Int) := of_decide_eq_true ‹_›
 have ag : Ce < (l1.length : Int) := of_decide_eq_true ‹_›
 obtain ⟨ay, az, ai, ah, aj, ak⟩ := BU HR1.out Ce af ag;cases az;replace ai := cB HB ai;replace ah := cB HB ah;replace aj := cB HB aj;replace ak := cB HB ak;replace af := eq_true af;replace ag := eq_true ag
 have av : 0 ≤ (Ce : Int) := of_decide_eq_true ‹_›
 have au : Ce < (l1.length : Int) := of_decide_eq_true ‹_›
 obtain ⟨aN, aJ, ax, aA, aD, aC⟩ := BU HR1.out Ce av au;obtain rfl : ay = aN := (by injection aJ);replace ax := cB HB ax;replace aA := cB HB aA;replace aD := cB HB aD;replace aC := cB HB aC;replace av := eq_true av;replace au := eq_true au
 have aI : 0 ≤ (Ce : Int) := of_decide_eq_true ‹_›
 have aM : Ce < (l1.length : Int) := of_decide_eq_true ‹_›
 obtain ⟨bi, bg, aU, aQ, aX, aZ⟩ := BU HR1.out Ce aI aM;obtain rfl : ay = bi := (by injection bg);replace aU := cB HB aU;replace aQ := cB HB aQ;replace aX := cB HB aX;replace aZ := cB HB aZ;replace aI := eq_true aI;replace aM := eq_true aM;have Xi := aW.out;have Xj := aY.out;have NM := bc2 aa;have NN := bf aa
 go_wp2
 refine bodyPost_ret (results_cell_row rfl _ _ aK 38 #[.int .i64 ((yg l1 Ce).f2.f0), .int .i64 ((yg l1 Ce).f2.f1)] (0, 0) _ rfl (CJ aa rfl) Try.underlying38 rfl (by kernel_rfl)) rfl ?_
 exact ⟨by rfl, bO HB⟩
end Go.Proofs.Ytjonnfmoocijlaa.P
namespace Go.Proofs.Ytjonnfmoocijlaa.P
open Go.RowKit Go.Proofs.YtjonnfmoocijlaaKW.PrintWords
abbrev Mv := AX
theorem Gm (l : List Mv) (i : Nat) (h : i < l.length) : yg l (i : Int) = l[i] := by unfold yg; rw [Int.toNat_natCast, getD_at _ _ _ h]
def Ahead (m : Mv) (g i : Int) : Prop := m.f0 < g ∨ m.f0 = g ∧ m.f1 < i
instance (m : Mv) (g i : Int) : Decidable (Ahead m g i) := by unfold Ahead; infer_instance
def D8 (g i : Int) (m : Mv) : Bool := m.f0 == g && m.f1 == i
theorem Cz {g i : Int} {m : Mv} : D8 g i m = true ↔ m.f0 = g ∧ m.f1 = i := by simp [D8]
def Sorted (ms : List Mv) : Prop := ms.Pairwise fun a b => Ahead a b.f0 b.f1
instance (ms : List Mv) : Decidable (Sorted ms) := by unfold Sorted; infer_instance
def Ep (ms : List Mv) (g i : Int) : Nat := (ms.takeWhile fun m => decide (Ahead m g i)).length
theorem Qh (ms : List Mv) (g i : Int) : Ep ms g i ≤ ms.length := by
 unfold Ep
 exact (List.takeWhile_sublist _).length_le
theorem IK (ms : List Mv) (hs : Sorted ms) (g i : Int) (j : Nat) (hj : j < ms.length) : j < Ep ms g i ↔ Ahead ms[j] g i := by
  induction ms generalizing j with
  | nil => simp at hj
  | cons m ms ih =>
    unfold Ep at ih ⊢
    have hs' := List.pairwise_cons.1 hs
    by_cases hm : Ahead m g i
    · rw [List.takeWhile_cons_of_pos (by simpa using hm)]
      cases j with
      | zero => simp [hm]
      | succ j =>
        simp only [List.length_cons, Nat.add_lt_add_iff_right, List.getElem_cons_succ]
        exact ih hs'.2 j (by simpa using hj)
    · rw [List.takeWhile_cons_of_neg (by simpa using hm)]
      simp only [List.length_nil, Nat.not_lt_zero, false_iff]
      cases j with
      | zero => exact hm
      | succ j =>
        simp only [List.getElem_cons_succ]
        have h1 := hs'.1 _ (List.getElem_mem (show j < ms.length by simpa using hj))
        unfold Ahead at hm h1 ⊢
        omega
def Vl (a b g i : Int) : Int := if a < g then -1 else if a > g then 1 else if b < i then -1 else if b > i then 1 else 0
theorem Xt (a b : Int) : cmp_Compare_int.f a b = some (if a < b then -1 else if a > b then 1 else 0) := by
 simp only [cmp_Compare_int.f, cmp_isNaN_int.f, Option.bind_some, bne_self_eq_false]
 rw [if_neg (by decide), if_neg (by decide)]
 split
 · rfl
 · split <;> rfl
theorem a5i (x y : Int) : Ev (fun k => Ct.f k [x, y]) (if x = 0 then y else x) := by
  unfold Ct.f
  refine evs (fun k => by rw [Ct.l0]) (AJ (by simp) (AJ (by simp) (AJ (by simp) ?_)))
  have e0 : rd [x, y] 0 = x := rfl
  have e1 : rd [x, y] 1 = y := rfl
  rw [e0]
  by_cases h : x = 0
  · refine AJ h ?_
    rw [if_pos h, show wrap64 (0 + 1) = 1 by unfold wrap64; omega]
    refine evs (fun k => by rw [Ct.l0]) (AJ (by simp) (AJ (by simp) (AJ (by simp) ?_)))
    rw [e1]
    by_cases h2 : y = 0
    · refine AJ h2 ?_
      rw [show wrap64 (1 + 1) = 2 by unfold wrap64; omega]
      exact evs (fun k => by rw [Ct.l0]) (BQ (by simp) (I8 h2.symm))
    · exact BQ h2 (Ev.now _)
  · refine BQ h ?_
    rw [if_neg h]
    exact Ev.now _
theorem NT (a b c e g i : Int) : Ev (fun k => BC.f k a b c e g i) (Vl a b g i) := by
  unfold BC.f
  refine GJ (Xt _ _) (GJ (Xt _ _) (DN (a5i _ _) (I8 ?_)))
  unfold Vl
  split
  · simp
  · split
    · simp
    · simp
theorem KY (m : Mv) (g i : Int) : Vl m.f0 m.f1 g i < 0 ↔ Ahead m g i := by
  unfold Vl Ahead
  split
  · omega
  · split
    · omega
    · split
      · omega
      · split <;> omega
theorem Vm (m : Mv) (g i : Int) : Vl m.f0 m.f1 g i = 0 ↔ m.f0 = g ∧ m.f1 = i := by
  unfold Vl
  split
  · omega
  · split
    · omega
    · split
      · omega
      · split <;> omega
theorem Vn (ms : List Mv) (hs : Sorted ms) (hl : ms.length ≤ 1000) (g i : Int) (t : Nat) : ∀ lo hi : Nat, hi - lo = t → lo ≤ Ep ms g i → Ep ms g i ≤ hi → hi ≤ ms.length →
    Ev (fun k => yB.l0 k ms (ms.length : Int) (lo : Int) (hi : Int) g i) ((Ep ms g i : Int), (ms.drop (Ep ms g i)).head?.any (D8 g i)) := by
  induction t using Nat.strongRecOn with
  | _ t ih =>
    intro lo hi ht h1 h2 h3
    refine evs (fun k => by rw [yB.l0]) ?_
    by_cases hlt : lo < hi
    · refine AJ (by omega) ?_
      have em : wrap64 (IntKind.u64.wrap (wrap64 ((lo : Int) + (hi : Int))) / 2) = (((lo + hi) / 2 : Nat) : Int) := by
        rw [ww (x := (lo : Int) + hi) (by omega) (by omega), Go.IntKind.wrap_u64, Int.emod_eq_of_lt (by omega) (by omega), ww (by omega) (by omega)]
        omega
      rw [em]
      have hm : (lo + hi) / 2 < ms.length := by omega
      refine AJ (by omega) (AJ (by omega) (DN (NT _ _ _ _ _ _) ?_))
      rw [Gm ms _ hm]
      by_cases ha : Ahead ms[(lo + hi) / 2] g i
      · refine AJ ((KY _ _ _).2 ha) ?_
        have := (IK ms hs g i _ hm).2 ha
        rw [ww (by omega) (by omega), show (((lo + hi) / 2 : Nat) : Int) + 1 = (((lo + hi) / 2 + 1 : Nat) : Int) by omega]
        exact ih (hi - ((lo + hi) / 2 + 1)) (by omega) _ _ rfl (by omega) h2 h3
      · refine BQ (fun h => ha ((KY _ _ _).1 h)) ?_
        have : ¬ ((lo + hi) / 2 < Ep ms g i) := fun h => ha ((IK ms hs g i _ hm).1 h)
        exact ih ((lo + hi) / 2 - lo) (by omega) _ _ rfl h1 (by omega) (by omega)
    · have he : lo = Ep ms g i := by omega
      refine BQ (by omega) ?_
      by_cases hp : lo < ms.length
      · refine AJ (by omega) (AJ (by omega) (AJ (by omega) (DN (NT _ _ _ _ _ _) (I8 ?_))))
        rw [Gm ms _ hp, ← he, List.drop_eq_getElem_cons hp]
        simp only [List.head?_cons, Option.any_some, Prod.mk.injEq, true_and]
        rw [Bool.eq_iff_iff, Cz, beq_iff_eq, Vm]
      · refine BQ (by omega) (I8 ?_)
        rw [← he, List.drop_of_length_le (by omega)]
        rfl
theorem LD (ms : List Mv) (hs : Sorted ms) (hl : ms.length ≤ 1000) (g i : Int) : Ev (fun k => yB.f k ms g i) ((Ep ms g i : Int), (ms.drop (Ep ms g i)).head?.any (D8 g i)) :=
 Vn ms hs hl g i _ 0 ms.length rfl (Nat.zero_le _) (Qh _ _ _) (Nat.le_refl _)
theorem Ry (ms : List Mv) (hs : Sorted ms) (g i : Int) : ms.find? (D8 g i) = (ms.drop (Ep ms g i)).head?.filter (D8 g i) := by
  induction ms with
  | nil => rfl
  | cons m ms ih =>
    have hs' := List.pairwise_cons.1 hs
    unfold Ep at ih ⊢
    by_cases hm : Ahead m g i
    · rw [List.takeWhile_cons_of_pos (by simpa using hm), List.find?_cons_of_neg (by rw [Cz]; unfold Ahead at hm; omega), ih hs'.2]
      rfl
    · rw [List.takeWhile_cons_of_neg (by simpa using hm)]
      simp only [List.length_nil, List.drop_zero, List.head?_cons]
      by_cases hi : D8 g i m = true
      · rw [List.find?_cons_of_pos hi, Option.filter_some, if_pos hi]
      · rw [List.find?_cons_of_neg hi, Option.filter_some, if_neg hi, List.find?_eq_none]
        intro x hx
        have h1 := hs'.1 x hx
        rw [Cz] at hi ⊢
        unfold Ahead at hm h1
        omega
def Ca (L : List (List Int)) (w n r : Nat) (ms : List Mv) (g i : Int) : Int × Int := match ms.find? (D8 g i) with
 | some m => (m.f2.f0, m.f2.f1)
 | none => Fb L w n r g.toNat i.toNat
section
variable {d : Int} {L : List (List Int)} {w n r : Nat} {T S : Int} (H : Lo d L w n r T S)
include H
theorem Lo.K9 (ms : List Mv) (hl : ms.length ≤ 1000) (g i : Int) (h0 : 0 ≤ g) (h1 : g < T * n) (h2 : 0 ≤ i) (h3 : i < (w : Int)) : Ev (fun k => zy.f k d L T S ms g i) (Ca L w n r ms g i) := by
  have hj : ∀ t j : Nat, ms.length - j = t → j ≤ ms.length → Ev (fun k => zy.l0 k ms g i (j : Int) d L T S) (Ca L w n r (ms.drop j) g i) := by
    intro t
    induction t with
    | zero =>
      intro j ht hj
      refine evs (fun k => by rw [zy.l0]) (BQ (by omega) (DN (H.Xo g i h0 h1 h2 h3) (I8 ?_)))
      rw [List.drop_of_length_le (by omega)]
      rfl
    | succ t ih =>
      intro j ht hj
      have hlt : j < ms.length := by omega
      refine evs (fun k => by rw [zy.l0]) (AJ (by omega) (AJ (by omega) ?_))
      have hstep := ih (j + 1) (by omega) (by omega)
      rw [Gm ms j hlt, ww (by omega) (by omega), show (j : Int) + 1 = ((j + 1 : Nat) : Int) by omega, List.drop_eq_getElem_cons hlt]
      by_cases c1 : ms[j].f0 = g
      · refine AJ c1 ?_
        by_cases c2 : ms[j].f1 = i
        · refine AJ c2 (I8 ?_)
          unfold Ca
          rw [List.find?_cons_of_pos (Cz.2 ⟨c1, c2⟩)]
        · refine BQ c2 ?_
          unfold Ca
          rw [List.find?_cons_of_neg (by rw [Cz]; exact fun h => c2 h.2)]
          exact hstep
      · refine BQ c1 ?_
        unfold Ca
        rw [List.find?_cons_of_neg (by rw [Cz]; exact fun h => c1 h.1)]
        exact hstep
  have := hj ms.length 0 (by omega) (by omega)
  exact this
theorem Lo.a2I (ms : List Mv) (hs : Sorted ms) (hl : ms.length ≤ 1000) (a b g i : Int) (h0 : 0 ≤ g) (h1 : g < T * n) (h2 : 0 ≤ i) (h3 : i < (w : Int)) : Ev (fun k => D7.f k d L T S ms a b g i) (Ca L w n r ms g i) := by
  unfold D7.f
  refine DN (LD ms hs hl g i) ?_
  have hf := Ry ms hs g i
  unfold Ca
  rw [hf]
  by_cases hp : Ep ms g i < ms.length
  · rw [List.drop_eq_getElem_cons hp]
    simp only [List.head?_cons, Option.any_some, Option.filter_some]
    by_cases hi : D8 g i ms[Ep ms g i] = true
    · rw [hi]
      refine AJ rfl (AJ (by omega) (AJ (by omega) (I8 ?_)))
      rw [if_pos rfl, Gm ms _ hp]
    · rw [Bool.eq_false_iff.2 hi]
      refine BQ (by decide) (DN (H.Uv g i) (I8 ?_))
      have hc : 0 ≤ g ∧ g < T * (n : Int) ∧ 0 ≤ i ∧ i < (w : Int) := ⟨h0, h1, h2, h3⟩
      rw [if_pos hc, if_neg (by decide)]
  · rw [List.drop_of_length_le (by omega)]
    refine BQ (by simp) (DN (H.Uv g i) (I8 ?_))
    have hc : 0 ≤ g ∧ g < T * (n : Int) ∧ 0 ≤ i ∧ i < (w : Int) := ⟨h0, h1, h2, h3⟩
    rw [if_pos hc]
    rfl
end
end Go.Proofs.Ytjonnfmoocijlaa.P
namespace Go.Proofs.Ytjonnfmoocijlaa.P
open Go.RowKit Go.Proofs.YtjonnfmoocijlaaKW.PrintWords Go.Proofs.YtjonnfmoocijlaaKW.PrintLast Go.Proofs.YtjonnfmoocijlaaKW.PrintMore
attribute [local go_sem] zO zP Aj Ak zC zD zQ zR
def Bn.f (yn : Int) (yh : List (List Int)) (yo : Int) (yu : Int) (AB : List (AX)) (BB : Int) (AY : Int) : Option (Int) := if 0 < (yh.length : Int) then (some ((zt yh 0).length : Int)) else (none)
set_option maxHeartbeats 8000000 in
set_option maxRecDepth 100000 in
theorem Bn.calls (yn : Int) (yQ : Option Addr) (yM : Nat) (yh : List (List Int)) (yo : Int) (yu : Int) (EA : Option Addr) (Eo : Nat) (AB : List (AX)) (BB : Int) (AY : Int) (r : Int) (w : World) (Ah : Kd.C (Kd.slice 3 (Kd.int .i64)) w yQ yh.length yh) (Ai : yh.length ≤ yM) (Gj : Kd.C CS w EA AB.length AB) (Gl : AB.length ≤ Eo) (h : Bn.f yn yh yo yu AB BB AY = some r) :
  Calls Try.prog 63 #[.agg #[.int .i64 yn, .slice yQ yh.length yM, .int .i64 yo, .int .i64 yu, .slice EA AB.length Eo, .int .i64 BB, .int .i64 AY]] w fun e w' => e = .returned (.int .i64 r) ∧ Below w.heap.size w w' := by
 have NS := Try.underlying71;have zA := yf.mk Ah;have zK := yf.mk Ai;clear Ah Ai;have FB := yf.mk Gj;have Io := yf.mk Gl;clear Gj Gl;have HB := yf.mk (Below.refl w.heap.size w)
 have H : (if 0 < (yh.length : Int) then (some ((zt yh 0).length : Int)) else (none)) = some r := h
 clear h
 by_cases c2 : 0 < (yh.length : Int)
 rotate_left
 ·
  rw [if_neg c2] at H;exact absurd H (by simp)
 rw [if_pos c2] at H;have V5 := decide_eq_true c2
 have a6E : decide (0 < yh.length) = true := decide_eq_true (by omega)
 clear c2;obtain rfl := Option.some.inj H
 go_enter Try.func63, Try.ntmps63
 go_wp2_with (((with_reducible refine yI (N := 1) rfl ?_); refine yG rfl (N := 1) rfl (cs := #[.int .i64 yn, .slice yQ yh.length yM, .int .i64 yo, .int .i64 yu, .slice EA AB.length Eo, .int .i64 BB, .int .i64 AY]) (t := 71) (by go_simp) ?_; intro aC hg w3 yJ hb; have ah := yf.mk (yJ); have ax := bG (w := w) hg; have aA := bG (w := w) hg; replace HB := bS HB hb; clear hb yJ hg; have Tj := Gt ah; have Tk := bf ah; have ae : 0 ≤ (0 : Int) := (by omega); have af : 0 < (yh.length : Int) := of_decide_eq_true ‹_›; obtain ⟨ay, ak, aD, aj, aa, ag, ai⟩ := EC zA.out 0 ae af; cases aj; have av : (0 < yh.length) = True := eq_true (by omega); (try rw [show ((0 : Int)).toNat = 0 from rfl] at aa); (try rw [Addr.add_zero'] at aa); replace aa := cB HB aa; have az := yf.mk ai; have au := yf.mk ag; clear ai ag; replace ae := eq_true ae; replace af := eq_true af))
 go_ret
 exact ⟨by rfl, bO HB⟩
end Go.Proofs.Ytjonnfmoocijlaa.P
