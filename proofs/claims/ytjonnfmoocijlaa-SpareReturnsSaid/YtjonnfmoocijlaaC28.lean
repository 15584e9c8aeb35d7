/- Texts of a claim, packed. -/
import Derived.Test.YtjonnfmoocijlaaC27
set_option linter.all false
namespace Go.Proofs.Ytjonnfmoocijlaa.P
open Go.RowKit Go.Proofs.YtjonnfmoocijlaaKW.PrintWords Go.Proofs.YtjonnfmoocijlaaKW.PrintLast Go.Proofs.YtjonnfmoocijlaaKW.PrintMore
attribute [local go_sem] zO zP Aj Ak zC zD zQ zR
attribute [local go_sem high] Mr
mutual
def zM.l0 : Nat → List (AX) → Int → List Int → Int → Int → List (List Int) → Int → Int → Option (List Int)
 | 0, _, _, _, _, _, _, _, _ => none
 | k + 1, x1, x2, x7, x8, aa, ag, af, ae => (Cn.f aa ag af ae).bind fun XR => (if x8 < XR then (zM.l1 k x1 x2 x7 x8 0 aa ag af ae) else (some x7))
def zM.l1 : Nat → List (AX) → Int → List Int → Int → Int → Int → List (List Int) → Int → Int → Option (List Int)
 | 0, _, _, _, _, _, _, _, _, _ => none
 | k + 1, x1, x2, x7, x8, x9, aa, ag, af, ae => if x9 < (x1.length : Int) then (if 0 ≤ x9 then (if (((yg x1 x9).f2.f0) == x2 && (((yg x1 x9).f2.f1) == x8)) = true then (if x7.length < 17592186044416 then (zM.l1 k x1 x2 (x7 ++ [x8]) x8 (wrap64 (x9 + 1)) aa ag af ae) else (none)) else (zM.l1 k x1 x2 x7 x8 (wrap64 (x9 + 1)) aa ag af ae)) else (none)) else (zM.l0 k x1 x2 x7 (wrap64 (x8 + 1)) aa ag af ae)
end
def zM.f (k : Nat) (yn : Int) (yh : List (List Int)) (yo : Int) (yu : Int) (l1 : List (AX)) (a2 : Int) : Option (List Int) := (AA.f yn yh yo yu).bind fun Vt => (zM.l0 k l1 a2 ([] : List Int) Vt yn yh yo yu)
set_option maxHeartbeats 8000000 in
set_option maxRecDepth 100000 in
theorem zM.calls (k : Nat) (yn : Int) (yQ : Option Addr) (yM : Nat) (yh : List (List Int)) (yo : Int) (yu : Int) (A1 : Option Addr) (c1 : Nat) (l1 : List (AX)) (a2 : Int) (r : List Int) (w : World) (Ah : Kd.C (Kd.slice 3 (Kd.int .i64)) w yQ yh.length yh) (Ai : yh.length ≤ yM) (hr1 : Kd.C CS w A1 l1.length l1) (hc1 : l1.length ≤ c1) (h : zM.f k yn yh yo yu l1 a2 = some r) :
  Calls Try.prog 38 #[.agg #[.int .i64 yn, .slice yQ yh.length yM, .int .i64 yo, .int .i64 yu], .slice A1 l1.length c1, .int .i64 a2] w fun e w' => ∃ GG : Value, e = .returned (GG) ∧ Kd.R (Kd.int .i64) 3 w' w.heap.size (fun _ => True) GG r ∧ Below w.heap.size w w' := by
 have FH := Try.underlying31;have Jd := Try.underlying38;have zA := yf.mk Ah;have zK := yf.mk Ai;clear Ah Ai;have HR1 := yf.mk hr1;have GH := yf.mk hc1;clear hr1 hc1;have HB := yf.mk (Below.refl w.heap.size w)
 have H : ((AA.f yn yh yo yu).bind fun Vt => (zM.l0 k l1 a2 ([] : List Int) Vt yn yh yo yu)) = some r := h
 clear h;obtain ⟨Vt, A4, H⟩ := bE H
 try dsimp only at H
 have H' := yf.mk H;clear H
 go_enter Try.func38, Try.ntmps38
 go_wp2_with (first | ((with_reducible refine yI (N := 3) rfl ?_); refine yG rfl (N := 3) rfl (cs := #[.int .i64 yn, .slice yQ yh.length yM, .int .i64 yo, .int .i64 yu]) (t := 31) (by go_simp) ?_; intro ak hg w5 yJ hb; have aa := yf.mk (yJ); have aD := bG (w := w) hg; have aG := bG (w := w) hg; replace HB := bS HB hb; clear hb yJ hg; have Zr := AP aa; have Zt := bf aa) | ((with_reducible refine yw (f := 23) rfl ?_); refine gL (some 11) Try.func23 #[.agg #[.int .i64 yn, .slice yQ yh.length yM, .int .i64 yo, .int .i64 yu]] ?_; (with_reducible refine (AA.calls yn _ _ yh yo yu Vt _ ?yD ?yF A4.out).mono ?_); (case yD => exact Di zA); (case yF => exact zK.out); rintro e w7 ⟨rfl, hb⟩; refine ⟨_, rfl, ?_⟩; replace aa := bB aa hb; replace HB := bS HB hb; clear hb))
 go_loopg [7, 8] k (fun kq v7 v8 w' => ∃ (Ag : List Int) (Dh : Int), v8 = .int .i64 Dh ∧ yf (zM.l0 kq l1 a2 Ag Dh yn yh yo yu = some r) ∧ yf (kq ≤ k) ∧ yf (Kd.R (Kd.int .i64) 3 w' w.heap.size (fun _ => True) v7 Ag) ∧ yf (w'.heap[ak]? = some (.cells #[.int .i64 yn, (.slice yQ yh.length yM), .int .i64 yo, .int .i64 yu] 31 (0, 0))) ∧ yf (Below w.heap.size w w'))
 case atStart => exact ⟨(([] : List Int)), (Vt), (by rfl), H', ⟨Nat.le_refl _⟩, ⟨by exact Kd.Er _ _ _ _ _⟩, ⟨kk aa⟩, ⟨bO HB⟩⟩
 case round =>
 clear H' Zr Zt;obtain ⟨Ag, Dh, rfl, HA, BJ, EP, aa, HB⟩ := hrel
 cases gk with
 | zero => exact absurd HA.out (by simp [zM.l0])
 | succ k1 =>
 have H := HA.out;clear HA;simp only [zM.l0] at H;obtain ⟨XR, A8, H⟩ := bE H
 try dsimp only at H
 by_cases c9 : Dh < XR
 rotate_left
 ·
  rw [if_neg c9] at H;have IE := decide_eq_false c9;clear c9;obtain rfl := Option.some.inj H;have NP := AP aa;have NQ := bf aa
  go_wp2_with (((with_reducible refine yw (f := 52) rfl ?_); refine gL (some 14) Try.func52 #[.agg #[.int .i64 yn, .slice yQ yh.length yM, .int .i64 yo, .int .i64 yu]] ?_; (with_reducible refine (Cn.calls yn _ _ yh yo yu XR _ ?yD ?yF A8.out).mono ?_); (case yD => exact Di zA); (case yF => exact zK.out); rintro e w18 ⟨rfl, hb⟩; refine ⟨_, rfl, ?_⟩; replace EP := BZ EP hb; replace aa := bB aa hb; replace HB := bS HB hb; clear hb))
  go_ret
  exact ⟨_, by rfl, by (with_reducible repeat (apply Kd.yZ)); exact EP.out, bO HB⟩
 rw [if_pos c9] at H;have IE := decide_eq_true c9;clear c9;have H' := yf.mk H;clear H;have KW := AP aa;have KX := bf aa
 go_wp2_with (((with_reducible refine yw (f := 52) rfl ?_); refine gL (some 14) Try.func52 #[.agg #[.int .i64 yn, .slice yQ yh.length yM, .int .i64 yo, .int .i64 yu]] ?_; (with_reducible refine (Cn.calls yn _ _ yh yo yu XR _ ?yD ?yF A8.out).mono ?_); (case yD => exact Di zA); (case yF => exact zK.out); rintro e w11 ⟨rfl, hb⟩; refine ⟨_, rfl, ?_⟩; replace EP := BZ EP hb; replace aa := bB aa hb; replace HB := bS HB hb; clear hb))
 go_loopg [7, 9] k1 (fun kq v7 v9 w' => ∃ (Cu : List Int) (Cf : Int), v9 = .int .i64 Cf ∧ yf (zM.l1 kq l1 a2 Cu Dh Cf yn yh yo yu = some r) ∧ yf (kq ≤ k1) ∧ yf (Kd.R (Kd.int .i64) 3 w' w.heap.size (fun _ => True) v7 Cu) ∧ yf (w'.heap[ak]? = some (.cells #[.int .i64 yn, (.slice yQ yh.length yM), .int .i64 yo, .int .i64 yu] 31 (0, 0))) ∧ yf (Below w.heap.size w w'))
 case atStart => exact ⟨(Ag), (0), (by rfl), H', ⟨Nat.le_refl _⟩, ⟨kR EP⟩, ⟨kk aa⟩, ⟨bO HB⟩⟩
 case round =>
 clear H' IE KW KX;obtain ⟨Cu, Cf, rfl, HA, D6, EP, aa, HB⟩ := hrel
 cases gk with
 | zero => exact absurd HA.out (by simp [zM.l1])
 | succ k2 =>
  have H := HA.out;clear HA;simp only [zM.l1] at H
  by_cases c12 : Cf < (l1.length : Int)
  ·
   rw [if_pos c12] at H;have Gh := decide_eq_true c12;clear c12
   by_cases c13 : 0 ≤ Cf
   ·
    rw [if_pos c13] at H;have J9 := decide_eq_true c13;clear c13
    by_cases c14 : (((yg l1 Cf).f2.f0) == a2 && (((yg l1 Cf).f2.f1) == Dh)) = true
    ·
     rw [if_pos c14] at H
     have Jc : (((yg l1 Cf).f2.f0) == a2 && (((yg l1 Cf).f2.f1) == Dh)) = true := c14
     (try (have JW : decide (((yg l1 Cf).f2.f0) = a2 && (((yg l1 Cf).f2.f1) == Dh)) = true := by simpa using c14))
     (try (have a0O : (((yg l1 Cf).f2.f0) == a2 && (((yg l1 Cf).f2.f1) == Dh)) = true := by simpa using c14))
     clear c14
     by_cases c15 : Cu.length < 17592186044416
     ·
      rw [if_pos c15] at H;have aC := yf.mk c15;clear c15;obtain ⟨ax, au⟩ : ∃ y_ : List Int, y_ = (Cu ++ [Dh]) := ⟨_, rfl⟩
      replace H : (zM.l1 k2 l1 a2 ax Dh (wrap64 (Cf + 1)) yn yh yo yu) = some r := by (rw [au]; with_reducible exact H)
      have ay := yf.mk au;clear au;have H' := yf.mk H;clear H
      have ae : 0 ≤ (Cf : Int) := of_decide_eq_true ‹_›
      have af : Cf < (l1.length : Int) := of_decide_eq_true ‹_›
      obtain ⟨aA, av, ah, aj, ai, ag⟩ := BU HR1.out Cf ae af;cases av;replace ah := cB HB ah;replace aj := cB HB aj;replace ai := cB HB ai;replace ag := cB HB ag;replace ae := eq_true ae;replace af := eq_true af
      go_wp2_with (((with_reducible refine BH (b := .append) (xs := #[.tmp 33, .tmp 35]) rfl ?_); at_builtin; refine Kd.El (Kd.int .i64) (w0 := w) w.heap.size rfl (.tmp 33) (.tmp 35) 63 3 (.int .i64 0) 8 rfl Try.underlying63 info3 rfl (by decide) (by omega) u7 Cu Dh [.int .i64 Dh] (fun _ => True) (fun _ => False) rfl rfl ?aP (fun _ hk => hk.elim) ?aF ?aO ?aB ?aS ?aL ?_; (case aP => exact rfl); (case aB => exact (bO HB)); (case aF => exact (fun _ _ => trivial)); (case aO => exact (kR EP)); (case aS => exact (yL (bO HB))); (case aL => have := aC.out; omega); intro v509 w16 ho hb hg hat; rw [← ay.out] at ho; have BL := yf.mk (zY (g := ak) (o := .cells #[.int .i64 yn, .slice yQ yh.length yM, .int .i64 yo, .int .i64 yu] 31 (0, 0)) (kk aa) hg (Kd.EI EP.out aa.out (by decide))); have BN := yf.mk (hb); have BX := yf.mk (ho); clear aa; clear HB; clear EP; have aa := BL; have HB := BN; have az := BX; clear BL BN BX; clear ho hb hg hat))
      go_roundg k2
      case measure => have := BJ.out; have := D6.out; omega
      case rel => exact ⟨(ax), (wrap64 (Cf + 1)), (by rfl), H', ⟨by have := BJ.out; have := D6.out; omega⟩, ⟨kR az⟩, ⟨kk aa⟩, ⟨bO HB⟩⟩
     ·
      rw [if_neg c15] at H;exact absurd H (by simp)
    ·
     rw [if_neg c14] at H
     have Jc : (((yg l1 Cf).f2.f0) == a2 && (((yg l1 Cf).f2.f1) == Dh)) = false := by simpa using c14
     (try (have JW : decide (((yg l1 Cf).f2.f0) = a2 && (((yg l1 Cf).f2.f1) == Dh)) = false := by simpa using c14))
     (try (have a0O : (((yg l1 Cf).f2.f0) == a2 && (((yg l1 Cf).f2.f1) == Dh)) = false := by simpa using c14))
     (try (have aH : ¬ (((yg l1 Cf).f2.f0) = a2 && (((yg l1 Cf).f2.f1) == Dh)) := by simpa using c14))
     clear c14;have H' := yf.mk H;clear H
     have ae : 0 ≤ (Cf : Int) := of_decide_eq_true ‹_›
     have af : Cf < (l1.length : Int) := of_decide_eq_true ‹_›
     obtain ⟨aA, av, ah, aj, ai, ag⟩ := BU HR1.out Cf ae af;cases av;replace ah := cB HB ah;replace aj := cB HB aj;replace ai := cB HB ai;replace ag := cB HB ag;replace ae := eq_true ae;replace af := eq_true af
     go_wp2
     go_roundg k2
     case measure => have := BJ.out; have := D6.out; omega
     case rel => exact ⟨(Cu), (wrap64 (Cf + 1)), (by rfl), H', ⟨by have := BJ.out; have := D6.out; omega⟩, ⟨kR EP⟩, ⟨kk aa⟩, ⟨bO HB⟩⟩
   ·
    rw [if_neg c13] at H;exact absurd H (by simp)
  ·
   rw [if_neg c12] at H;have Gh := decide_eq_false c12;clear c12;have H' := yf.mk H;clear H
   go_wp2
   go_roundg k2
   case measure => have := BJ.out; have := D6.out; omega
   case rel => exact ⟨(Cu), (wrap64 (Dh + 1)), (by rfl), H', ⟨by have := BJ.out; have := D6.out; omega⟩, ⟨kR EP⟩, ⟨kk aa⟩, ⟨bO HB⟩⟩
end Go.Proofs.Ytjonnfmoocijlaa.P
namespace Go.Proofs.Ytjonnfmoocijlaa.P
open Go.RowKit Go.Proofs.YtjonnfmoocijlaaKW.PrintWords
def Py (x : Int) (ms : List Mv) : List Int := (ms.filter fun m => m.f2.f0 == x).map fun m => m.f2.f1
def Dr (ms : List Mv) (x : Int) : List Int := sorted (Py x ms)
theorem MO (x : Int) (ms : List Mv) : (Py x ms).length ≤ ms.length := by
 unfold Py
 rw [List.length_map]
 exact List.length_filter_le _ _
theorem LH (x : Int) (ms : List Mv) : (Dr ms x).length ≤ ms.length := by
 unfold Dr
 rw [I6]
 exact MO x ms
theorem Vu (x b : Int) (ms : List Mv) : (Py x ms).count b = (ms.filter fun m => m.f2.f0 == x && m.f2.f1 == b).length := by
  unfold Py
  induction ms with
  | nil => rfl
  | cons m ms ih =>
    by_cases c1 : m.f2.f0 = x
    · rw [List.filter_cons_of_pos (by simpa using c1), List.map_cons, List.count_cons, ih]
      by_cases c2 : m.f2.f1 = b
      · rw [List.filter_cons_of_pos (by simp [c1, c2])]
        simp [c2]
      · rw [List.filter_cons_of_neg (by simp [c2])]
        simp [c2]
    · rw [List.filter_cons_of_neg (by simpa using c1), List.filter_cons_of_neg (by simp [c1]), ih]
theorem NY (ms : List Mv) (hl : ms.length ≤ 1000) (d T S a b : Int) (L : List (List Int)) (x : Int) : Ev (fun k => zU.f k d L T S ms a b x) (Dr ms x) := by
  have h0 : ∀ t j : Nat, ms.length - j = t → j ≤ ms.length → Ev (fun k => zU.l0 k x (Py x (ms.take j)) ms (ms.length : Int) (j : Int)) (Dr ms x) := by
    intro t
    induction t with
    | zero =>
      intro j ht hj
      have := MO x ms
      refine evs (fun k => by rw [zU.l0]) (BQ (by omega) ?_)
      rw [List.take_of_length_le (by omega)]
      exact GJ (a := Dr ms x) (by unfold slices_Sort_int.f Dr; rw [if_pos (by omega)]) (Ev.now _)
    | succ t ih =>
      intro j ht hj
      have hlt : j < ms.length := by omega
      have hln := MO x (ms.take j)
      rw [List.length_take] at hln
      have := ih (j + 1) (by omega) (by omega)
      refine evs (fun k => by rw [zU.l0]) (AJ (by omega) (AJ (by omega) (AJ (by omega) ?_)))
      rw [Gm ms j hlt, ww (by omega) (by omega), show (j : Int) + 1 = ((j + 1 : Nat) : Int) by omega]
      rw [List.take_succ_eq_append_getElem hlt] at this
      unfold Py at this hln ⊢
      rw [List.filter_append, List.map_append] at this
      by_cases c : ms[j].f2.f0 = x
      · refine AJ c (AJ (by omega) ?_)
        rw [List.filter_cons_of_pos (by simpa using c)] at this
        exact this
      · refine BQ c ?_
        rw [List.filter_cons_of_neg (by simpa using c), List.filter_nil, List.map_nil, List.append_nil] at this
        exact this
  exact h0 _ 0 rfl (Nat.zero_le _)
section
variable {d : Int} {L : List (List Int)} {w n r : Nat} {T S : Int} (H : Lo d L w n r T S)
include H
theorem Lo.a5F (ms : List Mv) (hl : ms.length ≤ 1000) (hb : ∀ m ∈ ms, T * r ≤ m.f2.f1 ∧ m.f2.f1 < T * r + S) (x : Int) : Ev (fun k => zM.f k d L T S ms x) (Dr ms x) := by
  have hr := H.tr
  have hs1 := H.s1
  have hin : ∀ y, (Py x ms).count y ≠ 0 → T * r ≤ y ∧ y < T * r + S := by
    intro y hy
    have := List.count_pos_iff.1 (Nat.pos_of_ne_zero hy)
    unfold Py at this
    obtain ⟨m, hm, rfl⟩ := List.mem_map.1 this
    exact hb m (List.mem_filter.1 hm).1
  have h1 : ∀ (acc : List Int) (b : Int) (R : List Int), acc.length ≤ 8000 → -1000000 ≤ b ∧ b ≤ 1000000 →
      ∀ t q c : Nat, ms.length - q = t → q ≤ ms.length → c ≤ q → Ev (fun k => zM.l0 k ms x (acc ++ List.replicate (c + ((ms.drop q).filter fun m => m.f2.f0 == x && m.f2.f1 == b).length) b) (b + 1) d L T S) R →
        Ev (fun k => zM.l1 k ms x (acc ++ List.replicate c b) b (q : Int) d L T S) R := by
    intro acc b R hacc hbb t
    induction t with
    | zero =>
      intro q c ht hq hc hR
      refine evs (fun k => by rw [zM.l1]) (BQ (by omega) ?_)
      rw [List.drop_of_length_le (by omega)] at hR
      rw [ww (by omega) (by omega)]
      exact hR
    | succ t ih =>
      intro q c ht hq hc hR
      have hlt : q < ms.length := by omega
      refine evs (fun k => by rw [zM.l1]) (AJ (by omega) (AJ (by omega) ?_))
      rw [Gm ms q hlt, ww (x := (q : Int) + 1) (by omega) (by omega), show (q : Int) + 1 = ((q + 1 : Nat) : Int) by omega]
      rw [List.drop_eq_getElem_cons hlt] at hR
      by_cases c1 : (ms[q].f2.f0 == x && (ms[q].f2.f1 == b)) = true
      · rw [List.filter_cons_of_pos (by exact c1), List.length_cons] at hR
        refine AJ c1 (AJ (by simp; omega) ?_)
        rw [List.append_assoc, show List.replicate c b ++ [b] = List.replicate (c + 1) b from List.replicate_succ'.symm]
        refine ih (q + 1) (c + 1) (by omega) (by omega) (by omega) ?_
        rw [show c + 1 + ((ms.drop (q + 1)).filter fun m => m.f2.f0 == x && m.f2.f1 == b).length = c + (((ms.drop (q + 1)).filter fun m => m.f2.f0 == x && m.f2.f1 == b).length + 1) by omega]
        exact hR
      · rw [List.filter_cons_of_neg (by exact c1)] at hR
        refine BQ c1 (ih (q + 1) c (by omega) (by omega) (by omega) hR)
  have h0 : ∀ (t : Nat) (b : Int) (acc : List Int), T * r + S - b = (t : Int) → T * r ≤ b → acc.length ≤ (b - T * r).toNat * 1000 → acc.Pairwise (· ≤ ·) → (∀ y ∈ acc, y < b) → (∀ y, y < b → acc.count y = (Py x ms).count y) → Ev (fun k => zM.l0 k ms x acc b d L T S) (Dr ms x) := by
    intro t
    induction t with
    | zero =>
      intro b acc ht hb1 hlen hpw hlt hc
      refine evs (fun k => by rw [zM.l0]) (GJ H.blocks (BQ (show ¬ b < T * r + S by omega) (I8 ?_)))
      refine I5 _ _ hpw (Ip _) (List.Perm.trans ?_ (sorted_perm _).symm)
      rw [List.perm_iff_count]
      intro y
      by_cases hy : y < b
      · exact hc y hy
      · rw [List.count_eq_zero.2 (fun h => hy (hlt y h))]
        by_cases h2 : (Py x ms).count y = 0
        · exact h2.symm
        · have := hin y h2
          omega
    | succ t ih =>
      intro b acc ht hb1 hlen hpw hlt hc
      have hsm : (b - T * r).toNat ≤ 7 := by omega
      refine evs (fun k => by rw [zM.l0]) (GJ H.blocks (AJ (show b < T * r + S by omega) ?_))
      have := h1 acc b (Dr ms x) (by have : (b - T * r).toNat * 1000 ≤ 7 * 1000 := Nat.mul_le_mul_right _ hsm; omega) (by omega) _ 0 0 rfl (Nat.zero_le _) (Nat.le_refl _) ?_
      · rw [List.replicate_zero, List.append_nil] at this
        exact this
      · rw [List.drop_zero, Nat.zero_add, ← Vu]
        have hcl : (Py x ms).count b ≤ 1000 := Nat.le_trans (List.count_le_length) (Nat.le_trans (MO x ms) hl)
        refine ih (b + 1) _ (by omega) (by omega) ?_ ?_ ?_ ?_
        · rw [List.length_append, List.length_replicate, show (b + 1 - T * r).toNat = (b - T * r).toNat + 1 by omega, Nat.succ_mul]
          omega
        · rw [List.pairwise_append]
          refine ⟨hpw, ?_, fun a ha b' hb' => ?_⟩
          · rw [List.pairwise_iff_getElem]
            intro i j hi hj _
            simp
          · rw [List.eq_of_mem_replicate hb']
            have := hlt a ha
            omega
        · intro y hy
          rcases List.mem_append.1 hy with h | h
          · have := hlt y h
            omega
          · rw [List.eq_of_mem_replicate h]
            omega
        · intro y hy
          rw [List.count_append, List.count_replicate]
          by_cases e : y = b
          · subst e
            rw [List.count_eq_zero.2 (fun h => by have := hlt y h; omega)]
            simp
          · rw [hc y (by omega)]
            simp [show ¬ b = y from fun h => e h.symm]
  unfold zM.f
  refine GJ H.homes ?_
  exact h0 S.toNat _ [] (by omega) (Int.le_refl _) (by simp) List.Pairwise.nil (by simp) (fun y hy => by
    rw [List.count_nil]
    by_cases h2 : (Py x ms).count y = 0
    · exact h2.symm
    · have := hin y h2
      omega)
end
end Go.Proofs.Ytjonnfmoocijlaa.P
namespace Go.Proofs.Ytjonnfmoocijlaa.P
open Go.RowKit Go.Proofs.YtjonnfmoocijlaaKW.PrintWords Go.Proofs.YtjonnfmoocijlaaKW.PrintLast Go.Proofs.YtjonnfmoocijlaaKW.PrintMore
attribute [local go_sem] zO zP Aj Ak zC zD zQ zR
def slices_Index_int.l0 : Nat → List Int → Int → Int → Int → Option (Int)
 | 0, _, _, _, _ => none
 | k + 1, x0, x1, x7, x8 => if x8 < x7 then (if 0 ≤ x8 then (if x8 < (x0.length : Int) then (if x1 = (rd x0 x8) then (some x8) else (slices_Index_int.l0 k x0 x1 x7 (wrap64 (x8 + 1)))) else (none)) else (none)) else (some (-1))
def slices_Index_int.f (k : Nat) (l0 : List Int) (a1 : Int) : Option (Int) := slices_Index_int.l0 k l0 a1 (l0.length : Int) 0
set_option maxHeartbeats 8000000 in
set_option maxRecDepth 100000 in
theorem slices_Index_int.calls (k : Nat) (A0 : Option Addr) (c0 : Nat) (l0 : List Int) (a1 : Int) (r : Int) (w : World) (hr0 : Kd.C (Kd.int .i64) w A0 l0.length l0) (hc0 : l0.length ≤ c0) (h : slices_Index_int.f k l0 a1 = some r) :
  Calls Try.prog 65 #[.slice A0 l0.length c0, .int .i64 a1] w fun e w' => e = .returned (.int .i64 r) ∧ zV w w' := by
 have Li := yf.mk hr0;have Ws := yf.mk hc0;clear hr0 hc0
 have H : (slices_Index_int.l0 k l0 a1 (l0.length : Int) 0) = some r := h
 clear h;have H' := yf.mk H;clear H
 go_enter Try.func65, Try.ntmps65
 go_wp2
 go_loopg [8] k (fun kq v8 w' => ∃ (Dh : Int), v8 = .int .i64 Dh ∧ yf (slices_Index_int.l0 kq l0 a1 (l0.length : Int) Dh = some r) ∧ yf (kq ≤ k) ∧ zV w w')
 case atStart => exact ⟨(0), (by rfl), H', ⟨Nat.le_refl _⟩, by repeat (exact zV.refl _)⟩
 case round =>
 clear H';obtain ⟨Dh, rfl, HA, BJ, ⟨m1, rfl⟩⟩ := hrel
 cases gk with
 | zero => exact absurd HA.out (by simp [slices_Index_int.l0])
 | succ k1 =>
 have H := HA.out;clear HA;simp only [slices_Index_int.l0] at H
 by_cases c3 : Dh < (l0.length : Int)
 rotate_left
 ·
  rw [if_neg c3] at H;have G5 := decide_eq_false c3;clear c3;obtain rfl := Option.some.inj H
  go_wp2
  go_ret
  exact ⟨by rfl, by repeat (first | exact zV.refl _ | apply zV.step)⟩
 rw [if_pos c3] at H;have G5 := decide_eq_true c3;clear c3
 by_cases c4 : 0 ≤ Dh
 rotate_left
 ·
  rw [if_neg c4] at H;exact absurd H (by simp)
 rw [if_pos c4] at H;have ES := decide_eq_true c4;clear c4
 by_cases c5 : Dh < (l0.length : Int)
 rotate_left
 ·
  rw [if_neg c5] at H;exact absurd H (by simp)
 rw [if_pos c5] at H;have FE := decide_eq_true c5;clear c5
 by_cases c6 : a1 = (rd l0 Dh)
 ·
  rw [if_pos c6] at H;have EJ := beq_iff_eq.mpr c6
  have IX : (a1 != (rd l0 Dh)) = false := bne_eq_false_iff_eq.mpr c6
  clear c6;obtain rfl := Option.some.inj H
  have aa : 0 ≤ (Dh : Int) := of_decide_eq_true ‹_›
  have ae : Dh < (l0.length : Int) := of_decide_eq_true ‹_›
  obtain ⟨ag, e233, af⟩ := Kd.C9 Li.out Dh aa ae;cases e233;replace aa := eq_true aa;replace ae := eq_true ae
  go_wp2
  go_ret
  exact ⟨by rfl, by repeat (first | exact zV.refl _ | apply zV.step)⟩
 rw [if_neg c6] at H;have EJ := beq_eq_false_iff_ne.mpr c6;have IX := bne_iff_ne.mpr c6;have H' := yf.mk H;clear H
 have aa : 0 ≤ (Dh : Int) := of_decide_eq_true ‹_›
 have ae : Dh < (l0.length : Int) := of_decide_eq_true ‹_›
 obtain ⟨ag, e233, af⟩ := Kd.C9 Li.out Dh aa ae;cases e233;replace aa := eq_true aa;replace ae := eq_true ae
 go_wp2
 go_roundg k1
 case measure => have := BJ.out; omega
 case rel => exact ⟨(wrap64 (Dh + 1)), (by rfl), H', ⟨by have := BJ.out; omega⟩, by repeat (first | exact zV.refl _ | apply zV.step)⟩
def slices_Contains_int.f (k : Nat) (l0 : List Int) (a1 : Int) : Option (Bool) := (slices_Index_int.f k l0 a1).bind fun t234 => (some (decide (t234 ≥ 0)))
set_option maxHeartbeats 8000000 in
set_option maxRecDepth 100000 in
theorem slices_Contains_int.calls (k : Nat) (A0 : Option Addr) (c0 : Nat) (l0 : List Int) (a1 : Int) (r : Bool) (w : World) (hr0 : Kd.C (Kd.int .i64) w A0 l0.length l0) (hc0 : l0.length ≤ c0) (h : slices_Contains_int.f k l0 a1 = some r) :
  Calls Try.prog 37 #[.slice A0 l0.length c0, .int .i64 a1] w fun e w' => e = .returned (.bool r) ∧ zV w w' := by
 have Li := yf.mk hr0;have Ws := yf.mk hc0;clear hr0 hc0
 have H : ((slices_Index_int.f k l0 a1).bind fun t234 => (some (decide (t234 ≥ 0)))) = some r := h
 clear h;obtain ⟨t234, A3, H⟩ := bE H
 try dsimp only at H
 obtain rfl := Option.some.inj H
 go_enter Try.func37, Try.ntmps37
 go_wp2_with (((with_reducible refine yw (f := 65) rfl ?_); refine gL (some 7) Try.func65 #[.slice A0 l0.length c0, .int .i64 a1] ?_; (with_reducible refine (slices_Index_int.calls k _ _ l0 a1 t234 _ ?yD ?yF A3.out).mono ?_); (case yD => repeat (exact Li.out)); (case yF => exact Ws.out); rintro e w' ⟨rfl, ⟨nd, rfl⟩⟩; refine ⟨_, rfl, ?_⟩))
 go_ret
 exact ⟨by rfl, by repeat (first | exact zV.refl _ | apply zV.step)⟩
end Go.Proofs.Ytjonnfmoocijlaa.P
