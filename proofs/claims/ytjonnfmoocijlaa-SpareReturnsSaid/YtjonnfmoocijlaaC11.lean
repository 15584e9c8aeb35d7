/- Texts of a claim, packed. -/
import Derived.Test.YtjonnfmoocijlaaC10
set_option linter.all false
namespace Go.Proofs.Ytjonnfmoocijlaa.P
open Go.RowKit Go.Proofs.YtjonnfmoocijlaaKW.PrintWords Go.Proofs.YtjonnfmoocijlaaKW.PrintLast Go.Proofs.YtjonnfmoocijlaaKW.PrintMore
attribute [local go_sem] zO zP Aj Ak zC zD zQ zR
def yU.l0 : Nat → Int → Int → Int → Int → Int → Int → Int → Int → List (List Int) → Int → Int → Option (Int × Int)
 | 0, _, _, _, _, _, _, _, _, _, _, _ => none
 | k + 1, x7, x8, x9, F5, EK, Ga, F6, af, aa, ag, ae => if F6 < x7 then (if 0 ≤ F6 then (if F6 < (aa.length : Int) then ((zZ.f k (zt aa F6) F5).bind fun a2t => (if a2t = true then (if F6 < x9 then (yU.l0 k x7 x8 x9 F5 (wrap64 (EK + 1)) (wrap64 (Ga + 1)) (wrap64 (F6 + 1)) af aa ag ae) else (yU.l0 k x7 x8 x9 F5 (wrap64 (EK + 1)) Ga (wrap64 (F6 + 1)) af aa ag ae)) else (yU.l0 k x7 x8 x9 F5 EK Ga (wrap64 (F6 + 1)) af aa ag ae))) else (none)) else (none)) else (some (F5, wrap64 ((wrap64 (x8 * EK)) + Ga)))
def yU.f (k : Nat) (yn : Int) (yh : List (List Int)) (yo : Int) (yu : Int) (a1 : Int) (a2 : Int) : Option (Int × Int) := if (yh.length : Int) = 0 then (none) else (if 0 ≤ (Int.tmod a1 (yh.length : Int)) then (if (Int.tmod a1 (yh.length : Int)) < (yh.length : Int) then ((zi.f yn yh yo yu).bind fun IY => (if IY = 0 then (none) else (if 0 ≤ (Int.tmod (wrap64 (a2 + (wrap64 (Int.tdiv a1 (yh.length : Int))))) IY) then (if (Int.tmod (wrap64 (a2 + (wrap64 (Int.tdiv a1 (yh.length : Int))))) IY) < ((zt yh (Int.tmod a1 (yh.length : Int))).length : Int) then (yU.l0 k (yh.length : Int) (wrap64 (Int.tdiv a1 (yh.length : Int))) (Int.tmod a1 (yh.length : Int)) (rd (zt yh (Int.tmod a1 (yh.length : Int))) (Int.tmod (wrap64 (a2 + (wrap64 (Int.tdiv a1 (yh.length : Int))))) IY)) 0 0 0 yn yh yo yu) else (none)) else (none)))) else (none)) else (none))
theorem yU.mono_l : ∀ k, (∀ y0 y1 y2 y3 y4 y5 y6 y7 y8 y9 aa, BP (yU.l0 k y0 y1 y2 y3 y4 y5 y6 y7 y8 y9 aa) (yU.l0 (k + 1) y0 y1 y2 y3 y4 y5 y6 y7 y8 y9 aa))
 | 0 => fun _ _ _ _ _ _ _ _ _ _ _ r h => by simp [yU.l0] at h
 | k + 1 => by
  have Gg := yU.mono_l k
  ·
   intro y0 y1 y2 y3 y4 y5 y6 y7 y8 y9 aa
   unfold yU.l0
   repeat' first
   | exact Gg _ _ _ _ _ _ _ _ _ _ _
   | exact zZ.mono _ _ _
   | exact BP.refl _
   | exact BP.none _
   | refine BP.ite ?_ ?_
   | refine BP.bind ?_ (fun _ => ?_)
theorem yU.mono : ∀ a0 a1 a2 a3 a4 a5 k, BP (yU.f k a0 a1 a2 a3 a4 a5) (yU.f (k + 1) a0 a1 a2 a3 a4 a5) := by
 intro a0 a1 a2 a3 a4 a5 k
 have Gg := yU.mono_l k
 unfold yU.f
 repeat' first
  | exact Gg _ _ _ _ _ _ _ _ _ _ _
  | exact zZ.mono _ _ _
  | exact BP.refl _
  | exact BP.none _
  | refine BP.ite ?_ ?_
  | refine BP.bind ?_ (fun _ => ?_)
def yU.T2 : Bool × List (List Nat × List Nat) := (true, [([], []), ([], []), ([0, 1], [0, 1]), ([], []), ([], []), ([3, 4], [3, 4]), ([2, 0, 1, 2], [2]), ([5, 6, 0, 1, 2, 3, 4, 5, 6], [5])])
def yU.B2 : List Nat := [0, 0, 3, 0, 0, 24, 7, 127]
theorem yU.a2u : CZ .any (opsOf Try.f26 2) = yU.T2 := by kernel_rfl
theorem yU.WP : BD yU.T2.2 yU.B2 = true := by kernel_rfl
def yU.T3 : Bool × List (List Nat × List Nat) := (true, [([], []), ([0], [0]), ([1], [1]), ([], []), ([2, 3], [2, 3]), ([4], [4]), ([], []), ([], []), ([6, 7], [6, 7]), ([], []), ([9], [9]), ([8, 10], [8, 10]), ([5, 11], [5, 11]), ([12], [12]), ([13, 10, 0, 1, 2, 3, 4, 5, 6, 7, 8, 9, 10, 11, 12, 13], [13])])
def yU.B3 : List Nat := [0, 1, 3, 0, 15, 31, 0, 0, 192, 0, 512, 1984, 4095, 8191, 16383]
theorem yU.a2v : CZ .any (opsOf Try.f26 3) = yU.T3 := by kernel_rfl
theorem yU.WQ : BD yU.T3.2 yU.B3 = true := by kernel_rfl
set_option maxHeartbeats 8000000 in
set_option maxRecDepth 100000 in
theorem yU.calls (k : Nat) (yn : Int) (yQ : Option Addr) (yM : Nat) (yh : List (List Int)) (yo : Int) (yu : Int) (a1 : Int) (a2 : Int) (r1 : Int) (r2 : Int) (w : World) (Ah : Kd.C (Kd.slice 3 (Kd.int .i64)) w yQ yh.length yh) (Ai : yh.length ≤ yM) (h : yU.f k yn yh yo yu a1 a2 = some (r1, r2)) :
  Calls Try.prog 26 #[.agg #[.int .i64 yn, .slice yQ yh.length yM, .int .i64 yo, .int .i64 yu], .int .i64 a1, .int .i64 a2] w fun e w' => e = .returned (.agg #[.int .i64 r1, .int .i64 r2]) ∧ Below w.heap.size w w' := by
 have FH := Try.underlying31;have Jd := Try.underlying38;have zA := yf.mk Ah;have zK := yf.mk Ai;clear Ah Ai;have HB := yf.mk (Below.refl w.heap.size w)
 have H : (if (yh.length : Int) = 0 then (none) else (if 0 ≤ (Int.tmod a1 (yh.length : Int)) then (if (Int.tmod a1 (yh.length : Int)) < (yh.length : Int) then ((zi.f yn yh yo yu).bind fun IY => (if IY = 0 then (none) else (if 0 ≤ (Int.tmod (wrap64 (a2 + (wrap64 (Int.tdiv a1 (yh.length : Int))))) IY) then (if (Int.tmod (wrap64 (a2 + (wrap64 (Int.tdiv a1 (yh.length : Int))))) IY) < ((zt yh (Int.tmod a1 (yh.length : Int))).length : Int) then (yU.l0 k (yh.length : Int) (wrap64 (Int.tdiv a1 (yh.length : Int))) (Int.tmod a1 (yh.length : Int)) (rd (zt yh (Int.tmod a1 (yh.length : Int))) (Int.tmod (wrap64 (a2 + (wrap64 (Int.tdiv a1 (yh.length : Int))))) IY)) 0 0 0 yn yh yo yu) else (none)) else (none)))) else (none)) else (none))) = some (r1, r2) := h
 clear h
 by_cases c4 : (yh.length : Int) = 0
 ·
  rw [if_pos c4] at H;exact absurd H (by simp)
 rw [if_neg c4] at H;have ES := beq_eq_false_iff_ne.mpr c4;have Lx := bne_iff_ne.mpr c4
 have bu : ¬ (yh = []) := fun h_ => c4 (by rw [h_]; rfl)
 obtain ⟨ae, bn⟩ : ∃ j_ : Int, (Int.tmod a1 (yh.length : Int)) = j_ := ⟨_, rfl⟩
 replace H : (if 0 ≤ (ae) then (if (ae) < (yh.length : Int) then ((zi.f yn yh yo yu).bind fun IY => (if IY = 0 then (none) else (if 0 ≤ (Int.tmod (wrap64 (a2 + (wrap64 (Int.tdiv a1 (yh.length : Int))))) IY) then (if (Int.tmod (wrap64 (a2 + (wrap64 (Int.tdiv a1 (yh.length : Int))))) IY) < ((zt yh (ae)).length : Int) then (yU.l0 k (yh.length : Int) (wrap64 (Int.tdiv a1 (yh.length : Int))) ae (rd (zt yh (ae)) (Int.tmod (wrap64 (a2 + (wrap64 (Int.tdiv a1 (yh.length : Int))))) IY)) 0 0 0 yn yh yo yu) else (none)) else (none)))) else (none)) else (none)) = some (r1, r2) := by (rw [bn] at H; exact H)
 by_cases c6 : 0 ≤ (ae)
 rotate_left
 ·
  rw [if_neg c6] at H;exact absurd H (by simp)
 rw [if_pos c6] at H;have EJ := decide_eq_true c6;clear c6
 by_cases c7 : (ae) < (yh.length : Int)
 rotate_left
 ·
  rw [if_neg c7] at H;exact absurd H (by simp)
 rw [if_pos c7] at H;have GN := decide_eq_true c7;clear c7;obtain ⟨IY, A8, H⟩ := bE H
 try dsimp only at H
 by_cases c9 : IY = 0
 ·
  rw [if_pos c9] at H;exact absurd H (by simp)
 rw [if_neg c9] at H;have IE := beq_eq_false_iff_ne.mpr c9;have QJ := bne_iff_ne.mpr c9;obtain ⟨af, aW⟩ : ∃ j_ : Int, (Int.tmod (wrap64 (a2 + (wrap64 (Int.tdiv a1 (yh.length : Int))))) IY) = j_ := ⟨_, rfl⟩
 replace H : (if 0 ≤ (af) then (if (af) < ((zt yh (ae)).length : Int) then (yU.l0 k (yh.length : Int) (wrap64 (Int.tdiv a1 (yh.length : Int))) ae (rd (zt yh (ae)) (af)) 0 0 0 yn yh yo yu) else (none)) else (none)) = some (r1, r2) := by (rw [aW] at H; exact H)
 (try rw [aW] at A8)
 by_cases c11 : 0 ≤ (af)
 rotate_left
 ·
  rw [if_neg c11] at H;exact absurd H (by simp)
 rw [if_pos c11] at H;have GD := decide_eq_true c11;clear c11
 by_cases c12 : (af) < ((zt yh (ae)).length : Int)
 rotate_left
 ·
  rw [if_neg c12] at H;exact absurd H (by simp)
 rw [if_pos c12] at H;have Gh := decide_eq_true c12;clear c12;have H' := yf.mk H;clear H
 go_enter Try.func26, Try.ntmps26
 try go_wp2_with (first | ((with_reducible refine yI (N := 3) rfl ?_); refine yG rfl (N := 3) rfl (cs := #[.int .i64 yn, .slice yQ yh.length yM, .int .i64 yo, .int .i64 yu]) (t := 31) (by go_simp) ?_; intro aG hg w13 yJ hb; have aa := yf.mk (yJ); have bD := bG (w := w) hg; have bC := bG (w := w) hg; replace HB := bS HB hb; clear hb yJ hg) | ((with_reducible refine yI (N := 6) rfl ?_); refine yG rfl (N := 6) rfl (cs := #[.int .i64 0, .int .i64 0]) (t := 38) (by go_simp) ?_; intro aV hg w14 yJ hb; have ag := yf.mk (yJ); have bF := bG (w := w) hg; have bH := bG (w := w) hg; have az := Co aa hg; have aA := Ar aa hg; replace aa := bB aa hb; replace HB := bS HB hb; clear hb yJ hg; have WR := az.out; have WS := aA.out; have KO := AP aa; have KP := bf aa))
 replace aa := yf.mk (yO aa.out);replace ag := yf.mk (yO ag.out);replace HB := yf.mk (za HB.out)
 refine Bc (n := 8) (S := fun w' => True) (ds := []) (bz 8 0) (by kernel_rfl) rfl rfl trivial (fun hHeld => ?_); refine zF yU.a2u yU.WP (fun yz Bi => ?_)
 generalize w14.drew = w17 at aa ag HB hHeld ⊢;refine pU 0 18 8 1 yz ?_;refine pU 1 19 8 3 yz ?_;refine pU 2 20 8 7 yz ?_;refine pU 3 21 8 15 yz ?_;refine pU 4 22 8 31 yz ?_;refine pU 5 23 8 63 yz ?_;refine pU 6 8 8 127 yz ?_;refine pU 7 9 8 255 yz ?_
 refine BG (Al yz.out (by kernel_rfl)) ?_
 try go_wp2
 replace aa := yf.mk (yO aa.out);replace ag := yf.mk (yO ag.out);replace HB := yf.mk (za HB.out)
 have aN : 0 ≤ ((ae) : Int) := of_decide_eq_true ‹_›
 have aQ : (ae) < (yh.length : Int) := of_decide_eq_true ‹_›
 obtain ⟨av, bJ, bq, bA, aC, aU, bg⟩ := EC zA.out (ae) aN aQ;have aX := aC;cases bA;replace aC := cB HB aC;have bi := yf.mk bg;have bI := yf.mk aU;clear bg aU;replace aN := eq_true aN;replace aQ := eq_true aQ
 have aM : 0 ≤ ((af) : Int) := of_decide_eq_true ‹_›
 have aT : (af) < ((zt yh (ae)).length : Int) := of_decide_eq_true ‹_›
 obtain ⟨aZ, bv, aK⟩ := Kd.C9 bi.out (af) aM aT;have aY := aK;cases bv;replace aK := cB HB aK;replace aM := eq_true aM;replace aT := eq_true aT
 refine Bc (n := 15) (S := fun w' => w'.cell? ⟨aG, 0, none⟩ = some (.int .i64 yn) ∧ w'.cell? ⟨aG, 1, none⟩ = some (.slice (some av) yh.length yM) ∧ w'.cell? ⟨aG, 2, none⟩ = some (.int .i64 yo) ∧ w'.cell? ⟨aG, 3, none⟩ = some (.int .i64 yu) ∧ w'.cell? (av.add ((ae)).toNat) = some (.slice (some aZ) (zt yh (ae)).length bq) ∧ w'.cell? (aZ.add ((af)).toNat) = some (.int .i64 (rd (zt yh (ae)) (af)))) (ds := []) (bz 15 0) (by kernel_rfl) rfl rfl ⟨(yA aa.out 0).trans rfl, (yA aa.out 1).trans rfl, (yA aa.out 2).trans rfl, (yA aa.out 3).trans rfl, (cB HB aX), (cB HB aY)⟩ (fun hHeld => ?_); refine zF yU.a2v yU.WQ (fun yz Bi => ?_)
 generalize w17.drew = w18 at aa ag HB bi aC aK hHeld ⊢;refine pU 0 24 15 1 yz ?_;refine pU 1 25 15 3 yz ?_;refine pU 3 27 15 11 yz ?_;refine pU 6 30 15 75 yz ?_;refine pU 7 31 15 203 yz ?_;refine pU 8 32 15 459 yz ?_
 refine BO 2 26 15 463 yz Bi hHeld ?_
 refine pU 4 28 15 479 yz ?_
 refine BO 5 29 15 511 yz Bi hHeld ?_
 refine BO 9 33 15 1023 yz Bi hHeld ?_
 refine Ck (i := 10) (N := some 34) (bz 15 2047) rfl rfl (Af yz.out (by kernel_rfl)) (by decide) (fun K hK => ?_)
 refine gO Try.func24 #[.agg #[.int .i64 yn, .slice (some av) yh.length yM, .int .i64 yo, .int .i64 yu]] ?_
 with_reducible refine (zi.calls yn _ _ yh yo yu IY _ ?yD ?yF A8.out).mono ?_
 (case yD => exact Di zA)
 (case yF => exact zK.out)
 rintro e w19 ⟨rfl, hb⟩
 refine ⟨_, rfl, ?_⟩
 replace aa := bB aa hb;replace ag := bB ag hb;replace HB := bS HB hb;clear hb
 refine hK.out _ _ ⟨(yA aa.out 0).trans rfl, (yA aa.out 1).trans rfl, (yA aa.out 2).trans rfl, (yA aa.out 3).trans rfl, (cB HB aX), (cB HB aY)⟩ (fun hHeld => ?_)
 clear hK K
 refine AR (a' := ?_) ?_ ?_
 rotate_left
 ·
  show Act.put _ (some 34) _ = _
  simp only [pz]
  rfl
 refine pU 11 35 15 4095 yz ?_;refine pU 12 36 15 8191 yz ?_
 refine BO 13 37 15 16383 yz Bi hHeld ?_
 refine pU 14 10 15 32767 yz ?_
 refine BG (Al yz.out (by kernel_rfl)) ?_
 try go_wp2
 go_loopg [11, 12, 13] k (fun kq v11 v12 v13 w' => ∃ (AV : Int) (Bv : Int) (Dl : Int), v11 = .int .i64 AV ∧ v12 = .int .i64 Bv ∧ v13 = .int .i64 Dl ∧ yf (yU.l0 kq (yh.length : Int) (wrap64 (Int.tdiv a1 (yh.length : Int))) ae (rd (zt yh (ae)) (af)) AV Bv Dl yn yh yo yu = some (r1, r2)) ∧ yf (kq ≤ k) ∧ yf (w'.heap[aG]? = some (.cells #[.int .i64 yn, (.slice (some av) yh.length yM), .int .i64 yo, .int .i64 yu] 31 (0, 0))) ∧ yf (w'.heap[aV]? = some (.cells #[.int .i64 0, .int .i64 0] 38 (0, 0))) ∧ yf (Below w.heap.size w w'))
 case atStart => exact ⟨(0), (0), (0), (by rfl), (by rfl), (by rfl), H', ⟨Nat.le_refl _⟩, ⟨kk aa⟩, ⟨kk ag⟩, ⟨bO HB⟩⟩
 case round =>
 clear H' c4 ES Lx bu EJ GN c9 IE QJ GD Gh KO KP aC aK aN aM aQ aT;obtain ⟨AV, Bv, Dl, rfl, rfl, rfl, HA, BJ, aa, ag, HB⟩ := hrel
 cases gk with
 | zero => exact absurd HA.out (by simp [yU.l0])
 | succ k1 =>
 have H := HA.out;clear HA;simp only [yU.l0] at H
 by_cases c20 : Dl < (yh.length : Int)
 rotate_left
 ·
  rw [if_neg c20] at H;have KJ := decide_eq_false c20;clear c20;simp only [Option.some.injEq, Prod.mk.injEq] at H;obtain ⟨rfl, rfl⟩ := H;have P8 := aA.out;have P9 := az.out;have Je := bc2 ag;have Jf := bf ag
  go_wp2
  refine bodyPost_ret (results_cell_row rfl _ _ aV 38 #[.int .i64 (rd (zt yh (ae)) (af)), .int .i64 (wrap64 ((wrap64 ((wrap64 (Int.tdiv a1 (yh.length : Int))) * AV)) + Bv))] (0, 0) _ rfl (CJ ag rfl) Try.underlying38 rfl (by kernel_rfl)) rfl ?_
  exact ⟨by rfl, bO HB⟩
 rw [if_pos c20] at H;have KJ := decide_eq_true c20;clear c20
 by_cases c21 : 0 ≤ Dl
 rotate_left
 ·
  rw [if_neg c21] at H;exact absurd H (by simp)
 rw [if_pos c21] at H;have QL := decide_eq_true c21;clear c21
 by_cases Ih : Dl < (yh.length : Int)
 rotate_left
 ·
  rw [if_neg Ih] at H;exact absurd H (by simp)
 rw [if_pos Ih] at H;have JV := decide_eq_true Ih;clear Ih;obtain ⟨a2t, A23, H⟩ := bE H
 try dsimp only at H
 by_cases c24 : a2t = true
 rotate_left
 ·
  replace c24 := Bool.eq_false_iff.mpr c24;subst c24
  rw [if_neg (show ¬ (false = true) by decide)] at H
  have H' := yf.mk H;clear H;have R4 := az.out;have R5 := aA.out;have Pb := AP aa;have Pd := bf aa
  have ai : 0 ≤ (Dl : Int) := of_decide_eq_true ‹_›
  have ah : Dl < (yh.length : Int) := of_decide_eq_true ‹_›
  obtain ⟨aJ, ax, aH, aD, ak, aj, au⟩ := EC zA.out Dl ai ah;obtain rfl : av = aJ := (by injection aD);replace ak := cB HB ak;have aI := yf.mk au;have ay := yf.mk aj;clear au aj;replace ai := eq_true ai;replace ah := eq_true ah
  go_wp2_with (((with_reducible refine yw (f := 50) rfl ?_); refine N8 (some 50) rfl rfl Try.func50 (by kernel_rfl) rfl #[.slice ax (zt yh Dl).length aH, .int .i64 (rd (zt yh (ae)) (af))] rfl (by (try simp only [List.map_toArray, List.map_cons, List.map_nil]); rfl) ?_; (with_reducible refine (zZ.calls k1 _ _ (zt yh Dl) (rd (zt yh (ae)) (af)) false _ ?yD ?yF A23.out).mono ?_); (case yD => exact Di aI); (case yF => exact ay.out); rintro e w' ⟨rfl, ⟨nd, rfl⟩⟩; refine ⟨_, rfl, ?_⟩))
  go_roundg k1
  case measure => have := BJ.out; omega
  case rel => exact ⟨(AV), (Bv), (wrap64 (Dl + 1)), (by rfl), (by rfl), (by rfl), H', ⟨by have := BJ.out; omega⟩, ⟨kk aa⟩, ⟨kk ag⟩, ⟨bO HB⟩⟩
 subst c24;rw [if_pos rfl] at H
 by_cases M8 : Dl < ae
 ·
  rw [if_pos M8] at H;have OV := decide_eq_true M8;clear M8;have H' := yf.mk H;clear H;have Um := az.out;have Un := aA.out;have Md := AP aa;have Me := bf aa
  have ai : 0 ≤ (Dl : Int) := of_decide_eq_true ‹_›
  have ah : Dl < (yh.length : Int) := of_decide_eq_true ‹_›
  obtain ⟨aJ, ax, aH, aD, ak, aj, au⟩ := EC zA.out Dl ai ah;obtain rfl : av = aJ := (by injection aD);replace ak := cB HB ak;have aI := yf.mk au;have ay := yf.mk aj;clear au aj;replace ai := eq_true ai;replace ah := eq_true ah
  go_wp2_with (((with_reducible refine yw (f := 50) rfl ?_); refine N8 (some 50) rfl rfl Try.func50 (by kernel_rfl) rfl #[.slice ax (zt yh Dl).length aH, .int .i64 (rd (zt yh (ae)) (af))] rfl (by (try simp only [List.map_toArray, List.map_cons, List.map_nil]); rfl) ?_; (with_reducible refine (zZ.calls k1 _ _ (zt yh Dl) (rd (zt yh (ae)) (af)) true _ ?yD ?yF A23.out).mono ?_); (case yD => exact Di aI); (case yF => exact ay.out); rintro e w' ⟨rfl, ⟨nd, rfl⟩⟩; refine ⟨_, rfl, ?_⟩))
  go_roundg k1
  case measure => have := BJ.out; omega
  case rel => exact ⟨(wrap64 (AV + 1)), (wrap64 (Bv + 1)), (wrap64 (Dl + 1)), (by rfl), (by rfl), (by rfl), H', ⟨by have := BJ.out; omega⟩, ⟨kk aa⟩, ⟨kk ag⟩, ⟨bO HB⟩⟩
 rw [if_neg M8] at H;have OV := decide_eq_false M8;clear M8;have H' := yf.mk H;clear H;have a0n := az.out;have a0o := aA.out;have WT := AP aa;have WU := bf aa
 have ai : 0 ≤ (Dl : Int) := of_decide_eq_true ‹_›
 have ah : Dl < (yh.length : Int) := of_decide_eq_true ‹_›
 obtain ⟨aJ, ax, aH, aD, ak, aj, au⟩ := EC zA.out Dl ai ah;obtain rfl : av = aJ := (by injection aD);replace ak := cB HB ak;have aI := yf.mk au;have ay := yf.mk aj;clear au aj;replace ai := eq_true ai;replace ah := eq_true ah
 go_wp2_with (((with_reducible refine yw (f := 50) rfl ?_); refine N8 (some 50) rfl rfl Try.func50 (by kernel_rfl) rfl #[.slice ax (zt yh Dl).length aH, .int .i64 (rd (zt yh (ae)) (af))] rfl (by (try simp only [List.map_toArray, List.map_cons, List.map_nil]); rfl) ?_; (with_reducible refine (zZ.calls k1 _ _ (zt yh Dl) (rd (zt yh (ae)) (af)) true _ ?yD ?yF A23.out).mono ?_); (case yD => exact Di aI); (case yF => exact ay.out); rintro e w' ⟨rfl, ⟨nd, rfl⟩⟩; refine ⟨_, rfl, ?_⟩))
 go_roundg k1
 case measure => have := BJ.out; omega
 case rel => exact ⟨(wrap64 (AV + 1)), (Bv), (wrap64 (Dl + 1)), (by rfl), (by rfl), (by rfl), H', ⟨by have := BJ.out; omega⟩, ⟨kk aa⟩, ⟨kk ag⟩, ⟨bO HB⟩⟩
end Go.Proofs.Ytjonnfmoocijlaa.P
