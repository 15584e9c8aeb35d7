/- Texts of a claim, packed. -/
import Derived.Test.YtjonnfmoocijlaaC22
set_option linter.all false
namespace Go.Proofs.Ytjonnfmoocijlaa.P
open Go.RowKit Go.Proofs.YtjonnfmoocijlaaKW.PrintWords Go.Proofs.YtjonnfmoocijlaaKW.PrintLast Go.Proofs.YtjonnfmoocijlaaKW.PrintMore
attribute [local go_sem] zO zP Aj Ak zC zD zQ zR
mutual
def yP.l0 : Nat → Int → Int → List Int → List Int → Int → Int → Int → List (List Int) → Int → Int → List (AX) → Int → Int → Option (List Int)
 | 0, _, _, _, _, _, _, _, _, _, _, _, _, _ => none
 | k + 1, x1, x5, x6, x7, x26, x27, aj, ah, ae, af, aa, ag, ai => if x27 < x26 then (if x5 = 0 then (none) else ((Bn.f aj ah ae af aa ag ai).bind fun t175 => (if t175 = 0 then (none) else (if 0 ≤ (Int.tmod (wrap64 (x27 + (wrap64 (Int.tdiv x1 x5)))) t175) then (if (Int.tmod (wrap64 (x27 + (wrap64 (Int.tdiv x1 x5)))) t175) < (x6.length : Int) then (if x7.length < 17592186044416 then (yP.l0 k x1 x5 x6 (x7 ++ [rd x6 (Int.tmod (wrap64 (x27 + (wrap64 (Int.tdiv x1 x5)))) t175)]) x26 (wrap64 (x27 + 1)) aj ah ae af aa ag ai) else (none)) else (none)) else (none))))) else ((yB.f k aa x1 0).bind fun ak => (yP.l1 k x1 x7 ak.1 aj ah ae af aa ag ai))
def yP.l1 : Nat → Int → List Int → Int → Int → List (List Int) → Int → Int → List (AX) → Int → Int → Option (List Int)
 | 0, _, _, _, _, _, _, _, _, _, _ => none
 | k + 1, x1, x7, x9, aj, ah, ae, af, aa, ag, ai => if x9 < (aa.length : Int) then (if 0 ≤ x9 then (if ((yg aa x9).f0) = x1 then (if 0 ≤ ((yg aa x9).f1) then (if ((yg aa x9).f1) < (x7.length : Int) then (yP.l1 k x1 (x7.set (((yg aa x9).f1) : Int).toNat ((yg aa x9).f2.f0)) (wrap64 (x9 + 1)) aj ah ae af aa ag ai) else (none)) else (none)) else (some x7)) else (none)) else (some x7)
end
def yP.f (k : Nat) (yn : Int) (yh : List (List Int)) (yo : Int) (yu : Int) (AB : List (AX)) (BB : Int) (AY : Int) (a1 : Int) : Option (List Int) := if (yh.length : Int) = 0 then (none) else (if 0 ≤ (Int.tmod a1 (yh.length : Int)) then (if (Int.tmod a1 (yh.length : Int)) < (yh.length : Int) then ((Bn.f yn yh yo yu AB BB AY).bind fun NU => (yP.l0 k a1 (yh.length : Int) (zt yh (Int.tmod a1 (yh.length : Int))) ([] : List Int) NU 0 yn yh yo yu AB BB AY)) else (none)) else (none))
def yP.T2 : Bool × List (List Nat × List Nat) := (true, [([], []), ([0], [0]), ([1], [1]), ([2], [2]), ([], []), ([], []), ([4, 5], [4, 5]), ([3, 6], [3, 6]), ([7], [7]), ([8, 0, 1, 2, 3, 4, 5, 6, 7, 8], [8])])
def yP.B2 : List Nat := [0, 1, 3, 7, 0, 0, 48, 127, 255, 511]
theorem yP.a2u : CZ .any (opsOf Try.f35 2) = yP.T2 := by kernel_rfl
theorem yP.WP : BD yP.T2.2 yP.B2 = true := by kernel_rfl
def yP.T7 : Bool × List (List Nat × List Nat) := (true, [([], []), ([], []), ([], []), ([], []), ([], []), ([3, 4], [3, 4]), ([2, 5], [2, 5]), ([], []), ([7], [7]), ([6, 8], [6, 8]), ([1, 9], [1, 9]), ([10], [10]), ([11], [11]), ([0, 12, 8], [0, 12]), ([13, 13, 0, 1, 2, 3, 4, 5, 6, 7, 8, 9, 10, 11, 12, 13], [0, 13])])
def yP.B7 : List Nat := [0, 0, 0, 0, 0, 24, 60, 0, 128, 508, 1022, 2046, 4094, 8191, 16383]
theorem yP.PX : CZ .any (opsOf Try.f35 7) = yP.T7 := by kernel_rfl
theorem yP.KE : BD yP.T7.2 yP.B7 = true := by kernel_rfl
def yP.T12 : Bool × List (List Nat × List Nat) := (true, [([], []), ([], []), ([1], [1]), ([], []), ([2, 3], [2, 3]), ([4], [4]), ([5], [5]), ([], []), ([7], [7]), ([], []), ([8, 9], [8, 9]), ([10], [10]), ([11], [11]), ([12], [12]), ([0, 6, 0, 1, 2, 3, 4, 5, 6, 7, 8, 9, 10, 11, 12, 13], [0, 6]), ([14, 13, 0, 1, 2, 3, 4, 5, 6, 7, 8, 9, 10, 11, 12, 13], [13, 14])])
def yP.B12 : List Nat := [0, 0, 2, 0, 14, 30, 62, 0, 128, 0, 896, 1920, 3968, 8064, 16383, 32767]
theorem yP.M6 : CZ .any (opsOf Try.f35 12) = yP.T12 := by kernel_rfl
theorem yP.Jb : BD yP.T12.2 yP.B12 = true := by kernel_rfl
set_option maxHeartbeats 8000000 in
set_option maxRecDepth 100000 in
theorem yP.calls (k : Nat) (yn : Int) (yQ : Option Addr) (yM : Nat) (yh : List (List Int)) (yo : Int) (yu : Int) (EA : Option Addr) (Eo : Nat) (AB : List (AX)) (BB : Int) (AY : Int) (a1 : Int) (r : List Int) (w : World) (Ah : Kd.C (Kd.slice 3 (Kd.int .i64)) w yQ yh.length yh) (Ai : yh.length ≤ yM) (Gj : Kd.C CS w EA AB.length AB) (Gl : AB.length ≤ Eo) (h : yP.f k yn yh yo yu AB BB AY a1 = some r) :
  Calls Try.prog 35 #[.agg #[.int .i64 yn, .slice yQ yh.length yM, .int .i64 yo, .int .i64 yu, .slice EA AB.length Eo, .int .i64 BB, .int .i64 AY], .int .i64 a1] w fun e w' => ∃ GG : Value, e = .returned (GG) ∧ Kd.R (Kd.int .i64) 3 w' w.heap.size (fun _ => True) GG r ∧ Below w.heap.size w w' := by
 have NS := Try.underlying71;have Xq := Try.underlying81;have zA := yf.mk Ah;have zK := yf.mk Ai;clear Ah Ai;have FB := yf.mk Gj;have Io := yf.mk Gl;clear Gj Gl;have HB := yf.mk (Below.refl w.heap.size w)
 have H : (if (yh.length : Int) = 0 then (none) else (if 0 ≤ (Int.tmod a1 (yh.length : Int)) then (if (Int.tmod a1 (yh.length : Int)) < (yh.length : Int) then ((Bn.f yn yh yo yu AB BB AY).bind fun NU => (yP.l0 k a1 (yh.length : Int) (zt yh (Int.tmod a1 (yh.length : Int))) ([] : List Int) NU 0 yn yh yo yu AB BB AY)) else (none)) else (none))) = some r := h
 clear h
 by_cases c3 : (yh.length : Int) = 0
 ·
  rw [if_pos c3] at H;exact absurd H (by simp)
 rw [if_neg c3] at H;have G5 := beq_eq_false_iff_ne.mpr c3;have JM := bne_iff_ne.mpr c3
 have TA : ¬ (yh = []) := fun h_ => c3 (by rw [h_]; rfl)
 obtain ⟨af, dD⟩ : ∃ j_ : Int, (Int.tmod a1 (yh.length : Int)) = j_ := ⟨_, rfl⟩
 replace H : (if 0 ≤ (af) then (if (af) < (yh.length : Int) then ((Bn.f yn yh yo yu AB BB AY).bind fun NU => (yP.l0 k a1 (yh.length : Int) (zt yh (af)) ([] : List Int) NU 0 yn yh yo yu AB BB AY)) else (none)) else (none)) = some r := by (rw [dD] at H; exact H)
 by_cases c5 : 0 ≤ (af)
 rotate_left
 ·
  rw [if_neg c5] at H;exact absurd H (by simp)
 rw [if_pos c5] at H;have FE := decide_eq_true c5;clear c5
 by_cases c6 : (af) < (yh.length : Int)
 rotate_left
 ·
  rw [if_neg c6] at H;exact absurd H (by simp)
 rw [if_pos c6] at H;have EJ := decide_eq_true c6;clear c6;obtain ⟨NU, A7, H⟩ := bE H
 try dsimp only at H
 have H' := yf.mk H;clear H
 go_enter Try.func35, Try.ntmps35
 try go_wp2_with (((with_reducible refine yI (N := 2) rfl ?_); refine yG rfl (N := 2) rfl (cs := #[.int .i64 yn, .slice yQ yh.length yM, .int .i64 yo, .int .i64 yu, .slice EA AB.length Eo, .int .i64 BB, .int .i64 AY]) (t := 71) (by go_simp) ?_; intro ae hg w8 yJ hb; have aa := yf.mk (yJ); have dH := bG (w := w) hg; have dG := bG (w := w) hg; replace HB := bS HB hb; clear hb yJ hg; have Qb := Gt aa; have Qc := bf aa))
 replace aa := yf.mk (yO aa.out);replace HB := yf.mk (za HB.out)
 have aJ : 0 ≤ ((af) : Int) := of_decide_eq_true ‹_›
 have aQ : (af) < (yh.length : Int) := of_decide_eq_true ‹_›
 obtain ⟨ai, bY, dx, dC, aA, bA, bI⟩ := EC zA.out (af) aJ aQ;have d9 := aA;cases dC;replace aA := cB HB aA;have bF := yf.mk bI;have dF := yf.mk bA;clear bI bA;replace aJ := eq_true aJ;replace aQ := eq_true aQ
 refine Bc (n := 10) (S := fun w' => w'.cell? ⟨ae, 0, none⟩ = some (.int .i64 yn) ∧ w'.cell? ⟨ae, 1, none⟩ = some (.slice (some ai) yh.length yM) ∧ w'.cell? ⟨ae, 2, none⟩ = some (.int .i64 yo) ∧ w'.cell? ⟨ae, 3, none⟩ = some (.int .i64 yu) ∧ w'.cell? ⟨ae, 4, none⟩ = some (.slice EA AB.length Eo) ∧ w'.cell? ⟨ae, 5, none⟩ = some (.int .i64 BB) ∧ w'.cell? ⟨ae, 6, none⟩ = some (.int .i64 AY) ∧ w'.cell? (ai.add ((af)).toNat) = some (.slice bY (zt yh (af)).length dx)) (ds := []) (bz 10 0) (by kernel_rfl) rfl rfl ⟨(yA aa.out 0).trans rfl, (yA aa.out 1).trans rfl, (yA aa.out 2).trans rfl, (yA aa.out 3).trans rfl, (yA aa.out 4).trans rfl, (yA aa.out 5).trans rfl, (yA aa.out 6).trans rfl, (cB HB d9)⟩ (fun hHeld => ?_); refine zF yP.a2u yP.WP (fun yz Bi => ?_)
 generalize w8.drew = w10 at aa HB bF aA hHeld ⊢;refine pU 0 16 10 1 yz ?_;refine pU 1 17 10 3 yz ?_;refine pU 2 18 10 7 yz ?_;refine pU 4 20 10 23 yz ?_;refine pU 5 21 10 55 yz ?_;refine pU 6 22 10 119 yz ?_
 refine BO 3 19 10 127 yz Bi hHeld ?_
 refine pU 7 23 10 255 yz ?_
 refine BO 8 24 10 511 yz Bi hHeld ?_
 refine pU 9 6 10 1023 yz ?_
 refine BG (Al yz.out (by kernel_rfl)) ?_
 have Ma := Gt aa;have Mc := bf aa
 try go_wp2_with (((with_reducible refine yw (f := 63) rfl ?_); refine gL (some 26) Try.func63 #[.agg #[.int .i64 yn, .slice (some ai) yh.length yM, .int .i64 yo, .int .i64 yu, .slice EA AB.length Eo, .int .i64 BB, .int .i64 AY]] ?_; (with_reducible refine (Bn.calls yn _ _ yh yo yu _ _ AB BB AY NU _ ?yD ?yF ?zw ?zx A7.out).mono ?_); (case yD => exact Di zA); (case yF => exact zK.out); (case zw => exact Di FB); (case zx => exact Io.out); rintro e w12 ⟨rfl, hb⟩; refine ⟨_, rfl, ?_⟩; replace aa := bB aa hb; replace HB := bS HB hb; clear hb))
 go_loopg [7, 27] k (fun kq v7 v27 w' => ∃ (Ag : List Int) (aj : Int), v27 = .int .i64 aj ∧ yf (yP.l0 kq a1 (yh.length : Int) (zt yh (af)) Ag NU aj yn yh yo yu AB BB AY = some r) ∧ yf (kq ≤ k) ∧ yf (Kd.R (Kd.int .i64) 3 w' w.heap.size (fun _ => True) v7 Ag) ∧ yf (w'.heap[ae]? = some (.cells #[.int .i64 yn, (.slice (some ai) yh.length yM), .int .i64 yo, .int .i64 yu, (.slice EA AB.length Eo), .int .i64 BB, .int .i64 AY] 71 (0, 0))) ∧ yf (Below w.heap.size w w'))
 case atStart => exact ⟨(([] : List Int)), (0), (by rfl), H', ⟨Nat.le_refl _⟩, ⟨by exact Kd.Er _ _ _ _ _⟩, ⟨kk aa⟩, ⟨bO HB⟩⟩
 case round =>
 clear H' c3 G5 JM TA FE EJ Ma Qb Mc Qc aA aJ aQ;obtain ⟨Ag, aj, rfl, HA, BJ, EP, aa, HB⟩ := hrel
 cases gk with
 | zero => exact absurd HA.out (by simp [yP.l0])
 | succ k1 =>
 have H := HA.out;clear HA;simp only [yP.l0] at H
 by_cases c13 : aj < NU
 ·
  rw [if_pos c13] at H;have J9 := decide_eq_true c13;clear c13
  by_cases c14 : (yh.length : Int) = 0
  ·
   rw [if_pos c14] at H;exact absurd H (by simp)
  rw [if_neg c14] at H;have Jc := beq_eq_false_iff_ne.mpr c14;have JW := bne_iff_ne.mpr c14
  have a0O : ¬ (yh = []) := fun h_ => c14 (by rw [h_]; rfl)
  obtain ⟨t175, QP, H⟩ := bE H
  try dsimp only at H
  by_cases c16 : t175 = 0
  ·
   rw [if_pos c16] at H;exact absurd H (by simp)
  rw [if_neg c16] at H;have Fy := beq_eq_false_iff_ne.mpr c16;have Pn := bne_iff_ne.mpr c16;obtain ⟨ah, bL⟩ : ∃ j_ : Int, (Int.tmod (wrap64 (aj + (wrap64 (Int.tdiv a1 (yh.length : Int))))) t175) = j_ := ⟨_, rfl⟩
  replace H : (if 0 ≤ (ah) then (if (ah) < ((zt yh (af)).length : Int) then (if Ag.length < 17592186044416 then (yP.l0 k1 a1 (yh.length : Int) (zt yh (af)) (Ag ++ [rd (zt yh (af)) (ah)]) NU (wrap64 (aj + 1)) yn yh yo yu AB BB AY) else (none)) else (none)) else (none)) = some r := by (rw [bL] at H; exact H)
  (try rw [bL] at QP)
  by_cases c18 : 0 ≤ (ah)
  rotate_left
  ·
   rw [if_neg c18] at H;exact absurd H (by simp)
  rw [if_pos c18] at H;have NC := decide_eq_true c18;clear c18
  by_cases c19 : (ah) < ((zt yh (af)).length : Int)
  rotate_left
  ·
   rw [if_neg c19] at H;exact absurd H (by simp)
  rw [if_pos c19] at H;have QK := decide_eq_true c19;clear c19
  by_cases c20 : Ag.length < 17592186044416
  rotate_left
  ·
   rw [if_neg c20] at H;exact absurd H (by simp)
  rw [if_pos c20] at H;have bU := yf.mk c20;clear c20;obtain ⟨bJ, aW⟩ : ∃ y_ : List Int, y_ = (Ag ++ [rd (zt yh (af)) (ah)]) := ⟨_, rfl⟩
  replace H : (yP.l0 k1 a1 (yh.length : Int) (zt yh (af)) bJ NU (wrap64 (aj + 1)) yn yh yo yu AB BB AY) = some r := by (rw [aW]; with_reducible exact H)
  have di := yf.mk aW;clear aW;have H' := yf.mk H;clear H
  try go_wp2
  replace EP := yf.mk (Kd.AQ EP.out);replace aa := yf.mk (yO aa.out);replace HB := yf.mk (za HB.out)
  have bq : 0 ≤ ((ah) : Int) := of_decide_eq_true ‹_›
  have bu : (ah) < ((zt yh (af)).length : Int) := of_decide_eq_true ‹_›
  obtain ⟨bR, cZ, aG⟩ := Kd.C9 bF.out (ah) bq bu;have az := aG;cases cZ;replace aG := cB HB aG;replace bq := eq_true bq;replace bu := eq_true bu
  refine Bc (n := 15) (S := fun w' => w'.cell? ⟨ae, 0, none⟩ = some (.int .i64 yn) ∧ w'.cell? ⟨ae, 1, none⟩ = some (.slice (some ai) yh.length yM) ∧ w'.cell? ⟨ae, 2, none⟩ = some (.int .i64 yo) ∧ w'.cell? ⟨ae, 3, none⟩ = some (.int .i64 yu) ∧ w'.cell? ⟨ae, 4, none⟩ = some (.slice EA AB.length Eo) ∧ w'.cell? ⟨ae, 5, none⟩ = some (.int .i64 BB) ∧ w'.cell? ⟨ae, 6, none⟩ = some (.int .i64 AY) ∧ w'.cell? (bR.add ((ah)).toNat) = some (.int .i64 (rd (zt yh (af)) (ah)))) (ds := []) (bz 15 0) (by kernel_rfl) rfl rfl ⟨(yA aa.out 0).trans rfl, (yA aa.out 1).trans rfl, (yA aa.out 2).trans rfl, (yA aa.out 3).trans rfl, (yA aa.out 4).trans rfl, (yA aa.out 5).trans rfl, (yA aa.out 6).trans rfl, (cB HB az)⟩ (fun hHeld => ?_); refine zF yP.PX yP.KE (fun yz Bi => ?_)
  generalize wr.drew = w21 at EP aa HB aG hHeld ⊢;refine pU 0 30 15 1 yz ?_;refine pU 1 31 15 3 yz ?_;refine pU 2 32 15 7 yz ?_;refine pU 3 33 15 15 yz ?_;refine pU 4 34 15 31 yz ?_;refine pU 5 35 15 63 yz ?_;refine pU 6 36 15 127 yz ?_
  refine BO 7 37 15 255 yz Bi hHeld ?_
  refine Ck (i := 8) (N := some 38) (bz 15 511) rfl rfl (Af yz.out (by kernel_rfl)) (by decide) (fun K hK => ?_)
  refine gO Try.func63 #[.agg #[.int .i64 yn, .slice (some ai) yh.length yM, .int .i64 yo, .int .i64 yu, .slice EA AB.length Eo, .int .i64 BB, .int .i64 AY]] ?_
  with_reducible refine (Bn.calls yn _ _ yh yo yu _ _ AB BB AY t175 _ ?yD ?yF ?zw ?zx QP.out).mono ?_
  (case yD => exact Di zA)
  (case yF => exact zK.out)
  (case zw => exact Di FB)
  (case zx => exact Io.out)
  rintro e w22 ⟨rfl, hb⟩
  refine ⟨_, rfl, ?_⟩
  replace EP := BZ EP hb;replace aa := bB aa hb;replace HB := bS HB hb;clear hb
  refine hK.out _ _ ⟨(yA aa.out 0).trans rfl, (yA aa.out 1).trans rfl, (yA aa.out 2).trans rfl, (yA aa.out 3).trans rfl, (yA aa.out 4).trans rfl, (yA aa.out 5).trans rfl, (yA aa.out 6).trans rfl, (cB HB az)⟩ (fun hHeld => ?_)
  clear hK K
  refine AR (a' := ?_) ?_ ?_
  rotate_left
  ·
   show Act.put _ (some 38) _ = _
   simp only [pz]
   rfl
  refine pU 9 39 15 1023 yz ?_;refine pU 10 40 15 2047 yz ?_
  refine BO 11 41 15 4095 yz Bi hHeld ?_
  refine Ck (i := 12) (N := some 42) (bz 15 8191) rfl rfl (Af yz.out (by kernel_rfl)) (by decide) (fun K hK => ?_)
  refine SE (w1 := ?_) (v := ?_) (by rfl) rfl ?_ ?_
  rotate_left 2
  ·
   go_simp
   constructor
   ·
    rfl
   rfl
  refine hK.out _ _ ⟨(yA (Ex aa.out _) 0).trans rfl, (yA (Ex aa.out _) 1).trans rfl, (yA (Ex aa.out _) 2).trans rfl, (yA (Ex aa.out _) 3).trans rfl, (yA (Ex aa.out _) 4).trans rfl, (yA (Ex aa.out _) 5).trans rfl, (yA (Ex aa.out _) 6).trans rfl, (World.cell?_alloc_lt _ _ _ (World.block_lt_of_cell? _ _ ((cB HB az)))).trans ((cB HB az))⟩ (fun hHeld => ?_)
  clear hK K
  refine AR (a' := ?_) ?_ ?_
  rotate_left
  ·
   show Act.put _ (some 42) _ = _
   simp only [pz]
   rfl
  refine Ck (i := 13) (N := some 43) (bz 15 16383) rfl rfl (Af yz.out (by kernel_rfl)) (by decide) (fun K hK => ?_)
  refine Kd.Hz (Kd.int .i64) (w0 := w) w.heap.size (by rfl) (.tmp 30) (.tmp 42) 63 3 (.int .i64 0) 8 rfl Try.underlying63 info3 rfl (by decide) (by omega) u7 Ag (rd (zt yh (af)) (ah)) [.int .i64 (rd (zt yh (af)) (ah))] (fun _ => True) (fun _ => False) rfl rfl ?aP (fun _ hk => hk.elim) ?aF ?aO ?aB ?aS ?aL ?_
  (case aP => exact rfl)
  (case aB => exact (bO HB))
  (case aF => exact (fun _ _ => trivial))
  (case aO => exact (kR EP))
  (case aS => exact (yL (bO HB)))
  (case aL => have := bU.out; omega)
  intro v178 w23 ho hb hg hat
  rw [← di.out] at ho;replace aa := yf.mk (zY (g := ae) (o := .cells #[.int .i64 yn, .slice (some ai) yh.length yM, .int .i64 yo, .int .i64 yu, .slice EA AB.length Eo, .int .i64 BB, .int .i64 AY] 71 (0, 0)) (kk aa) hg (Kd.EI EP.out aa.out (by decide)));have cu := yf.mk (ho);replace HB := yf.mk (hb);clear ho hb hg hat
  refine hK.out _ _ ⟨(yA aa.out 0).trans rfl, (yA aa.out 1).trans rfl, (yA aa.out 2).trans rfl, (yA aa.out 3).trans rfl, (yA aa.out 4).trans rfl, (yA aa.out 5).trans rfl, (yA aa.out 6).trans rfl, (cB HB az)⟩ (fun hHeld => ?_)
  clear hK K
  refine AR (a' := ?_) ?_ ?_
  rotate_left
  ·
   show Act.put _ (some 43) _ = _
   simp only [pz]
   rfl
  refine pU 14 7 15 32767 yz ?_
  refine BG (Al yz.out (by kernel_rfl)) ?_
  try go_wp2
  go_roundg k1
  case measure => have := BJ.out; omega
  case rel => exact ⟨(bJ), (wrap64 (aj + 1)), (by rfl), H', ⟨by have := BJ.out; omega⟩, ⟨kR cu⟩, ⟨kk aa⟩, ⟨bO HB⟩⟩
 rw [if_neg c13] at H;have J9 := decide_eq_false c13;clear c13;obtain ⟨⟨bv, df⟩, A24, H⟩ := bE H
 try dsimp only at H
 have H' := yf.mk H;clear H;have KM := Gt aa;have KN := bf aa
 go_wp2_with (((with_reducible refine yw (f := 41) rfl ?_); refine gL (some 50) Try.func41 #[.slice EA AB.length Eo, .agg #[.int .i64 a1, .int .i64 0], (.func (.func 42) #[] #[])] ?_; (with_reducible refine (yB.calls k1 _ _ AB a1 0  bv df _ ?yD ?yF A24.out).mono ?_); (case yD => exact Di FB); (case yF => exact Io.out); rintro e w26 ⟨rfl, hb⟩; refine ⟨_, rfl, ?_⟩; replace EP := BZ EP hb; replace aa := bB aa hb; replace HB := bS HB hb; clear hb))
 go_loopg [9] k1 (fun kq v9 w' => ∃ (Cu : List Int) (Cf : Int), v9 = .int .i64 Cf ∧ yf (yP.l1 kq a1 Cu Cf yn yh yo yu AB BB AY = some r) ∧ yf (kq ≤ k1) ∧ yf (Kd.R (Kd.int .i64) 3 w' w.heap.size (fun _ => True) u7 Cu) ∧ yf (w'.heap[ae]? = some (.cells #[.int .i64 yn, (.slice (some ai) yh.length yM), .int .i64 yo, .int .i64 yu, (.slice EA AB.length Eo), .int .i64 BB, .int .i64 AY] 71 (0, 0))) ∧ yf (Below w.heap.size w w'))
 case atStart => exact ⟨(Ag), (bv), (by rfl), H', ⟨Nat.le_refl _⟩, ⟨kR EP⟩, ⟨kk aa⟩, ⟨bO HB⟩⟩
 case round =>
 clear H' J9 KM KN;obtain ⟨Cu, Cf, rfl, HA, D6, EP, aa, HB⟩ := hrel
 cases gk with
 | zero => exact absurd HA.out (by simp [yP.l1])
 | succ k2 =>
  have H := HA.out;clear HA;simp only [yP.l1] at H
  by_cases V9 : Cf < (AB.length : Int)
  ·
   rw [if_pos V9] at H;have WW := decide_eq_true V9;clear V9
   by_cases c28 : 0 ≤ Cf
   ·
    rw [if_pos c28] at H;have P5 := decide_eq_true c28;clear c28
    by_cases Oq : ((yg AB Cf).f0) = a1
    ·
     rw [if_pos Oq] at H;have QF := beq_iff_eq.mpr Oq
     have bZ : (((yg AB Cf).f0) != a1) = false := bne_eq_false_iff_eq.mpr Oq
     clear Oq
     by_cases SY : 0 ≤ ((yg AB Cf).f1)
     ·
      rw [if_pos SY] at H;have ZZ := decide_eq_true SY;clear SY
      by_cases c31 : ((yg AB Cf).f1) < (Cu.length : Int)
      ·
       rw [if_pos c31] at H;have OQ := decide_eq_true c31;clear c31;obtain ⟨bM, aV⟩ : ∃ y_ : List Int, y_ = (Cu.set (((yg AB Cf).f1) : Int).toNat ((yg AB Cf).f2.f0)) := ⟨_, rfl⟩
       replace H : (yP.l1 k2 a1 bM (wrap64 (Cf + 1)) yn yh yo yu AB BB AY) = some r := by (rw [aV]; with_reducible exact H)
       have bP := yf.mk aV;clear aV;have H' := yf.mk H;clear H;have Je := Gt aa;have Jf := bf aa
       have au : 0 ≤ (Cf : Int) := of_decide_eq_true ‹_›
       have ak : Cf < (AB.length : Int) := of_decide_eq_true ‹_›
       obtain ⟨ag, bn, ay, av, ax, aC⟩ := BU FB.out Cf au ak;cases bn;replace ay := cB HB ay;replace av := cB HB av;replace ax := cB HB ax;replace aC := cB HB aC;replace au := eq_true au;replace ak := eq_true ak
       try go_wp2
       replace EP := yf.mk (Kd.AQ EP.out);replace aa := yf.mk (yO aa.out);replace HB := yf.mk (za HB.out)
       have bi : 0 ≤ (Cf : Int) := of_decide_eq_true ‹_›
       have bg : Cf < (AB.length : Int) := of_decide_eq_true ‹_›
       obtain ⟨bT, dn, aH, aT, aI, aM⟩ := BU FB.out Cf bi bg;have dB := aM;have cO := aI;have dw := aT;have bX := aH;obtain rfl : ag = bT := (by injection dn);replace aH := cB HB aH;replace aT := cB HB aT;replace aI := cB HB aI;replace aM := cB HB aM;replace bi := eq_true bi;replace bg := eq_true bg
       have aX : 0 ≤ (Cf : Int) := of_decide_eq_true ‹_›
       have aY : Cf < (AB.length : Int) := of_decide_eq_true ‹_›
       obtain ⟨dA, bN, aN, aD, aK, aU⟩ := BU FB.out Cf aX aY;have dm := aU;have cK := aK;have bV := aD;have bW := aN;obtain rfl : ag = dA := (by injection bN);replace aN := cB HB aN;replace aD := cB HB aD;replace aK := cB HB aK;replace aU := cB HB aU;replace aX := eq_true aX;replace aY := eq_true aY
       have p32 : 0 ≤ (((yg AB Cf).f1) : Int) := of_decide_eq_true ‹_›
       have q32 : (((yg AB Cf).f1) : Int) < ((Cu.length : Int) : Int) := of_decide_eq_true ‹_›
       obtain ⟨dJ, Zw, a2J, bD, cz, dI, bH⟩ := Kd.HZ EP.out (by omega)
       (cases a2J)
       have dE := yf.mk bD;have bQ := yf.mk bH;clear bD cz bH;obtain ⟨dh, dz⟩ := Kd.FJ 0 EP.out (((yg AB Cf).f1) : Int) p32 q32;replace p32 := eq_true p32;replace q32 := eq_true q32;have aZ := Kd.PQ EP.out (((yg AB Cf).f1) : Int) ((yg AB Cf).f2.f0);rw [← bP.out] at aZ;have bC := yf.mk aZ;clear aZ
       refine Bc (n := 16) (S := fun w' => w'.cell? ⟨ae, 0, none⟩ = some (.int .i64 yn) ∧ w'.cell? ⟨ae, 1, none⟩ = some (.slice (some ai) yh.length yM) ∧ w'.cell? ⟨ae, 2, none⟩ = some (.int .i64 yo) ∧ w'.cell? ⟨ae, 3, none⟩ = some (.int .i64 yu) ∧ w'.cell? ⟨ae, 4, none⟩ = some (.slice (some ag) AB.length Eo) ∧ w'.cell? ⟨ae, 5, none⟩ = some (.int .i64 BB) ∧ w'.cell? ⟨ae, 6, none⟩ = some (.int .i64 AY) ∧ w'.cell? (ag.add ((Cf).toNat * 4)) = some (.int .i64 ((yg AB Cf).f0)) ∧ w'.cell? ⟨(ag.add ((Cf).toNat * 4)).block, (ag.add ((Cf).toNat * 4)).off + 1, none⟩ = some (.int .i64 ((yg AB Cf).f1)) ∧ w'.cell? ⟨(ag.add ((Cf).toNat * 4)).block, (ag.add ((Cf).toNat * 4)).off + 2, none⟩ = some (.int .i64 ((yg AB Cf).f2.f0)) ∧ w'.cell? ⟨(ag.add ((Cf).toNat * 4)).block, (ag.add ((Cf).toNat * 4)).off + 3, none⟩ = some (.int .i64 ((yg AB Cf).f2.f1)) ∧ w'.cell? (ag.add ((Cf).toNat * 4)) = some (.int .i64 ((yg AB Cf).f0)) ∧ w'.cell? ⟨(ag.add ((Cf).toNat * 4)).block, (ag.add ((Cf).toNat * 4)).off + 1, none⟩ = some (.int .i64 ((yg AB Cf).f1)) ∧ w'.cell? ⟨(ag.add ((Cf).toNat * 4)).block, (ag.add ((Cf).toNat * 4)).off + 2, none⟩ = some (.int .i64 ((yg AB Cf).f2.f0)) ∧ w'.cell? ⟨(ag.add ((Cf).toNat * 4)).block, (ag.add ((Cf).toNat * 4)).off + 3, none⟩ = some (.int .i64 ((yg AB Cf).f2.f1))) (ds := [15]) (bz 16 0) (by kernel_rfl) rfl rfl ⟨(yA aa.out 0).trans rfl, (yA aa.out 1).trans rfl, (yA aa.out 2).trans rfl, (yA aa.out 3).trans rfl, (yA aa.out 4).trans rfl, (yA aa.out 5).trans rfl, (yA aa.out 6).trans rfl, (cB HB bX), (cB HB dw), (cB HB cO), (cB HB dB), (cB HB bW), (cB HB bV), (cB HB cK), (cB HB dm)⟩ (fun hHeld => ?_); refine zF yP.M6 yP.Jb (fun yz Bi => ?_)
       generalize wr.drew = w34 at EP aa HB bQ bC dz aH aT aI aM aN aD aK aU dh hHeld ⊢;refine pU 0 70 16 1 yz ?_;refine pU 1 71 16 3 yz ?_;refine pU 3 73 16 11 yz ?_;refine pU 7 77 16 139 yz ?_;refine pU 9 79 16 651 yz ?_
       refine BO 2 72 16 655 yz Bi hHeld ?_
       refine pU 4 74 16 671 yz ?_;refine pU 5 75 16 703 yz ?_
       refine BO 6 76 16 767 yz Bi hHeld ?_
       refine BO 8 78 16 1023 yz Bi hHeld ?_
       refine pU 10 80 16 2047 yz ?_;refine pU 11 81 16 4095 yz ?_;refine pU 12 82 16 8191 yz ?_
       refine BO 13 83 16 16383 yz Bi hHeld ?_
       refine pU 14 84 16 32767 yz ?_
       refine OL (i := 15) (N := none) (bz 16 65535) rfl rfl (Af yz.out (by kernel_rfl)) (by decide) (fun K hK => ?_)
       refine IR (w1 := ?_) (by rfl) rfl ?_ ?_
       rotate_left
       ·
        go_simp
        rfl
       refine hK.out _ _ ?_
       clear hK K
       refine BG (Al yz.out (by kernel_rfl)) ?_
       try go_wp2
       go_roundg k2
       case measure => have := BJ.out; have := D6.out; omega
       case rel => exact ⟨(bM), (wrap64 (Cf + 1)), (by rfl), H', ⟨by have := BJ.out; have := D6.out; omega⟩, ⟨kR bC⟩, ⟨by refine kp ?_; refine GI ?_ (by have h_ := Kd.EI EP.out aa.out (by decide); intro e_; exact h_ (by rw [e_]; rfl)) _; refine kp ?_; exact aa.out⟩, ⟨bO HB⟩⟩
      ·
       rw [if_neg c31] at H;exact absurd H (by simp)
     ·
      rw [if_neg SY] at H;exact absurd H (by simp)
    ·
     rw [if_neg Oq] at H;have QF := beq_eq_false_iff_ne.mpr Oq;have bZ := bne_iff_ne.mpr Oq;obtain rfl := Option.some.inj H;have QH := Gt aa;have QI := bf aa
     have au : 0 ≤ (Cf : Int) := of_decide_eq_true ‹_›
     have ak : Cf < (AB.length : Int) := of_decide_eq_true ‹_›
     obtain ⟨ag, bn, ay, av, ax, aC⟩ := BU FB.out Cf au ak;cases bn;replace ay := cB HB ay;replace av := cB HB av;replace ax := cB HB ax;replace aC := cB HB aC;replace au := eq_true au;replace ak := eq_true ak
     go_wp2
     go_ret
     exact ⟨_, by rfl, by (with_reducible repeat (apply Kd.yZ)); exact EP.out, bO HB⟩
   ·
    rw [if_neg c28] at H;exact absurd H (by simp)
  ·
   rw [if_neg V9] at H;have WW := decide_eq_false V9;clear V9;obtain rfl := Option.some.inj H;have KS := Gt aa;have KT := bf aa
   go_wp2
   go_ret
   exact ⟨_, by rfl, by (with_reducible repeat (apply Kd.yZ)); exact EP.out, bO HB⟩
end Go.Proofs.Ytjonnfmoocijlaa.P
