/- Texts of a claim, packed. -/
import Derived.Test.YtjonnfmoocijlaaC30
import Derived.Test.YtjonnfmoocijlaaC35
set_option linter.all false
namespace Go.Proofs.Ytjonnfmoocijlaa.P
open Go.RowKit Go.Proofs.YtjonnfmoocijlaaKW.PrintWords Go.Proofs.YtjonnfmoocijlaaKW.PrintLast Go.Proofs.YtjonnfmoocijlaaKW.PrintMore
attribute [local go_sem] zO zP Aj Ak zC zD zQ zR
mutual
def yK.l0 : Nat → List Int → List (AX) → Int → Int → List (List Int) → Int → Int → Option ((List (AX)))
 | 0, _, _, _, _, _, _, _ => none
 | k + 1, x1, x5, x6, aa, ae, ag, af => if x6 < (x1.length : Int) then (if 0 ≤ x6 then ((zI.f aa ae ag af).bind fun Dv => ((zi.f aa ae ag af).bind fun Dw => (if (wrap64 (Dv * Dw)) = 0 then (none) else ((zi.f aa ae ag af).bind fun F9 => (if F9 = 0 then (none) else ((zi.f aa ae ag af).bind fun FT => (if FT = 0 then (none) else (if 0 ≤ aa then (if (aa : Int).toNat ≤ 281474976710656 then ((some (List.replicate (aa : Int).toNat false : List Bool)).bind fun Gz => (if (Gz.length : Int) = 0 then (none) else (if 0 ≤ (((Int.tdiv (rd x1 x6) 2) % 256) % (Gz.length : Int)) then (if (((Int.tdiv (rd x1 x6) 2) % 256) % (Gz.length : Int)) < (Gz.length : Int) then ((yH.f k aa ae ag af x5 (wrap64 (Int.tdiv (Int.tmod (wrap64 ((wrap64 (rd x1 x6)) * 7)) (wrap64 (Dv * Dw))) F9)) (Gz.set ((((Int.tdiv (rd x1 x6) 2) % 256) % (Gz.length : Int)) : Int).toNat true)).bind fun H5 => (if H5.2.2 = true then (yK.j1 k x1 x5 x6 aa ae ag af (wrap64 (Int.tdiv (Int.tmod (wrap64 ((wrap64 (rd x1 x6)) * 7)) (wrap64 (Dv * Dw))) F9)) (Int.tmod (Int.tmod (wrap64 ((wrap64 (rd x1 x6)) * 7)) (wrap64 (Dv * Dw))) FT) 0 0 H5.1 H5.2.1) else (yK.j1 k x1 x5 x6 aa ae ag af (wrap64 (Int.tdiv (Int.tmod (wrap64 ((wrap64 (rd x1 x6)) * 7)) (wrap64 (Dv * Dw))) F9)) (Int.tmod (Int.tmod (wrap64 ((wrap64 (rd x1 x6)) * 7)) (wrap64 (Dv * Dw))) FT) 0 0 (-1) 0))) else (none)) else (none)))) else (none)) else (none))))))))) else (none)) else (some x5)
def yK.j1 : Nat → List Int → List (AX) → Int → Int → List (List Int) → Int → Int → Int → Int → Int → Int → Int → Int → Option ((List (AX)))
 | 0, _, _, _, _, _, _, _, _, _, _, _, _, _ => none
 | k + 1, x1, x5, x6, aa, ae, ag, af, ai, au, av, ax, ak, aj => (Aq.f k aa ae ag af x5 ai au ak aj).bind fun ah => (if ah.2 = 0 then (yK.l0 k x1 ah.1 (wrap64 (x6 + 1)) aa ae ag af) else (yK.l0 k x1 x5 (wrap64 (x6 + 1)) aa ae ag af))
end
def yK.f (k : Nat) (yn : Int) (yh : List (List Int)) (yo : Int) (yu : Int) (l1 : List Int) : Option ((List (AX))) := yK.l0 k l1 ([] : List (AX)) 0 yn yh yo yu
def yK.T5 : Bool × List (List Nat × List Nat) := (true, [([], []), ([], []), ([0, 1], [0, 1]), ([2], [2]), ([3], [3]), ([4], [4]), ([], []), ([6], [6]), ([], []), ([8, 7], [8]), ([7, 9], [7, 9]), ([5, 10], [5, 10]), ([11, 9, 0, 1, 2, 3, 4, 5, 6, 7, 8, 9, 10, 11], [11])])
def yK.B5 : List Nat := [0, 0, 3, 7, 15, 31, 0, 64, 0, 448, 960, 2047, 4095]
theorem yK.Zv : CZ .any (opsOf Try.f11 5) = yK.T5 := by kernel_rfl
theorem yK.Uw : BD yK.T5.2 yK.B5 = true := by kernel_rfl
def yK.T6 : Bool × List (List Nat × List Nat) := (true, [([], []), ([], []), ([1], [1]), ([0, 2], [0, 2]), ([], []), ([], []), ([5, 2], [5]), ([4, 6], [4, 6]), ([3, 7], [3, 7]), ([], []), ([9, 8, 6, 0, 1, 2, 3, 4, 5, 6, 7, 8, 9], [8, 9])])
def yK.B6 : List Nat := [0, 0, 2, 7, 0, 0, 38, 118, 255, 0, 1023]
theorem yK.a2g : CZ .any (opsOf Try.f11 6) = yK.T6 := by kernel_rfl
theorem yK.Wt : BD yK.T6.2 yK.B6 = true := by kernel_rfl
set_option maxHeartbeats 8000000 in
set_option maxRecDepth 100000 in
theorem yK.calls (k : Nat) (yn : Int) (yQ : Option Addr) (yM : Nat) (yh : List (List Int)) (yo : Int) (yu : Int) (A1 : Option Addr) (c1 : Nat) (l1 : List Int) (r : List (AX)) (w : World) (Ah : Kd.C (Kd.slice 3 (Kd.int .i64)) w yQ yh.length yh) (Ai : yh.length ≤ yM) (hr1 : Kd.C (Kd.int .u8) w A1 l1.length l1) (hc1 : l1.length ≤ c1) (h : yK.f k yn yh yo yu l1 = some r) :
  Calls Try.prog 11 #[.agg #[.int .i64 yn, .slice yQ yh.length yM, .int .i64 yo, .int .i64 yu], .slice A1 l1.length c1] w fun e w' => ∃ GG : Value, e = .returned (GG) ∧ Kd.R CS 47 w' w.heap.size (fun _ => True) GG r ∧ Below w.heap.size w w' := by
 have FH := Try.underlying31;have LC := Try.underlying47;have Jd := Try.underlying38;have zA := yf.mk Ah;have zK := yf.mk Ai;clear Ah Ai;have HR1 := yf.mk hr1;have GH := yf.mk hc1;clear hr1 hc1;have HB := yf.mk (Below.refl w.heap.size w)
 have H : (yK.l0 k l1 ([] : List (AX)) 0 yn yh yo yu) = some r := h
 clear h;have H' := yf.mk H;clear H
 go_enter Try.func11, Try.ntmps11
 go_wp2_with (((with_reducible refine yI (N := 2) rfl ?_); refine yG rfl (N := 2) rfl (cs := #[.int .i64 yn, .slice yQ yh.length yM, .int .i64 yo, .int .i64 yu]) (t := 31) (by go_simp) ?_; intro ah hg w3 yJ hb; have aa := yf.mk (yJ); have d9 := bG (w := w) hg; have cO := bG (w := w) hg; replace HB := bS HB hb; clear hb yJ hg))
 go_loopg [5, 6] k (fun kq v5 v6 w' => ∃ (yN : List (AX)) (Bu : Int), v6 = .int .i64 Bu ∧ yf (yK.l0 kq l1 yN Bu yn yh yo yu = some r) ∧ yf (kq ≤ k) ∧ yf (Kd.R CS 47 w' w.heap.size (fun _ => True) v5 yN) ∧ yf (w'.heap[ah]? = some (.cells #[.int .i64 yn, (.slice yQ yh.length yM), .int .i64 yo, .int .i64 yu] 31 (0, 0))) ∧ yf (Below w.heap.size w w'))
 case atStart => exact ⟨(([] : List (AX))), (0), (by rfl), H', ⟨Nat.le_refl _⟩, ⟨by exact Kd.Er _ _ _ _ _⟩, ⟨kk aa⟩, ⟨bO HB⟩⟩
 case round =>
 clear H';obtain ⟨yN, Bu, rfl, HA, BJ, Bw, aa, HB⟩ := hrel
 cases gk with
 | zero => exact absurd HA.out (by simp [yK.l0])
 | succ k1 =>
 have H := HA.out;clear HA;simp only [yK.l0] at H
 by_cases c4 : Bu < (l1.length : Int)
 rotate_left
 ·
  rw [if_neg c4] at H;have ES := decide_eq_false c4;clear c4;obtain rfl := Option.some.inj H
  go_wp2
  go_ret
  exact ⟨_, by rfl, by (with_reducible repeat (apply Kd.yZ)); exact Bw.out, bO HB⟩
 rw [if_pos c4] at H;have ES := decide_eq_true c4;clear c4
 by_cases c5 : 0 ≤ Bu
 rotate_left
 ·
  rw [if_neg c5] at H;exact absurd H (by simp)
 rw [if_pos c5] at H;have FE := decide_eq_true c5;clear c5;obtain ⟨Dv, A6, H⟩ := bE H
 try dsimp only at H
 obtain ⟨Dw, A7, H⟩ := bE H
 try dsimp only at H
 by_cases c8 : (wrap64 (Dv * Dw)) = 0
 ·
  rw [if_pos c8] at H;exact absurd H (by simp)
 rw [if_neg c8] at H;have GZ := beq_eq_false_iff_ne.mpr c8;have Nh := bne_iff_ne.mpr c8;obtain ⟨F9, A9, H⟩ := bE H
 try dsimp only at H
 by_cases c10 : F9 = 0
 ·
  rw [if_pos c10] at H;exact absurd H (by simp)
 rw [if_neg c10] at H;have Gi := beq_eq_false_iff_ne.mpr c10;have M7 := bne_iff_ne.mpr c10;obtain ⟨FT, RP, H⟩ := bE H
 try dsimp only at H
 by_cases c12 : FT = 0
 ·
  rw [if_pos c12] at H;exact absurd H (by simp)
 rw [if_neg c12] at H;have Gh := beq_eq_false_iff_ne.mpr c12;have NA := bne_iff_ne.mpr c12
 by_cases c13 : 0 ≤ yn
 rotate_left
 ·
  rw [if_neg c13] at H;exact absurd H (by simp)
 rw [if_pos c13] at H;have J9 := eq_true c13;have a02 := decide_eq_true c13;clear c13
 by_cases c14 : (yn : Int).toNat ≤ 281474976710656
 rotate_left
 ·
  rw [if_neg c14] at H;exact absurd H (by simp)
 rw [if_pos c14] at H;have Jc := eq_true c14;have JW := decide_eq_true c14;clear c14;obtain ⟨Gz, bn⟩ : ∃ y_ : List Bool, y_ = (List.replicate (yn : Int).toNat false) := ⟨_, rfl⟩
 replace H : (if (Gz.length : Int) = 0 then (none) else (if 0 ≤ (((Int.tdiv (rd l1 Bu) 2) % 256) % (Gz.length : Int)) then (if (((Int.tdiv (rd l1 Bu) 2) % 256) % (Gz.length : Int)) < (Gz.length : Int) then ((yH.f k1 yn yh yo yu yN (wrap64 (Int.tdiv (Int.tmod (wrap64 ((wrap64 (rd l1 Bu)) * 7)) (wrap64 (Dv * Dw))) F9)) (Gz.set ((((Int.tdiv (rd l1 Bu) 2) % 256) % (Gz.length : Int)) : Int).toNat true)).bind fun H5 => (if H5.2.2 = true then (yK.j1 k1 l1 yN Bu yn yh yo yu (wrap64 (Int.tdiv (Int.tmod (wrap64 ((wrap64 (rd l1 Bu)) * 7)) (wrap64 (Dv * Dw))) F9)) (Int.tmod (Int.tmod (wrap64 ((wrap64 (rd l1 Bu)) * 7)) (wrap64 (Dv * Dw))) FT) 0 0 H5.1 H5.2.1) else (yK.j1 k1 l1 yN Bu yn yh yo yu (wrap64 (Int.tdiv (Int.tmod (wrap64 ((wrap64 (rd l1 Bu)) * 7)) (wrap64 (Dv * Dw))) F9)) (Int.tmod (Int.tmod (wrap64 ((wrap64 (rd l1 Bu)) * 7)) (wrap64 (Dv * Dw))) FT) 0 0 (-1) 0))) else (none)) else (none))) = some r := by (have H2_ := (Option.bind_some _ _).symm.trans H; rw [bn]; with_reducible exact H2_)
 have bP := yf.mk bn;clear bn
 by_cases c15 : (Gz.length : Int) = 0
 ·
  rw [if_pos c15] at H;exact absurd H (by simp)
 rw [if_neg c15] at H;have OZ := beq_eq_false_iff_ne.mpr c15;have a5U := bne_iff_ne.mpr c15
 have dA : ¬ (Gz = []) := fun h_ => c15 (by rw [h_]; rfl)
 obtain ⟨ax, aD⟩ : ∃ j_ : Int, (((Int.tdiv (rd l1 Bu) 2) % 256) % (Gz.length : Int)) = j_ := ⟨_, rfl⟩
 replace H : (if 0 ≤ (ax) then (if (ax) < (Gz.length : Int) then ((yH.f k1 yn yh yo yu yN (wrap64 (Int.tdiv (Int.tmod (wrap64 ((wrap64 (rd l1 Bu)) * 7)) (wrap64 (Dv * Dw))) F9)) (Gz.set ((ax) : Int).toNat true)).bind fun H5 => (if H5.2.2 = true then (yK.j1 k1 l1 yN Bu yn yh yo yu (wrap64 (Int.tdiv (Int.tmod (wrap64 ((wrap64 (rd l1 Bu)) * 7)) (wrap64 (Dv * Dw))) F9)) (Int.tmod (Int.tmod (wrap64 ((wrap64 (rd l1 Bu)) * 7)) (wrap64 (Dv * Dw))) FT) 0 0 H5.1 H5.2.1) else (yK.j1 k1 l1 yN Bu yn yh yo yu (wrap64 (Int.tdiv (Int.tmod (wrap64 ((wrap64 (rd l1 Bu)) * 7)) (wrap64 (Dv * Dw))) F9)) (Int.tmod (Int.tmod (wrap64 ((wrap64 (rd l1 Bu)) * 7)) (wrap64 (Dv * Dw))) FT) 0 0 (-1) 0))) else (none)) else (none)) = some r := by (rw [aD] at H; exact H)
 (try rw [aD] at A6)
 (try rw [aD] at A7)
 (try rw [aD] at A9)
 (try rw [aD] at RP)
 by_cases c17 : 0 ≤ (ax)
 rotate_left
 ·
  rw [if_neg c17] at H;exact absurd H (by simp)
 rw [if_pos c17] at H;have Nk := decide_eq_true c17;clear c17
 by_cases c18 : (ax) < (Gz.length : Int)
 rotate_left
 ·
  rw [if_neg c18] at H;exact absurd H (by simp)
 rw [if_pos c18] at H;have NC := decide_eq_true c18;clear c18;obtain ⟨ay, bi⟩ : ∃ y_ : List Bool, y_ = (Gz.set ((ax) : Int).toNat true) := ⟨_, rfl⟩
 replace H : ((yH.f k1 yn yh yo yu yN (wrap64 (Int.tdiv (Int.tmod (wrap64 ((wrap64 (rd l1 Bu)) * 7)) (wrap64 (Dv * Dw))) F9)) ay).bind fun H5 => (if H5.2.2 = true then (yK.j1 k1 l1 yN Bu yn yh yo yu (wrap64 (Int.tdiv (Int.tmod (wrap64 ((wrap64 (rd l1 Bu)) * 7)) (wrap64 (Dv * Dw))) F9)) (Int.tmod (Int.tmod (wrap64 ((wrap64 (rd l1 Bu)) * 7)) (wrap64 (Dv * Dw))) FT) 0 0 H5.1 H5.2.1) else (yK.j1 k1 l1 yN Bu yn yh yo yu (wrap64 (Int.tdiv (Int.tmod (wrap64 ((wrap64 (rd l1 Bu)) * 7)) (wrap64 (Dv * Dw))) F9)) (Int.tmod (Int.tmod (wrap64 ((wrap64 (rd l1 Bu)) * 7)) (wrap64 (Dv * Dw))) FT) 0 0 (-1) 0))) = some r := by (rw [bi]; with_reducible exact H)
 have cu := yf.mk bi;clear bi;obtain ⟨⟨bM, bF, bI⟩, bV, H⟩ := bE H
 try dsimp only at H
 have bC := yf.mk H;clear H
 try go_wp2
 replace Bw := yf.mk (Kd.AQ Bw.out);replace aa := yf.mk (yO aa.out);replace HB := yf.mk (za HB.out)
 have bA : 0 ≤ (Bu : Int) := of_decide_eq_true ‹_›
 have bg : Bu < (l1.length : Int) := of_decide_eq_true ‹_›
 obtain ⟨bJ, bX, aQ⟩ := Kd.C9 HR1.out Bu bA bg;have bv := aQ;cases bX;replace aQ := cB HB aQ;replace bA := eq_true bA;replace bg := eq_true bg
 refine Bc (n := 13) (S := fun w' => w'.cell? ⟨ah, 0, none⟩ = some (.int .i64 yn) ∧ w'.cell? ⟨ah, 1, none⟩ = some (.slice yQ yh.length yM) ∧ w'.cell? ⟨ah, 2, none⟩ = some (.int .i64 yo) ∧ w'.cell? ⟨ah, 3, none⟩ = some (.int .i64 yu) ∧ w'.cell? (bJ.add (Bu).toNat) = some (.int .u8 (rd l1 Bu))) (ds := []) (bz 13 0) (by kernel_rfl) rfl rfl ⟨(yA aa.out 0).trans rfl, (yA aa.out 1).trans rfl, (yA aa.out 2).trans rfl, (yA aa.out 3).trans rfl, (cB HB bv)⟩ (fun hHeld => ?_); refine zF yK.Zv yK.Uw (fun yz Bi => ?_)
 generalize wr.drew = w22 at Bw aa HB aQ hHeld ⊢;refine pU 0 20 13 1 yz ?_;refine pU 1 21 13 3 yz ?_;refine pU 2 22 13 7 yz ?_
 refine BO 3 23 13 15 yz Bi hHeld ?_
 refine pU 4 24 13 31 yz ?_;refine pU 5 25 13 63 yz ?_
 refine BO 6 26 13 127 yz Bi hHeld ?_
 refine BO 8 28 13 383 yz Bi hHeld ?_
 refine Ck (i := 7) (N := some 27) (bz 13 511) rfl rfl (Af yz.out (by kernel_rfl)) (by decide) (fun K hK => ?_)
 refine gO Try.func14 #[.agg #[.int .i64 yn, .slice yQ yh.length yM, .int .i64 yo, .int .i64 yu]] ?_
 with_reducible refine (zI.calls yn _ _ yh yo yu Dv _ ?yD ?yF A6.out).mono ?_
 (case yD => exact Di zA)
 (case yF => exact zK.out)
 rintro e w23 ⟨rfl, hb⟩
 refine ⟨_, rfl, ?_⟩
 replace Bw := BZ Bw hb;replace aa := bB aa hb;replace HB := bS HB hb;clear hb
 refine hK.out _ _ ⟨(yA aa.out 0).trans rfl, (yA aa.out 1).trans rfl, (yA aa.out 2).trans rfl, (yA aa.out 3).trans rfl, (cB HB bv)⟩ (fun hHeld => ?_)
 clear hK K
 refine AR (a' := ?_) ?_ ?_
 rotate_left
 ·
  show Act.put _ (some 27) _ = _
  simp only [pz]
  rfl
 refine Ck (i := 9) (N := some 29) (bz 13 1023) rfl rfl (Af yz.out (by kernel_rfl)) (by decide) (fun K hK => ?_)
 refine gO Try.func24 #[.agg #[.int .i64 yn, .slice yQ yh.length yM, .int .i64 yo, .int .i64 yu]] ?_
 with_reducible refine (zi.calls yn _ _ yh yo yu Dw _ ?yD ?yF A7.out).mono ?_
 (case yD => exact Di zA)
 (case yF => exact zK.out)
 rintro e w24 ⟨rfl, hb⟩
 refine ⟨_, rfl, ?_⟩
 replace Bw := BZ Bw hb;replace aa := bB aa hb;replace HB := bS HB hb;clear hb
 refine hK.out _ _ ⟨(yA aa.out 0).trans rfl, (yA aa.out 1).trans rfl, (yA aa.out 2).trans rfl, (yA aa.out 3).trans rfl, (cB HB bv)⟩ (fun hHeld => ?_)
 clear hK K
 refine AR (a' := ?_) ?_ ?_
 rotate_left
 ·
  show Act.put _ (some 29) _ = _
  simp only [pz]
  rfl
 refine pU 10 30 13 2047 yz ?_;refine pU 11 31 13 4095 yz ?_;refine pU 12 7 13 8191 yz ?_
 refine BG (Al yz.out (by kernel_rfl)) ?_
 try go_wp2
 replace Bw := yf.mk (Kd.AQ Bw.out);replace aa := yf.mk (yO aa.out);replace HB := yf.mk (za HB.out)
 refine Bc (n := 11) (S := fun w' => w'.cell? ⟨ah, 0, none⟩ = some (.int .i64 yn) ∧ w'.cell? ⟨ah, 1, none⟩ = some (.slice yQ yh.length yM) ∧ w'.cell? ⟨ah, 2, none⟩ = some (.int .i64 yo) ∧ w'.cell? ⟨ah, 3, none⟩ = some (.int .i64 yu)) (ds := []) (bz 11 0) (by kernel_rfl) rfl rfl (AP aa) (fun hHeld => ?_); refine zF yK.a2g yK.Wt (fun yz Bi => ?_)
 generalize w24.drew = w25 at Bw aa HB hHeld ⊢;refine pU 0 32 11 1 yz ?_;refine pU 4 36 11 17 yz ?_
 refine BO 1 33 11 19 yz Bi hHeld ?_
 refine BO 5 37 11 51 yz Bi hHeld ?_
 refine U3 (σ := Nat) 1 (bz 11 1023) (fun s_ => [(34, .int .i64 F9), (38, .int .i64 FT), (8, .pointer (some ⟨s_, 0, none⟩)), (35, .int .i64 (wrap64 (Int.tdiv (Int.tmod (wrap64 ((wrap64 (rd l1 Bu)) * 7)) (wrap64 (Dv * Dw))) F9))), (39, .int .i64 (Int.tmod (Int.tmod (wrap64 ((wrap64 (rd l1 Bu)) * 7)) (wrap64 (Dv * Dw))) FT)), (40, .agg #[.int .i64 (wrap64 (Int.tdiv (Int.tmod (wrap64 ((wrap64 (rd l1 Bu)) * 7)) (wrap64 (Dv * Dw))) F9)), .int .i64 (Int.tmod (Int.tmod (wrap64 ((wrap64 (rd l1 Bu)) * 7)) (wrap64 (Dv * Dw))) FT), .int .i64 0, .int .i64 0])]) (fun s_ w' => (w'.cell? ⟨ah, 0, none⟩ = some (.int .i64 yn) ∧ w'.cell? ⟨ah, 1, none⟩ = some (.slice yQ yh.length yM) ∧ w'.cell? ⟨ah, 2, none⟩ = some (.int .i64 yo) ∧ w'.cell? ⟨ah, 3, none⟩ = some (.int .i64 yu)) ∧ (Kd.R CS 47 w' w.heap.size (fun k_ => k_ ≠ s_) u5 yN) ∧ (w'.heap[ah]? = some (.cells #[.int .i64 yn, .slice yQ yh.length yM, .int .i64 yo, .int .i64 yu] 31 (0, 0))) ∧ (w'.heap[s_]? = some (.cells #[.int .i64 0, .int .i64 0, .int .i64 0, .int .i64 0] 47 (0, 0))) ∧ (w.heap.size ≤ s_) ∧ (w.heap.size ≤ s_) ∧ (ah ≠ s_) ∧ (s_ ≠ ah) ∧ (Below w.heap.size w w')) ?_ ?_
 rotate_left
 ·
  intro hCont
  refine Qy (i := 2) (j := 9) (Ni := some 34) (Nj := some 8) (bz 11 55) (bz 11 563) rfl rfl rfl rfl (J7 yz.out (by kernel_rfl)) (by decide) (by decide) (fun K hK => ?_) (fun K hK => ?_)
  ·
   skip
   refine gO Try.func24 #[.agg #[.int .i64 yn, .slice yQ yh.length yM, .int .i64 yo, .int .i64 yu]] ?_
   with_reducible refine (zi.calls yn _ _ yh yo yu F9 _ ?yD ?yF A9.out).mono ?_
   (case yD => exact Di zA)
   (case yF => exact zK.out)
   rintro e w26 ⟨rfl, hb⟩
   refine ⟨_, rfl, ?_⟩
   replace Bw := BZ Bw hb;replace aa := bB aa hb;replace HB := bS HB hb;clear hb
   refine hK.out _ _ (AP aa) (fun hHeld => ?_)
   clear hK K
   refine AR (a' := ?_) ?_ ?_
   rotate_left
   ·
    show Act.put _ (some 34) _ = _
    simp only [pz]
    rfl
   refine pU 3 35 11 63 yz ?_
   refine Qy (i := 6) (j := 9) (Ni := some 38) (Nj := some 8) (bz 11 127) (bz 11 575) rfl rfl rfl rfl (J7 yz.out (by kernel_rfl)) (by decide) (by decide) (fun K hK => ?_) (fun K hK => ?_)
   ·
    skip
    refine gO Try.func24 #[.agg #[.int .i64 yn, .slice yQ yh.length yM, .int .i64 yo, .int .i64 yu]] ?_
    with_reducible refine (zi.calls yn _ _ yh yo yu FT _ ?yD ?yF RP.out).mono ?_
    (case yD => exact Di zA)
    (case yF => exact zK.out)
    rintro e w27 ⟨rfl, hb⟩
    refine ⟨_, rfl, ?_⟩
    replace Bw := BZ Bw hb;replace aa := bB aa hb;replace HB := bS HB hb;clear hb
    refine hK.out _ _ (AP aa) (fun hHeld => ?_)
    clear hK K
    refine AR (a' := ?_) ?_ ?_
    rotate_left
    ·
     show Act.put _ (some 38) _ = _
     simp only [pz]
     rfl
    refine pU 7 39 11 255 yz ?_;refine pU 8 40 11 511 yz ?_
    refine Ck (i := 9) (N := some 8) (bz 11 1023) rfl rfl (Af yz.out (by kernel_rfl)) (by decide) (fun K hK => ?_)
    refine Ey ?hg (N := 8) ?hd (cs := #[.int .i64 0, .int .i64 0, .int .i64 0, .int .i64 0]) (t := 47) ?hr ?_; (case hd => rfl); (case hg => rfl); (case hr => go_simp)
    intro ae hg w28 yJ hb
    have BL := yf.mk (Kd.CP (Kd.Ib (kR Bw) ae (Nat.le_of_eq hg.symm)) hb);have BN := bB aa hb;have BX := bS HB hb;have Cr := yf.mk (yJ);have CG := bG (w := w) hg;have CU := bG (w := w) hg;have Eh := Co aa hg;have F7 := Ar aa hg;clear Bw aa HB;have Bw := BL;have aa := BN;have HB := BX;have af := Cr;have aA := CG;have az := CU;have ag := Eh;have au := F7;clear BL BN BX Cr CG CU Eh F7 hb yJ hg
    refine hK.out _ _ (AP aa) (fun hHeld => ?_)
    clear hK K
    refine AR (a' := ?_) ?_ ?_
    rotate_left
    ·
     show Act.put _ (some 8) _ = _
     simp only [pz]
     rfl
    exact Gu (hCont (ae) _ ⟨hHeld, (by (with_reducible repeat (apply Kd.yZ)); exact Kd.yX Bw.out (fun _ hk => hk.2)), (kk aa), (kk af), aA.out, az.out, ag.out, au.out, (bO HB)⟩)
   skip
   refine Ey ?hg (N := 8) ?hd (cs := #[.int .i64 0, .int .i64 0, .int .i64 0, .int .i64 0]) (t := 47) ?hr ?_; (case hd => rfl); (case hg => rfl); (case hr => go_simp)
   intro ae hg w27 yJ hb
   have BL := yf.mk (Kd.CP (Kd.Ib (kR Bw) ae (Nat.le_of_eq hg.symm)) hb);have BN := bB aa hb;have BX := bS HB hb;have Cr := yf.mk (yJ);have CG := bG (w := w) hg;have CU := bG (w := w) hg;have Eh := Co aa hg;have F7 := Ar aa hg;clear Bw aa HB;have Bw := BL;have aa := BN;have HB := BX;have af := Cr;have aA := CG;have az := CU;have ag := Eh;have au := F7;clear BL BN BX Cr CG CU Eh F7 hb yJ hg
   refine hK.out _ _ (AP aa) (fun hHeld => ?_)
   clear hK K
   refine AR (a' := ?_) ?_ ?_
   rotate_left
   ·
    show Act.put _ (some 8) _ = _
    simp only [pz]
    rfl
   refine Ck (i := 6) (N := some 38) (bz 11 639) rfl rfl (Af yz.out (by kernel_rfl)) (by decide) (fun K hK => ?_)
   refine gO Try.func24 #[.agg #[.int .i64 yn, .slice yQ yh.length yM, .int .i64 yo, .int .i64 yu]] ?_
   with_reducible refine (zi.calls yn _ _ yh yo yu FT _ ?yD ?yF RP.out).mono ?_
   (case yD => exact Di zA)
   (case yF => exact zK.out)
   rintro e w28 ⟨rfl, hb⟩
   refine ⟨_, rfl, ?_⟩
   replace Bw := BZ Bw hb;replace aa := bB aa hb;replace af := bB af hb;replace HB := bS HB hb;clear hb
   refine hK.out _ _ (AP aa) (fun hHeld => ?_)
   clear hK K
   refine AR (a' := ?_) ?_ ?_
   rotate_left
   ·
    show Act.put _ (some 38) _ = _
    simp only [pz]
    rfl
   refine pU 7 39 11 767 yz ?_;refine pU 8 40 11 1023 yz ?_
   exact Gu (hCont (ae) _ ⟨hHeld, (by (with_reducible repeat (apply Kd.yZ)); exact Kd.yX Bw.out (fun _ hk => hk.2)), (kk aa), (kk af), aA.out, az.out, ag.out, au.out, (bO HB)⟩)
  skip
  refine Ey ?hg (N := 8) ?hd (cs := #[.int .i64 0, .int .i64 0, .int .i64 0, .int .i64 0]) (t := 47) ?hr ?_; (case hd => rfl); (case hg => rfl); (case hr => go_simp)
  intro ae hg w26 yJ hb
  have BL := yf.mk (Kd.CP (Kd.Ib (kR Bw) ae (Nat.le_of_eq hg.symm)) hb);have BN := bB aa hb;have BX := bS HB hb;have Cr := yf.mk (yJ);have CG := bG (w := w) hg;have CU := bG (w := w) hg;have Eh := Co aa hg;have F7 := Ar aa hg;clear Bw aa HB;have Bw := BL;have aa := BN;have HB := BX;have af := Cr;have aA := CG;have az := CU;have ag := Eh;have au := F7;clear BL BN BX Cr CG CU Eh F7 hb yJ hg
  refine hK.out _ _ (AP aa) (fun hHeld => ?_)
  clear hK K
  refine AR (a' := ?_) ?_ ?_
  rotate_left
  ·
   show Act.put _ (some 8) _ = _
   simp only [pz]
   rfl
  refine Ck (i := 2) (N := some 34) (bz 11 567) rfl rfl (Af yz.out (by kernel_rfl)) (by decide) (fun K hK => ?_)
  refine gO Try.func24 #[.agg #[.int .i64 yn, .slice yQ yh.length yM, .int .i64 yo, .int .i64 yu]] ?_
  with_reducible refine (zi.calls yn _ _ yh yo yu F9 _ ?yD ?yF A9.out).mono ?_
  (case yD => exact Di zA)
  (case yF => exact zK.out)
  rintro e w27 ⟨rfl, hb⟩
  refine ⟨_, rfl, ?_⟩
  replace Bw := BZ Bw hb;replace aa := bB aa hb;replace af := bB af hb;replace HB := bS HB hb;clear hb
  refine hK.out _ _ (AP aa) (fun hHeld => ?_)
  clear hK K
  refine AR (a' := ?_) ?_ ?_
  rotate_left
  ·
   show Act.put _ (some 34) _ = _
   simp only [pz]
   rfl
  refine pU 3 35 11 575 yz ?_
  refine Ck (i := 6) (N := some 38) (bz 11 639) rfl rfl (Af yz.out (by kernel_rfl)) (by decide) (fun K hK => ?_)
  refine gO Try.func24 #[.agg #[.int .i64 yn, .slice yQ yh.length yM, .int .i64 yo, .int .i64 yu]] ?_
  with_reducible refine (zi.calls yn _ _ yh yo yu FT _ ?yD ?yF RP.out).mono ?_
  (case yD => exact Di zA)
  (case yF => exact zK.out)
  rintro e w28 ⟨rfl, hb⟩
  refine ⟨_, rfl, ?_⟩
  replace Bw := BZ Bw hb;replace aa := bB aa hb;replace af := bB af hb;replace HB := bS HB hb;clear hb
  refine hK.out _ _ (AP aa) (fun hHeld => ?_)
  clear hK K
  refine AR (a' := ?_) ?_ ?_
  rotate_left
  ·
   show Act.put _ (some 38) _ = _
   simp only [pz]
   rfl
  refine pU 7 39 11 767 yz ?_;refine pU 8 40 11 1023 yz ?_
  exact Gu (hCont (ae) _ ⟨hHeld, (by (with_reducible repeat (apply Kd.yZ)); exact Kd.yX Bw.out (fun _ hk => hk.2)), (kk aa), (kk af), aA.out, az.out, ag.out, au.out, (bO HB)⟩)
 rintro ae w29 ⟨hS_, Yj, Vf, Vg, Yk, Yl, Ym, Yn, Yo⟩
 have af : yf (w29.heap[ae]? = some (.cells #[.int .i64 0, .int .i64 0, .int .i64 0, .int .i64 0] 47 (0, 0))) := ⟨Vg⟩
 have aA : yf (w.heap.size ≤ ae) := ⟨Yk⟩
 have az : yf (w.heap.size ≤ ae) := ⟨Yl⟩
 have ag : yf (ah ≠ ae) := ⟨Ym⟩
 have au : yf (ae ≠ ah) := ⟨Yn⟩
 replace Bw : yf (Kd.R CS 47 w29 w.heap.size (fun k_ => k_ ≠ ae) u5 yN) := ⟨Yj⟩
 replace aa : yf (w29.heap[ah]? = some (.cells #[.int .i64 yn, .slice yQ yh.length yM, .int .i64 yo, .int .i64 yu] 31 (0, 0))) := ⟨Vf⟩
 replace HB : yf (Below w.heap.size w w29) := ⟨Yo⟩
 clear Yj Vf Vg Yk Yl Ym Yn Yo
 have hHeld : w29.cell? ⟨ah, 0, none⟩ = some (.int .i64 yn) ∧ w29.cell? ⟨ah, 1, none⟩ = some (.slice yQ yh.length yM) ∧ w29.cell? ⟨ah, 2, none⟩ = some (.int .i64 yo) ∧ w29.cell? ⟨ah, 3, none⟩ = some (.int .i64 yu) := hS_
 refine AR (a' := ?_) ?_ ?_
 rotate_left
 ·
  simp only [J6, Act.put, List.setIfInBounds_toArray, List.set_cons_zero, List.set_cons_succ]
  rfl
 refine Ck (i := 10) (N := none) (bz 11 2047) rfl rfl (Af yz.out (by kernel_rfl)) (by decide) (fun K hK => ?_)
 have dI : w29.cell? ⟨ae, 0, none⟩ = some (.int .i64 0) := (yA af.out 0).trans rfl
 have cz := zH af.out 0;have dM := ag.out;have dC := au.out
 have dK : w29.cell? ⟨ae, 1, none⟩ = some (.int .i64 0) := (yA af.out 1).trans rfl
 have dJ := zH af.out 1;have di := ag.out;have dO := au.out
 have dG : w29.cell? ⟨ae, 2, none⟩ = some (.int .i64 0) := (yA af.out 2).trans rfl
 have dL := zH af.out 2;have dx := ag.out;have dz := au.out
 have df : w29.cell? ⟨ae, 3, none⟩ = some (.int .i64 0) := (yA af.out 3).trans rfl
 have dF := zH af.out 3;have dh := ag.out;have dB := au.out
 refine IR (w1 := ?_) (by rfl) rfl ?_ ?_
 rotate_left
 ·
  go_simp
  rfl
 refine hK.out _ _ ⟨((cell_far (p := ⟨ae, _, none⟩) ag.out _).trans (((cell_far (p := ⟨ae, _, none⟩) ag.out _).trans (((cell_far (p := ⟨ae, _, none⟩) ag.out _).trans (((cell_far (p := ⟨ae, _, none⟩) ag.out _).trans (hHeld.1)))))))), ((cell_far (p := ⟨ae, _, none⟩) ag.out _).trans (((cell_far (p := ⟨ae, _, none⟩) ag.out _).trans (((cell_far (p := ⟨ae, _, none⟩) ag.out _).trans (((cell_far (p := ⟨ae, _, none⟩) ag.out _).trans (hHeld.2.1)))))))), ((cell_far (p := ⟨ae, _, none⟩) ag.out _).trans (((cell_far (p := ⟨ae, _, none⟩) ag.out _).trans (((cell_far (p := ⟨ae, _, none⟩) ag.out _).trans (((cell_far (p := ⟨ae, _, none⟩) ag.out _).trans (hHeld.2.2.1)))))))), ((cell_far (p := ⟨ae, _, none⟩) ag.out _).trans (((cell_far (p := ⟨ae, _, none⟩) ag.out _).trans (((cell_far (p := ⟨ae, _, none⟩) ag.out _).trans (((cell_far (p := ⟨ae, _, none⟩) ag.out _).trans (hHeld.2.2.2))))))))⟩ (fun hHeld => ?_)
 clear hK K
 refine BG (Al yz.out (by kernel_rfl)) ?_
 have U9 := ag.out;have Ua := au.out;have OT := AP aa;have OU := bf aa
 go_upto_if 66 with (first | ((with_reducible refine yI (N := 44) rfl ?_); refine Kd.MS Kd.bool _ 4 rfl (N := 44) rfl 35 _ _ rfl yn rfl rfl Try.underlying35 (.bool false) 1 ZX rfl (by decide) (by omega) false (ok := fun _ => True) (okp := fun _ => True) rfl (fun _ hk => hk) trivial (of_decide_eq_true ‹_›) (Nat.le_trans (Nat.mul_le_mul_right _ (of_decide_eq_true ‹_› : yn.toNat ≤ 281474976710656)) (by omega)) (Below.refl _ _) (Nat.le_refl _) ?_; intro v578 w36 Nn hb JN DW; clear JN DW; (rw [← bP.out] at Nn); replace Bw := yf.mk (Kd.CP (by (with_reducible repeat (apply Kd.yZ)); exact (Kd.yX (F4 (g := ae) (Kd.yX Bw.out (fun k_ hk => (⟨hk, hk⟩ : _ ∧ k_ ≠ ae))) (fun _ hk => hk.2)) (fun _ h_ => h_.1))) hb); have aj := yf.mk (Kd.Ay Nn (yL (bO HB))); replace aa := yf.mk (yS (g := ah) (o := .cells #[.int .i64 yn, .slice yQ yh.length yM, .int .i64 yo, .int .i64 yu] 31 (0, 0)) (CJ aa rfl) hb); replace af := yf.mk (yS (g := ae) (o := .cells #[.int .i64 (wrap64 (Int.tdiv (Int.tmod (wrap64 ((wrap64 (rd l1 Bu)) * 7)) (wrap64 (Dv * Dw))) F9)), .int .i64 (Int.tmod (Int.tmod (wrap64 ((wrap64 (rd l1 Bu)) * 7)) (wrap64 (Dv * Dw))) FT), .int .i64 0, .int .i64 0] 47 (0, 0)) (CJ af rfl) hb); replace HB := bS HB hb; clear hb Nn; have aT : 0 ≤ (Bu : Int) := of_decide_eq_true ‹_›; have aW : Bu < (l1.length : Int) := of_decide_eq_true ‹_›; obtain ⟨bU, bZ, aY⟩ := Kd.C9 HR1.out Bu aT aW; obtain rfl : bJ = bU := (by injection bZ); replace aY := cB HB aY; replace aT := eq_true aT; replace aW := eq_true aW; obtain ⟨dw, bu, bY⟩ := Kd.zJ aj.out; subst bY; have aH : 0 ≤ ((ax) : Int) := of_decide_eq_true ‹_›; have aV : ((ax) : Int) < ((Gz.length : Int) : Int) := of_decide_eq_true ‹_›; obtain ⟨aC, KL, Qa, bN, bQ, dP, bL⟩ := Kd.HZ aj.out (by omega); (cases Qa); have bT := yf.mk bN; have dm := yf.mk bL; clear bN bQ bL; obtain ⟨bW, dn⟩ := Kd.FJ false aj.out ((ax) : Int) aH aV; replace aH := eq_true aH; replace aV := eq_true aV; obtain ⟨dH, dN⟩ := Kd.FJ false aj.out ((ax) : Int) (of_decide_eq_true ‹_›) (of_decide_eq_true ‹_›); have aZ := Kd.Lm aj.out ((ax) : Int) true) | ((with_reducible refine Fu (t := 4) (p := 55) rfl ?_); refine EU (t := 4) (p := 55) (v := ?vo_w40) (w1 := (w36.setCell ⟨aC, ((ax) : Int).toNat, none⟩ (.bool true))) ?hg ?ho ?hn ?hr ?_; (case ho => rfl); (case hg => rfl); (case hn => rfl); (case hr => go_simp); intro w40 hw; have hg : w36.grownBy w40 (some aC) := (by rw [hw]; exact aZ.2); have OP : Kd.R Kd.bool 4 w40 w.heap.size (fun _ => True) (.slice (some ⟨aC, 0, none⟩) Gz.length bu) ay := (by rw [hw, cu.out]; exact aZ.1); clear aZ; replace Bw := yf.mk (Kd.Ku (v := (.slice (some ⟨aC, 0, none⟩) Gz.length bu)) (kR Bw) (Kd.IB aj.out) (by decide) hg); replace aa := yf.mk (zY (g := ah) (o := .cells #[.int .i64 yn, .slice yQ yh.length yM, .int .i64 yo, .int .i64 yu] 31 (0, 0)) (kk aa) hg (Kd.EI aj.out aa.out (by decide))); replace af := yf.mk (zY (g := ae) (o := .cells #[.int .i64 (wrap64 (Int.tdiv (Int.tmod (wrap64 ((wrap64 (rd l1 Bu)) * 7)) (wrap64 (Dv * Dw))) F9)), .int .i64 (Int.tmod (Int.tmod (wrap64 ((wrap64 (rd l1 Bu)) * 7)) (wrap64 (Dv * Dw))) FT), .int .i64 0, .int .i64 0] 47 (0, 0)) (kk af) hg (Kd.EI aj.out af.out (by decide))); replace aj := yf.mk (OP); replace HB := yf.mk ((by rw [hw]; exact DL (HB.out) bT.out : Below w.heap.size w w40)); clear hg hw OP; have P6 := AP aa; have P7 := bf aa; have Po := AP af; have Pp := bf af; obtain ⟨Vx, RG, Y4⟩ := Kd.zJ Bw.out; subst Y4) | ((with_reducible refine yw (f := 15) rfl ?_); refine N8 (some 62) rfl rfl Try.func15 (by kernel_rfl) rfl #[.agg #[.int .i64 yn, .slice yQ yh.length yM, .int .i64 yo, .int .i64 yu], .slice Vx yN.length RG, .int .i64 (wrap64 (Int.tdiv (Int.tmod (wrap64 ((wrap64 (rd l1 Bu)) * 7)) (wrap64 (Dv * Dw))) F9)), .slice (some ⟨aC, 0, none⟩) ay.length bu] rfl (by (try simp only [List.map_toArray, List.map_cons, List.map_nil]); (rw [show ay.length = Gz.length from (Kd.yT aj.out).1.symm] <;> rfl)) ?_; (with_reducible refine (yH.calls k1 yn _ _ yh yo yu _ _ yN (wrap64 (Int.tdiv (Int.tmod (wrap64 ((wrap64 (rd l1 Bu)) * 7)) (wrap64 (Dv * Dw))) F9)) _ _ ay bM bF bI _ ?yD ?yF ?zw ?zx ?Dy ?Dz bV.out).mono ?_); (case yD => exact Di zA); (case yF => exact zK.out); (case zw => exact G7 Bw); (case zx => exact (Kd.yT Bw.out).2.1); (case Dy => exact G7 aj); (case Dz => rw [show ay.length = Gz.length from (Kd.yT aj.out).1.symm]; exact (Kd.yT aj.out).2.1); rintro e w44 ⟨rfl, hb⟩; refine ⟨_, rfl, ?_⟩; replace Bw := BZ Bw hb; replace aj := BZ aj hb; replace aa := bB aa hb; replace af := bB af hb; replace HB := bS HB hb; clear hb) | ((with_reducible refine yI (N := 10) rfl ?_); refine yG rfl (N := 10) rfl (cs := #[.int .i64 0, .int .i64 0]) (t := 38) (by go_simp) ?_; intro aG hg w45 yJ hb; have ai := yf.mk (yJ); have dE := bG (w := w) hg; have dD := bG (w := w) hg; have aX := Co aa hg; have aM := Ar aa hg; have aN := Co af hg; have aK := Ar af hg; replace Bw := BZ Bw hb; replace aj := BZ aj hb; replace aa := bB aa hb; replace af := bB af hb; replace HB := bS HB hb; clear hb yJ hg; have Ur := aM.out; have Us := aX.out; have a1v := aK.out; have a1w := aN.out; have QZ := bc2 ai; have R3 := bf ai))
 (try simp only [pz])
 go_cut [] (fun wc => ∃ (kq : Nat) (av : Int) (ak : Int), yf (yK.j1 kq l1 yN Bu yn yh yo yu (wrap64 (Int.tdiv (Int.tmod (wrap64 ((wrap64 (rd l1 Bu)) * 7)) (wrap64 (Dv * Dw))) F9)) (Int.tmod (Int.tmod (wrap64 ((wrap64 (rd l1 Bu)) * 7)) (wrap64 (Dv * Dw))) FT) 0 0 av ak = some r) ∧ yf (kq ≤ k1) ∧ yf (Kd.R CS 47 wc w.heap.size (fun k_ => k_ ≠ ae) (.slice Vx yN.length RG) yN) ∧ yf (wc.heap[ah]? = some (.cells #[.int .i64 yn, (.slice yQ yh.length yM), .int .i64 yo, .int .i64 yu] 31 (0, 0))) ∧ yf (wc.heap[ae]? = some (.cells #[.int .i64 (wrap64 (Int.tdiv (Int.tmod (wrap64 ((wrap64 (rd l1 Bu)) * 7)) (wrap64 (Dv * Dw))) F9)), .int .i64 (Int.tmod (Int.tmod (wrap64 ((wrap64 (rd l1 Bu)) * 7)) (wrap64 (Dv * Dw))) FT), .int .i64 0, .int .i64 0] 47 (0, 0))) ∧ yf (wc.heap[aG]? = some (.cells #[.int .i64 av, .int .i64 ak] 38 (0, 0))) ∧ yf (Below w.heap.size w wc))
 case first =>
  have H := bC.out;clear bC
  by_cases c49 : bI = true
  ·
   subst c49;rw [if_pos rfl] at H;have H' := yf.mk H;clear H
   go_wp2
   go_meet
   case rel => exact ⟨_, (bM), (bF), H', ⟨by have := BJ.out; omega⟩, ⟨by (with_reducible repeat (apply Kd.yZ)); exact Kd.yX (F4 (g := aG) (Kd.Aw Bw.out ai.out (by decide)) (fun _ hk => hk.2)) (fun _ hk => hk.1)⟩, bK aa rfl, bK af rfl, bK ai rfl, ⟨bO HB⟩⟩
  replace c49 := Bool.eq_false_iff.mpr c49;subst c49
  rw [if_neg (show ¬ (false = true) by decide)] at H
  have H' := yf.mk H;clear H;have Pj := aM.out;have Pm := aX.out;have Ut := aK.out;have Uu := aN.out;have Rm := bc2 ai;have Rn := bf ai
  go_wp2
  go_meet
  case rel => exact ⟨_, ((-1)), (0), H', ⟨by have := BJ.out; omega⟩, ⟨by (with_reducible repeat (apply Kd.yZ)); exact Kd.yX (F4 (g := aG) (Kd.Aw Bw.out ai.out (by decide)) (fun _ hk => hk.2)) (fun _ hk => hk.1)⟩, bK aa rfl, bK af rfl, bK ai rfl, ⟨bO HB⟩⟩
 case rest =>
 clear bC c15 aH aV OT P6 Po QZ OU P7 Pp R3 bW aY aT aW;obtain ⟨kq, av, ak, HA, aI, Bw, aa, af, ai, HB⟩ := hcut
 cases kq with
 | zero => exact absurd HA.out (by simp [yK.j1])
 | succ aJ =>
  have H := HA.out;clear HA;simp only [yK.j1] at H;obtain ⟨⟨bq, aU⟩, bH, H⟩ := bE H
  try dsimp only at H
  by_cases Qk : aU = 0
  ·
   rw [if_pos Qk] at H;have UF := beq_iff_eq.mpr Qk
   have bR : (aU != 0) = false := bne_eq_false_iff_eq.mpr Qk
   clear Qk;have H' := yf.mk H;clear H;have a5j := aM.out;have a5k := aX.out;have X7 := aK.out;have X8 := aN.out;have a1x := bc2 ai;have a1y := bf ai;have XE := au.out;have XF := ag.out;have a0U := AP af;have a0V := bf af;have a1p := AP aa;have a1q := bf aa
   go_wp2_with (((with_reducible refine yw (f := 18) rfl ?_); refine gL (some 74) Try.func18 #[.agg #[.int .i64 yn, .slice yQ yh.length yM, .int .i64 yo, .int .i64 yu], .slice Vx yN.length RG, .agg #[.int .i64 (wrap64 (Int.tdiv (Int.tmod (wrap64 ((wrap64 (rd l1 Bu)) * 7)) (wrap64 (Dv * Dw))) F9)), .int .i64 (Int.tmod (Int.tmod (wrap64 ((wrap64 (rd l1 Bu)) * 7)) (wrap64 (Dv * Dw))) FT), .int .i64 av, .int .i64 ak]] ?_; (with_reducible refine (Aq.calls aJ yn _ _ yh yo yu _ _ yN (wrap64 (Int.tdiv (Int.tmod (wrap64 ((wrap64 (rd l1 Bu)) * 7)) (wrap64 (Dv * Dw))) F9)) (Int.tmod (Int.tmod (wrap64 ((wrap64 (rd l1 Bu)) * 7)) (wrap64 (Dv * Dw))) FT) av ak bq aU _ ?yD ?yF ?zw ?zx bH.out).mono ?_); (case yD => exact Kd.Cg zA.out (bO HB)); (case yF => exact zK.out); (case zw => refine (Kd.yT (e := 47) (base := w.heap.size) (ok := fun k_ => k_ ≠ ae) (n := yN.length) (c := RG) ?_).2.2; exact (by (with_reducible repeat (apply Kd.yZ)); exact (Kd.yX (F4 (g := ae) (Kd.yX Bw.out (fun k_ hk => (⟨hk, hk⟩ : _ ∧ k_ ≠ ae))) (fun _ hk => hk.2)) (fun _ h_ => h_.1)))); (case zx => exact (Kd.yT Bw.out).2.1); rintro e w61 ⟨v587, rfl, ho0, hb⟩; refine ⟨_, rfl, ?_⟩; have BL := yf.mk (Kd.Bb (by (with_reducible repeat (apply Kd.yZ)); exact (Kd.yX (F4 (g := ae) (Kd.yX Bw.out (fun k_ hk => (⟨hk, hk⟩ : _ ∧ k_ ≠ ae))) (fun _ hk => hk.2)) (fun _ h_ => h_.1))) (Kd.Bh ho0) hb); have BN := yf.mk (Kd.Ay (Kd.ED (Kd.C8 ho0 (Kd.DV (by (with_reducible repeat (apply Kd.yZ)); exact (Kd.yX (F4 (g := ae) (Kd.yX Bw.out (fun k_ hk => (⟨hk, hk⟩ : _ ∧ k_ ≠ ae))) (fun _ hk => hk.2)) (fun _ h_ => h_.1))))) (g := ae) (o := .cells #[.int .i64 (wrap64 (Int.tdiv (Int.tmod (wrap64 ((wrap64 (rd l1 Bu)) * 7)) (wrap64 (Dv * Dw))) F9)), .int .i64 (Int.tmod (Int.tmod (wrap64 ((wrap64 (rd l1 Bu)) * 7)) (wrap64 (Dv * Dw))) FT), .int .i64 av, .int .i64 ak] 47 (0, 0)) (CJ af rfl)) (yL (bO HB))); have BX := yf.mk (yS (g := ah) (o := .cells #[.int .i64 yn, .slice yQ yh.length yM, .int .i64 yo, .int .i64 yu] 31 (0, 0)) (CJ aa rfl) hb); have Cr := yf.mk (yS (g := ae) (o := .cells #[.int .i64 (wrap64 (Int.tdiv (Int.tmod (wrap64 ((wrap64 (rd l1 Bu)) * 7)) (wrap64 (Dv * Dw))) F9)), .int .i64 (Int.tmod (Int.tmod (wrap64 ((wrap64 (rd l1 Bu)) * 7)) (wrap64 (Dv * Dw))) FT), .int .i64 av, .int .i64 ak] 47 (0, 0)) (CJ af rfl) hb); have CG := yf.mk (yS (g := aG) (o := .cells #[.int .i64 av, .int .i64 ak] 38 (0, 0)) (CJ ai rfl) hb); have CU := bS HB hb; clear Bw; clear aa; clear af; clear ai; clear HB; have Bw := BL; have bD := BN; have aa := BX; have af := Cr; have ai := CG; have HB := CU; clear BL BN BX Cr CG CU; clear hb; clear ho0))
   go_roundg aJ
   case measure => have := BJ.out; have := aI.out; omega
   case rel => exact ⟨(bq), (wrap64 (Bu + 1)), (by rfl), H', ⟨by have := BJ.out; have := aI.out; omega⟩, ⟨by (with_reducible repeat (apply Kd.yZ)); exact Kd.yX bD.out (fun _ hk => trivial)⟩, ⟨kk aa⟩, ⟨bO HB⟩⟩
  ·
   rw [if_neg Qk] at H;have UF := beq_eq_false_iff_ne.mpr Qk;have bR := bne_iff_ne.mpr Qk;have H' := yf.mk H;clear H;have a0X := aM.out;have a0Y := aX.out;have a0z := aK.out;have a0A := aN.out;have a4R := bc2 ai;have a4S := bf ai;have a1h := au.out;have a1i := ag.out;have cZ := AP af;have cK := bf af;have XY := AP aa;have XZ := bf aa
   go_wp2_with (((with_reducible refine yw (f := 18) rfl ?_); refine gL (some 74) Try.func18 #[.agg #[.int .i64 yn, .slice yQ yh.length yM, .int .i64 yo, .int .i64 yu], .slice Vx yN.length RG, .agg #[.int .i64 (wrap64 (Int.tdiv (Int.tmod (wrap64 ((wrap64 (rd l1 Bu)) * 7)) (wrap64 (Dv * Dw))) F9)), .int .i64 (Int.tmod (Int.tmod (wrap64 ((wrap64 (rd l1 Bu)) * 7)) (wrap64 (Dv * Dw))) FT), .int .i64 av, .int .i64 ak]] ?_; (with_reducible refine (Aq.calls aJ yn _ _ yh yo yu _ _ yN (wrap64 (Int.tdiv (Int.tmod (wrap64 ((wrap64 (rd l1 Bu)) * 7)) (wrap64 (Dv * Dw))) F9)) (Int.tmod (Int.tmod (wrap64 ((wrap64 (rd l1 Bu)) * 7)) (wrap64 (Dv * Dw))) FT) av ak bq aU _ ?yD ?yF ?zw ?zx bH.out).mono ?_); (case yD => exact Kd.Cg zA.out (bO HB)); (case yF => exact zK.out); (case zw => refine (Kd.yT (e := 47) (base := w.heap.size) (ok := fun k_ => k_ ≠ ae) (n := yN.length) (c := RG) ?_).2.2; exact (by (with_reducible repeat (apply Kd.yZ)); exact (Kd.yX (F4 (g := ae) (Kd.yX Bw.out (fun k_ hk => (⟨hk, hk⟩ : _ ∧ k_ ≠ ae))) (fun _ hk => hk.2)) (fun _ h_ => h_.1)))); (case zx => exact (Kd.yT Bw.out).2.1); rintro e w68 ⟨v587, rfl, ho0, hb⟩; refine ⟨_, rfl, ?_⟩; have BL := yf.mk (Kd.Bb (by (with_reducible repeat (apply Kd.yZ)); exact (Kd.yX (F4 (g := ae) (Kd.yX Bw.out (fun k_ hk => (⟨hk, hk⟩ : _ ∧ k_ ≠ ae))) (fun _ hk => hk.2)) (fun _ h_ => h_.1))) (Kd.Bh ho0) hb); have BN := yf.mk (Kd.Ay (Kd.ED (Kd.C8 ho0 (Kd.DV (by (with_reducible repeat (apply Kd.yZ)); exact (Kd.yX (F4 (g := ae) (Kd.yX Bw.out (fun k_ hk => (⟨hk, hk⟩ : _ ∧ k_ ≠ ae))) (fun _ hk => hk.2)) (fun _ h_ => h_.1))))) (g := ae) (o := .cells #[.int .i64 (wrap64 (Int.tdiv (Int.tmod (wrap64 ((wrap64 (rd l1 Bu)) * 7)) (wrap64 (Dv * Dw))) F9)), .int .i64 (Int.tmod (Int.tmod (wrap64 ((wrap64 (rd l1 Bu)) * 7)) (wrap64 (Dv * Dw))) FT), .int .i64 av, .int .i64 ak] 47 (0, 0)) (CJ af rfl)) (yL (bO HB))); have BX := yf.mk (yS (g := ah) (o := .cells #[.int .i64 yn, .slice yQ yh.length yM, .int .i64 yo, .int .i64 yu] 31 (0, 0)) (CJ aa rfl) hb); have Cr := yf.mk (yS (g := ae) (o := .cells #[.int .i64 (wrap64 (Int.tdiv (Int.tmod (wrap64 ((wrap64 (rd l1 Bu)) * 7)) (wrap64 (Dv * Dw))) F9)), .int .i64 (Int.tmod (Int.tmod (wrap64 ((wrap64 (rd l1 Bu)) * 7)) (wrap64 (Dv * Dw))) FT), .int .i64 av, .int .i64 ak] 47 (0, 0)) (CJ af rfl) hb); have CG := yf.mk (yS (g := aG) (o := .cells #[.int .i64 av, .int .i64 ak] 38 (0, 0)) (CJ ai rfl) hb); have CU := bS HB hb; clear Bw; clear aa; clear af; clear ai; clear HB; have Bw := BL; have bD := BN; have aa := BX; have af := Cr; have ai := CG; have HB := CU; clear BL BN BX Cr CG CU; clear hb; clear ho0))
   go_roundg aJ
   case measure => have := BJ.out; have := aI.out; omega
   case rel => exact ⟨(yN), (wrap64 (Bu + 1)), (by rfl), H', ⟨by have := BJ.out; have := aI.out; omega⟩, ⟨by (with_reducible repeat (apply Kd.yZ)); exact Kd.yX Bw.out (fun _ hk => trivial)⟩, ⟨kk aa⟩, ⟨bO HB⟩⟩
end Go.Proofs.Ytjonnfmoocijlaa.P
