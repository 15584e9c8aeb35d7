/- Texts of a claim, packed. -/
import Derived.Shelf.SlSortCmp.WholeK
import Derived.Shelf.SlSortCmp.NoneTotal
import Derived.Ground.SlsfProg
import Derived.Test.YtjonnfmoocijlaaD26
set_option linter.all false
namespace Go.Proofs.Ytjonnfmoocijlaa.P
open Go.RowKit Go.Proofs.YtjonnfmoocijlaaKW.PrintWords Go.Proofs.YtjonnfmoocijlaaKW.PrintLast Go.Proofs.YtjonnfmoocijlaaKW.PrintMore
attribute [local go_sem] zz zA zS zT zn zo zB zC
def zf.f (k : Nat) (yn : Int) (yg : List (List Int)) (yo : Int) (yt : Int) (BF : Int) (Al : Int) (zY : Int) (BS : List (List Int)) (Bn : List (List Int)) (DZ : Int) (CK : Int) (a1 : Int) (a2 : Int) : Option (Int × Int) := if Al = 0 then (none) else (if 0 ≤ a1 then (if a1 < (Bn.length : Int) then (if 0 ≤ (Int.tmod a2 Al) then (if (Int.tmod a2 Al) < ((yT Bn a1).length : Int) then (if 0 ≤ (rd (yT Bn a1) (Int.tmod a2 Al)) then (if (rd (yT Bn a1) (Int.tmod a2 Al)) < (yg.length : Int) then ((slices_Index_int.f k (yT yg (rd (yT Bn a1) (Int.tmod a2 Al))) a1).bind fun PG => (if BF = 0 then (none) else (some (wrap64 ((wrap64 ((wrap64 (Int.tdiv a2 Al)) * zY)) + (rd (yT Bn a1) (Int.tmod a2 Al))), Int.tmod (wrap64 ((Int.tmod (wrap64 (PG - (wrap64 (Int.tdiv a2 Al)))) BF) + BF)) BF)))) else (none)) else (none)) else (none)) else (none)) else (none)) else (none))
theorem zf.mono : ∀ a0 a1 a2 a3 a4 a5 a6 a7 a8 a9 a10 aa a12 k, zZ (zf.f k a0 a1 a2 a3 a4 a5 a6 a7 a8 a9 a10 aa a12) (zf.f (k + 1) a0 a1 a2 a3 a4 a5 a6 a7 a8 a9 a10 aa a12) := by
 intro a0 a1 a2 a3 a4 a5 a6 a7 a8 a9 a10 aa a12 k
 unfold zf.f
 repeat' first
  | exact slices_Index_int.mono _ _ _
  | exact zZ.refl _
  | exact zZ.none _
  | refine zZ.ite ?_ ?_
  | refine zZ.bind ?_ (fun _ => ?_)
def zf.T2 : Bool × List (List Nat × List Nat) := (true, [([], []), ([0], [0]), ([], []), ([1, 2], [1, 2]), ([3], [3]), ([], []), ([], []), ([6], [6]), ([5, 7], [5, 7]), ([4, 8], [4, 8]), ([9], [9]), ([10, 0, 1, 2, 3, 4, 5, 6, 7, 8, 9, 10], [10])])
def zf.B2 : List Nat := [0, 1, 0, 7, 15, 0, 0, 64, 224, 511, 1023, 2047]
theorem zf.UN : CX .any (opsOf Try.f72 2) = zf.T2 := by kernel_rfl
theorem zf.OP : Bi zf.T2.2 zf.B2 = true := by kernel_rfl
def zf.T4 : Bool × List (List Nat × List Nat) := (true, [([], []), ([], []), ([1], [1]), ([0, 2], [0, 2]), ([], []), ([3, 4], [3, 4]), ([], []), ([], []), ([6, 7], [6, 7]), ([], []), ([9], [9]), ([8, 10], [8, 10]), ([], []), ([12], [12]), ([11, 13], [11, 13]), ([], []), ([15], [15]), ([14, 16], [14, 16]), ([5, 17], [5, 17]), ([18, 0, 1, 2, 3, 4, 5, 6, 7, 8, 9, 10, 11, 12, 13, 14, 15, 16, 17, 18], [18])])
def zf.B4 : List Nat := [0, 0, 2, 7, 0, 31, 0, 0, 192, 0, 512, 1984, 0, 4096, 16320, 0, 32768, 131008, 262143, 524287]
theorem zf.ZG : CX .any (opsOf Try.f72 4) = zf.T4 := by kernel_rfl
theorem zf.UY : Bi zf.T4.2 zf.B4 = true := by kernel_rfl
set_option maxHeartbeats 8000000 in
set_option maxRecDepth 100000 in
theorem zf.calls (k : Nat) (yn : Int) (yP : Option Addr) (yI : Nat) (yg : List (List Int)) (yo : Int) (yt : Int) (BF : Int) (Al : Int) (zY : Int) (F8 : Option Addr) (EX : Nat) (BS : List (List Int)) (FC : Option Addr) (EY : Nat) (Bn : List (List Int)) (DZ : Int) (CK : Int) (a1 : Int) (a2 : Int) (r1 : Int) (r2 : Int) (w : World) (zR : Kd.C (Kd.slice 3 (Kd.int .i64)) w yP yg.length yg) (zU : yg.length ≤ yI) (G9 : Kd.C (Kd.slice 3 (Kd.int .i64)) w F8 BS.length BS) (Ga : BS.length ≤ EX) (Gb : Kd.C (Kd.slice 3 (Kd.int .i64)) w FC Bn.length Bn) (Gc : Bn.length ≤ EY) (h : zf.f k yn yg yo yt BF Al zY BS Bn DZ CK a1 a2 = some (r1, r2)) :
  Calls Try.prog 72 #[.agg #[.int .i64 yn, .slice yP yg.length yI, .int .i64 yo, .int .i64 yt, .int .i64 BF, .int .i64 Al, .int .i64 zY, .slice F8 BS.length EX, .slice FC Bn.length EY, .int .i64 DZ, .int .i64 CK], .int .i64 a1, .int .i64 a2] w fun e w' => e = .returned (.agg #[.int .i64 r1, .int .i64 r2]) ∧ Below w.heap.size w w' := by
 have Jm := Try.underlying102;have QE := Try.underlying81;have zq := yf.mk zR;have zG := yf.mk zU;clear zR zU;have K4 := yf.mk G9;have LB := yf.mk Ga;clear G9 Ga;have K5 := yf.mk Gb;have LC := yf.mk Gc;clear Gb Gc;have HB := yf.mk (Below.refl w.heap.size w)
 have H : (if Al = 0 then (none) else (if 0 ≤ a1 then (if a1 < (Bn.length : Int) then (if 0 ≤ (Int.tmod a2 Al) then (if (Int.tmod a2 Al) < ((yT Bn a1).length : Int) then (if 0 ≤ (rd (yT Bn a1) (Int.tmod a2 Al)) then (if (rd (yT Bn a1) (Int.tmod a2 Al)) < (yg.length : Int) then ((slices_Index_int.f k (yT yg (rd (yT Bn a1) (Int.tmod a2 Al))) a1).bind fun PG => (if BF = 0 then (none) else (some (wrap64 ((wrap64 ((wrap64 (Int.tdiv a2 Al)) * zY)) + (rd (yT Bn a1) (Int.tmod a2 Al))), Int.tmod (wrap64 ((Int.tmod (wrap64 (PG - (wrap64 (Int.tdiv a2 Al)))) BF) + BF)) BF)))) else (none)) else (none)) else (none)) else (none)) else (none)) else (none))) = some (r1, r2) := h
 clear h
 by_cases c4 : Al = 0
 ·
  rw [if_pos c4] at H;exact absurd H (by simp)
 rw [if_neg c4] at H;have Ex := beq_eq_false_iff_ne.mpr c4;have KA := bne_iff_ne.mpr c4
 by_cases c5 : 0 ≤ a1
 rotate_left
 ·
  rw [if_neg c5] at H;exact absurd H (by simp)
 rw [if_pos c5] at H;have Ez := decide_eq_true c5;clear c5
 by_cases c6 : a1 < (Bn.length : Int)
 rotate_left
 ·
  rw [if_neg c6] at H;exact absurd H (by simp)
 rw [if_pos c6] at H;have EU := decide_eq_true c6;clear c6;obtain ⟨ah, aY⟩ : ∃ j_ : Int, (Int.tmod a2 Al) = j_ := ⟨_, rfl⟩
 replace H : (if 0 ≤ (ah) then (if (ah) < ((yT Bn a1).length : Int) then (if 0 ≤ (rd (yT Bn a1) (ah)) then (if (rd (yT Bn a1) (ah)) < (yg.length : Int) then ((slices_Index_int.f k (yT yg (rd (yT Bn a1) (ah))) a1).bind fun PG => (if BF = 0 then (none) else (some (wrap64 ((wrap64 ((wrap64 (Int.tdiv a2 Al)) * zY)) + (rd (yT Bn a1) (ah))), Int.tmod (wrap64 ((Int.tmod (wrap64 (PG - (wrap64 (Int.tdiv a2 Al)))) BF) + BF)) BF)))) else (none)) else (none)) else (none)) else (none)) = some (r1, r2) := by (rw [aY] at H; exact H)
 by_cases c8 : 0 ≤ (ah)
 rotate_left
 ·
  rw [if_neg c8] at H;exact absurd H (by simp)
 rw [if_pos c8] at H;have Gl := decide_eq_true c8;clear c8
 by_cases c9 : (ah) < ((yT Bn a1).length : Int)
 rotate_left
 ·
  rw [if_neg c9] at H;exact absurd H (by simp)
 rw [if_pos c9] at H;have Hr := decide_eq_true c9;clear c9
 by_cases c10 : 0 ≤ (rd (yT Bn a1) (ah))
 rotate_left
 ·
  rw [if_neg c10] at H;exact absurd H (by simp)
 rw [if_pos c10] at H;have Fv := decide_eq_true c10;clear c10
 by_cases c11 : (rd (yT Bn a1) (ah)) < (yg.length : Int)
 rotate_left
 ·
  rw [if_neg c11] at H;exact absurd H (by simp)
 rw [if_pos c11] at H;have Gv := decide_eq_true c11;clear c11;obtain ⟨PG, A12, H⟩ := bE H
 try dsimp only at H
 by_cases c13 : BF = 0
 ·
  rw [if_pos c13] at H;exact absurd H (by simp)
 rw [if_neg c13] at H;have Lh := beq_eq_false_iff_ne.mpr c13;have a0H := bne_iff_ne.mpr c13;simp only [Option.some.injEq, Prod.mk.injEq] at H;obtain ⟨rfl, rfl⟩ := H
 go_enter Try.func72, Try.ntmps72
 try go_wp2_with (first | ((with_reducible refine yK (N := 3) rfl ?_); refine yE rfl (N := 3) rfl (cs := #[.int .i64 yn, .slice yP yg.length yI, .int .i64 yo, .int .i64 yt, .int .i64 BF, .int .i64 Al, .int .i64 zY, .slice F8 BS.length EX, .slice FC Bn.length EY, .int .i64 DZ, .int .i64 CK]) (t := 102) (by go_simp) ?_; intro ag hg w14 yG hb; have aa := yf.mk (yG); have bF := bG (w := w) hg; have bD := bG (w := w) hg; replace HB := bS HB hb; clear hb yG hg) | ((with_reducible refine yK (N := 6) rfl ?_); refine yE rfl (N := 6) rfl (cs := #[.int .i64 0, .int .i64 0]) (t := 81) (by go_simp) ?_; intro ae hg w15 yG hb; have ai := yf.mk (yG); have bv := bG (w := w) hg; have bA := bG (w := w) hg; have af := BL aa hg; have az := Ag aa hg; replace aa := bB aa hb; replace HB := bS HB hb; clear hb yG hg; have Yf := af.out; have Yg := az.out; have Kj := Dt aa; have Kk := bf aa))
 replace aa := yf.mk (yZ aa.out);replace ai := yf.mk (yZ ai.out);replace HB := yf.mk (ze HB.out)
 have ax : 0 ≤ (a1 : Int) := of_decide_eq_true ‹_›
 have aD : a1 < (Bn.length : Int) := of_decide_eq_true ‹_›
 obtain ⟨ak, bH, aZ, bq, av, aK, aI⟩ := Dw K5.out a1 ax aD;have bn := av;cases bq;replace av := cB HB av;have aJ := yf.mk aI;have bC := yf.mk aK;clear aI aK;replace ax := eq_true ax;replace aD := eq_true aD
 have ay : 0 ≤ ((ah) : Int) := of_decide_eq_true ‹_›
 have aG : (ah) < ((yT Bn a1).length : Int) := of_decide_eq_true ‹_›
 obtain ⟨aM, bu, aj⟩ := Kd.Bv aJ.out (ah) ay aG;have bi := aj;cases bu;replace aj := cB HB aj;replace ay := eq_true ay;replace aG := eq_true aG
 refine AV (n := 12) (S := fun w' => w'.cell? ⟨ag, 0, none⟩ = some (.int .i64 yn) ∧ w'.cell? ⟨ag, 1, none⟩ = some (.slice yP yg.length yI) ∧ w'.cell? ⟨ag, 2, none⟩ = some (.int .i64 yo) ∧ w'.cell? ⟨ag, 3, none⟩ = some (.int .i64 yt) ∧ w'.cell? ⟨ag, 4, none⟩ = some (.int .i64 BF) ∧ w'.cell? ⟨ag, 5, none⟩ = some (.int .i64 Al) ∧ w'.cell? ⟨ag, 6, none⟩ = some (.int .i64 zY) ∧ w'.cell? ⟨ag, 7, none⟩ = some (.slice F8 BS.length EX) ∧ w'.cell? ⟨ag, 8, none⟩ = some (.slice (some ak) Bn.length EY) ∧ w'.cell? ⟨ag, 9, none⟩ = some (.int .i64 DZ) ∧ w'.cell? ⟨ag, 10, none⟩ = some (.int .i64 CK) ∧ w'.cell? (ak.add (a1).toNat) = some (.slice (some aM) (yT Bn a1).length aZ) ∧ w'.cell? (aM.add ((ah)).toNat) = some (.int .i64 (rd (yT Bn a1) (ah)))) (ds := []) (bz 12 0) (by kernel_rfl) rfl rfl ⟨(yz aa.out 0).trans rfl, (yz aa.out 1).trans rfl, (yz aa.out 2).trans rfl, (yz aa.out 3).trans rfl, (yz aa.out 4).trans rfl, (yz aa.out 5).trans rfl, (yz aa.out 6).trans rfl, (yz aa.out 7).trans rfl, (yz aa.out 8).trans rfl, (yz aa.out 9).trans rfl, (yz aa.out 10).trans rfl, (cB HB bn), (cB HB bi)⟩ (fun hHeld => ?_); refine zQ zf.UN zf.OP (fun yD AZ => ?_)
 generalize w15.drew = w18 at aa ai HB aJ av aj hHeld ⊢;refine pU 0 14 12 1 yD ?_;refine pU 2 16 12 5 yD ?_;refine pU 5 19 12 37 yD ?_;refine pU 6 20 12 101 yD ?_
 refine BQ 1 15 12 103 yD AZ hHeld ?_
 refine pU 3 17 12 111 yD ?_
 refine BQ 4 18 12 127 yD AZ hHeld ?_
 refine BQ 7 21 12 255 yD AZ hHeld ?_
 refine pU 8 22 12 511 yD ?_;refine pU 9 23 12 1023 yD ?_
 refine BQ 10 24 12 2047 yD AZ hHeld ?_
 refine pU 11 8 12 4095 yD ?_
 refine BI (Az yD.out (by kernel_rfl)) ?_
 have a1H := Dt aa;have a1I := bf aa
 have aC : 0 ≤ ((rd (yT Bn a1) (ah)) : Int) := of_decide_eq_true ‹_›
 have aA : (rd (yT Bn a1) (ah)) < (yg.length : Int) := of_decide_eq_true ‹_›
 obtain ⟨aQ, aW, aU, aX, aH, aT, aN⟩ := Dw zq.out (rd (yT Bn a1) (ah)) aC aA;cases aX;replace aH := cB HB aH;have bg := yf.mk aN;have aV := yf.mk aT;clear aN aT;replace aC := eq_true aC;replace aA := eq_true aA
 try go_wp2_with (((with_reducible refine yB (f := 65) rfl ?_); refine L9 (some 33) rfl rfl Try.func65 (by kernel_rfl) rfl #[.slice aW (yT yg (rd (yT Bn a1) (ah))).length aU, .int .i64 a1] rfl (by (try simp only [List.map_toArray, List.map_cons, List.map_nil]); rfl) ?_; (with_reducible refine (slices_Index_int.calls k _ _ (yT yg (rd (yT Bn a1) (ah))) a1 PG _ ?yF ?yM A12.out).mono ?_); (case yF => exact Da bg); (case yM => exact aV.out); rintro e w' ⟨rfl, ⟨nd, rfl⟩⟩; refine ⟨_, rfl, ?_⟩; (try (rw [Q7 w18]; generalize au : World.drewN w18 _ = w18; have Bt : yf (w18.heap[ag]? = some (.cells #[.int .i64 yn, .slice (some aQ) yg.length yI, .int .i64 yo, .int .i64 yt, .int .i64 BF, .int .i64 Al, .int .i64 zY, .slice F8 BS.length EX, .slice (some ak) Bn.length EY, .int .i64 DZ, .int .i64 CK] 102 (0, 0))) := ⟨by rw [← au]; exact (kk aa)⟩; have Bu : yf (w18.heap[ae]? = some (.cells #[.int .i64 0, .int .i64 0] 81 (0, 0))) := ⟨by rw [← au]; exact (kk ai)⟩; have BJ : yf (Below w.heap.size w w18) := ⟨by rw [← au]; exact (bO HB)⟩; clear aa ai HB au; have aa := Bt; have ai := Bu; have HB := BJ; clear Bt Bu BJ))))
 replace aa := yf.mk (yZ aa.out);replace ai := yf.mk (yZ ai.out);replace HB := yf.mk (ze HB.out)
 refine AV (n := 20) (S := fun w' => w'.cell? ⟨ag, 0, none⟩ = some (.int .i64 yn) ∧ w'.cell? ⟨ag, 1, none⟩ = some (.slice (some aQ) yg.length yI) ∧ w'.cell? ⟨ag, 2, none⟩ = some (.int .i64 yo) ∧ w'.cell? ⟨ag, 3, none⟩ = some (.int .i64 yt) ∧ w'.cell? ⟨ag, 4, none⟩ = some (.int .i64 BF) ∧ w'.cell? ⟨ag, 5, none⟩ = some (.int .i64 Al) ∧ w'.cell? ⟨ag, 6, none⟩ = some (.int .i64 zY) ∧ w'.cell? ⟨ag, 7, none⟩ = some (.slice F8 BS.length EX) ∧ w'.cell? ⟨ag, 8, none⟩ = some (.slice (some ak) Bn.length EY) ∧ w'.cell? ⟨ag, 9, none⟩ = some (.int .i64 DZ) ∧ w'.cell? ⟨ag, 10, none⟩ = some (.int .i64 CK)) (ds := []) (bz 20 0) (by kernel_rfl) rfl rfl (Dt aa) (fun hHeld => ?_); refine zQ zf.ZG zf.UY (fun yD AZ => ?_)
 generalize w18.drew = w20 at aa ai HB hHeld ⊢;refine pU 0 34 20 1 yD ?_;refine pU 1 35 20 3 yD ?_;refine pU 4 38 20 19 yD ?_;refine pU 6 40 20 83 yD ?_;refine pU 7 41 20 211 yD ?_;refine pU 8 42 20 467 yD ?_;refine pU 9 43 20 979 yD ?_;refine pU 12 46 20 5075 yD ?_;refine pU 15 49 20 37843 yD ?_
 refine BQ 2 36 20 37847 yD AZ hHeld ?_
 refine pU 3 37 20 37855 yD ?_;refine pU 5 39 20 37887 yD ?_
 refine BQ 10 44 20 38911 yD AZ hHeld ?_
 refine pU 11 45 20 40959 yD ?_
 refine BQ 13 47 20 49151 yD AZ hHeld ?_
 refine pU 14 48 20 65535 yD ?_
 refine BQ 16 50 20 131071 yD AZ hHeld ?_
 refine pU 17 51 20 262143 yD ?_;refine pU 18 52 20 524287 yD ?_
 refine BP (i := 19) (N := none) (bz 20 1048575) rfl rfl (Af yD.out (by kernel_rfl)) (by decide) (fun K hK => ?_)
 have a0X : w20.cell? ⟨ae, 0, none⟩ = some (.int .i64 0) := (yz ai.out 0).trans rfl
 have XW := zm ai.out 0;have Rs := af.out;have Rt := az.out
 have a3d : w20.cell? ⟨ae, 1, none⟩ = some (.int .i64 0) := (yz ai.out 1).trans rfl
 have a1e := zm ai.out 1;have WX := af.out;have WY := az.out
 refine G5 (w1 := ?_) (by rfl) rfl ?_ ?_
 rotate_left
 ·
  go_simp
  rfl
 refine hK.out _ _ ⟨((cell_far (p := ⟨ae, _, none⟩) af.out _).trans (((cell_far (p := ⟨ae, _, none⟩) af.out _).trans (hHeld.1)))), ((cell_far (p := ⟨ae, _, none⟩) af.out _).trans (((cell_far (p := ⟨ae, _, none⟩) af.out _).trans (hHeld.2.1)))), ((cell_far (p := ⟨ae, _, none⟩) af.out _).trans (((cell_far (p := ⟨ae, _, none⟩) af.out _).trans (hHeld.2.2.1)))), ((cell_far (p := ⟨ae, _, none⟩) af.out _).trans (((cell_far (p := ⟨ae, _, none⟩) af.out _).trans (hHeld.2.2.2.1)))), ((cell_far (p := ⟨ae, _, none⟩) af.out _).trans (((cell_far (p := ⟨ae, _, none⟩) af.out _).trans (hHeld.2.2.2.2.1)))), ((cell_far (p := ⟨ae, _, none⟩) af.out _).trans (((cell_far (p := ⟨ae, _, none⟩) af.out _).trans (hHeld.2.2.2.2.2.1)))), ((cell_far (p := ⟨ae, _, none⟩) af.out _).trans (((cell_far (p := ⟨ae, _, none⟩) af.out _).trans (hHeld.2.2.2.2.2.2.1)))), ((cell_far (p := ⟨ae, _, none⟩) af.out _).trans (((cell_far (p := ⟨ae, _, none⟩) af.out _).trans (hHeld.2.2.2.2.2.2.2.1)))), ((cell_far (p := ⟨ae, _, none⟩) af.out _).trans (((cell_far (p := ⟨ae, _, none⟩) af.out _).trans (hHeld.2.2.2.2.2.2.2.2.1)))), ((cell_far (p := ⟨ae, _, none⟩) af.out _).trans (((cell_far (p := ⟨ae, _, none⟩) af.out _).trans (hHeld.2.2.2.2.2.2.2.2.2.1)))), ((cell_far (p := ⟨ae, _, none⟩) af.out _).trans (((cell_far (p := ⟨ae, _, none⟩) af.out _).trans (hHeld.2.2.2.2.2.2.2.2.2.2))))⟩ (fun hHeld => ?_)
 clear hK K
 refine BI (Az yD.out (by kernel_rfl)) ?_
 try go_wp2
 refine bodyPost_ret (results_cell_row rfl _ _ ae 81 #[.int .i64 (wrap64 ((wrap64 ((wrap64 (Int.tdiv a2 Al)) * zY)) + (rd (yT Bn a1) (ah)))), .int .i64 (Int.tmod (wrap64 ((Int.tmod (wrap64 (PG - (wrap64 (Int.tdiv a2 Al)))) BF) + BF)) BF)] (0, 0) _ rfl (CF ai rfl) Try.underlying81 rfl (by kernel_rfl)) rfl ?_
 exact ⟨by rfl, bO HB⟩
end Go.Proofs.Ytjonnfmoocijlaa.P
namespace Go.Proofs.Ytjonnfmoocijlaa.P
open Go.RowKit Go.Proofs.YtjonnfmoocijlaaKW.PrintWords
set_option maxRecDepth 100000
def atOk (L : List (List Int)) (w n r : Nat) (x j : Nat) (o : Option (Int × Int)) : Bool := match o with
 | none => false
 | some p => decide (0 ≤ p.1 ∧ p.1.toNat / n = j / r ∧ 0 ≤ p.2 ∧ p.2 < (w : Int) ∧ ER L w n r p.1.toNat p.2.toNat = ((x : Int), (j : Int)))
def a0g (d : Int) (n r : Nat) (g i : Nat) (h : Int × Int) (o : Option (Int × Int)) : Bool := decide (0 ≤ h.1 ∧ h.1 < d ∧ 0 ≤ h.2 ∧ h.2.toNat < (g / n + 1) * r ∧ o = some ((g : Int), (i : Int)))
structure GZ (d : Int) (L : List (List Int)) (w n r : Nat) : Prop where
 at_ : ∀ T S H C : Int, (List.range d.toNat).all (fun x => (List.range (5 * r)).all fun j => atOk L w n r x j (zf.f 400 d L T S (w : Int) (r : Int) (n : Int) (FN d.toNat L).2 (FN d.toNat L).1 H C (x : Int) (j : Int))) = true
 back : ∀ T S H C : Int, (List.range (5 * n)).all (fun g => (List.range w).all fun i => a0g d n r g i (ER L w n r g i) (zf.f 400 d L T S (w : Int) (r : Int) (n : Int) (FN d.toNat L).2 (FN d.toNat L).1 H C (ER L w n r g i).1 (ER L w n r g i).2)) = true
theorem at0 : GZ 5 ds0 4 5 4 := ⟨fun T S H C => by kernel_rfl, fun T S H C => by kernel_rfl⟩
theorem at1 : GZ 6 ds1 4 15 10 := ⟨fun T S H C => by kernel_rfl, fun T S H C => by kernel_rfl⟩
theorem at2 : GZ 6 ds2 5 6 5 := ⟨fun T S H C => by kernel_rfl, fun T S H C => by kernel_rfl⟩
theorem at3 : GZ 4 ds3 4 1 1 := ⟨fun T S H C => by kernel_rfl, fun T S H C => by kernel_rfl⟩
theorem at4 : GZ 5 ds4 5 1 1 := ⟨fun T S H C => by kernel_rfl, fun T S H C => by kernel_rfl⟩
theorem at5 : GZ 13 ds5 4 13 4 := ⟨fun T S H C => by kernel_rfl, fun T S H C => by kernel_rfl⟩
theorem at6 : GZ 7 ds6 5 21 15 := ⟨fun T S H C => by kernel_rfl, fun T S H C => by kernel_rfl⟩
end Go.Proofs.Ytjonnfmoocijlaa.P
namespace Go.Proofs.Ytjonnfmoocijlaa.P
open Go.RowKit Go.Proofs.YtjonnfmoocijlaaKW.PrintWords
theorem W9 (x : Int) (h0 : 0 ≤ x) (h1 : x < 65536) : ∃ (d : Int) (L : List (List Int)) (w n r : Nat) (T S : Int), Ev (fun k => zD.f k x) (d, L, T, S) ∧ Lo d L w n r T S ∧ GZ d L w n r := by
  have e0 : wrap64 x = x := ww (by omega) (by omega)
  have e1 : Int.tmod x 8 = x % 8 := Int.tmod_eq_emod_of_nonneg h0
  have e2 : wrap64 (Int.tdiv x 16) = x / 16 := by rw [Int.tdiv_eq_ediv_of_nonneg h0]; exact ww (by omega) (by omega)
  have e3 : wrap64 (Int.tdiv x 80) = x / 80 := by rw [Int.tdiv_eq_ediv_of_nonneg h0]; exact ww (by omega) (by omega)
  have e4 : Int.tmod (x / 16) 5 = x / 16 % 5 := Int.tmod_eq_emod_of_nonneg (by omega)
  have e5 : Int.tmod (x / 80) 8 = x / 80 % 8 := Int.tmod_eq_emod_of_nonneg (by omega)
  have e6 : wrap64 (1 + x / 16 % 5) = 1 + x / 16 % 5 := ww (by omega) (by omega)
  have e7 : wrap64 (Int.tdiv x 8) = x / 8 := by rw [Int.tdiv_eq_ediv_of_nonneg h0]; exact ww (by omega) (by omega)
  have e8 : Int.tmod (x / 8) 2 = x / 8 % 2 := Int.tmod_eq_emod_of_nonneg (by omega)
  have e9 : wrap64 (4 + x / 8 % 2) = 4 + x / 8 % 2 := ww (by omega) (by omega)
  have hT : 1 ≤ 1 + x / 16 % 5 ∧ 1 + x / 16 % 5 ≤ 5 := by omega
  have hS : 0 ≤ x / 80 % 8 ∧ x / 80 % 8 ≤ 7 := by omega
  have hc : ∀ {a b : Int} {d : Int} {L : List (List Int)}, ym.f 1500 a b = some (d, L) → Ev (fun k => ym.f k a b) (d, L) := fun h => MJ (fun k => ym.mono _ _ k) h
  have hj : ∀ bb : Bool, bb = decide (x % 8 = 0 ∨ x % 8 = 1 ∨ x % 8 = 2) → ∃ (d : Int) (L : List (List Int)) (w n r : Nat) (T S : Int), Ev (fun k => zD.j0 k x (x % 8) bb 0) (d, L, T, S) ∧ Lo d L w n r T S ∧ GZ d L w n r := by
    intro bb hbb
    cases bb with
    | true =>
      refine ⟨_, _, _, _, _, _, _, evs (fun k => by rw [zD.j0]) (AP rfl ?_), ⟨a1x, hT, hS⟩, at0⟩
      exact DL (hc cmp0) (GX (by rw [e2, e4, e6, e3, e5]))
    | false =>
      have hn := of_decide_eq_false hbb.symm
      by_cases c3 : x % 8 = 3
      · refine ⟨_, _, _, _, _, _, _, evs (fun k => by rw [zD.j0]) (C8 (by decide) (AP c3 ?_)), ⟨a3f, hT, hS⟩, at1⟩
        exact DL (hc a3p) (GX (by rw [e2, e4, e6, e3, e5]))
      by_cases c4 : x % 8 = 4
      · refine ⟨_, _, _, _, _, _, _, evs (fun k => by rw [zD.j0]) (C8 (by decide) (C8 c3 (AP c4 ?_))), ⟨a3h, hT, hS⟩, at2⟩
        exact DL (hc a3q) (GX (by rw [e2, e4, e6, e3, e5]))
      by_cases c5 : x % 8 = 5
      · rcases (show x / 8 % 2 = 0 ∨ x / 8 % 2 = 1 by omega) with c8 | c8
        · refine ⟨_, _, _, _, _, _, _, evs (fun k => by rw [zD.j0]) (C8 (by decide) (C8 c3 (C8 c4 (AP c5 ?_)))), ⟨a3i, hT, hS⟩, at3⟩
          rw [e7, e8, e9, c8]
          exact DL (hc a3r) (GX (by rw [e2, e4, e6, e3, e5]))
        · refine ⟨_, _, _, _, _, _, _, evs (fun k => by rw [zD.j0]) (C8 (by decide) (C8 c3 (C8 c4 (AP c5 ?_)))), ⟨a3k, hT, hS⟩, at4⟩
          rw [e7, e8, e9, c8]
          exact DL (hc a3s) (GX (by rw [e2, e4, e6, e3, e5]))
      by_cases c6 : x % 8 = 6
      · refine ⟨_, _, _, _, _, _, _, evs (fun k => by rw [zD.j0]) (C8 (by decide) (C8 c3 (C8 c4 (C8 c5 (AP c6 ?_))))), ⟨a3m, hT, hS⟩, at5⟩
        exact DL (MJ (fun k => yx.mono _ k) a3t) (GX (by rw [e2, e4, e6, e3, e5]))
      have c7 : x % 8 = 7 := by omega
      refine ⟨_, _, _, _, _, _, _, evs (fun k => by rw [zD.j0]) (C8 (by decide) (C8 c3 (C8 c4 (C8 c5 (C8 c6 (AP c7 ?_)))))), ⟨a3o, hT, hS⟩, at6⟩
      exact DL (hc a3u) (GX (by rw [e2, e4, e6, e3, e5]))
  unfold zD.f
  rw [e0, e1]
  by_cases c0 : x % 8 = 0
  · obtain ⟨d, L, w, n, r, T, S, h1, h2⟩ := hj (x % 8 == 0) (by simp [c0])
    exact ⟨d, L, w, n, r, T, S, AP c0 h1, h2⟩
  by_cases c1 : x % 8 = 1
  · obtain ⟨d, L, w, n, r, T, S, h1, h2⟩ := hj (x % 8 == 1) (by simp [c1])
    exact ⟨d, L, w, n, r, T, S, C8 c0 (AP c1 h1), h2⟩
  · obtain ⟨d, L, w, n, r, T, S, h1, h2⟩ := hj (x % 8 == 2) (by simp [c0, c1]; rfl)
    exact ⟨d, L, w, n, r, T, S, C8 c0 (C8 c1 h1), h2⟩
end Go.Proofs.Ytjonnfmoocijlaa.P
namespace Go.Proofs
open Go.Shelf
def Try.TC : Go.Shelf.Ren := ⟨fun | 6 => 54 | 15 => 74 | 14 => 73 | 28 => 91 | 29 => 92 | 20 => 83 | 21 => 84 | 22 => 85 | 23 => 86 | 24 => 87 | 25 => 88 | 26 => 89 | 27 => 90 | 46 => 104 | 47 => 105 | 48 => 106 | 49 => 107 | 50 => 108 | 57 => 112 | n => n, fun | 22 => 60 | 24 => 81 | 25 => 94 | 3 => 3 | 39 => 108 | 0 => 0 | 53 => 131 | 55 => 133 | 4 => 4 | 46 => 125 | 45 => 124 | 50 => 78 | 5 => 5 | 9 => 9 | 66 => 141 | 70 => 145 | 76 => 149 | 77 => 117 | n => n, fun | n => n⟩
theorem Try.M8 : Go.Proofs.SlLaysF0.n6 Try.prog Try.TC := {
 mixed := by kernel_rfl
 f6 := ⟨Try.f54.name, by decide, Try.func54.trans (congrArg some (by kernel_rfl))⟩
 f14 := ⟨Try.f73.name, by decide, Try.func73.trans (congrArg some (by kernel_rfl))⟩
 f15 := Try.func74.trans (congrArg some (by kernel_rfl))
 f20 := ⟨Try.f83.name, by decide, Try.func83.trans (congrArg some (by kernel_rfl))⟩
 f21 := ⟨Try.f84.name, by decide, Try.func84.trans (congrArg some (by kernel_rfl))⟩
 f22 := ⟨Try.f85.name, by decide, Try.func85.trans (congrArg some (by kernel_rfl))⟩
 f23 := ⟨Try.f86.name, by decide, Try.func86.trans (congrArg some (by kernel_rfl))⟩
 f24 := ⟨Try.f87.name, by decide, Try.func87.trans (congrArg some (by kernel_rfl))⟩
 f25 := ⟨Try.f88.name, by decide, Try.func88.trans (congrArg some (by kernel_rfl))⟩
 f26 := ⟨Try.f89.name, by decide, Try.func89.trans (congrArg some (by kernel_rfl))⟩
 f27 := ⟨Try.f90.name, by decide, Try.func90.trans (congrArg some (by kernel_rfl))⟩
 f28 := Try.func91.trans (congrArg some (by kernel_rfl))
 f29 := Try.func92.trans (congrArg some (by kernel_rfl))
 f46 := ⟨Try.f104.name, by decide, Try.func104.trans (congrArg some (by kernel_rfl))⟩
 f47 := Try.func105.trans (congrArg some (by kernel_rfl))
 f48 := Try.func106.trans (congrArg some (by kernel_rfl))
 f49 := ⟨Try.f107.name, by decide, Try.func107.trans (congrArg some (by kernel_rfl))⟩
 f50 := ⟨Try.f108.name, by decide, Try.func108.trans (congrArg some (by kernel_rfl))⟩
 f57 := ⟨Try.f112.name, by decide, Try.func112.trans (congrArg some (by kernel_rfl))⟩
 t0 := Try.underlying0
 a0 := Try.isAgg0
 z0 := Try.sizeOf0
 v0 := Try.zeroValue0
 t3 := Try.underlying3
 a3 := Try.isAgg3
 z3 := Try.sizeOf3
 v3 := Try.zeroValue3
 t4 := Try.underlying4
 a4 := Try.isAgg4
 z4 := Try.sizeOf4
 v4 := Try.zeroValue4
 t5 := Try.underlying5
 a5 := Try.isAgg5
 z5 := Try.sizeOf5
 v5 := Try.zeroValue5
 t9 := Try.underlying9
 a9 := Try.isAgg9
 z9 := Try.sizeOf9
 v9 := Try.zeroValue9
 t22 := Try.underlying60
 a22 := Try.isAgg60
 z22 := Try.sizeOf60
 v22 := Try.zeroValue60
 t25 := Try.underlying94
 a25 := Try.isAgg94
 z25 := Try.sizeOf94
 v25 := Try.zeroValue94
 t39 := Try.underlying108
 a39 := Try.isAgg108
 z39 := Try.sizeOf108
 v39 := Try.zeroValue108
 t45 := Try.underlying124
 a45 := Try.isAgg124
 z45 := Try.sizeOf124
 v45 := Try.zeroValue124
 t46 := Try.underlying125
 a46 := Try.isAgg125
 z46 := Try.sizeOf125
 v46 := Try.zeroValue125
 t50 := Try.underlying78
 a50 := Try.isAgg78
 z50 := Try.sizeOf78
 v50 := Try.zeroValue78
 t53 := Try.underlying131
 a53 := Try.isAgg131
 z53 := Try.sizeOf131
 v53 := Try.zeroValue131
 t55 := Try.underlying133
 a55 := Try.isAgg133
 z55 := Try.sizeOf133
 v55 := Try.zeroValue133
 t66 := Try.underlying141
 a66 := Try.isAgg141
 z66 := Try.sizeOf141
 v66 := Try.zeroValue141
 t70 := Try.underlying145
 a70 := Try.isAgg145
 z70 := Try.sizeOf145
 v70 := Try.zeroValue145
 t76 := Try.underlying149
 a76 := Try.isAgg149
 z76 := Try.sizeOf149
 v76 := Try.zeroValue149
 t77 := Try.underlying117
 a77 := Try.isAgg117
 z77 := Try.sizeOf117
 v77 := Try.zeroValue117 }
end Go.Proofs
