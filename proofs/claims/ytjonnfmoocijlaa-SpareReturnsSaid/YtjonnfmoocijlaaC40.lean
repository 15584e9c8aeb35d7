/- Texts of a claim, packed. -/
import Derived.Test.YtjonnfmoocijlaaC39
set_option linter.all false
namespace Go.Proofs.Ytjonnfmoocijlaa.P
open Go.RowKit Go.Proofs.YtjonnfmoocijlaaKW.PrintWords Go.Proofs.YtjonnfmoocijlaaKW.PrintLast Go.Proofs.YtjonnfmoocijlaaKW.PrintMore
attribute [local go_sem] zO zP Aj Ak zC zD zQ zR
mutual
def zl.j1 : Nat → List (AX) → Int → List (List Int) → Int → Int → Int → Int → Int → Int → Option ((List (AX)) × Int)
 | 0, _, _, _, _, _, _, _, _, _ => none
 | k + 1, F5, ae, ag, af, aa, ah, ak, ai, aj => (AU.f k ae ag af aa).bind fun Hg => ((AU.f k ae ag af aa).bind fun Hl => ((Cs.f k ae ag af aa F5).bind fun a3B => (if a3B = true then ((Ci.f k ae ag af aa F5 (wrap64 (Hg - aa)) Hl ah).bind fun a3C => (if a3C = true then (some (F5, 0)) else (some (([] : List (AX)), 1)))) else (some (([] : List (AX)), 1)))))
def zl.j0 : Nat → List (AX) → Int → Bool → Bool → Int → List (List Int) → Int → Int → Int → Int → Int → Int → Option ((List (AX)) × Int)
 | 0, _, _, _, _, _, _, _, _, _, _, _, _ => none
 | k + 1, F5, EK, Ga, x47, ae, ag, af, aa, ah, ak, ai, aj => if x47 = true then (some (([] : List (AX)), 9)) else (if ai = (-1) then ((Dp.f F5 EK (wrap64 (EK + 1))).bind fun ZK => (zl.j1 k ZK ae ag af aa ah ak ai aj)) else (if Ga = true then (if 0 ≤ EK then (if EK < (F5.length : Int) then (zl.j1 k (F5.set (EK : Int).toNat (⟨ah, ak, (⟨ai, aj⟩ : GU)⟩ : AX)) ae ag af aa ah ak ai aj) else (none)) else (none)) else ((CR.f F5 EK (([(⟨ah, ak, (⟨ai, aj⟩ : GU)⟩ : AX)] : List (AX)))).bind fun VC => (zl.j1 k VC ae ag af aa ah ak ai aj))))
end
def zl.f (k : Nat) (yn : Int) (yh : List (List Int)) (yo : Int) (yu : Int) (l1 : List (AX)) (zn : Int) (zz : Int) (Bq : Int) (AZ : Int) : Option ((List (AX)) × Int) := (Cs.f k yn yh yo yu l1).bind fun Yv => (if Yv = true then ((Cx.f k yn yh yo yu zn zz).bind fun RZ => (if RZ.2.2 = 0 then ((D9.f l1).bind fun F3 => ((yB.f k F3 zn zz).bind fun Ju => (if Bq = (-1) then (zl.j0 k F3 Ju.1 Ju.2 (!Ju.2) yn yh yo yu zn zz Bq AZ) else (zl.j0 k F3 Ju.1 Ju.2 false yn yh yo yu zn zz Bq AZ)))) else (some (([] : List (AX)), RZ.2.2)))) else (some (([] : List (AX)), 1)))
def zl.T15 : Bool × List (List Nat × List Nat) := (true, [([], []), ([], []), ([], []), ([2], [2]), ([], []), ([4], [4]), ([3, 5], [3, 5]), ([], []), ([7, 3], [7]), ([0, 1, 6, 8], [0, 1, 6, 8]), ([], []), ([10, 9, 8, 0, 1, 2, 3, 4, 5, 6, 7, 8, 9, 10], [9, 10])])
def zl.B15 : List Nat := [0, 0, 0, 4, 0, 16, 60, 0, 140, 511, 0, 2047]
theorem zl.Yw : CZ .any (opsOf Try.f17 15) = zl.T15 := by kernel_rfl
theorem zl.TN : BD zl.T15.2 zl.B15 = true := by kernel_rfl
set_option maxHeartbeats 8000000 in
set_option maxRecDepth 100000 in
theorem zl.calls (k : Nat) (yn : Int) (yQ : Option Addr) (yM : Nat) (yh : List (List Int)) (yo : Int) (yu : Int) (A1 : Option Addr) (c1 : Nat) (l1 : List (AX)) (zn : Int) (zz : Int) (Bq : Int) (AZ : Int) (r1 : List (AX)) (r2 : Int) (w : World) (Ah : Kd.C (Kd.slice 3 (Kd.int .i64)) w yQ yh.length yh) (Ai : yh.length ≤ yM) (hr1 : Kd.C CS w A1 l1.length l1) (hc1 : l1.length ≤ c1) (h : zl.f k yn yh yo yu l1 zn zz Bq AZ = some (r1, r2)) :
  Calls Try.prog 17 #[.agg #[.int .i64 yn, .slice yQ yh.length yM, .int .i64 yo, .int .i64 yu], .slice A1 l1.length c1, .agg #[.int .i64 zn, .int .i64 zz, .int .i64 Bq, .int .i64 AZ]] w fun e w' => ∃ GG : Value, e = .returned (.tuple #[GG, .int .i64 r2]) ∧ Kd.R CS 47 w' w.heap.size (fun _ => True) GG r1 ∧ Below w.heap.size w w' := by
 have FH := Try.underlying31;have LC := Try.underlying47;have Jd := Try.underlying38;have Xq := Try.underlying81;have NS := Try.underlying71;have zA := yf.mk Ah;have zK := yf.mk Ai;clear Ah Ai;have HR1 := yf.mk hr1;have GH := yf.mk hc1;clear hr1 hc1;have HB := yf.mk (Below.refl w.heap.size w)
 have H : ((Cs.f k yn yh yo yu l1).bind fun Yv => (if Yv = true then ((Cx.f k yn yh yo yu zn zz).bind fun RZ => (if RZ.2.2 = 0 then ((D9.f l1).bind fun F3 => ((yB.f k F3 zn zz).bind fun Ju => (if Bq = (-1) then (zl.j0 k F3 Ju.1 Ju.2 (!Ju.2) yn yh yo yu zn zz Bq AZ) else (zl.j0 k F3 Ju.1 Ju.2 false yn yh yo yu zn zz Bq AZ)))) else (some (([] : List (AX)), RZ.2.2)))) else (some (([] : List (AX)), 1)))) = some (r1, r2) := h
 clear h;obtain ⟨Yv, A4, H⟩ := bE H
 try dsimp only at H
 by_cases c5 : Yv = true
 rotate_left
 ·
  replace c5 := Bool.eq_false_iff.mpr c5;subst c5
  rw [if_neg (show ¬ (false = true) by decide)] at H
  simp only [Option.some.injEq, Prod.mk.injEq] at H;obtain ⟨rfl, rfl⟩ := H
  go_enter Try.func17, Try.ntmps17
  go_wp2_with (first | ((with_reducible refine yI (N := 3) rfl ?_); refine yG rfl (N := 3) rfl (cs := #[.int .i64 yn, .slice yQ yh.length yM, .int .i64 yo, .int .i64 yu]) (t := 31) (by go_simp) ?_; intro aj hg w143 yJ hb; have aa := yf.mk (yJ); have dE := bG (w := w) hg; have dD := bG (w := w) hg; replace HB := bS HB hb; clear hb yJ hg) | ((with_reducible refine yI (N := 5) rfl ?_); refine yG rfl (N := 5) rfl (cs := #[.int .i64 zn, .int .i64 zz, .int .i64 Bq, .int .i64 AZ]) (t := 47) (by go_simp) ?_; intro ak hg w144 yJ hb; have ae := yf.mk (yJ); have dm := bG (w := w) hg; have dF := bG (w := w) hg; have aV := Co aa hg; have aU := Ar aa hg; replace aa := bB aa hb; replace HB := bS HB hb; clear hb yJ hg; have a2T := aV.out; have a2U := aU.out; have fJ := AP aa; have jL := bf aa) | ((with_reducible refine yw (f := 25) rfl ?_); refine gL (some 16) Try.func25 #[.agg #[.int .i64 yn, .slice yQ yh.length yM, .int .i64 yo, .int .i64 yu], .slice A1 l1.length c1] ?_; (with_reducible refine (Cs.calls k yn _ _ yh yo yu _ _ l1 false _ ?yD ?yF ?zw ?zx A4.out).mono ?_); (case yD => exact Di zA); (case yF => exact zK.out); (case zw => exact Di HR1); (case zx => exact GH.out); rintro e w147 ⟨rfl, hb⟩; refine ⟨_, rfl, ?_⟩; replace aa := bB aa hb; replace ae := bB ae hb; replace HB := bS HB hb; clear hb))
  go_ret2
  exact ⟨_, by rfl, by exact Kd.Er _ _ _ _ _, bO HB⟩
 subst c5;rw [if_pos rfl] at H;obtain ⟨⟨aM, aQ, bZ⟩, A6, H⟩ := bE H
 try dsimp only at H
 by_cases c7 : bZ = 0
 rotate_left
 ·
  rw [if_neg c7] at H;have GN := beq_eq_false_iff_ne.mpr c7;have Ou := bne_iff_ne.mpr c7;simp only [Option.some.injEq, Prod.mk.injEq] at H;obtain ⟨rfl, rfl⟩ := H
  go_enter Try.func17, Try.ntmps17
  go_wp2_with (first | ((with_reducible refine yI (N := 3) rfl ?_); refine yG rfl (N := 3) rfl (cs := #[.int .i64 yn, .slice yQ yh.length yM, .int .i64 yo, .int .i64 yu]) (t := 31) (by go_simp) ?_; intro aj hg w131 yJ hb; have aa := yf.mk (yJ); have dE := bG (w := w) hg; have dD := bG (w := w) hg; replace HB := bS HB hb; clear hb yJ hg) | ((with_reducible refine yI (N := 5) rfl ?_); refine yG rfl (N := 5) rfl (cs := #[.int .i64 zn, .int .i64 zz, .int .i64 Bq, .int .i64 AZ]) (t := 47) (by go_simp) ?_; intro ak hg w132 yJ hb; have ae := yf.mk (yJ); have dm := bG (w := w) hg; have dF := bG (w := w) hg; have aV := Co aa hg; have aU := Ar aa hg; replace aa := bB aa hb; replace HB := bS HB hb; clear hb yJ hg; have iP := aV.out; have lD := aU.out; have jd := AP aa; have kg := bf aa) | ((with_reducible refine yw (f := 25) rfl ?_); refine gL (some 16) Try.func25 #[.agg #[.int .i64 yn, .slice yQ yh.length yM, .int .i64 yo, .int .i64 yu], .slice A1 l1.length c1] ?_; (with_reducible refine (Cs.calls k yn _ _ yh yo yu _ _ l1 true _ ?yD ?yF ?zw ?zx A4.out).mono ?_); (case yD => exact Di zA); (case yF => exact zK.out); (case zw => exact Di HR1); (case zx => exact GH.out); rintro e w135 ⟨rfl, hb⟩; refine ⟨_, rfl, ?_⟩; replace aa := bB aa hb; replace ae := bB ae hb; replace HB := bS HB hb; clear hb; have jw := AP aa; have fH := bf aa; have a3D := AP ae; have a3E := bf ae) | ((with_reducible refine yw (f := 39) rfl ?_); refine gL (some 24) Try.func39 #[.agg #[.int .i64 yn, .slice yQ yh.length yM, .int .i64 yo, .int .i64 yu], .int .i64 zn, .int .i64 zz] ?_; (with_reducible refine (Cx.calls k yn _ _ yh yo yu zn zz aM aQ bZ _ ?yD ?yF A6.out).mono ?_); (case yD => exact Di zA); (case yF => exact zK.out); rintro e w138 ⟨rfl, hb⟩; refine ⟨_, rfl, ?_⟩; replace aa := bB aa hb; replace ae := bB ae hb; replace HB := bS HB hb; clear hb) | ((with_reducible refine yI (N := 8) rfl ?_); refine yG rfl (N := 8) rfl (cs := #[.int .i64 0, .int .i64 0]) (t := 38) (by go_simp) ?_; intro aG hg w139 yJ hb; have ag := yf.mk (yJ); have dY := bG (w := w) hg; have dR := bG (w := w) hg; have bP := Co aa hg; have bL := Ar aa hg; have bn := Co ae hg; have bq := Ar ae hg; replace aa := bB aa hb; replace ae := bB ae hb; replace HB := bS HB hb; clear hb yJ hg; have a2N := bL.out; have a2O := bP.out; have a2P := bq.out; have a2Q := bn.out; have a2R := bc2 ag; have a2S := bf ag))
  go_ret2
  exact ⟨_, by rfl, by exact Kd.Er _ _ _ _ _, bO HB⟩
 rw [if_pos c7] at H;have GN := beq_iff_eq.mpr c7
 have Ou : (bZ != 0) = false := bne_eq_false_iff_eq.mpr c7
 clear c7;obtain ⟨F3, A8, H⟩ := bE H
 try dsimp only at H
 obtain ⟨⟨aA, bX⟩, A9, H⟩ := bE H
 try dsimp only at H
 have TG := yf.mk H;clear H
 go_enter Try.func17, Try.ntmps17
 go_upto_block 0 with (first | ((with_reducible refine yI (N := 3) rfl ?_); refine yG rfl (N := 3) rfl (cs := #[.int .i64 yn, .slice yQ yh.length yM, .int .i64 yo, .int .i64 yu]) (t := 31) (by go_simp) ?_; intro aj hg w11 yJ hb; have aa := yf.mk (yJ); have dE := bG (w := w) hg; have dD := bG (w := w) hg; replace HB := bS HB hb; clear hb yJ hg) | ((with_reducible refine yI (N := 5) rfl ?_); refine yG rfl (N := 5) rfl (cs := #[.int .i64 zn, .int .i64 zz, .int .i64 Bq, .int .i64 AZ]) (t := 47) (by go_simp) ?_; intro ak hg w12 yJ hb; have ae := yf.mk (yJ); have dm := bG (w := w) hg; have dF := bG (w := w) hg; have aV := Co aa hg; have aU := Ar aa hg; replace aa := bB aa hb; replace HB := bS HB hb; clear hb yJ hg; have Xz := aV.out; have XA := aU.out; have IV := AP aa; have IW := bf aa) | ((with_reducible refine yw (f := 25) rfl ?_); refine gL (some 16) Try.func25 #[.agg #[.int .i64 yn, .slice yQ yh.length yM, .int .i64 yo, .int .i64 yu], .slice A1 l1.length c1] ?_; (with_reducible refine (Cs.calls k yn _ _ yh yo yu _ _ l1 true _ ?yD ?yF ?zw ?zx A4.out).mono ?_); (case yD => exact Di zA); (case yF => exact zK.out); (case zw => exact Di HR1); (case zx => exact GH.out); rintro e w15 ⟨rfl, hb⟩; refine ⟨_, rfl, ?_⟩; replace aa := bB aa hb; replace ae := bB ae hb; replace HB := bS HB hb; clear hb; have KO := AP aa; have KP := bf aa; have NP := AP ae; have NQ := bf ae) | ((with_reducible refine yw (f := 39) rfl ?_); refine gL (some 24) Try.func39 #[.agg #[.int .i64 yn, .slice yQ yh.length yM, .int .i64 yo, .int .i64 yu], .int .i64 zn, .int .i64 zz] ?_; (with_reducible refine (Cx.calls k yn _ _ yh yo yu zn zz aM aQ bZ _ ?yD ?yF A6.out).mono ?_); (case yD => exact Di zA); (case yF => exact zK.out); rintro e w18 ⟨rfl, hb⟩; refine ⟨_, rfl, ?_⟩; replace aa := bB aa hb; replace ae := bB ae hb; replace HB := bS HB hb; clear hb) | ((with_reducible refine yI (N := 8) rfl ?_); refine yG rfl (N := 8) rfl (cs := #[.int .i64 0, .int .i64 0]) (t := 38) (by go_simp) ?_; intro aG hg w19 yJ hb; have ag := yf.mk (yJ); have dY := bG (w := w) hg; have dR := bG (w := w) hg; have bP := Co aa hg; have bL := Ar aa hg; have bn := Co ae hg; have bq := Ar ae hg; replace aa := bB aa hb; replace ae := bB ae hb; replace HB := bS HB hb; clear hb yJ hg; have XU := bL.out; have XV := bP.out; have a5Y := bq.out; have a5Z := bn.out; have KU := bc2 ag; have KV := bf ag) | ((with_reducible refine yw (f := 40) rfl ?_); refine gL (some 31) Try.func40 #[.slice A1 l1.length c1] ?_; (with_reducible refine (D9.calls _ _ l1 F3 _ ?yD ?yF A8.out).mono ?_); (case yD => exact Kd.Cg HR1.out (bO HB)); (case yF => exact GH.out); rintro e w23 ⟨v337, rfl, ho0, hb⟩; refine ⟨_, rfl, ?_⟩; have bJ := yf.mk (Kd.Ay (Kd.ED ho0 (g := ak) (o := .cells #[.int .i64 zn, .int .i64 zz, .int .i64 Bq, .int .i64 AZ] 47 (0, 0)) (CJ ae rfl)) (yL (bO HB))); replace aa := yf.mk (yS (g := aj) (o := .cells #[.int .i64 yn, .slice yQ yh.length yM, .int .i64 yo, .int .i64 yu] 31 (0, 0)) (CJ aa rfl) hb); replace ae := yf.mk (yS (g := ak) (o := .cells #[.int .i64 zn, .int .i64 zz, .int .i64 Bq, .int .i64 AZ] 47 (0, 0)) (CJ ae rfl) hb); replace ag := yf.mk (yS (g := aG) (o := .cells #[.int .i64 aM, .int .i64 aQ] 38 (0, 0)) (CJ ag rfl) hb); replace HB := bS HB hb; clear hb; clear ho0; have NK := AP ae; have NL := bf ae; obtain ⟨LQ, JP, a3F⟩ := Kd.zJ bJ.out; subst a3F) | ((with_reducible refine yw (f := 41) rfl ?_); refine gL (some 39) Try.func41 #[.slice LQ F3.length JP, .agg #[.int .i64 zn, .int .i64 zz], (.func (.func 42) #[] #[])] ?_; (with_reducible refine (yB.calls k _ _ F3 zn zz  aA bX _ ?yD ?yF A9.out).mono ?_); (case yD => exact G7 bJ); (case yF => exact (Kd.yT bJ.out).2.1); rintro e w26 ⟨rfl, hb⟩; refine ⟨_, rfl, ?_⟩; replace bJ := BZ bJ hb; replace aa := bB aa hb; replace ae := bB ae hb; replace ag := bB ag hb; replace HB := bS HB hb; clear hb))
 (try simp only [pz])
 go_cut [10] (fun v10 wc => ∃ (kq : Nat) (aC : List (AX)) (aT : Int) (aW : Int) (aX : Int) (aY : Int), yf (zl.j1 kq aC yn yh yo yu aT aW aX aY = some (r1, r2)) ∧ yf (kq ≤ k) ∧ yf (Kd.R CS 47 wc w.heap.size (fun k_ => k_ ≠ ak) v10 aC) ∧ yf (wc.heap[aj]? = some (.cells #[.int .i64 yn, (.slice yQ yh.length yM), .int .i64 yo, .int .i64 yu] 31 (0, 0))) ∧ yf (wc.heap[ak]? = some (.cells #[.int .i64 aT, .int .i64 aW, .int .i64 aX, .int .i64 aY] 47 (0, 0))) ∧ yf (wc.heap[aG]? = some (.cells #[.int .i64 aM, .int .i64 aQ] 38 (0, 0))) ∧ yf (Below w.heap.size w wc))
 case first =>
  have H := TG.out;clear TG;have TF := yf.mk H;clear H
  go_upto_region 9 with (fail)
  go_cut [47] (fun v47 wc => ∃ (kq : Nat) (cu : Bool), v47 = .bool cu ∧ yf (zl.j0 kq F3 aA bX cu yn yh yo yu zn zz Bq AZ = some (r1, r2)) ∧ yf (kq ≤ k) ∧ yf (Kd.R CS 47 wc w.heap.size (fun k_ => k_ ≠ ak) (.slice LQ F3.length JP) F3) ∧ yf (wc.heap[aj]? = some (.cells #[.int .i64 yn, (.slice yQ yh.length yM), .int .i64 yo, .int .i64 yu] 31 (0, 0))) ∧ yf (wc.heap[ak]? = some (.cells #[.int .i64 zn, .int .i64 zz, .int .i64 Bq, .int .i64 AZ] 47 (0, 0))) ∧ yf (wc.heap[aG]? = some (.cells #[.int .i64 aM, .int .i64 aQ] 38 (0, 0))) ∧ yf (Below w.heap.size w wc))
  case first =>
   have H := TF.out;clear TF
   by_cases c28 : Bq = (-1)
   ·
    rw [if_pos c28] at H;have P5 := beq_iff_eq.mpr c28
    have QS : (Bq != (-1)) = false := bne_eq_false_iff_eq.mpr c28
    clear c28
    (skip)
    have H' := yf.mk H;clear H;have Ri := aU.out;have Rj := aV.out;have R4 := bn.out;have R5 := bq.out;have Pb := AP ae;have Pd := bf ae
    go_wp2
    go_meet
    case rel => exact ⟨_, (!bX), (by rfl), H', ⟨by omega⟩, ⟨by (with_reducible repeat (apply Kd.yZ)); exact Kd.yX bJ.out (fun _ hk => hk.2)⟩, ⟨kk aa⟩, ⟨kk ae⟩, ⟨kk ag⟩, ⟨bO HB⟩⟩
   rw [if_neg c28] at H;have P5 := beq_eq_false_iff_ne.mpr c28;have QS := bne_iff_ne.mpr c28
   (skip)
   have H' := yf.mk H;clear H;have P8 := aU.out;have P9 := aV.out;have WZ := bn.out;have X0 := bq.out;have Ns := AP ae;have Nt := bf ae
   go_wp2
   go_meet
   case rel => exact ⟨_, (false), (by rfl), H', ⟨by omega⟩, ⟨by (with_reducible repeat (apply Kd.yZ)); exact Kd.yX bJ.out (fun _ hk => hk.2)⟩, ⟨kk aa⟩, ⟨kk ae⟩, ⟨kk ag⟩, ⟨bO HB⟩⟩
  case rest =>
  clear TF GN Ou IV KO NP KU NK IW KP NQ KV NL;obtain ⟨kq, cu, rfl, HA, NV, zB, aa, ae, ag, HB⟩ := hcut
  cases kq with
  | zero => exact absurd HA.out (by simp [zl.j0])
  | succ Zz =>
   have H := HA.out;clear HA;simp only [zl.j0] at H
   by_cases Ko : cu = true
   ·
    subst Ko;rw [if_pos rfl] at H;simp only [Option.some.injEq, Prod.mk.injEq] at H;obtain ⟨rfl, rfl⟩ := H
    go_wp2
    go_ret2
    exact ⟨_, by rfl, by exact Kd.Er _ _ _ _ _, bO HB⟩
   ·
    replace Ko := Bool.eq_false_iff.mpr Ko;subst Ko
    rw [if_neg (show ¬ (false = true) by decide)] at H
    by_cases bI : Bq = (-1)
    ·
     rw [if_pos bI] at H;have dS := beq_iff_eq.mpr bI
     have dP : (Bq != (-1)) = false := bne_eq_false_iff_eq.mpr bI
     clear bI;obtain ⟨ZK, A37, H⟩ := bE H
     try dsimp only at H
     have H' := yf.mk H;clear H;have a0i := aU.out;have a0j := aV.out;have a0t := bn.out;have a0u := bq.out;have kL := AP ae;have iL := bf ae
     go_wp2_with (((with_reducible refine yw (f := 43) rfl ?_); refine gL (some 65) Try.func43 #[.slice LQ F3.length JP, .int .i64 aA, .int .i64 (wrap64 (aA + 1))] ?_; (with_reducible refine (Dp.calls (fun k_ => some k_ = (.slice LQ F3.length JP : Value).ownBlock) (.slice LQ F3.length JP) F3 aA (wrap64 (aA + 1)) ZK w _ ?yD ?yF A37.out).mono ?_); (case yD => repeat ((with_reducible exact HB.out))); (case yF => exact Kd.Ht rfl zB.out); rintro e w41 ⟨v342, rfl, ho0, hb, hkp⟩; refine ⟨_, rfl, ?_⟩; have BL := yf.mk (FL (kk aa) hkp (fun hs_ => (fun e_ => (Kd.EI zB.out aa.out (by decide)) e_) hs_)); have BN := yf.mk (FL (kk ae) hkp (fun hs_ => (fun e_ => (Kd.Ff zB.out (fun _ hk => hk)) e_) hs_)); have BX := yf.mk (FL (kk ag) hkp (fun hs_ => (fun e_ => (Kd.EI zB.out ag.out (by decide)) e_) hs_)); have Cr := yf.mk (Kd.yX (ok' := fun k_ => k_ ≠ ak) ho0 (fun k_ E8 => Or.elim E8 (fun hs_ => fun e_ => (Kd.Ff zB.out (fun _ hk => hk)) (by rw [← e_]; exact hs_)) (fun DC => (Kd.Bj (g := ak) (o := .cells #[.int .i64 zn, .int .i64 zz, .int .i64 Bq, .int .i64 AZ] 47 (0, 0)) (kk ae) k_ DC)))); have CG := yf.mk (hb); clear aa; clear ae; clear ag; clear HB; clear zB; have aa := BL; have ae := BN; have ag := BX; have dU := Cr; have HB := CG; clear BL BN BX Cr CG; clear hb; clear hkp; clear ho0))
     go_meet
     case rel => exact ⟨_, (ZK), (zn), (zz), (Bq), (AZ), H', ⟨by have := NV.out; omega⟩, ⟨kR dU⟩, ⟨kk aa⟩, ⟨kk ae⟩, ⟨kk ag⟩, ⟨bO HB⟩⟩
    ·
     rw [if_neg bI] at H;have dS := beq_eq_false_iff_ne.mpr bI;have dP := bne_iff_ne.mpr bI
     by_cases Hu : bX = true
     ·
      subst Hu;rw [if_pos rfl] at H
      by_cases Kq : 0 ≤ aA
      ·
       rw [if_pos Kq] at H;have OX := decide_eq_true Kq;clear Kq
       by_cases M5 : aA < (F3.length : Int)
       ·
        rw [if_pos M5] at H;have Ub := decide_eq_true M5;clear M5;obtain ⟨di, df⟩ : ∃ y_ : List (AX), y_ = (F3.set (aA : Int).toNat (⟨zn, zz, (⟨Bq, AZ⟩ : GU)⟩ : AX)) := ⟨_, rfl⟩
        replace H : (zl.j1 Zz di yn yh yo yu zn zz Bq AZ) = some (r1, r2) := by (rw [df]; with_reducible exact H)
        have eD := yf.mk df;clear df;have H' := yf.mk H;clear H;have Ur := aU.out;have Us := aV.out;have a1v := bn.out;have a1w := bq.out;have QZ := AP ae;have R3 := bf ae
        have p45 : 0 ≤ (aA : Int) := of_decide_eq_true ‹_›
        have cK : (aA : Int) < ((F3.length : Int) : Int) := of_decide_eq_true ‹_›
        obtain ⟨aN, WI, WJ, dC, eH, fu, dB⟩ := Kd.HZ zB.out (by omega)
        (cases WJ)
        have bW := yf.mk dC;have gV := yf.mk dB;clear dC eH dB;obtain ⟨kF, eP, dz, bR, bT⟩ := Kd.SB zB.out z47 (aA : Int) p45 cK;obtain rfl := Lv dz
        have gZ : wc.cell? ⟨aN, (aA : Int).toNat * 4, none⟩ = some (.int .i64 ((yg F3 aA).f0)) := bR 0 _ rfl
        have iF : wc.cell? ⟨aN, (aA : Int).toNat * 4 + 1, none⟩ = some (.int .i64 ((yg F3 aA).f1)) := bR 1 _ rfl
        have jD : wc.cell? ⟨aN, (aA : Int).toNat * 4 + 2, none⟩ = some (.int .i64 ((yg F3 aA).f2.f0)) := bR 2 _ rfl
        have je : wc.cell? ⟨aN, (aA : Int).toNat * 4 + 3, none⟩ = some (.int .i64 ((yg F3 aA).f2.f1)) := bR 3 _ rfl
        have gy : wc.frozen? ⟨aN, (aA : Int).toNat * 4, none⟩ = false := bT 0
        have jf : wc.frozen? ⟨aN, (aA : Int).toNat * 4 + 1, none⟩ = false := bT 1
        have kP : wc.frozen? ⟨aN, (aA : Int).toNat * 4 + 2, none⟩ = false := bT 2
        have jV : wc.frozen? ⟨aN, (aA : Int).toNat * 4 + 3, none⟩ = false := bT 3
        clear eP bR bT dz;replace p45 := eq_true p45;replace cK := eq_true cK;have dn := yf.mk (show Kd.R CS 47 wc w.heap.size (fun k_ => k_ ≠ ak) (.slice (some ⟨aN, 0, none⟩) F3.length JP) F3 from (kR zB));obtain ⟨eX, dG, dx, bN, bU⟩ := Kd.SB dn.out z47 (aA : Int) (of_decide_eq_true ‹_›) (by have h_ : (aA : Int) < ((F3.length : Int) : Int) := of_decide_eq_true ‹_›; exact h_);obtain rfl := Lv dx;have Ta := Kd.ZQ dn.out (aA : Int) (of_decide_eq_true ‹_›) (by have h_ : (aA : Int) < ((F3.length : Int) : Int) := of_decide_eq_true ‹_›; exact h_) (seg := [.int .i64 zn, .int .i64 zz, .int .i64 Bq, .int .i64 AZ]) (j := 0) dG bN (show 4 ≤ 4 from by decide) (x' := (⟨zn, zz, (⟨Bq, AZ⟩ : GU)⟩ : AX)) (GL _ _ _ (⟨zn, zz, (⟨Bq, AZ⟩ : GU)⟩ : AX) ) (fun _ hk => hk);have dJ := bN 0 _ rfl
        (try simp only [show (CS).sz = 4 from rfl, Nat.mul_one, Nat.add_zero] at dJ)
        have dV := bU 0
        (try simp only [show (CS).sz = 4 from rfl, Nat.mul_one, Nat.add_zero] at dV)
        have dL := bN 1 _ rfl
        (try simp only [show (CS).sz = 4 from rfl, Nat.mul_one, Nat.add_zero] at dL)
        have ed := bU 1
        (try simp only [show (CS).sz = 4 from rfl, Nat.mul_one, Nat.add_zero] at ed)
        have eO := bN 2 _ rfl
        (try simp only [show (CS).sz = 4 from rfl, Nat.mul_one, Nat.add_zero] at eO)
        have dI := bU 2
        (try simp only [show (CS).sz = 4 from rfl, Nat.mul_one, Nat.add_zero] at dI)
        have dN := bN 3 _ rfl
        (try simp only [show (CS).sz = 4 from rfl, Nat.mul_one, Nat.add_zero] at dN)
        have dO := bU 3
        (try simp only [show (CS).sz = 4 from rfl, Nat.mul_one, Nat.add_zero] at dO)
        clear dG bN bU dx
        go_wp2_with (((with_reducible refine Fu (t := 47) (p := 71) rfl ?_); refine EU (t := 47) (p := 71) (v := ?vo_w50) (w1 := ((((wc.setCell ⟨aN, (aA : Int).toNat * 4, none⟩ (.int .i64 zn)).setCell ⟨aN, (aA : Int).toNat * 4 + 1, none⟩ (.int .i64 zz)).setCell ⟨aN, (aA : Int).toNat * 4 + 2, none⟩ (.int .i64 Bq)).setCell ⟨aN, (aA : Int).toNat * 4 + 3, none⟩ (.int .i64 AZ))) ?hg ?ho ?hn ?hr ?_; (case ho => rfl); (case hg => rfl); (case hn => rfl); (case hr => go_simp); intro w50 hw; have hg : wc.grownBy w50 (some aN) := (by rw [hw]; exact Ta.2); have OP : Kd.R CS 47 w50 w.heap.size (fun k_ => k_ ≠ ak) (.slice (some ⟨aN, 0, none⟩) F3.length JP) di := (by rw [hw, eD.out]; exact Ta.1); clear Ta; have BL := yf.mk (OP); have BN := yf.mk (zY (g := aj) (o := .cells #[.int .i64 yn, .slice yQ yh.length yM, .int .i64 yo, .int .i64 yu] 31 (0, 0)) (kk aa) hg (Kd.EI zB.out aa.out (by decide))); have BX := yf.mk (zY (g := ak) (o := .cells #[.int .i64 zn, .int .i64 zz, .int .i64 Bq, .int .i64 AZ] 47 (0, 0)) (kk ae) hg (Kd.Ff zB.out (fun _ hk => hk))); have Cr := yf.mk (zY (g := aG) (o := .cells #[.int .i64 aM, .int .i64 aQ] 38 (0, 0)) (kk ag) hg (Kd.EI zB.out ag.out (by decide))); have CG := yf.mk ((by rw [hw]; exact DL (DL (DL (DL (HB.out) bW.out) bW.out) bW.out) bW.out : Below w.heap.size w w50)); clear zB; clear aa; clear ae; clear ag; clear HB; have zB := BL; have aa := BN; have ae := BX; have ag := Cr; have HB := CG; clear BL BN BX Cr CG; clear hg hw OP))
        go_meet
        case rel => exact ⟨_, (di), (zn), (zz), (Bq), (AZ), H', ⟨by have := NV.out; omega⟩, ⟨kR zB⟩, ⟨kk aa⟩, ⟨kk ae⟩, ⟨kk ag⟩, ⟨bO HB⟩⟩
       ·
        rw [if_neg M5] at H;exact absurd H (by simp)
      ·
       rw [if_neg Kq] at H;exact absurd H (by simp)
     ·
      replace Hu := Bool.eq_false_iff.mpr Hu;subst Hu
      rw [if_neg (show ¬ (false = true) by decide)] at H
      obtain ⟨bY, dh⟩ : ∃ y_ : List (AX), y_ = (([(⟨zn, zz, (⟨Bq, AZ⟩ : GU)⟩ : AX)] : List (AX))) := ⟨_, rfl⟩
      replace H : ((CR.f F3 aA bY).bind fun VC => (zl.j1 Zz VC yn yh yo yu zn zz Bq AZ)) = some (r1, r2) := by (rw [dh]; with_reducible exact H)
      have dZ := yf.mk dh;clear dh;obtain ⟨VC, eG, H⟩ := bE H
      try dsimp only at H
      have H' := yf.mk H;clear H;have a1z := aU.out;have a1A := aV.out;have X5 := bn.out;have X6 := bq.out;have a4L := AP ae;have a4M := bf ae
      go_wp2_with (first | ((with_reducible refine yI (N := 45) rfl ?_); refine Kd.J4 CS _ 47 ?hg (N := 45) ?hd (xs := ([(⟨zn, zz, (⟨Bq, AZ⟩ : GU)⟩ : AX)] : List (AX))) (inner := [.int .i64 zn, .int .i64 zz, .int .i64 Bq, .int .i64 AZ]) (ok := fun _ => True) (okp := fun _ => True) ?hr ?hp (fun _ hk => hk) trivial (Below.refl _ _) (Nat.le_refl _) (by simp) ?_; (case hd => rfl); (case hg => rfl); (case hr => go_simp); (case hp => exact (Cj.c4 (show Kd.M CS _ _ _ (⟨zn, zz, (⟨Bq, AZ⟩ : GU)⟩ : AX) [.int .i64 zn, .int .i64 zz, .int .i64 Bq, .int .i64 AZ] from (GL _ _ _ (⟨zn, zz, (⟨Bq, AZ⟩ : GU)⟩ : AX) )) (Cj.none _ _))); intro v346 w55 bV hb JN DW; clear JN DW; (rw [← dZ.out] at bV); have bu := yf.mk (Kd.Ay (Kd.ED (Kd.C8 bV (Kd.DV (kR zB))) (g := ak) (o := .cells #[.int .i64 zn, .int .i64 zz, .int .i64 Bq, .int .i64 AZ] 47 (0, 0)) (kk ae)) (yL (bO HB))); replace zB := yf.mk (Kd.Bb (kR zB) (Kd.Bh bV) hb); replace aa := bB aa hb; replace ae := bB ae hb; replace ag := bB ag hb; replace HB := bS HB hb; clear hb bV; obtain ⟨dH, dA, eF⟩ := Kd.zJ bu.out; subst eF) | ((with_reducible refine yw (f := 44) rfl ?_); refine gL (some 46) Try.func44 #[.slice LQ F3.length JP, .int .i64 aA, .slice dH bY.length dA] ?_; (with_reducible refine (CR.calls (fun k_ => some k_ = (.slice LQ F3.length JP : Value).ownBlock) (.slice LQ F3.length JP) F3 aA _ _ bY VC w _ ?yD ?yF ?zw ?zx eG.out).mono ?_); (case yD => repeat ((with_reducible exact HB.out))); (case yF => exact Kd.Ht rfl zB.out); (case zw => exact ⟨_, _, bu.out, fun k_ jY E8 hs_ => (E8.1.2) hs_⟩); (case zx => exact (Kd.yT bu.out).2.1); rintro e w58 ⟨v349, rfl, ho0, hb, hkp⟩; refine ⟨_, rfl, ?_⟩; have BL := yf.mk (FL (kk aa) hkp (fun hs_ => (fun e_ => (Kd.EI zB.out aa.out (by decide)) e_) hs_)); have BN := yf.mk (FL (kk ae) hkp (fun hs_ => (fun e_ => (Kd.Ff zB.out (fun _ hk => hk.1)) e_) hs_)); have BX := yf.mk (FL (kk ag) hkp (fun hs_ => (fun e_ => (Kd.EI zB.out ag.out (by decide)) e_) hs_)); have Cr := yf.mk (Kd.yX (ok' := fun k_ => k_ ≠ ak ∧ some k_ ≠ (v349 : Value).ownBlock) (Kd.Z8 (bu.out) hkp (fun k_ E8 hs_ => (E8.1.2) hs_)) (fun k_ E8 => ⟨E8.1.2, fun e_ => Or.elim (ho0.1 k_ e_.symm) (fun hs_ => E8.2.1 hs_) (fun DC => Nat.not_le.2 E8.2.2 DC)⟩)); have CG := yf.mk (Kd.yX (ok' := fun k_ => some k_ ≠ (.slice dH bY.length dA : Value).ownBlock ∧ k_ ≠ ak) ho0 (fun k_ E8 => ⟨Or.elim E8 (fun hs_ => fun e_ => (((bu.out).1 k_ e_.symm).1.2) hs_) (fun DC => (Kd.fresh' (Kd.DV (kR bu)) k_ DC)), Or.elim E8 (fun hs_ => fun e_ => (Kd.Ff zB.out (fun _ hk => hk.1)) (by rw [← e_]; exact hs_)) (fun DC => (Kd.Bj (g := ak) (o := .cells #[.int .i64 zn, .int .i64 zz, .int .i64 Bq, .int .i64 AZ] 47 (0, 0)) (kk ae) k_ DC))⟩)); have CU := yf.mk (hb); clear aa; clear ae; clear ag; clear bu; clear HB; clear zB; have aa := BL; have ae := BN; have ag := BX; have bu := Cr; have dQ := CG; have HB := CU; clear BL BN BX Cr CG CU; clear hb; clear hkp; clear ho0))
      go_meet
      case rel => exact ⟨_, (VC), (zn), (zz), (Bq), (AZ), H', ⟨by have := NV.out; omega⟩, ⟨by (with_reducible repeat (apply Kd.yZ)); exact Kd.yX dQ.out (fun _ hk => hk.2)⟩, ⟨kk aa⟩, ⟨kk ae⟩, ⟨kk ag⟩, ⟨bO HB⟩⟩
 case rest =>
 clear TG GN Ou IV KO NP KU NK IW KP NQ KV NL;obtain ⟨kq, aC, aT, aW, aX, aY, HA, ZH, zB, aa, ae, ag, HB⟩ := hcut
 cases kq with
 | zero => exact absurd HA.out (by simp [zl.j1])
 | succ MI =>
  have H := HA.out;clear HA;simp only [zl.j1] at H;obtain ⟨Hg, Vv, H⟩ := bE H
  try dsimp only at H
  obtain ⟨Hl, Sy, H⟩ := bE H
  try dsimp only at H
  obtain ⟨a3B, cZ, H⟩ := bE H
  try dsimp only at H
  by_cases QO : a3B = true
  ·
   subst QO;rw [if_pos rfl] at H;obtain ⟨a3C, dw, H⟩ := bE H
   try dsimp only at H
   by_cases c64 : a3C = true
   ·
    subst c64;rw [if_pos rfl] at H;simp only [Option.some.injEq, Prod.mk.injEq] at H;obtain ⟨rfl, rfl⟩ := H
    try go_wp2
    replace zB := yf.mk (Kd.AQ zB.out);replace aa := yf.mk (yO aa.out);replace ae := yf.mk (yO ae.out);replace ag := yf.mk (yO ag.out);replace HB := yf.mk (za HB.out);obtain ⟨TP, S9, a3G⟩ := Kd.zJ zB.out
    (subst a3G)
    refine Bc (n := 12) (S := fun w' => w'.cell? ⟨aj, 0, none⟩ = some (.int .i64 yn) ∧ w'.cell? ⟨aj, 1, none⟩ = some (.slice yQ yh.length yM) ∧ w'.cell? ⟨aj, 2, none⟩ = some (.int .i64 yo) ∧ w'.cell? ⟨aj, 3, none⟩ = some (.int .i64 yu)) (ds := []) (bz 12 0) (by kernel_rfl) rfl rfl (AP aa) (fun hHeld => ?_); refine zF zl.Yw zl.TN (fun yz Bi => ?_)
    generalize wc.drew = w65 at zB aa ae ag HB hHeld ⊢;refine pU 1 73 12 2 yz ?_;refine pU 4 76 12 18 yz ?_
    refine BO 0 72 12 19 yz Bi hHeld ?_
    refine BO 2 74 12 23 yz Bi hHeld ?_
    refine BO 5 77 12 55 yz Bi hHeld ?_
    refine BO 7 79 12 183 yz Bi hHeld ?_
    refine U3 (σ := Nat) 1 (bz 12 2047) (fun s_ => [(75, .int .i64 Hg), (80, .int .i64 Hl), (13, .pointer (some ⟨s_, 0, none⟩)), (78, .int .i64 (wrap64 (Hg - yu))), (81, .agg #[.int .i64 yn, .slice yQ yh.length yM, .int .i64 yo, .int .i64 yu, .slice TP aC.length S9, .int .i64 (wrap64 (Hg - yu)), .int .i64 Hl])]) (fun s_ w' => (w'.cell? ⟨aj, 0, none⟩ = some (.int .i64 yn) ∧ w'.cell? ⟨aj, 1, none⟩ = some (.slice yQ yh.length yM) ∧ w'.cell? ⟨aj, 2, none⟩ = some (.int .i64 yo) ∧ w'.cell? ⟨aj, 3, none⟩ = some (.int .i64 yu)) ∧ (Kd.R CS 47 w' w.heap.size (fun k_ => k_ ≠ ak) (.slice TP aC.length S9) aC) ∧ (w'.heap[aj]? = some (.cells #[.int .i64 yn, .slice yQ yh.length yM, .int .i64 yo, .int .i64 yu] 31 (0, 0))) ∧ (w'.heap[ak]? = some (.cells #[.int .i64 aT, .int .i64 aW, .int .i64 aX, .int .i64 aY] 47 (0, 0))) ∧ (w'.heap[aG]? = some (.cells #[.int .i64 aM, .int .i64 aQ] 38 (0, 0))) ∧ (w'.heap[s_]? = some (.cells #[.int .i64 0, .slice none 0 0, .int .i64 0, .int .i64 0, .slice none 0 0, .int .i64 0, .int .i64 0] 71 (0, 0))) ∧ (w.heap.size ≤ s_) ∧ (w.heap.size ≤ s_) ∧ (aj ≠ s_) ∧ (s_ ≠ aj) ∧ (ak ≠ s_) ∧ (s_ ≠ ak) ∧ (aG ≠ s_) ∧ (s_ ≠ aG) ∧ (Below w.heap.size w w')) ?_ ?_
    rotate_left
    ·
     intro hCont
     refine Qy (i := 3) (j := 10) (Ni := some 75) (Nj := some 13) (bz 12 191) (bz 12 1207) rfl rfl rfl rfl (J7 yz.out (by kernel_rfl)) (by decide) (by decide) (fun K hK => ?_) (fun K hK => ?_)
     ·
      skip
      refine gO Try.func45 #[.agg #[.int .i64 yn, .slice yQ yh.length yM, .int .i64 yo, .int .i64 yu]] ?_
      with_reducible refine (AU.calls MI yn _ _ yh yo yu Hg _ ?yD ?yF Vv.out).mono ?_
      (case yD => exact Di zA)
      (case yF => exact zK.out)
      rintro e w66 ⟨rfl, hb⟩
      refine ⟨_, rfl, ?_⟩
      replace zB := BZ zB hb;replace aa := bB aa hb;replace ae := bB ae hb;replace ag := bB ag hb;replace HB := bS HB hb;clear hb
      refine hK.out _ _ (AP aa) (fun hHeld => ?_)
      clear hK K
      refine AR (a' := ?_) ?_ ?_
      rotate_left
      ·
       show Act.put _ (some 75) _ = _
       simp only [pz]
       rfl
      refine pU 6 78 12 255 yz ?_
      refine Qy (i := 8) (j := 10) (Ni := some 80) (Nj := some 13) (bz 12 511) (bz 12 1279) rfl rfl rfl rfl (J7 yz.out (by kernel_rfl)) (by decide) (by decide) (fun K hK => ?_) (fun K hK => ?_)
      ·
       skip
       refine gO Try.func45 #[.agg #[.int .i64 yn, .slice yQ yh.length yM, .int .i64 yo, .int .i64 yu]] ?_
       with_reducible refine (AU.calls MI yn _ _ yh yo yu Hl _ ?yD ?yF Sy.out).mono ?_
       (case yD => exact Di zA)
       (case yF => exact zK.out)
       rintro e w67 ⟨rfl, hb⟩
       refine ⟨_, rfl, ?_⟩
       replace zB := BZ zB hb;replace aa := bB aa hb;replace ae := bB ae hb;replace ag := bB ag hb;replace HB := bS HB hb;clear hb
       refine hK.out _ _ (AP aa) (fun hHeld => ?_)
       clear hK K
       refine AR (a' := ?_) ?_ ?_
       rotate_left
       ·
        show Act.put _ (some 80) _ = _
        simp only [pz]
        rfl
       refine pU 9 81 12 1023 yz ?_
       refine Ck (i := 10) (N := some 13) (bz 12 2047) rfl rfl (Af yz.out (by kernel_rfl)) (by decide) (fun K hK => ?_)
       refine Ey ?hg (N := 13) ?hd (cs := #[.int .i64 0, .slice none 0 0, .int .i64 0, .int .i64 0, .slice none 0 0, .int .i64 0, .int .i64 0]) (t := 71) ?hr ?_; (case hd => rfl); (case hg => rfl); (case hr => go_simp)
       intro af hg w69 yJ hb
       have BL := BZ zB hb;have BN := bB aa hb;have BX := bB ae hb;have Cr := bB ag hb;have CG := bS HB hb;have CU := yf.mk (yJ);have Eh := bG (w := w) hg;have F7 := bG (w := w) hg;have Gd := Co aa hg;have IU := Ar aa hg;have EX := Co ae hg;have EY := Ar ae hg;have Fg := Co ag hg;have aD := Ar ag hg;clear zB aa ae ag HB;have zB := BL;have aa := BN;have ae := BX;have ag := Cr;have HB := CG;have ai := CU;have aI := Eh;have aH := F7;have ah := Gd;have au := IU;have av := EX;have ax := EY;have az := Fg;have ay := aD;clear BL BN BX Cr CG CU Eh F7 Gd IU EX EY Fg aD hb yJ hg
       refine hK.out _ _ (AP aa) (fun hHeld => ?_)
       clear hK K
       refine AR (a' := ?_) ?_ ?_
       rotate_left
       ·
        show Act.put _ (some 13) _ = _
        simp only [pz]
        rfl
       exact Gu (hCont (af) _ ⟨hHeld, (kR zB), (kk aa), (kk ae), (kk ag), (kk ai), aI.out, aH.out, ah.out, au.out, av.out, ax.out, az.out, ay.out, (bO HB)⟩)
      ·
       skip
       refine Ey ?hg (N := 13) ?hd (cs := #[.int .i64 0, .slice none 0 0, .int .i64 0, .int .i64 0, .slice none 0 0, .int .i64 0, .int .i64 0]) (t := 71) ?hr ?_; (case hd => rfl); (case hg => rfl); (case hr => go_simp)
       intro af hg w67 yJ hb
       have BL := BZ zB hb;have BN := bB aa hb;have BX := bB ae hb;have Cr := bB ag hb;have CG := bS HB hb;have CU := yf.mk (yJ);have Eh := bG (w := w) hg;have F7 := bG (w := w) hg;have Gd := Co aa hg;have IU := Ar aa hg;have EX := Co ae hg;have EY := Ar ae hg;have Fg := Co ag hg;have aD := Ar ag hg;clear zB aa ae ag HB;have zB := BL;have aa := BN;have ae := BX;have ag := Cr;have HB := CG;have ai := CU;have aI := Eh;have aH := F7;have ah := Gd;have au := IU;have av := EX;have ax := EY;have az := Fg;have ay := aD;clear BL BN BX Cr CG CU Eh F7 Gd IU EX EY Fg aD hb yJ hg
       refine hK.out _ _ (AP aa) (fun hHeld => ?_)
       clear hK K
       refine AR (a' := ?_) ?_ ?_
       rotate_left
       ·
        show Act.put _ (some 13) _ = _
        simp only [pz]
        rfl
       refine Ck (i := 8) (N := some 80) (bz 12 1535) rfl rfl (Af yz.out (by kernel_rfl)) (by decide) (fun K hK => ?_)
       refine gO Try.func45 #[.agg #[.int .i64 yn, .slice yQ yh.length yM, .int .i64 yo, .int .i64 yu]] ?_
       with_reducible refine (AU.calls MI yn _ _ yh yo yu Hl _ ?yD ?yF Sy.out).mono ?_
       (case yD => exact Di zA)
       (case yF => exact zK.out)
       rintro e w68 ⟨rfl, hb⟩
       refine ⟨_, rfl, ?_⟩
       replace zB := BZ zB hb;replace aa := bB aa hb;replace ae := bB ae hb;replace ag := bB ag hb;replace ai := bB ai hb;replace HB := bS HB hb;clear hb;obtain ⟨dK, eu, cz⟩ := Kd.zJ zB.out
       ((injection cz with aK aZ aJ; have bi := aK.symm; have bg := aJ.symm; clear aK aZ aJ; subst bi; subst bg))
       refine hK.out _ _ (AP aa) (fun hHeld => ?_)
       clear hK K
       refine AR (a' := ?_) ?_ ?_
       rotate_left
       ·
        show Act.put _ (some 80) _ = _
        simp only [pz]
        rfl
       refine pU 9 81 12 2047 yz ?_
       exact Gu (hCont (af) _ ⟨hHeld, (kR zB), (kk aa), (kk ae), (kk ag), (kk ai), aI.out, aH.out, ah.out, au.out, av.out, ax.out, az.out, ay.out, (bO HB)⟩)
     ·
      skip
      refine Ey ?hg (N := 13) ?hd (cs := #[.int .i64 0, .slice none 0 0, .int .i64 0, .int .i64 0, .slice none 0 0, .int .i64 0, .int .i64 0]) (t := 71) ?hr ?_; (case hd => rfl); (case hg => rfl); (case hr => go_simp)
      intro af hg w66 yJ hb
      have BL := BZ zB hb;have BN := bB aa hb;have BX := bB ae hb;have Cr := bB ag hb;have CG := bS HB hb;have CU := yf.mk (yJ);have Eh := bG (w := w) hg;have F7 := bG (w := w) hg;have Gd := Co aa hg;have IU := Ar aa hg;have EX := Co ae hg;have EY := Ar ae hg;have Fg := Co ag hg;have aD := Ar ag hg;clear zB aa ae ag HB;have zB := BL;have aa := BN;have ae := BX;have ag := Cr;have HB := CG;have ai := CU;have aI := Eh;have aH := F7;have ah := Gd;have au := IU;have av := EX;have ax := EY;have az := Fg;have ay := aD;clear BL BN BX Cr CG CU Eh F7 Gd IU EX EY Fg aD hb yJ hg
      refine hK.out _ _ (AP aa) (fun hHeld => ?_)
      clear hK K
      refine AR (a' := ?_) ?_ ?_
      rotate_left
      ·
       show Act.put _ (some 13) _ = _
       simp only [pz]
       rfl
      refine Ck (i := 3) (N := some 75) (bz 12 1215) rfl rfl (Af yz.out (by kernel_rfl)) (by decide) (fun K hK => ?_)
      refine gO Try.func45 #[.agg #[.int .i64 yn, .slice yQ yh.length yM, .int .i64 yo, .int .i64 yu]] ?_
      with_reducible refine (AU.calls MI yn _ _ yh yo yu Hg _ ?yD ?yF Vv.out).mono ?_
      (case yD => exact Di zA)
      (case yF => exact zK.out)
      rintro e w67 ⟨rfl, hb⟩
      refine ⟨_, rfl, ?_⟩
      replace zB := BZ zB hb;replace aa := bB aa hb;replace ae := bB ae hb;replace ag := bB ag hb;replace ai := bB ai hb;replace HB := bS HB hb;clear hb
      refine hK.out _ _ (AP aa) (fun hHeld => ?_)
      clear hK K
      refine AR (a' := ?_) ?_ ?_
      rotate_left
      ·
       show Act.put _ (some 75) _ = _
       simp only [pz]
       rfl
      refine pU 6 78 12 1279 yz ?_
      refine Ck (i := 8) (N := some 80) (bz 12 1535) rfl rfl (Af yz.out (by kernel_rfl)) (by decide) (fun K hK => ?_)
      refine gO Try.func45 #[.agg #[.int .i64 yn, .slice yQ yh.length yM, .int .i64 yo, .int .i64 yu]] ?_
      with_reducible refine (AU.calls MI yn _ _ yh yo yu Hl _ ?yD ?yF Sy.out).mono ?_
      (case yD => exact Di zA)
      (case yF => exact zK.out)
      rintro e w68 ⟨rfl, hb⟩
      refine ⟨_, rfl, ?_⟩
      replace zB := BZ zB hb;replace aa := bB aa hb;replace ae := bB ae hb;replace ag := bB ag hb;replace ai := bB ai hb;replace HB := bS HB hb;clear hb;obtain ⟨dK, eu, cz⟩ := Kd.zJ zB.out
      ((injection cz with aK aZ aJ; have bi := aK.symm; have bg := aJ.symm; clear aK aZ aJ; subst bi; subst bg))
      refine hK.out _ _ (AP aa) (fun hHeld => ?_)
      clear hK K
      refine AR (a' := ?_) ?_ ?_
      rotate_left
      ·
       show Act.put _ (some 80) _ = _
       simp only [pz]
       rfl
      refine pU 9 81 12 2047 yz ?_
      exact Gu (hCont (af) _ ⟨hHeld, (kR zB), (kk aa), (kk ae), (kk ag), (kk ai), aI.out, aH.out, ah.out, au.out, av.out, ax.out, az.out, ay.out, (bO HB)⟩)
    rintro af w70 ⟨hS_, Yj, Vf, Vg, Yk, Yl, Ym, Yn, Yo, bA, bv, bH, bF, bC, bD⟩
    have ai : yf (w70.heap[af]? = some (.cells #[.int .i64 0, .slice none 0 0, .int .i64 0, .int .i64 0, .slice none 0 0, .int .i64 0, .int .i64 0] 71 (0, 0))) := ⟨Yl⟩
    have aI : yf (w.heap.size ≤ af) := ⟨Ym⟩
    have aH : yf (w.heap.size ≤ af) := ⟨Yn⟩
    have ah : yf (aj ≠ af) := ⟨Yo⟩
    have au : yf (af ≠ aj) := ⟨bA⟩
    have av : yf (ak ≠ af) := ⟨bv⟩
    have ax : yf (af ≠ ak) := ⟨bH⟩
    have az : yf (aG ≠ af) := ⟨bF⟩
    have ay : yf (af ≠ aG) := ⟨bC⟩
    replace zB : yf (Kd.R CS 47 w70 w.heap.size (fun k_ => k_ ≠ ak) (.slice TP aC.length S9) aC) := ⟨Yj⟩
    replace aa : yf (w70.heap[aj]? = some (.cells #[.int .i64 yn, .slice yQ yh.length yM, .int .i64 yo, .int .i64 yu] 31 (0, 0))) := ⟨Vf⟩
    replace ae : yf (w70.heap[ak]? = some (.cells #[.int .i64 aT, .int .i64 aW, .int .i64 aX, .int .i64 aY] 47 (0, 0))) := ⟨Vg⟩
    replace ag : yf (w70.heap[aG]? = some (.cells #[.int .i64 aM, .int .i64 aQ] 38 (0, 0))) := ⟨Yk⟩
    replace HB : yf (Below w.heap.size w w70) := ⟨bD⟩
    clear Yj Vf Vg Yk Yl Ym Yn Yo bA bv bH bF bC bD
    have hHeld : w70.cell? ⟨aj, 0, none⟩ = some (.int .i64 yn) ∧ w70.cell? ⟨aj, 1, none⟩ = some (.slice yQ yh.length yM) ∧ w70.cell? ⟨aj, 2, none⟩ = some (.int .i64 yo) ∧ w70.cell? ⟨aj, 3, none⟩ = some (.int .i64 yu) := hS_
    refine AR (a' := ?_) ?_ ?_
    rotate_left
    ·
     simp only [J6, Act.put, List.setIfInBounds_toArray, List.set_cons_zero, List.set_cons_succ]
     rfl
    refine Ck (i := 11) (N := none) (bz 12 4095) rfl rfl (Af yz.out (by kernel_rfl)) (by decide) (fun K hK => ?_)
    have gI : w70.cell? ⟨af, 0, none⟩ = some (.int .i64 0) := (yA ai.out 0).trans rfl
    have jP := zH ai.out 0;have kW := ah.out;have l8 := av.out;have mr := az.out;have lI := au.out;have gz := ax.out;have fB := ay.out
    have kU : w70.cell? ⟨af, 1, none⟩ = some (.slice none 0 0) := (yA ai.out 1).trans rfl
    have lQ := zH ai.out 1;have l5 := ah.out;have gT := av.out;have mD := az.out;have lJ := au.out;have fQ := ax.out;have iW := ay.out
    have mF : w70.cell? ⟨af, 2, none⟩ = some (.int .i64 0) := (yA ai.out 2).trans rfl
    have lZ := zH ai.out 2;have fe := ah.out;have kK := av.out;have fT := az.out;have iU := au.out;have gG := ax.out;have kC := ay.out
    have iT : w70.cell? ⟨af, 3, none⟩ = some (.int .i64 0) := (yA ai.out 3).trans rfl
    have fC := zH ai.out 3;have lS := ah.out;have fZ := av.out;have ma := az.out;have lc := au.out;have lG := ax.out;have ja := ay.out
    have lT : w70.cell? ⟨af, 4, none⟩ = some (.slice none 0 0) := (yA ai.out 4).trans rfl
    have lX := zH ai.out 4;have gK := ah.out;have gB := av.out;have jT := az.out;have jR := au.out;have lH := ax.out;have iZ := ay.out
    have iK : w70.cell? ⟨af, 5, none⟩ = some (.int .i64 0) := (yA ai.out 5).trans rfl
    have jE := zH ai.out 5;have fO := ah.out;have lh := av.out;have l7 := az.out;have jU := au.out;have lN := ax.out;have jk := ay.out
    have gX : w70.cell? ⟨af, 6, none⟩ = some (.int .i64 0) := (yA ai.out 6).trans rfl
    have iq := zH ai.out 6;have jO := ah.out;have lM := av.out;have fD := az.out;have lK := au.out;have iA := ax.out;have jA := ay.out
    refine IR (w1 := ?_) (by rfl) rfl ?_ ?_
    rotate_left
    ·
     go_simp
     rfl
    refine hK.out _ _ ⟨((cell_far (p := ⟨af, _, none⟩) ah.out _).trans (((cell_far (p := ⟨af, _, none⟩) ah.out _).trans (((cell_far (p := ⟨af, _, none⟩) ah.out _).trans (((cell_far (p := ⟨af, _, none⟩) ah.out _).trans (((cell_far (p := ⟨af, _, none⟩) ah.out _).trans (((cell_far (p := ⟨af, _, none⟩) ah.out _).trans (((cell_far (p := ⟨af, _, none⟩) ah.out _).trans (hHeld.1)))))))))))))), ((cell_far (p := ⟨af, _, none⟩) ah.out _).trans (((cell_far (p := ⟨af, _, none⟩) ah.out _).trans (((cell_far (p := ⟨af, _, none⟩) ah.out _).trans (((cell_far (p := ⟨af, _, none⟩) ah.out _).trans (((cell_far (p := ⟨af, _, none⟩) ah.out _).trans (((cell_far (p := ⟨af, _, none⟩) ah.out _).trans (((cell_far (p := ⟨af, _, none⟩) ah.out _).trans (hHeld.2.1)))))))))))))), ((cell_far (p := ⟨af, _, none⟩) ah.out _).trans (((cell_far (p := ⟨af, _, none⟩) ah.out _).trans (((cell_far (p := ⟨af, _, none⟩) ah.out _).trans (((cell_far (p := ⟨af, _, none⟩) ah.out _).trans (((cell_far (p := ⟨af, _, none⟩) ah.out _).trans (((cell_far (p := ⟨af, _, none⟩) ah.out _).trans (((cell_far (p := ⟨af, _, none⟩) ah.out _).trans (hHeld.2.2.1)))))))))))))), ((cell_far (p := ⟨af, _, none⟩) ah.out _).trans (((cell_far (p := ⟨af, _, none⟩) ah.out _).trans (((cell_far (p := ⟨af, _, none⟩) ah.out _).trans (((cell_far (p := ⟨af, _, none⟩) ah.out _).trans (((cell_far (p := ⟨af, _, none⟩) ah.out _).trans (((cell_far (p := ⟨af, _, none⟩) ah.out _).trans (((cell_far (p := ⟨af, _, none⟩) ah.out _).trans (hHeld.2.2.2))))))))))))))⟩ (fun hHeld => ?_)
    clear hK K
    refine BG (Al yz.out (by kernel_rfl)) ?_
    have Xb := aV.out;have Xc := aU.out;have a5N := bP.out;have a5O := bL.out;have a5r := ah.out;have a5s := au.out;have gH := AP aa;have ky := bf aa
    try go_wp2_with (first | ((with_reducible refine yw (f := 25) rfl ?_); refine gL (some 84) Try.func25 #[.agg #[.int .i64 yn, .slice yQ yh.length yM, .int .i64 yo, .int .i64 yu], .slice TP aC.length S9] ?_; (with_reducible refine (Cs.calls MI yn _ _ yh yo yu _ _ aC true _ ?yD ?yF ?zw ?zx cZ.out).mono ?_); (case yD => exact Kd.Cg zA.out (bO HB)); (case yF => exact zK.out); (case zw => refine (Kd.yT (e := 47) (base := w.heap.size) (ok := fun k_ => k_ ≠ ak) (n := aC.length) (c := S9) ?_).2.2; exact (by (with_reducible repeat (apply Kd.yZ)); exact (Kd.yX (F4 (g := af) (Kd.Aw zB.out ai.out (by decide)) (fun _ hk => hk.2)) (fun _ h_ => h_.1)))); (case zx => exact (Kd.yT zB.out).2.1); rintro e w82 ⟨rfl, hb⟩; refine ⟨_, rfl, ?_⟩; replace zB := yf.mk (Kd.CP (by (with_reducible repeat (apply Kd.yZ)); exact (Kd.yX (F4 (g := af) (Kd.Aw zB.out ai.out (by decide)) (fun _ hk => hk.2)) (fun _ h_ => h_.1))) hb); replace aa := yf.mk (yS (g := aj) (o := .cells #[.int .i64 yn, .slice yQ yh.length yM, .int .i64 yo, .int .i64 yu] 31 (0, 0)) (CJ aa rfl) hb); replace ae := yf.mk (yS (g := ak) (o := .cells #[.int .i64 aT, .int .i64 aW, .int .i64 aX, .int .i64 aY] 47 (0, 0)) (CJ ae rfl) hb); replace ag := yf.mk (yS (g := aG) (o := .cells #[.int .i64 aM, .int .i64 aQ] 38 (0, 0)) (CJ ag rfl) hb); replace ai := yf.mk (yS (g := af) (o := .cells #[.int .i64 yn, .slice yQ yh.length yM, .int .i64 yo, .int .i64 yu, .slice TP aC.length S9, .int .i64 (wrap64 (Hg - yu)), .int .i64 Hl] 71 (0, 0)) (CJ ai rfl) hb); replace HB := bS HB hb; clear hb; have a4V := ax.out; have a4W := av.out; have a5v := ay.out; have a5w := az.out; have jX := Gt ai; have jg := bf ai; have a5x := bn.out; have a5y := bq.out; have gJ := AP ae; have mh := bf ae) | (go_at_call 46; (with_reducible refine (Ci.calls MI yn _ _ yh yo yu _ _ aC (wrap64 (Hg - yu)) Hl aT true _ ?yD ?yF ?zw ?zx dw.out).mono ?_); (case yD => exact Di zA); (case yF => exact zK.out); (case zw => exact G7 zB); (case zx => exact (Kd.yT zB.out).2.1); rintro e w88 ⟨rfl, hb⟩; replace zB := BZ zB hb; replace aa := bB aa hb; replace ae := bB ae hb; replace ag := bB ag hb; replace ai := bB ai hb; replace HB := bS HB hb; clear hb))
    go_ret2
    exact ⟨_, by rfl, by (with_reducible repeat (apply Kd.yZ)); exact Kd.yX zB.out (fun _ hk => trivial), bO HB⟩
   ·
    replace c64 := Bool.eq_false_iff.mpr c64;subst c64
    rw [if_neg (show ¬ (false = true) by decide)] at H
    simp only [Option.some.injEq, Prod.mk.injEq] at H;obtain ⟨rfl, rfl⟩ := H
    try go_wp2
    replace zB := yf.mk (Kd.AQ zB.out);replace aa := yf.mk (yO aa.out);replace ae := yf.mk (yO ae.out);replace ag := yf.mk (yO ag.out);replace HB := yf.mk (za HB.out);obtain ⟨bQ, bM, eB⟩ := Kd.zJ zB.out
    (subst eB)
    refine Bc (n := 12) (S := fun w' => w'.cell? ⟨aj, 0, none⟩ = some (.int .i64 yn) ∧ w'.cell? ⟨aj, 1, none⟩ = some (.slice yQ yh.length yM) ∧ w'.cell? ⟨aj, 2, none⟩ = some (.int .i64 yo) ∧ w'.cell? ⟨aj, 3, none⟩ = some (.int .i64 yu)) (ds := []) (bz 12 0) (by kernel_rfl) rfl rfl (AP aa) (fun hHeld => ?_); refine zF zl.Yw zl.TN (fun yz Bi => ?_)
    generalize wc.drew = w89 at zB aa ae ag HB hHeld ⊢;refine pU 1 73 12 2 yz ?_;refine pU 4 76 12 18 yz ?_
    refine BO 0 72 12 19 yz Bi hHeld ?_
    refine BO 2 74 12 23 yz Bi hHeld ?_
    refine BO 5 77 12 55 yz Bi hHeld ?_
    refine BO 7 79 12 183 yz Bi hHeld ?_
    refine U3 (σ := Nat) 1 (bz 12 2047) (fun s_ => [(75, .int .i64 Hg), (80, .int .i64 Hl), (13, .pointer (some ⟨s_, 0, none⟩)), (78, .int .i64 (wrap64 (Hg - yu))), (81, .agg #[.int .i64 yn, .slice yQ yh.length yM, .int .i64 yo, .int .i64 yu, .slice bQ aC.length bM, .int .i64 (wrap64 (Hg - yu)), .int .i64 Hl])]) (fun s_ w' => (w'.cell? ⟨aj, 0, none⟩ = some (.int .i64 yn) ∧ w'.cell? ⟨aj, 1, none⟩ = some (.slice yQ yh.length yM) ∧ w'.cell? ⟨aj, 2, none⟩ = some (.int .i64 yo) ∧ w'.cell? ⟨aj, 3, none⟩ = some (.int .i64 yu)) ∧ (Kd.R CS 47 w' w.heap.size (fun k_ => k_ ≠ ak) (.slice bQ aC.length bM) aC) ∧ (w'.heap[aj]? = some (.cells #[.int .i64 yn, .slice yQ yh.length yM, .int .i64 yo, .int .i64 yu] 31 (0, 0))) ∧ (w'.heap[ak]? = some (.cells #[.int .i64 aT, .int .i64 aW, .int .i64 aX, .int .i64 aY] 47 (0, 0))) ∧ (w'.heap[aG]? = some (.cells #[.int .i64 aM, .int .i64 aQ] 38 (0, 0))) ∧ (w'.heap[s_]? = some (.cells #[.int .i64 0, .slice none 0 0, .int .i64 0, .int .i64 0, .slice none 0 0, .int .i64 0, .int .i64 0] 71 (0, 0))) ∧ (w.heap.size ≤ s_) ∧ (w.heap.size ≤ s_) ∧ (aj ≠ s_) ∧ (s_ ≠ aj) ∧ (ak ≠ s_) ∧ (s_ ≠ ak) ∧ (aG ≠ s_) ∧ (s_ ≠ aG) ∧ (Below w.heap.size w w')) ?_ ?_
    rotate_left
    ·
     intro hCont
     refine Qy (i := 3) (j := 10) (Ni := some 75) (Nj := some 13) (bz 12 191) (bz 12 1207) rfl rfl rfl rfl (J7 yz.out (by kernel_rfl)) (by decide) (by decide) (fun K hK => ?_) (fun K hK => ?_)
     ·
      skip
      refine gO Try.func45 #[.agg #[.int .i64 yn, .slice yQ yh.length yM, .int .i64 yo, .int .i64 yu]] ?_
      with_reducible refine (AU.calls MI yn _ _ yh yo yu Hg _ ?yD ?yF Vv.out).mono ?_
      (case yD => exact Di zA)
      (case yF => exact zK.out)
      rintro e w90 ⟨rfl, hb⟩
      refine ⟨_, rfl, ?_⟩
      replace zB := BZ zB hb;replace aa := bB aa hb;replace ae := bB ae hb;replace ag := bB ag hb;replace HB := bS HB hb;clear hb
      refine hK.out _ _ (AP aa) (fun hHeld => ?_)
      clear hK K
      refine AR (a' := ?_) ?_ ?_
      rotate_left
      ·
       show Act.put _ (some 75) _ = _
       simp only [pz]
       rfl
      refine pU 6 78 12 255 yz ?_
      refine Qy (i := 8) (j := 10) (Ni := some 80) (Nj := some 13) (bz 12 511) (bz 12 1279) rfl rfl rfl rfl (J7 yz.out (by kernel_rfl)) (by decide) (by decide) (fun K hK => ?_) (fun K hK => ?_)
      ·
       skip
       refine gO Try.func45 #[.agg #[.int .i64 yn, .slice yQ yh.length yM, .int .i64 yo, .int .i64 yu]] ?_
       with_reducible refine (AU.calls MI yn _ _ yh yo yu Hl _ ?yD ?yF Sy.out).mono ?_
       (case yD => exact Di zA)
       (case yF => exact zK.out)
       rintro e w91 ⟨rfl, hb⟩
       refine ⟨_, rfl, ?_⟩
       replace zB := BZ zB hb;replace aa := bB aa hb;replace ae := bB ae hb;replace ag := bB ag hb;replace HB := bS HB hb;clear hb
       refine hK.out _ _ (AP aa) (fun hHeld => ?_)
       clear hK K
       refine AR (a' := ?_) ?_ ?_
       rotate_left
       ·
        show Act.put _ (some 80) _ = _
        simp only [pz]
        rfl
       refine pU 9 81 12 1023 yz ?_
       refine Ck (i := 10) (N := some 13) (bz 12 2047) rfl rfl (Af yz.out (by kernel_rfl)) (by decide) (fun K hK => ?_)
       refine Ey ?hg (N := 13) ?hd (cs := #[.int .i64 0, .slice none 0 0, .int .i64 0, .int .i64 0, .slice none 0 0, .int .i64 0, .int .i64 0]) (t := 71) ?hr ?_; (case hd => rfl); (case hg => rfl); (case hr => go_simp)
       intro af hg w93 yJ hb
       have BL := BZ zB hb;have BN := bB aa hb;have BX := bB ae hb;have Cr := bB ag hb;have CG := bS HB hb;have CU := yf.mk (yJ);have Eh := bG (w := w) hg;have F7 := bG (w := w) hg;have Gd := Co aa hg;have IU := Ar aa hg;have EX := Co ae hg;have EY := Ar ae hg;have Fg := Co ag hg;have aD := Ar ag hg;clear zB aa ae ag HB;have zB := BL;have aa := BN;have ae := BX;have ag := Cr;have HB := CG;have ai := CU;have aI := Eh;have aH := F7;have ah := Gd;have au := IU;have av := EX;have ax := EY;have az := Fg;have ay := aD;clear BL BN BX Cr CG CU Eh F7 Gd IU EX EY Fg aD hb yJ hg
       refine hK.out _ _ (AP aa) (fun hHeld => ?_)
       clear hK K
       refine AR (a' := ?_) ?_ ?_
       rotate_left
       ·
        show Act.put _ (some 13) _ = _
        simp only [pz]
        rfl
       exact Gu (hCont (af) _ ⟨hHeld, (kR zB), (kk aa), (kk ae), (kk ag), (kk ai), aI.out, aH.out, ah.out, au.out, av.out, ax.out, az.out, ay.out, (bO HB)⟩)
      ·
       skip
       refine Ey ?hg (N := 13) ?hd (cs := #[.int .i64 0, .slice none 0 0, .int .i64 0, .int .i64 0, .slice none 0 0, .int .i64 0, .int .i64 0]) (t := 71) ?hr ?_; (case hd => rfl); (case hg => rfl); (case hr => go_simp)
       intro af hg w91 yJ hb
       have BL := BZ zB hb;have BN := bB aa hb;have BX := bB ae hb;have Cr := bB ag hb;have CG := bS HB hb;have CU := yf.mk (yJ);have Eh := bG (w := w) hg;have F7 := bG (w := w) hg;have Gd := Co aa hg;have IU := Ar aa hg;have EX := Co ae hg;have EY := Ar ae hg;have Fg := Co ag hg;have aD := Ar ag hg;clear zB aa ae ag HB;have zB := BL;have aa := BN;have ae := BX;have ag := Cr;have HB := CG;have ai := CU;have aI := Eh;have aH := F7;have ah := Gd;have au := IU;have av := EX;have ax := EY;have az := Fg;have ay := aD;clear BL BN BX Cr CG CU Eh F7 Gd IU EX EY Fg aD hb yJ hg
       refine hK.out _ _ (AP aa) (fun hHeld => ?_)
       clear hK K
       refine AR (a' := ?_) ?_ ?_
       rotate_left
       ·
        show Act.put _ (some 13) _ = _
        simp only [pz]
        rfl
       refine Ck (i := 8) (N := some 80) (bz 12 1535) rfl rfl (Af yz.out (by kernel_rfl)) (by decide) (fun K hK => ?_)
       refine gO Try.func45 #[.agg #[.int .i64 yn, .slice yQ yh.length yM, .int .i64 yo, .int .i64 yu]] ?_
       with_reducible refine (AU.calls MI yn _ _ yh yo yu Hl _ ?yD ?yF Sy.out).mono ?_
       (case yD => exact Di zA)
       (case yF => exact zK.out)
       rintro e w92 ⟨rfl, hb⟩
       refine ⟨_, rfl, ?_⟩
       replace zB := BZ zB hb;replace aa := bB aa hb;replace ae := bB ae hb;replace ag := bB ag hb;replace ai := bB ai hb;replace HB := bS HB hb;clear hb;obtain ⟨dW, dM, d9⟩ := Kd.zJ zB.out
       ((injection d9 with aK aZ aJ; have bi := aK.symm; have bg := aJ.symm; clear aK aZ aJ; subst bi; subst bg))
       refine hK.out _ _ (AP aa) (fun hHeld => ?_)
       clear hK K
       refine AR (a' := ?_) ?_ ?_
       rotate_left
       ·
        show Act.put _ (some 80) _ = _
        simp only [pz]
        rfl
       refine pU 9 81 12 2047 yz ?_
       exact Gu (hCont (af) _ ⟨hHeld, (kR zB), (kk aa), (kk ae), (kk ag), (kk ai), aI.out, aH.out, ah.out, au.out, av.out, ax.out, az.out, ay.out, (bO HB)⟩)
     ·
      skip
      refine Ey ?hg (N := 13) ?hd (cs := #[.int .i64 0, .slice none 0 0, .int .i64 0, .int .i64 0, .slice none 0 0, .int .i64 0, .int .i64 0]) (t := 71) ?hr ?_; (case hd => rfl); (case hg => rfl); (case hr => go_simp)
      intro af hg w90 yJ hb
      have BL := BZ zB hb;have BN := bB aa hb;have BX := bB ae hb;have Cr := bB ag hb;have CG := bS HB hb;have CU := yf.mk (yJ);have Eh := bG (w := w) hg;have F7 := bG (w := w) hg;have Gd := Co aa hg;have IU := Ar aa hg;have EX := Co ae hg;have EY := Ar ae hg;have Fg := Co ag hg;have aD := Ar ag hg;clear zB aa ae ag HB;have zB := BL;have aa := BN;have ae := BX;have ag := Cr;have HB := CG;have ai := CU;have aI := Eh;have aH := F7;have ah := Gd;have au := IU;have av := EX;have ax := EY;have az := Fg;have ay := aD;clear BL BN BX Cr CG CU Eh F7 Gd IU EX EY Fg aD hb yJ hg
      refine hK.out _ _ (AP aa) (fun hHeld => ?_)
      clear hK K
      refine AR (a' := ?_) ?_ ?_
      rotate_left
      ·
       show Act.put _ (some 13) _ = _
       simp only [pz]
       rfl
      refine Ck (i := 3) (N := some 75) (bz 12 1215) rfl rfl (Af yz.out (by kernel_rfl)) (by decide) (fun K hK => ?_)
      refine gO Try.func45 #[.agg #[.int .i64 yn, .slice yQ yh.length yM, .int .i64 yo, .int .i64 yu]] ?_
      with_reducible refine (AU.calls MI yn _ _ yh yo yu Hg _ ?yD ?yF Vv.out).mono ?_
      (case yD => exact Di zA)
      (case yF => exact zK.out)
      rintro e w91 ⟨rfl, hb⟩
      refine ⟨_, rfl, ?_⟩
      replace zB := BZ zB hb;replace aa := bB aa hb;replace ae := bB ae hb;replace ag := bB ag hb;replace ai := bB ai hb;replace HB := bS HB hb;clear hb
      refine hK.out _ _ (AP aa) (fun hHeld => ?_)
      clear hK K
      refine AR (a' := ?_) ?_ ?_
      rotate_left
      ·
       show Act.put _ (some 75) _ = _
       simp only [pz]
       rfl
      refine pU 6 78 12 1279 yz ?_
      refine Ck (i := 8) (N := some 80) (bz 12 1535) rfl rfl (Af yz.out (by kernel_rfl)) (by decide) (fun K hK => ?_)
      refine gO Try.func45 #[.agg #[.int .i64 yn, .slice yQ yh.length yM, .int .i64 yo, .int .i64 yu]] ?_
      with_reducible refine (AU.calls MI yn _ _ yh yo yu Hl _ ?yD ?yF Sy.out).mono ?_
      (case yD => exact Di zA)
      (case yF => exact zK.out)
      rintro e w92 ⟨rfl, hb⟩
      refine ⟨_, rfl, ?_⟩
      replace zB := BZ zB hb;replace aa := bB aa hb;replace ae := bB ae hb;replace ag := bB ag hb;replace ai := bB ai hb;replace HB := bS HB hb;clear hb;obtain ⟨dW, dM, d9⟩ := Kd.zJ zB.out
      ((injection d9 with aK aZ aJ; have bi := aK.symm; have bg := aJ.symm; clear aK aZ aJ; subst bi; subst bg))
      refine hK.out _ _ (AP aa) (fun hHeld => ?_)
      clear hK K
      refine AR (a' := ?_) ?_ ?_
      rotate_left
      ·
       show Act.put _ (some 80) _ = _
       simp only [pz]
       rfl
      refine pU 9 81 12 2047 yz ?_
      exact Gu (hCont (af) _ ⟨hHeld, (kR zB), (kk aa), (kk ae), (kk ag), (kk ai), aI.out, aH.out, ah.out, au.out, av.out, ax.out, az.out, ay.out, (bO HB)⟩)
    rintro af w94 ⟨hS_, Yj, Vf, Vg, Yk, Yl, Ym, Yn, Yo, bA, bv, bH, bF, bC, bD⟩
    have ai : yf (w94.heap[af]? = some (.cells #[.int .i64 0, .slice none 0 0, .int .i64 0, .int .i64 0, .slice none 0 0, .int .i64 0, .int .i64 0] 71 (0, 0))) := ⟨Yl⟩
    have aI : yf (w.heap.size ≤ af) := ⟨Ym⟩
    have aH : yf (w.heap.size ≤ af) := ⟨Yn⟩
    have ah : yf (aj ≠ af) := ⟨Yo⟩
    have au : yf (af ≠ aj) := ⟨bA⟩
    have av : yf (ak ≠ af) := ⟨bv⟩
    have ax : yf (af ≠ ak) := ⟨bH⟩
    have az : yf (aG ≠ af) := ⟨bF⟩
    have ay : yf (af ≠ aG) := ⟨bC⟩
    replace zB : yf (Kd.R CS 47 w94 w.heap.size (fun k_ => k_ ≠ ak) (.slice bQ aC.length bM) aC) := ⟨Yj⟩
    replace aa : yf (w94.heap[aj]? = some (.cells #[.int .i64 yn, .slice yQ yh.length yM, .int .i64 yo, .int .i64 yu] 31 (0, 0))) := ⟨Vf⟩
    replace ae : yf (w94.heap[ak]? = some (.cells #[.int .i64 aT, .int .i64 aW, .int .i64 aX, .int .i64 aY] 47 (0, 0))) := ⟨Vg⟩
    replace ag : yf (w94.heap[aG]? = some (.cells #[.int .i64 aM, .int .i64 aQ] 38 (0, 0))) := ⟨Yk⟩
    replace HB : yf (Below w.heap.size w w94) := ⟨bD⟩
    clear Yj Vf Vg Yk Yl Ym Yn Yo bA bv bH bF bC bD
    have hHeld : w94.cell? ⟨aj, 0, none⟩ = some (.int .i64 yn) ∧ w94.cell? ⟨aj, 1, none⟩ = some (.slice yQ yh.length yM) ∧ w94.cell? ⟨aj, 2, none⟩ = some (.int .i64 yo) ∧ w94.cell? ⟨aj, 3, none⟩ = some (.int .i64 yu) := hS_
    refine AR (a' := ?_) ?_ ?_
    rotate_left
    ·
     simp only [J6, Act.put, List.setIfInBounds_toArray, List.set_cons_zero, List.set_cons_succ]
     rfl
    refine Ck (i := 11) (N := none) (bz 12 4095) rfl rfl (Af yz.out (by kernel_rfl)) (by decide) (fun K hK => ?_)
    have lL : w94.cell? ⟨af, 0, none⟩ = some (.int .i64 0) := (yA ai.out 0).trans rfl
    have kZ := zH ai.out 0;have ji := ah.out;have kD := av.out;have mg := az.out;have kE := au.out;have lg := ax.out;have eQ := ay.out
    have jy : w94.cell? ⟨af, 1, none⟩ = some (.slice none 0 0) := (yA ai.out 1).trans rfl
    have gM := zH ai.out 1;have gN := ah.out;have lw := av.out;have jG := az.out;have gU := au.out;have eZ := ax.out;have kX := ay.out
    have iX : w94.cell? ⟨af, 2, none⟩ = some (.int .i64 0) := (yA ai.out 2).trans rfl
    have jF := zH ai.out 2;have iQ := ah.out;have kw := av.out;have lU := az.out;have kr := au.out;have fP := ax.out;have jC := ay.out
    have kY : w94.cell? ⟨af, 3, none⟩ = some (.int .i64 0) := (yA ai.out 3).trans rfl
    have l6 := zH ai.out 3;have lF := ah.out;have jJ := av.out;have jq := az.out;have fF := au.out;have jS := ax.out;have mf := ay.out
    have gD : w94.cell? ⟨af, 4, none⟩ = some (.slice none 0 0) := (yA ai.out 4).trans rfl
    have jK := zH ai.out 4;have ig := ah.out;have kM := av.out;have gQ := az.out;have mi := au.out;have iD := ax.out;have lv := ay.out
    have gp : w94.cell? ⟨af, 5, none⟩ = some (.int .i64 0) := (yA ai.out 5).trans rfl
    have gF := zH ai.out 5;have iV := ah.out;have fG := av.out;have ll := az.out;have kJ := au.out;have j5 := ax.out;have ib := ay.out
    have ku : w94.cell? ⟨af, 6, none⟩ = some (.int .i64 0) := (yA ai.out 6).trans rfl
    have fU := zH ai.out 6;have mE := ah.out;have kG := av.out;have lq := az.out;have kN := au.out;have fK := ax.out;have jb := ay.out
    refine IR (w1 := ?_) (by rfl) rfl ?_ ?_
    rotate_left
    ·
     go_simp
     rfl
    refine hK.out _ _ ⟨((cell_far (p := ⟨af, _, none⟩) ah.out _).trans (((cell_far (p := ⟨af, _, none⟩) ah.out _).trans (((cell_far (p := ⟨af, _, none⟩) ah.out _).trans (((cell_far (p := ⟨af, _, none⟩) ah.out _).trans (((cell_far (p := ⟨af, _, none⟩) ah.out _).trans (((cell_far (p := ⟨af, _, none⟩) ah.out _).trans (((cell_far (p := ⟨af, _, none⟩) ah.out _).trans (hHeld.1)))))))))))))), ((cell_far (p := ⟨af, _, none⟩) ah.out _).trans (((cell_far (p := ⟨af, _, none⟩) ah.out _).trans (((cell_far (p := ⟨af, _, none⟩) ah.out _).trans (((cell_far (p := ⟨af, _, none⟩) ah.out _).trans (((cell_far (p := ⟨af, _, none⟩) ah.out _).trans (((cell_far (p := ⟨af, _, none⟩) ah.out _).trans (((cell_far (p := ⟨af, _, none⟩) ah.out _).trans (hHeld.2.1)))))))))))))), ((cell_far (p := ⟨af, _, none⟩) ah.out _).trans (((cell_far (p := ⟨af, _, none⟩) ah.out _).trans (((cell_far (p := ⟨af, _, none⟩) ah.out _).trans (((cell_far (p := ⟨af, _, none⟩) ah.out _).trans (((cell_far (p := ⟨af, _, none⟩) ah.out _).trans (((cell_far (p := ⟨af, _, none⟩) ah.out _).trans (((cell_far (p := ⟨af, _, none⟩) ah.out _).trans (hHeld.2.2.1)))))))))))))), ((cell_far (p := ⟨af, _, none⟩) ah.out _).trans (((cell_far (p := ⟨af, _, none⟩) ah.out _).trans (((cell_far (p := ⟨af, _, none⟩) ah.out _).trans (((cell_far (p := ⟨af, _, none⟩) ah.out _).trans (((cell_far (p := ⟨af, _, none⟩) ah.out _).trans (((cell_far (p := ⟨af, _, none⟩) ah.out _).trans (((cell_far (p := ⟨af, _, none⟩) ah.out _).trans (hHeld.2.2.2))))))))))))))⟩ (fun hHeld => ?_)
    clear hK K
    refine BG (Al yz.out (by kernel_rfl)) ?_
    have a3n := aV.out;have a3o := aU.out;have XN := bP.out;have XO := bL.out;have fI := ah.out;have ko := au.out;have iN := AP aa;have gq := bf aa
    try go_wp2_with (first | ((with_reducible refine yw (f := 25) rfl ?_); refine gL (some 84) Try.func25 #[.agg #[.int .i64 yn, .slice yQ yh.length yM, .int .i64 yo, .int .i64 yu], .slice bQ aC.length bM] ?_; (with_reducible refine (Cs.calls MI yn _ _ yh yo yu _ _ aC true _ ?yD ?yF ?zw ?zx cZ.out).mono ?_); (case yD => exact Kd.Cg zA.out (bO HB)); (case yF => exact zK.out); (case zw => refine (Kd.yT (e := 47) (base := w.heap.size) (ok := fun k_ => k_ ≠ ak) (n := aC.length) (c := bM) ?_).2.2; exact (by (with_reducible repeat (apply Kd.yZ)); exact (Kd.yX (F4 (g := af) (Kd.Aw zB.out ai.out (by decide)) (fun _ hk => hk.2)) (fun _ h_ => h_.1)))); (case zx => exact (Kd.yT zB.out).2.1); rintro e w106 ⟨rfl, hb⟩; refine ⟨_, rfl, ?_⟩; replace zB := yf.mk (Kd.CP (by (with_reducible repeat (apply Kd.yZ)); exact (Kd.yX (F4 (g := af) (Kd.Aw zB.out ai.out (by decide)) (fun _ hk => hk.2)) (fun _ h_ => h_.1))) hb); replace aa := yf.mk (yS (g := aj) (o := .cells #[.int .i64 yn, .slice yQ yh.length yM, .int .i64 yo, .int .i64 yu] 31 (0, 0)) (CJ aa rfl) hb); replace ae := yf.mk (yS (g := ak) (o := .cells #[.int .i64 aT, .int .i64 aW, .int .i64 aX, .int .i64 aY] 47 (0, 0)) (CJ ae rfl) hb); replace ag := yf.mk (yS (g := aG) (o := .cells #[.int .i64 aM, .int .i64 aQ] 38 (0, 0)) (CJ ag rfl) hb); replace ai := yf.mk (yS (g := af) (o := .cells #[.int .i64 yn, .slice yQ yh.length yM, .int .i64 yo, .int .i64 yu, .slice bQ aC.length bM, .int .i64 (wrap64 (Hg - yu)), .int .i64 Hl] 71 (0, 0)) (CJ ai rfl) hb); replace HB := bS HB hb; clear hb; have jB := ax.out; have iM := av.out; have a3H := ay.out; have a3I := az.out; have gu := Gt ai; have jH := bf ai; have XP := bn.out; have XQ := bq.out; have a3J := AP ae; have a3K := bf ae) | (go_at_call 46; (with_reducible refine (Ci.calls MI yn _ _ yh yo yu _ _ aC (wrap64 (Hg - yu)) Hl aT false _ ?yD ?yF ?zw ?zx dw.out).mono ?_); (case yD => exact Di zA); (case yF => exact zK.out); (case zw => exact G7 zB); (case zx => exact (Kd.yT zB.out).2.1); rintro e w112 ⟨rfl, hb⟩; replace zB := BZ zB hb; replace aa := bB aa hb; replace ae := bB ae hb; replace ag := bB ag hb; replace ai := bB ai hb; replace HB := bS HB hb; clear hb))
    go_ret2
    exact ⟨_, by rfl, by exact Kd.Er _ _ _ _ _, bO HB⟩
  ·
   replace QO := Bool.eq_false_iff.mpr QO;subst QO
   rw [if_neg (show ¬ (false = true) by decide)] at H
   simp only [Option.some.injEq, Prod.mk.injEq] at H;obtain ⟨rfl, rfl⟩ := H
   try go_wp2
   replace zB := yf.mk (Kd.AQ zB.out);replace aa := yf.mk (yO aa.out);replace ae := yf.mk (yO ae.out);replace ag := yf.mk (yO ag.out);replace HB := yf.mk (za HB.out);obtain ⟨O9, Mx, Yx⟩ := Kd.zJ zB.out
   (subst Yx)
   refine Bc (n := 12) (S := fun w' => w'.cell? ⟨aj, 0, none⟩ = some (.int .i64 yn) ∧ w'.cell? ⟨aj, 1, none⟩ = some (.slice yQ yh.length yM) ∧ w'.cell? ⟨aj, 2, none⟩ = some (.int .i64 yo) ∧ w'.cell? ⟨aj, 3, none⟩ = some (.int .i64 yu)) (ds := []) (bz 12 0) (by kernel_rfl) rfl rfl (AP aa) (fun hHeld => ?_); refine zF zl.Yw zl.TN (fun yz Bi => ?_)
   generalize wc.drew = w113 at zB aa ae ag HB hHeld ⊢;refine pU 1 73 12 2 yz ?_;refine pU 4 76 12 18 yz ?_
   refine BO 0 72 12 19 yz Bi hHeld ?_
   refine BO 2 74 12 23 yz Bi hHeld ?_
   refine BO 5 77 12 55 yz Bi hHeld ?_
   refine BO 7 79 12 183 yz Bi hHeld ?_
   refine U3 (σ := Nat) 1 (bz 12 2047) (fun s_ => [(75, .int .i64 Hg), (80, .int .i64 Hl), (13, .pointer (some ⟨s_, 0, none⟩)), (78, .int .i64 (wrap64 (Hg - yu))), (81, .agg #[.int .i64 yn, .slice yQ yh.length yM, .int .i64 yo, .int .i64 yu, .slice O9 aC.length Mx, .int .i64 (wrap64 (Hg - yu)), .int .i64 Hl])]) (fun s_ w' => (w'.cell? ⟨aj, 0, none⟩ = some (.int .i64 yn) ∧ w'.cell? ⟨aj, 1, none⟩ = some (.slice yQ yh.length yM) ∧ w'.cell? ⟨aj, 2, none⟩ = some (.int .i64 yo) ∧ w'.cell? ⟨aj, 3, none⟩ = some (.int .i64 yu)) ∧ (Kd.R CS 47 w' w.heap.size (fun k_ => k_ ≠ ak) (.slice O9 aC.length Mx) aC) ∧ (w'.heap[aj]? = some (.cells #[.int .i64 yn, .slice yQ yh.length yM, .int .i64 yo, .int .i64 yu] 31 (0, 0))) ∧ (w'.heap[ak]? = some (.cells #[.int .i64 aT, .int .i64 aW, .int .i64 aX, .int .i64 aY] 47 (0, 0))) ∧ (w'.heap[aG]? = some (.cells #[.int .i64 aM, .int .i64 aQ] 38 (0, 0))) ∧ (w'.heap[s_]? = some (.cells #[.int .i64 0, .slice none 0 0, .int .i64 0, .int .i64 0, .slice none 0 0, .int .i64 0, .int .i64 0] 71 (0, 0))) ∧ (w.heap.size ≤ s_) ∧ (w.heap.size ≤ s_) ∧ (aj ≠ s_) ∧ (s_ ≠ aj) ∧ (ak ≠ s_) ∧ (s_ ≠ ak) ∧ (aG ≠ s_) ∧ (s_ ≠ aG) ∧ (Below w.heap.size w w')) ?_ ?_
   rotate_left
   ·
    intro hCont
    refine Qy (i := 3) (j := 10) (Ni := some 75) (Nj := some 13) (bz 12 191) (bz 12 1207) rfl rfl rfl rfl (J7 yz.out (by kernel_rfl)) (by decide) (by decide) (fun K hK => ?_) (fun K hK => ?_)
    ·
     skip
     refine gO Try.func45 #[.agg #[.int .i64 yn, .slice yQ yh.length yM, .int .i64 yo, .int .i64 yu]] ?_
     with_reducible refine (AU.calls MI yn _ _ yh yo yu Hg _ ?yD ?yF Vv.out).mono ?_
     (case yD => exact Di zA)
     (case yF => exact zK.out)
     rintro e w114 ⟨rfl, hb⟩
     refine ⟨_, rfl, ?_⟩
     replace zB := BZ zB hb;replace aa := bB aa hb;replace ae := bB ae hb;replace ag := bB ag hb;replace HB := bS HB hb;clear hb
     refine hK.out _ _ (AP aa) (fun hHeld => ?_)
     clear hK K
     refine AR (a' := ?_) ?_ ?_
     rotate_left
     ·
      show Act.put _ (some 75) _ = _
      simp only [pz]
      rfl
     refine pU 6 78 12 255 yz ?_
     refine Qy (i := 8) (j := 10) (Ni := some 80) (Nj := some 13) (bz 12 511) (bz 12 1279) rfl rfl rfl rfl (J7 yz.out (by kernel_rfl)) (by decide) (by decide) (fun K hK => ?_) (fun K hK => ?_)
     ·
      skip
      refine gO Try.func45 #[.agg #[.int .i64 yn, .slice yQ yh.length yM, .int .i64 yo, .int .i64 yu]] ?_
      with_reducible refine (AU.calls MI yn _ _ yh yo yu Hl _ ?yD ?yF Sy.out).mono ?_
      (case yD => exact Di zA)
      (case yF => exact zK.out)
      rintro e w115 ⟨rfl, hb⟩
      refine ⟨_, rfl, ?_⟩
      replace zB := BZ zB hb;replace aa := bB aa hb;replace ae := bB ae hb;replace ag := bB ag hb;replace HB := bS HB hb;clear hb
      refine hK.out _ _ (AP aa) (fun hHeld => ?_)
      clear hK K
      refine AR (a' := ?_) ?_ ?_
      rotate_left
      ·
       show Act.put _ (some 80) _ = _
       simp only [pz]
       rfl
      refine pU 9 81 12 1023 yz ?_
      refine Ck (i := 10) (N := some 13) (bz 12 2047) rfl rfl (Af yz.out (by kernel_rfl)) (by decide) (fun K hK => ?_)
      refine Ey ?hg (N := 13) ?hd (cs := #[.int .i64 0, .slice none 0 0, .int .i64 0, .int .i64 0, .slice none 0 0, .int .i64 0, .int .i64 0]) (t := 71) ?hr ?_; (case hd => rfl); (case hg => rfl); (case hr => go_simp)
      intro af hg w117 yJ hb
      have BL := BZ zB hb;have BN := bB aa hb;have BX := bB ae hb;have Cr := bB ag hb;have CG := bS HB hb;have CU := yf.mk (yJ);have Eh := bG (w := w) hg;have F7 := bG (w := w) hg;have Gd := Co aa hg;have IU := Ar aa hg;have EX := Co ae hg;have EY := Ar ae hg;have Fg := Co ag hg;have aD := Ar ag hg;clear zB aa ae ag HB;have zB := BL;have aa := BN;have ae := BX;have ag := Cr;have HB := CG;have ai := CU;have aI := Eh;have aH := F7;have ah := Gd;have au := IU;have av := EX;have ax := EY;have az := Fg;have ay := aD;clear BL BN BX Cr CG CU Eh F7 Gd IU EX EY Fg aD hb yJ hg
      refine hK.out _ _ (AP aa) (fun hHeld => ?_)
      clear hK K
      refine AR (a' := ?_) ?_ ?_
      rotate_left
      ·
       show Act.put _ (some 13) _ = _
       simp only [pz]
       rfl
      exact Gu (hCont (af) _ ⟨hHeld, (kR zB), (kk aa), (kk ae), (kk ag), (kk ai), aI.out, aH.out, ah.out, au.out, av.out, ax.out, az.out, ay.out, (bO HB)⟩)
     ·
      skip
      refine Ey ?hg (N := 13) ?hd (cs := #[.int .i64 0, .slice none 0 0, .int .i64 0, .int .i64 0, .slice none 0 0, .int .i64 0, .int .i64 0]) (t := 71) ?hr ?_; (case hd => rfl); (case hg => rfl); (case hr => go_simp)
      intro af hg w115 yJ hb
      have BL := BZ zB hb;have BN := bB aa hb;have BX := bB ae hb;have Cr := bB ag hb;have CG := bS HB hb;have CU := yf.mk (yJ);have Eh := bG (w := w) hg;have F7 := bG (w := w) hg;have Gd := Co aa hg;have IU := Ar aa hg;have EX := Co ae hg;have EY := Ar ae hg;have Fg := Co ag hg;have aD := Ar ag hg;clear zB aa ae ag HB;have zB := BL;have aa := BN;have ae := BX;have ag := Cr;have HB := CG;have ai := CU;have aI := Eh;have aH := F7;have ah := Gd;have au := IU;have av := EX;have ax := EY;have az := Fg;have ay := aD;clear BL BN BX Cr CG CU Eh F7 Gd IU EX EY Fg aD hb yJ hg
      refine hK.out _ _ (AP aa) (fun hHeld => ?_)
      clear hK K
      refine AR (a' := ?_) ?_ ?_
      rotate_left
      ·
       show Act.put _ (some 13) _ = _
       simp only [pz]
       rfl
      refine Ck (i := 8) (N := some 80) (bz 12 1535) rfl rfl (Af yz.out (by kernel_rfl)) (by decide) (fun K hK => ?_)
      refine gO Try.func45 #[.agg #[.int .i64 yn, .slice yQ yh.length yM, .int .i64 yo, .int .i64 yu]] ?_
      with_reducible refine (AU.calls MI yn _ _ yh yo yu Hl _ ?yD ?yF Sy.out).mono ?_
      (case yD => exact Di zA)
      (case yF => exact zK.out)
      rintro e w116 ⟨rfl, hb⟩
      refine ⟨_, rfl, ?_⟩
      replace zB := BZ zB hb;replace aa := bB aa hb;replace ae := bB ae hb;replace ag := bB ag hb;replace ai := bB ai hb;replace HB := bS HB hb;clear hb;obtain ⟨ek, dX, cO⟩ := Kd.zJ zB.out
      ((injection cO with aK aZ aJ; have bi := aK.symm; have bg := aJ.symm; clear aK aZ aJ; subst bi; subst bg))
      refine hK.out _ _ (AP aa) (fun hHeld => ?_)
      clear hK K
      refine AR (a' := ?_) ?_ ?_
      rotate_left
      ·
       show Act.put _ (some 80) _ = _
       simp only [pz]
       rfl
      refine pU 9 81 12 2047 yz ?_
      exact Gu (hCont (af) _ ⟨hHeld, (kR zB), (kk aa), (kk ae), (kk ag), (kk ai), aI.out, aH.out, ah.out, au.out, av.out, ax.out, az.out, ay.out, (bO HB)⟩)
    ·
     skip
     refine Ey ?hg (N := 13) ?hd (cs := #[.int .i64 0, .slice none 0 0, .int .i64 0, .int .i64 0, .slice none 0 0, .int .i64 0, .int .i64 0]) (t := 71) ?hr ?_; (case hd => rfl); (case hg => rfl); (case hr => go_simp)
     intro af hg w114 yJ hb
     have BL := BZ zB hb;have BN := bB aa hb;have BX := bB ae hb;have Cr := bB ag hb;have CG := bS HB hb;have CU := yf.mk (yJ);have Eh := bG (w := w) hg;have F7 := bG (w := w) hg;have Gd := Co aa hg;have IU := Ar aa hg;have EX := Co ae hg;have EY := Ar ae hg;have Fg := Co ag hg;have aD := Ar ag hg;clear zB aa ae ag HB;have zB := BL;have aa := BN;have ae := BX;have ag := Cr;have HB := CG;have ai := CU;have aI := Eh;have aH := F7;have ah := Gd;have au := IU;have av := EX;have ax := EY;have az := Fg;have ay := aD;clear BL BN BX Cr CG CU Eh F7 Gd IU EX EY Fg aD hb yJ hg
     refine hK.out _ _ (AP aa) (fun hHeld => ?_)
     clear hK K
     refine AR (a' := ?_) ?_ ?_
     rotate_left
     ·
      show Act.put _ (some 13) _ = _
      simp only [pz]
      rfl
     refine Ck (i := 3) (N := some 75) (bz 12 1215) rfl rfl (Af yz.out (by kernel_rfl)) (by decide) (fun K hK => ?_)
     refine gO Try.func45 #[.agg #[.int .i64 yn, .slice yQ yh.length yM, .int .i64 yo, .int .i64 yu]] ?_
     with_reducible refine (AU.calls MI yn _ _ yh yo yu Hg _ ?yD ?yF Vv.out).mono ?_
     (case yD => exact Di zA)
     (case yF => exact zK.out)
     rintro e w115 ⟨rfl, hb⟩
     refine ⟨_, rfl, ?_⟩
     replace zB := BZ zB hb;replace aa := bB aa hb;replace ae := bB ae hb;replace ag := bB ag hb;replace ai := bB ai hb;replace HB := bS HB hb;clear hb
     refine hK.out _ _ (AP aa) (fun hHeld => ?_)
     clear hK K
     refine AR (a' := ?_) ?_ ?_
     rotate_left
     ·
      show Act.put _ (some 75) _ = _
      simp only [pz]
      rfl
     refine pU 6 78 12 1279 yz ?_
     refine Ck (i := 8) (N := some 80) (bz 12 1535) rfl rfl (Af yz.out (by kernel_rfl)) (by decide) (fun K hK => ?_)
     refine gO Try.func45 #[.agg #[.int .i64 yn, .slice yQ yh.length yM, .int .i64 yo, .int .i64 yu]] ?_
     with_reducible refine (AU.calls MI yn _ _ yh yo yu Hl _ ?yD ?yF Sy.out).mono ?_
     (case yD => exact Di zA)
     (case yF => exact zK.out)
     rintro e w116 ⟨rfl, hb⟩
     refine ⟨_, rfl, ?_⟩
     replace zB := BZ zB hb;replace aa := bB aa hb;replace ae := bB ae hb;replace ag := bB ag hb;replace ai := bB ai hb;replace HB := bS HB hb;clear hb;obtain ⟨ek, dX, cO⟩ := Kd.zJ zB.out
     ((injection cO with aK aZ aJ; have bi := aK.symm; have bg := aJ.symm; clear aK aZ aJ; subst bi; subst bg))
     refine hK.out _ _ (AP aa) (fun hHeld => ?_)
     clear hK K
     refine AR (a' := ?_) ?_ ?_
     rotate_left
     ·
      show Act.put _ (some 80) _ = _
      simp only [pz]
      rfl
     refine pU 9 81 12 2047 yz ?_
     exact Gu (hCont (af) _ ⟨hHeld, (kR zB), (kk aa), (kk ae), (kk ag), (kk ai), aI.out, aH.out, ah.out, au.out, av.out, ax.out, az.out, ay.out, (bO HB)⟩)
   rintro af w118 ⟨hS_, Yj, Vf, Vg, Yk, Yl, Ym, Yn, Yo, bA, bv, bH, bF, bC, bD⟩
   have ai : yf (w118.heap[af]? = some (.cells #[.int .i64 0, .slice none 0 0, .int .i64 0, .int .i64 0, .slice none 0 0, .int .i64 0, .int .i64 0] 71 (0, 0))) := ⟨Yl⟩
   have aI : yf (w.heap.size ≤ af) := ⟨Ym⟩
   have aH : yf (w.heap.size ≤ af) := ⟨Yn⟩
   have ah : yf (aj ≠ af) := ⟨Yo⟩
   have au : yf (af ≠ aj) := ⟨bA⟩
   have av : yf (ak ≠ af) := ⟨bv⟩
   have ax : yf (af ≠ ak) := ⟨bH⟩
   have az : yf (aG ≠ af) := ⟨bF⟩
   have ay : yf (af ≠ aG) := ⟨bC⟩
   replace zB : yf (Kd.R CS 47 w118 w.heap.size (fun k_ => k_ ≠ ak) (.slice O9 aC.length Mx) aC) := ⟨Yj⟩
   replace aa : yf (w118.heap[aj]? = some (.cells #[.int .i64 yn, .slice yQ yh.length yM, .int .i64 yo, .int .i64 yu] 31 (0, 0))) := ⟨Vf⟩
   replace ae : yf (w118.heap[ak]? = some (.cells #[.int .i64 aT, .int .i64 aW, .int .i64 aX, .int .i64 aY] 47 (0, 0))) := ⟨Vg⟩
   replace ag : yf (w118.heap[aG]? = some (.cells #[.int .i64 aM, .int .i64 aQ] 38 (0, 0))) := ⟨Yk⟩
   replace HB : yf (Below w.heap.size w w118) := ⟨bD⟩
   clear Yj Vf Vg Yk Yl Ym Yn Yo bA bv bH bF bC bD
   have hHeld : w118.cell? ⟨aj, 0, none⟩ = some (.int .i64 yn) ∧ w118.cell? ⟨aj, 1, none⟩ = some (.slice yQ yh.length yM) ∧ w118.cell? ⟨aj, 2, none⟩ = some (.int .i64 yo) ∧ w118.cell? ⟨aj, 3, none⟩ = some (.int .i64 yu) := hS_
   refine AR (a' := ?_) ?_ ?_
   rotate_left
   ·
    simp only [J6, Act.put, List.setIfInBounds_toArray, List.set_cons_zero, List.set_cons_succ]
    rfl
   refine Ck (i := 11) (N := none) (bz 12 4095) rfl rfl (Af yz.out (by kernel_rfl)) (by decide) (fun K hK => ?_)
   have iB : w118.cell? ⟨af, 0, none⟩ = some (.int .i64 0) := (yA ai.out 0).trans rfl
   have kI := zH ai.out 0;have iY := ah.out;have fV := av.out;have iG := az.out;have iw := au.out;have jr := ax.out;have l9 := ay.out
   have fE : w118.cell? ⟨af, 1, none⟩ = some (.slice none 0 0) := (yA ai.out 1).trans rfl
   have jQ := zH ai.out 1;have jv := ah.out;have fw := av.out;have iH := az.out;have jW := au.out;have jZ := ax.out;have gW := ay.out
   have jm : w118.cell? ⟨af, 2, none⟩ = some (.int .i64 0) := (yA ai.out 2).trans rfl
   have lY := zH ai.out 2;have mo := ah.out;have kT := av.out;have jN := az.out;have jl := au.out;have iJ := ax.out;have iI := ay.out
   have kQ : w118.cell? ⟨af, 3, none⟩ = some (.int .i64 0) := (yA ai.out 3).trans rfl
   have lV := zH ai.out 3;have iC := ah.out;have jI := av.out;have ik := az.out;have fA := au.out;have iE := ax.out;have fo := ay.out
   have iR : w118.cell? ⟨af, 4, none⟩ = some (.slice none 0 0) := (yA ai.out 4).trans rfl
   have iO := zH ai.out 4;have il := ah.out;have eT := av.out;have gY := az.out;have lC := au.out;have ic := ax.out;have jc := ay.out
   have lW : w118.cell? ⟨af, 5, none⟩ = some (.int .i64 0) := (yA ai.out 5).trans rfl
   have jo := zH ai.out 5;have kH := ah.out;have eY := av.out;have eU := az.out;have jM := au.out;have gP := ax.out;have kz := ay.out
   have iy : w118.cell? ⟨af, 6, none⟩ = some (.int .i64 0) := (yA ai.out 6).trans rfl
   have fq := zH ai.out 6;have j6 := ah.out;have mq := av.out;have fM := az.out;have jh := au.out;have kv := ax.out;have lu := ay.out
   refine IR (w1 := ?_) (by rfl) rfl ?_ ?_
   rotate_left
   ·
    go_simp
    rfl
   refine hK.out _ _ ⟨((cell_far (p := ⟨af, _, none⟩) ah.out _).trans (((cell_far (p := ⟨af, _, none⟩) ah.out _).trans (((cell_far (p := ⟨af, _, none⟩) ah.out _).trans (((cell_far (p := ⟨af, _, none⟩) ah.out _).trans (((cell_far (p := ⟨af, _, none⟩) ah.out _).trans (((cell_far (p := ⟨af, _, none⟩) ah.out _).trans (((cell_far (p := ⟨af, _, none⟩) ah.out _).trans (hHeld.1)))))))))))))), ((cell_far (p := ⟨af, _, none⟩) ah.out _).trans (((cell_far (p := ⟨af, _, none⟩) ah.out _).trans (((cell_far (p := ⟨af, _, none⟩) ah.out _).trans (((cell_far (p := ⟨af, _, none⟩) ah.out _).trans (((cell_far (p := ⟨af, _, none⟩) ah.out _).trans (((cell_far (p := ⟨af, _, none⟩) ah.out _).trans (((cell_far (p := ⟨af, _, none⟩) ah.out _).trans (hHeld.2.1)))))))))))))), ((cell_far (p := ⟨af, _, none⟩) ah.out _).trans (((cell_far (p := ⟨af, _, none⟩) ah.out _).trans (((cell_far (p := ⟨af, _, none⟩) ah.out _).trans (((cell_far (p := ⟨af, _, none⟩) ah.out _).trans (((cell_far (p := ⟨af, _, none⟩) ah.out _).trans (((cell_far (p := ⟨af, _, none⟩) ah.out _).trans (((cell_far (p := ⟨af, _, none⟩) ah.out _).trans (hHeld.2.2.1)))))))))))))), ((cell_far (p := ⟨af, _, none⟩) ah.out _).trans (((cell_far (p := ⟨af, _, none⟩) ah.out _).trans (((cell_far (p := ⟨af, _, none⟩) ah.out _).trans (((cell_far (p := ⟨af, _, none⟩) ah.out _).trans (((cell_far (p := ⟨af, _, none⟩) ah.out _).trans (((cell_far (p := ⟨af, _, none⟩) ah.out _).trans (((cell_far (p := ⟨af, _, none⟩) ah.out _).trans (hHeld.2.2.2))))))))))))))⟩ (fun hHeld => ?_)
   clear hK K
   refine BG (Al yz.out (by kernel_rfl)) ?_
   have a3j := aV.out;have a3k := aU.out;have a3L := bP.out;have a3M := bL.out;have a3N := ah.out;have a3O := au.out;have a3P := AP aa;have a3Q := bf aa
   try go_wp2_with (((with_reducible refine yw (f := 25) rfl ?_); refine gL (some 84) Try.func25 #[.agg #[.int .i64 yn, .slice yQ yh.length yM, .int .i64 yo, .int .i64 yu], .slice O9 aC.length Mx] ?_; (with_reducible refine (Cs.calls MI yn _ _ yh yo yu _ _ aC false _ ?yD ?yF ?zw ?zx cZ.out).mono ?_); (case yD => exact Kd.Cg zA.out (bO HB)); (case yF => exact zK.out); (case zw => refine (Kd.yT (e := 47) (base := w.heap.size) (ok := fun k_ => k_ ≠ ak) (n := aC.length) (c := Mx) ?_).2.2; exact (by (with_reducible repeat (apply Kd.yZ)); exact (Kd.yX (F4 (g := af) (Kd.Aw zB.out ai.out (by decide)) (fun _ hk => hk.2)) (fun _ h_ => h_.1)))); (case zx => exact (Kd.yT zB.out).2.1); rintro e w130 ⟨rfl, hb⟩; refine ⟨_, rfl, ?_⟩; replace zB := yf.mk (Kd.CP (by (with_reducible repeat (apply Kd.yZ)); exact (Kd.yX (F4 (g := af) (Kd.Aw zB.out ai.out (by decide)) (fun _ hk => hk.2)) (fun _ h_ => h_.1))) hb); replace aa := yf.mk (yS (g := aj) (o := .cells #[.int .i64 yn, .slice yQ yh.length yM, .int .i64 yo, .int .i64 yu] 31 (0, 0)) (CJ aa rfl) hb); replace ae := yf.mk (yS (g := ak) (o := .cells #[.int .i64 aT, .int .i64 aW, .int .i64 aX, .int .i64 aY] 47 (0, 0)) (CJ ae rfl) hb); replace ag := yf.mk (yS (g := aG) (o := .cells #[.int .i64 aM, .int .i64 aQ] 38 (0, 0)) (CJ ag rfl) hb); replace ai := yf.mk (yS (g := af) (o := .cells #[.int .i64 yn, .slice yQ yh.length yM, .int .i64 yo, .int .i64 yu, .slice O9 aC.length Mx, .int .i64 (wrap64 (Hg - yu)), .int .i64 Hl] 71 (0, 0)) (CJ ai rfl) hb); replace HB := bS HB hb; clear hb))
   go_ret2
   exact ⟨_, by rfl, by exact Kd.Er _ _ _ _ _, bO HB⟩
end Go.Proofs.Ytjonnfmoocijlaa.P
