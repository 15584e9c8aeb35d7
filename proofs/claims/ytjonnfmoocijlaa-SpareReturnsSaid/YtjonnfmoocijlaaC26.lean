/- Texts of a claim, packed. -/
import Derived.Test.YtjonnfmoocijlaaC25
set_option linter.all false
namespace Go.Proofs.Ytjonnfmoocijlaa.P
open Go.RowKit Go.Proofs.YtjonnfmoocijlaaKW.PrintWords Go.Proofs.YtjonnfmoocijlaaKW.PrintLast Go.Proofs.YtjonnfmoocijlaaKW.PrintMore
attribute [local go_sem] zO zP Aj Ak zC zD zQ zR
mutual
def zb.l0 : Nat → List (AX) → List (AX) → Int → Int → Int → List (List Int) → Int → Int → Int → List (List Int) → Int → Int → List (AX) → Int → Int → Option (Int × (List (List Int)) × Int × Int × (List (AX)) × Int × Int × Bool)
 | 0, _, _, _, _, _, _, _, _, _, _, _, _, _, _, _ => none
 | k + 1, x1, x27, x28, x29, ak, au, av, ax, af, aj, ag, ah, ai, aa, ae => if x29 < x28 then (if 0 ≤ x29 then (if x29 < (x27.length : Int) then ((DT.f af aj ag ah ai aa ae ((yg x27 x29).f0) ((yg x27 x29).f1)).bind fun a2K => (if a2K = true then (if x29 > 0 then (if 0 ≤ (wrap64 (x29 - 1)) then (if (wrap64 (x29 - 1)) < (x1.length : Int) then ((BC.f k ((yg x1 (wrap64 (x29 - 1))).f0) ((yg x1 (wrap64 (x29 - 1))).f1) ((yg x1 (wrap64 (x29 - 1))).f2.f0) ((yg x1 (wrap64 (x29 - 1))).f2.f1) ((yg x27 x29).f0) ((yg x27 x29).f1)).bind fun t233 => (zb.j1 k x1 x27 x28 x29 (decide (t233 ≥ 0)) ak au av ax af aj ag ah ai aa ae ((yg x27 x29).f0) ((yg x27 x29).f1) ((yg x27 x29).f2.f0) ((yg x27 x29).f2.f1))) else (none)) else (none)) else (zb.j1 k x1 x27 x28 x29 false ak au av ax af aj ag ah ai aa ae ((yg x27 x29).f0) ((yg x27 x29).f1) ((yg x27 x29).f2.f0) ((yg x27 x29).f2.f1))) else (some (0, ([] : List (List Int)), 0, 0, ([] : List (AX)), 0, 0, false)))) else (none)) else (none)) else (zb.l1 k x1 (x1.length : Int) 0 af aj ag ah ai aa ae)
def zb.j1 : Nat → List (AX) → List (AX) → Int → Int → Bool → Int → List (List Int) → Int → Int → Int → List (List Int) → Int → Int → List (AX) → Int → Int → Int → Int → Int → Int → Option (Int × (List (List Int)) × Int × Int × (List (AX)) × Int × Int × Bool)
 | 0, _, _, _, _, _, _, _, _, _, _, _, _, _, _, _, _, _, _, _, _ => none
 | k + 1, x1, x27, x28, x29, x57, ak, au, av, ax, af, aj, ag, ah, ai, aa, ae, aC, aA, az, ay => if x57 = true then (some (0, ([] : List (List Int)), 0, 0, ([] : List (AX)), 0, 0, false)) else (if az < 0 then (zb.j2 k x1 x27 x28 x29 true ak au av ax af aj ag ah ai aa ae) else (if az ≥ ak then (zb.j2 k x1 x27 x28 x29 true ak au av ax af aj ag ah ai aa ae) else (if ay < aa then (zb.j2 k x1 x27 x28 x29 true ak au av ax af aj ag ah ai aa ae) else (if ay ≥ ae then (zb.j2 k x1 x27 x28 x29 true ak au av ax af aj ag ah ai aa ae) else (zb.j2 k x1 x27 x28 x29 (Jr x27 x29) ak au av ax af aj ag ah ai aa ae)))))
def zb.j2 : Nat → List (AX) → List (AX) → Int → Int → Bool → Int → List (List Int) → Int → Int → Int → List (List Int) → Int → Int → List (AX) → Int → Int → Option (Int × (List (List Int)) × Int × Int × (List (AX)) × Int × Int × Bool)
 | 0, _, _, _, _, _, _, _, _, _, _, _, _, _, _, _, _ => none
 | k + 1, x1, x27, x28, x29, x93, ak, au, av, ax, af, aj, ag, ah, ai, aa, ae => if x93 = true then (some (0, ([] : List (List Int)), 0, 0, ([] : List (AX)), 0, 0, false)) else (zb.l0 k x1 x27 x28 (wrap64 (x29 + 1)) ak au av ax af aj ag ah ai aa ae)
def zb.l1 : Nat → List (AX) → Int → Int → Int → List (List Int) → Int → Int → List (AX) → Int → Int → Option (Int × (List (List Int)) × Int × Int × (List (AX)) × Int × Int × Bool)
 | 0, _, _, _, _, _, _, _, _, _, _ => none
 | k + 1, x99, x100, x101, af, aj, ag, ah, ai, aa, ae => if x101 < x100 then (if 0 ≤ x101 then (if x101 < (x99.length : Int) then ((Ci.f k af aj ag ah ai aa ae ((yg x99 x101).f0)).bind fun t236 => (if t236 = true then (zb.l1 k x99 x100 (wrap64 (x101 + 1)) af aj ag ah ai aa ae) else (some (0, ([] : List (List Int)), 0, 0, ([] : List (AX)), 0, 0, false)))) else (none)) else (none)) else (some (af, aj, ag, ah, ai, aa, ae, true))
end
def zb.f (k : Nat) (yn : Int) (yh : List (List Int)) (yo : Int) (yu : Int) (l1 : List (AX)) : Option (Int × (List (List Int)) × Int × Int × (List (AX)) × Int × Int × Bool) := (AU.f k yn yh yo yu).bind fun t226 => (if t226 = 0 then (some (0, ([] : List (List Int)), 0, 0, ([] : List (AX)), 0, 0, false)) else (zb.l0 k l1 l1 (l1.length : Int) 0 yn yh yo yu yn yh yo yu l1 (wrap64 (t226 - yu)) t226))
def zb.T11 : Bool × List (List Nat × List Nat) := (true, [([], []), ([0], [0]), ([1], [1]), ([2], [2]), ([2], [2]), ([4, 2], [2, 4]), ([3, 5, 2], [2, 3, 5]), ([6, 2], [2, 6]), ([2], [2]), ([8, 2], [2, 8]), ([2], [2]), ([10, 2], [2, 10]), ([9, 11, 2], [2, 9, 11]), ([7, 12, 2, 2], [2, 7, 12]), ([13, 2], [2, 13]), ([2, 14], [2, 14])])
def zb.B11 : List Nat := [0, 1, 3, 7, 7, 23, 63, 127, 7, 263, 7, 1031, 3847, 8191, 16383, 32767]
theorem zb.a0Q : CZ .any (opsOf Try.f33 11) = zb.T11 := by kernel_rfl
theorem zb.Xy : BD zb.T11.2 zb.B11 = true := by kernel_rfl
set_option maxHeartbeats 8000000 in
set_option maxRecDepth 100000 in
theorem zb.calls (k : Nat) (yn : Int) (FP : Nat → Prop) (yQ : Option Addr) (yM : Nat) (yh : List (List Int)) (yo : Int) (yu : Int) (dA : Nat → Prop) (A1 : Option Addr) (c1 : Nat) (l1 : List (AX)) (r1 : Int) (r2 : List (List Int)) (r3 : Int) (r4 : Int) (r5 : List (AX)) (r6 : Int) (r7 : Int) (r8 : Bool) (w : World) (JY : Kd.V (Kd.slice 3 (Kd.int .i64)) 63 w w.heap.size (fun k_ => FP k_) (.slice yQ yh.length yM) yh) (hs1 : Kd.V CS 47 w w.heap.size (fun k_ => dA k_) (.slice A1 l1.length c1) l1) (h : zb.f k yn yh yo yu l1 = some (r1, r2, r3, r4, r5, r6, r7, r8)) :
  Calls Try.prog 33 #[.agg #[.int .i64 yn, .slice yQ yh.length yM, .int .i64 yo, .int .i64 yu], .slice A1 l1.length c1] w fun e w' => ∃ U8 dF : Value, e = .returned (.tuple #[.agg #[.int .i64 r1, U8, .int .i64 r3, .int .i64 r4, dF, .int .i64 r6, .int .i64 r7], .bool r8]) ∧ Kd.V (Kd.slice 3 (Kd.int .i64)) 63 w' w.heap.size (fun k_ => ((FP k_ ∨ dA k_) ∨ w.heap.size ≤ k_)) U8 r2 ∧ Kd.V CS 47 w' w.heap.size (fun k_ => ((FP k_ ∨ dA k_) ∨ w.heap.size ≤ k_)) dF r5 ∧ Below w.heap.size w w' := by
 have FH := Try.underlying31;have NS := Try.underlying71;have Jd := Try.underlying38;have LC := Try.underlying47;have Xq := Try.underlying81;have HS0 := yf.mk JY;have dP := yf.mk hs1;have Ah := (Kd.zW JY).2.2;have Ai := (Kd.zW JY).2.1;have hr1 := (Kd.zW hs1).2.2;have hc1 := (Kd.zW hs1).2.1;clear JY hs1;have zA := yf.mk Ah;have zK := yf.mk Ai;clear Ah Ai;have HR1 := yf.mk hr1;have GH := yf.mk hc1;clear hr1 hc1;have fI := @run_makeMap Try.prog;have HB := yf.mk (Below.refl w.heap.size w)
 have H : ((AU.f k yn yh yo yu).bind fun t226 => (if t226 = 0 then (some (0, ([] : List (List Int)), 0, 0, ([] : List (AX)), 0, 0, false)) else (zb.l0 k l1 l1 (l1.length : Int) 0 yn yh yo yu yn yh yo yu l1 (wrap64 (t226 - yu)) t226))) = some (r1, r2, r3, r4, r5, r6, r7, r8) := h
 clear h;obtain ⟨t226, A3, H⟩ := bE H
 try dsimp only at H
 by_cases c4 : t226 = 0
 ·
  rw [if_pos c4] at H;have ES := beq_iff_eq.mpr c4
  have Lx : (t226 != 0) = false := bne_eq_false_iff_eq.mpr c4
  clear c4;simp only [Option.some.injEq, Prod.mk.injEq] at H;obtain ⟨rfl, rfl, rfl, rfl, rfl, rfl, rfl, rfl⟩ := H
  go_enter Try.func33, Try.ntmps33
  go_wp2_with (first | ((with_reducible refine yI (N := 2) rfl ?_); refine yG rfl (N := 2) rfl (cs := #[.int .i64 yn, .slice yQ yh.length yM, .int .i64 yo, .int .i64 yu]) (t := 31) (by go_simp) ?_; intro DR hg w5 yJ hb; have Ba := yf.mk (yJ); have a0M := bG (w := w) hg; have a0N := bG (w := w) hg; replace HB := bS HB hb; clear hb yJ hg) | ((with_reducible refine yI (N := 4) rfl ?_); refine yG rfl (N := 4) rfl (cs := #[.int .i64 0, .slice none 0 0, .int .i64 0, .int .i64 0, .slice none 0 0, .int .i64 0, .int .i64 0]) (t := 71) (by go_simp) ?_; intro au hg w6 yJ hb; have aa := yf.mk (yJ); have dY := bG (w := w) hg; have dQ := bG (w := w) hg; have aG := Co Ba hg; have aD := Ar Ba hg; replace Ba := bB Ba hb; replace HB := bS HB hb; clear hb yJ hg; have a1Y := aG.out; have a1Z := aD.out; have SL := AP Ba; have SN := bf Ba) | ((with_reducible refine yw (f := 45) rfl ?_); refine gL (some 14) Try.func45 #[.agg #[.int .i64 yn, .slice yQ yh.length yM, .int .i64 yo, .int .i64 yu]] ?_; (with_reducible refine (AU.calls k yn _ _ yh yo yu t226 _ ?yD ?yF A3.out).mono ?_); (case yD => exact Di zA); (case yF => exact zK.out); rintro e w9 ⟨rfl, hb⟩; refine ⟨_, rfl, ?_⟩; replace Ba := bB Ba hb; replace aa := bB aa hb; replace HB := bS HB hb; clear hb; have KW := Gt aa; have KX := bf aa))
  refine bodyPost_ret (BS rfl _ _ au 71 #[.int .i64 0, .slice none 0 0, .int .i64 0, .int .i64 0, .slice none 0 0, .int .i64 0, .int .i64 0] (0, 0) _ rfl (CJ aa rfl) Try.underlying71 rfl (by kernel_rfl)) rfl ?_
  exact ⟨_, _, by rfl, by exact Kd.FM _ _ _ _ _, by exact Kd.FM _ _ _ _ _, bO HB⟩
 rw [if_neg c4] at H;have ES := beq_eq_false_iff_ne.mpr c4;have Lx := bne_iff_ne.mpr c4;have H' := yf.mk H;clear H
 go_enter Try.func33, Try.ntmps33
 go_wp2_with (first | ((with_reducible refine yI (N := 2) rfl ?_); refine yG rfl (N := 2) rfl (cs := #[.int .i64 yn, .slice yQ yh.length yM, .int .i64 yo, .int .i64 yu]) (t := 31) (by go_simp) ?_; intro DR hg w11 yJ hb; have Ba := yf.mk (yJ); have a0M := bG (w := w) hg; have a0N := bG (w := w) hg; replace HB := bS HB hb; clear hb yJ hg) | ((with_reducible refine yI (N := 4) rfl ?_); refine yG rfl (N := 4) rfl (cs := #[.int .i64 0, .slice none 0 0, .int .i64 0, .int .i64 0, .slice none 0 0, .int .i64 0, .int .i64 0]) (t := 71) (by go_simp) ?_; intro au hg w12 yJ hb; have aa := yf.mk (yJ); have dY := bG (w := w) hg; have dQ := bG (w := w) hg; have aG := Co Ba hg; have aD := Ar Ba hg; replace Ba := bB Ba hb; replace HB := bS HB hb; clear hb yJ hg; have Xz := aG.out; have XA := aD.out; have IV := AP Ba; have IW := bf Ba) | ((with_reducible refine yw (f := 45) rfl ?_); refine gL (some 14) Try.func45 #[.agg #[.int .i64 yn, .slice yQ yh.length yM, .int .i64 yo, .int .i64 yu]] ?_; (with_reducible refine (AU.calls k yn _ _ yh yo yu t226 _ ?yD ?yF A3.out).mono ?_); (case yD => exact Di zA); (case yF => exact zK.out); rintro e w15 ⟨rfl, hb⟩; refine ⟨_, rfl, ?_⟩; replace Ba := bB Ba hb; replace aa := bB aa hb; replace HB := bS HB hb; clear hb; have KO := AP Ba; have KP := bf Ba) | ((with_reducible refine yI (N := 7) rfl ?_); refine yG rfl (N := 7) rfl (cs := #[.int .i64 0, .slice none 0 0, .int .i64 0, .int .i64 0, .slice none 0 0, .int .i64 0, .int .i64 0]) (t := 71) (by go_simp) ?_; intro aC hg w17 yJ hb; have af := yf.mk (yJ); have iI := bG (w := w) hg; have fQ := bG (w := w) hg; have aj := Co Ba hg; have aQ := Ar Ba hg; have ah := Co aa hg; have aM := Ar aa hg; replace Ba := bB Ba hb; replace aa := bB aa hb; replace HB := bS HB hb; clear hb yJ hg; have Ux := aQ.out; have Uy := aj.out; have a0R := aM.out; have a0S := ah.out; have Ug := Gt af; have Uh := bf af) | ((with_reducible refine yI (N := 26) rfl ?_); refine Vs ?hg (N := 26) ?hd l1 ?hr ?_; (case hd => rfl); (case hg => rfl); (case hr => go_simp); intro Fh hg w21 yJ hb; have BL := yf.mk (yS (g := DR) (o := .cells #[.int .i64 yn, .slice yQ yh.length yM, .int .i64 yo, .int .i64 yu] 31 (0, 0)) (by refine kp ?_; refine ze ?_ aj.out _; refine kp ?_; refine ze ?_ aj.out _; refine kp ?_; refine ze ?_ aj.out _; refine kp ?_; refine ze ?_ aj.out _; refine kp ?_; refine ze ?_ aj.out _; refine kp ?_; refine ze ?_ aj.out _; refine kp ?_; refine ze ?_ aj.out _; refine kp ?_; exact Ba.out) hb); have BN := yf.mk (yS (g := au) (o := .cells #[.int .i64 0, .slice none 0 0, .int .i64 0, .int .i64 0, .slice none 0 0, .int .i64 0, .int .i64 0] 71 (0, 0)) (by refine kp ?_; refine ze ?_ ah.out _; refine kp ?_; refine ze ?_ ah.out _; refine kp ?_; refine ze ?_ ah.out _; refine kp ?_; refine ze ?_ ah.out _; refine kp ?_; refine ze ?_ ah.out _; refine kp ?_; refine ze ?_ ah.out _; refine kp ?_; refine ze ?_ ah.out _; refine kp ?_; exact aa.out) hb); have BX := yf.mk (yS (g := aC) (o := .cells #[.int .i64 yn, .slice yQ yh.length yM, .int .i64 yo, .int .i64 yu, .slice A1 l1.length c1, .int .i64 (wrap64 (t226 - yu)), .int .i64 t226] 71 (0, 0)) (CJ af rfl) hb); have Cr := bS HB hb; have CG := yf.mk (yJ); have CU := bG (w := w) hg; have Eh := bG (w := w) hg; have F7 := yf.mk ((by rw [hg]; exact Nat.ne_of_lt (ET (g := DR) (o := .cells #[.int .i64 yn, .slice yQ yh.length yM, .int .i64 yo, .int .i64 yu] 31 (0, 0)) (by refine kp ?_; refine ze ?_ aj.out _; refine kp ?_; refine ze ?_ aj.out _; refine kp ?_; refine ze ?_ aj.out _; refine kp ?_; refine ze ?_ aj.out _; refine kp ?_; refine ze ?_ aj.out _; refine kp ?_; refine ze ?_ aj.out _; refine kp ?_; refine ze ?_ aj.out _; refine kp ?_; exact Ba.out)) : DR ≠ Fh)); have Gd := yf.mk ((by rw [hg]; exact Nat.ne_of_gt (ET (g := DR) (o := .cells #[.int .i64 yn, .slice yQ yh.length yM, .int .i64 yo, .int .i64 yu] 31 (0, 0)) (by refine kp ?_; refine ze ?_ aj.out _; refine kp ?_; refine ze ?_ aj.out _; refine kp ?_; refine ze ?_ aj.out _; refine kp ?_; refine ze ?_ aj.out _; refine kp ?_; refine ze ?_ aj.out _; refine kp ?_; refine ze ?_ aj.out _; refine kp ?_; refine ze ?_ aj.out _; refine kp ?_; exact Ba.out)) : Fh ≠ DR)); have IU := yf.mk ((by rw [hg]; exact Nat.ne_of_lt (ET (g := au) (o := .cells #[.int .i64 0, .slice none 0 0, .int .i64 0, .int .i64 0, .slice none 0 0, .int .i64 0, .int .i64 0] 71 (0, 0)) (by refine kp ?_; refine ze ?_ ah.out _; refine kp ?_; refine ze ?_ ah.out _; refine kp ?_; refine ze ?_ ah.out _; refine kp ?_; refine ze ?_ ah.out _; refine kp ?_; refine ze ?_ ah.out _; refine kp ?_; refine ze ?_ ah.out _; refine kp ?_; refine ze ?_ ah.out _; refine kp ?_; exact aa.out)) : au ≠ Fh)); have EX := yf.mk ((by rw [hg]; exact Nat.ne_of_gt (ET (g := au) (o := .cells #[.int .i64 0, .slice none 0 0, .int .i64 0, .int .i64 0, .slice none 0 0, .int .i64 0, .int .i64 0] 71 (0, 0)) (by refine kp ?_; refine ze ?_ ah.out _; refine kp ?_; refine ze ?_ ah.out _; refine kp ?_; refine ze ?_ ah.out _; refine kp ?_; refine ze ?_ ah.out _; refine kp ?_; refine ze ?_ ah.out _; refine kp ?_; refine ze ?_ ah.out _; refine kp ?_; refine ze ?_ ah.out _; refine kp ?_; exact aa.out)) : Fh ≠ au)); have EY := yf.mk ((by rw [hg]; exact Nat.ne_of_lt (ET (g := aC) (o := .cells #[.int .i64 yn, .slice yQ yh.length yM, .int .i64 yo, .int .i64 yu, .slice A1 l1.length c1, .int .i64 (wrap64 (t226 - yu)), .int .i64 t226] 71 (0, 0)) (CJ af rfl)) : aC ≠ Fh)); have Fg := yf.mk ((by rw [hg]; exact Nat.ne_of_gt (ET (g := aC) (o := .cells #[.int .i64 yn, .slice yQ yh.length yM, .int .i64 yo, .int .i64 yu, .slice A1 l1.length c1, .int .i64 (wrap64 (t226 - yu)), .int .i64 t226] 71 (0, 0)) (CJ af rfl)) : Fh ≠ aC)); clear Ba; clear aa; clear af; clear HB; have Ba := BL; have aa := BN; have af := BX; have HB := Cr; have BR := CG; have XB := CU; have a0T := Eh; have bV := F7; have dh := Gd; have bD := IU; have bZ := EX; have aW := EY; have bA := Fg; clear BL BN BX Cr CG CU Eh F7 Gd IU EX EY Fg; clear hb yJ hg))
 go_loopg [29] k (fun kq v29 w' => ∃ (ae : Int) (aV : Int) (aZ : Int) (aU : Int) (bn : Int) (bi : Int), v29 = .int .i64 ae ∧ yf (zb.l0 kq l1 l1 (l1.length : Int) ae yn yh yo yu yn yh yo yu l1 (wrap64 (t226 - yu)) t226 = some (r1, r2, r3, r4, r5, r6, r7, r8)) ∧ yf (kq ≤ k) ∧ yf (w'.heap[DR]? = some (.cells #[.int .i64 yn, (.slice yQ yh.length yM), .int .i64 yo, .int .i64 yu] 31 (0, 0))) ∧ yf (w'.heap[au]? = some (.cells #[.int .i64 aV, (.slice none 0 0), .int .i64 aZ, .int .i64 aU, (.slice none 0 0), .int .i64 bn, .int .i64 bi] 71 (0, 0))) ∧ yf (w'.heap[aC]? = some (.cells #[.int .i64 yn, (.slice yQ yh.length yM), .int .i64 yo, .int .i64 yu, (.slice A1 l1.length c1), .int .i64 (wrap64 (t226 - yu)), .int .i64 t226] 71 (0, 0))) ∧ yf (w'.heap[Fh]? = some (Eg l1 ae)) ∧ yf (Below w.heap.size w w'))
 case atStart => exact ⟨(0), (0), (0), (0), (0), (0), (by rfl), H', ⟨Nat.le_refl _⟩, ⟨kk Ba⟩, ⟨kk aa⟩, ⟨kk af⟩, ⟨kk BR⟩, ⟨bO HB⟩⟩
 case round =>
 clear H' c4 ES Lx IV KO Ug IW KP Uh;obtain ⟨ae, aV, aZ, aU, bn, bi, rfl, HA, BJ, Ba, aa, af, BR, HB⟩ := hrel
 cases gk with
 | zero => exact absurd HA.out (by simp [zb.l0])
 | succ k1 =>
 have H := HA.out;clear HA;simp only [zb.l0] at H
 by_cases Ih : ae < (l1.length : Int)
 rotate_left
 ·
  rw [if_neg Ih] at H;have JV := decide_eq_false Ih;clear Ih;have H' := yf.mk H;clear H
  go_wp2
  go_loopg [101] k1 (fun kq v101 w' => ∃ (ak : Int) (bU : Int) (bN : Int) (bR : Int) (bP : Int) (cu : Int), v101 = .int .i64 ak ∧ yf (zb.l1 kq l1 (l1.length : Int) ak yn yh yo yu l1 (wrap64 (t226 - yu)) t226 = some (r1, r2, r3, r4, r5, r6, r7, r8)) ∧ yf (kq ≤ k1) ∧ yf (w'.heap[DR]? = some (.cells #[.int .i64 yn, (.slice yQ yh.length yM), .int .i64 yo, .int .i64 yu] 31 (0, 0))) ∧ yf (w'.heap[au]? = some (.cells #[.int .i64 bU, (.slice none 0 0), .int .i64 bN, .int .i64 bR, (.slice none 0 0), .int .i64 bP, .int .i64 cu] 71 (0, 0))) ∧ yf (w'.heap[aC]? = some (.cells #[.int .i64 yn, (.slice yQ yh.length yM), .int .i64 yo, .int .i64 yu, (.slice A1 l1.length c1), .int .i64 (wrap64 (t226 - yu)), .int .i64 t226] 71 (0, 0))) ∧ yf (w'.heap[Fh]? = some (Eg l1 ae)) ∧ yf (Below w.heap.size w w'))
  case atStart => exact ⟨(0), (aV), (aZ), (aU), (bn), (bi), (by rfl), H', ⟨Nat.le_refl _⟩, ⟨kk Ba⟩, ⟨kk aa⟩, ⟨kk af⟩, ⟨kk BR⟩, ⟨bO HB⟩⟩
  case round =>
  clear H' JV;obtain ⟨ak, bU, bN, bR, bP, cu, rfl, HA, D6, Ba, aa, af, BR, HB⟩ := hrel
  cases gk with
  | zero => exact absurd HA.out (by simp [zb.l1])
  | succ k2 =>
   have H := HA.out;clear HA;simp only [zb.l1] at H
   by_cases bF : ak < (l1.length : Int)
   ·
    rw [if_pos bF] at H;have dW := decide_eq_true bF;clear bF
    by_cases dm : 0 ≤ ak
    ·
     rw [if_pos dm] at H;have fO := decide_eq_true dm;clear dm
     by_cases c130 : ak < (l1.length : Int)
     ·
      rw [if_pos c130] at H;have fE := decide_eq_true c130;clear c130;obtain ⟨t236, dL, H⟩ := bE H
      try dsimp only at H
      by_cases d9 : t236 = true
      ·
       subst d9;rw [if_pos rfl] at H;have H' := yf.mk H;clear H
       have bv : 0 ≤ (ak : Int) := of_decide_eq_true ‹_›
       have bC : ak < (l1.length : Int) := of_decide_eq_true ‹_›
       obtain ⟨bM, e234, bQ, bY, bT, bX⟩ := BU HR1.out ak bv bC;cases e234;replace bQ := cB HB bQ;replace bY := cB HB bY;replace bT := cB HB bT;replace bX := cB HB bX;replace bv := eq_true bv;replace bC := eq_true bC
       go_wp2_with (first | ((with_reducible refine yI (N := 12) rfl ?_); refine yG rfl (N := 12) rfl (cs := #[.int .i64 0, .int .i64 0, .int .i64 0, .int .i64 0]) (t := 47) (by go_simp) ?_; intro Fe hg w133 yJ hb; have BA := yf.mk (yJ); have Mq := bG (w := w) hg; have UD := bG (w := w) hg; have aH := Co Ba hg; have dE := Ar Ba hg; have aK := Co aa hg; have dC := Ar aa hg; have aI := Co af hg; have dz := Ar af hg; have aJ := Co BR hg; have dD := Ar BR hg; replace Ba := bB Ba hb; replace aa := bB aa hb; replace af := bB af hb; replace BR := bB BR hb; replace HB := bS HB hb; clear hb yJ hg; have fZ := dE.out; have gM := aH.out; have iE := dC.out; have ed := aK.out; have a2L := dz.out; have a2M := aI.out; have fD := dD.out; have fH := aJ.out; have gu := AP BA; have iO := bf BA; have gV := aQ.out; have iR := aj.out; have a2N := aM.out; have a2O := ah.out; have a2P := aW.out; have a2Q := bA.out; have a2R := Gt af; have a2S := bf af) | ((with_reducible refine yw (f := 46) rfl ?_); refine gL (some 108) Try.func46 #[.agg #[.int .i64 yn, .slice yQ yh.length yM, .int .i64 yo, .int .i64 yu, .slice (some bM) l1.length c1, .int .i64 (wrap64 (t226 - yu)), .int .i64 t226], .int .i64 ((yg l1 ak).f0)] ?_; (with_reducible refine (Ci.calls k2 yn _ _ yh yo yu _ _ l1 (wrap64 (t226 - yu)) t226 ((yg l1 ak).f0) true _ ?yD ?yF ?zw ?zx dL.out).mono ?_); (case yD => exact Kd.Cg zA.out (bO HB)); (case yF => exact zK.out); (case zw => exact Kd.Cg HR1.out (bO HB)); (case zx => exact GH.out); rintro e w143 ⟨rfl, hb⟩; refine ⟨_, rfl, ?_⟩; replace Ba := yf.mk (yS (g := DR) (o := .cells #[.int .i64 yn, .slice yQ yh.length yM, .int .i64 yo, .int .i64 yu] 31 (0, 0)) (by refine kp ?_; refine ze ?_ aH.out _; refine kp ?_; refine ze ?_ aH.out _; refine kp ?_; refine ze ?_ aH.out _; refine kp ?_; refine ze ?_ aH.out _; refine kp ?_; exact Ba.out) hb); replace aa := yf.mk (yS (g := au) (o := .cells #[.int .i64 bU, .slice none 0 0, .int .i64 bN, .int .i64 bR, .slice none 0 0, .int .i64 bP, .int .i64 cu] 71 (0, 0)) (by refine kp ?_; refine ze ?_ aK.out _; refine kp ?_; refine ze ?_ aK.out _; refine kp ?_; refine ze ?_ aK.out _; refine kp ?_; refine ze ?_ aK.out _; refine kp ?_; exact aa.out) hb); replace af := yf.mk (yS (g := aC) (o := .cells #[.int .i64 yn, .slice yQ yh.length yM, .int .i64 yo, .int .i64 yu, .slice (some bM) l1.length c1, .int .i64 (wrap64 (t226 - yu)), .int .i64 t226] 71 (0, 0)) (by refine kp ?_; refine ze ?_ aI.out _; refine kp ?_; refine ze ?_ aI.out _; refine kp ?_; refine ze ?_ aI.out _; refine kp ?_; refine ze ?_ aI.out _; refine kp ?_; exact af.out) hb); replace BR := yf.mk (yS (g := Fh) (o := Eg l1 ae) (by refine kp ?_; refine ze ?_ aJ.out _; refine kp ?_; refine ze ?_ aJ.out _; refine kp ?_; refine ze ?_ aJ.out _; refine kp ?_; refine ze ?_ aJ.out _; refine kp ?_; exact BR.out) hb); replace BA := yf.mk (yS (g := Fe) (o := .cells #[.int .i64 ((yg l1 ak).f0), .int .i64 ((yg l1 ak).f1), .int .i64 ((yg l1 ak).f2.f0), .int .i64 ((yg l1 ak).f2.f1)] 47 (0, 0)) (CJ BA rfl) hb); replace HB := bS HB hb; clear hb))
       go_roundg k2
       case measure => have := BJ.out; have := D6.out; omega
       case rel => exact ⟨(wrap64 (ak + 1)), (bU), (bN), (bR), (bP), (cu), (by rfl), H', ⟨by have := BJ.out; have := D6.out; omega⟩, ⟨kk Ba⟩, ⟨kk aa⟩, ⟨kk af⟩, ⟨kk BR⟩, ⟨bO HB⟩⟩
      ·
       replace d9 := Bool.eq_false_iff.mpr d9;subst d9
       rw [if_neg (show ¬ (false = true) by decide)] at H
       simp only [Option.some.injEq, Prod.mk.injEq] at H;obtain ⟨rfl, rfl, rfl, rfl, rfl, rfl, rfl, rfl⟩ := H
       have bv : 0 ≤ (ak : Int) := of_decide_eq_true ‹_›
       have bC : ak < (l1.length : Int) := of_decide_eq_true ‹_›
       obtain ⟨bM, e234, bQ, bY, bT, bX⟩ := BU HR1.out ak bv bC;cases e234;replace bQ := cB HB bQ;replace bY := cB HB bY;replace bT := cB HB bT;replace bX := cB HB bX;replace bv := eq_true bv;replace bC := eq_true bC
       go_wp2_with (first | ((with_reducible refine yI (N := 12) rfl ?_); refine yG rfl (N := 12) rfl (cs := #[.int .i64 0, .int .i64 0, .int .i64 0, .int .i64 0]) (t := 47) (by go_simp) ?_; intro Fe hg w144 yJ hb; have BA := yf.mk (yJ); have Mq := bG (w := w) hg; have UD := bG (w := w) hg; have aH := Co Ba hg; have dE := Ar Ba hg; have aK := Co aa hg; have dC := Ar aa hg; have aI := Co af hg; have dz := Ar af hg; have aJ := Co BR hg; have dD := Ar BR hg; replace Ba := bB Ba hb; replace aa := bB aa hb; replace af := bB af hb; replace BR := bB BR hb; replace HB := bS HB hb; clear hb yJ hg; have a2T := dE.out; have a2U := aH.out; have eU := dC.out; have gD := aK.out; have iP := dz.out; have iB := aI.out; have eD := dD.out; have iJ := aJ.out; have fF := AP BA; have iV := bf BA; have ib := aQ.out; have ig := aj.out; have eO := aM.out; have gq := ah.out; have a2V := aW.out; have a2W := bA.out; have iF := Gt af; have gP := bf af) | ((with_reducible refine yw (f := 46) rfl ?_); refine gL (some 108) Try.func46 #[.agg #[.int .i64 yn, .slice yQ yh.length yM, .int .i64 yo, .int .i64 yu, .slice (some bM) l1.length c1, .int .i64 (wrap64 (t226 - yu)), .int .i64 t226], .int .i64 ((yg l1 ak).f0)] ?_; (with_reducible refine (Ci.calls k2 yn _ _ yh yo yu _ _ l1 (wrap64 (t226 - yu)) t226 ((yg l1 ak).f0) false _ ?yD ?yF ?zw ?zx dL.out).mono ?_); (case yD => exact Kd.Cg zA.out (bO HB)); (case yF => exact zK.out); (case zw => exact Kd.Cg HR1.out (bO HB)); (case zx => exact GH.out); rintro e w154 ⟨rfl, hb⟩; refine ⟨_, rfl, ?_⟩; replace Ba := yf.mk (yS (g := DR) (o := .cells #[.int .i64 yn, .slice yQ yh.length yM, .int .i64 yo, .int .i64 yu] 31 (0, 0)) (by refine kp ?_; refine ze ?_ aH.out _; refine kp ?_; refine ze ?_ aH.out _; refine kp ?_; refine ze ?_ aH.out _; refine kp ?_; refine ze ?_ aH.out _; refine kp ?_; exact Ba.out) hb); replace aa := yf.mk (yS (g := au) (o := .cells #[.int .i64 bU, .slice none 0 0, .int .i64 bN, .int .i64 bR, .slice none 0 0, .int .i64 bP, .int .i64 cu] 71 (0, 0)) (by refine kp ?_; refine ze ?_ aK.out _; refine kp ?_; refine ze ?_ aK.out _; refine kp ?_; refine ze ?_ aK.out _; refine kp ?_; refine ze ?_ aK.out _; refine kp ?_; exact aa.out) hb); replace af := yf.mk (yS (g := aC) (o := .cells #[.int .i64 yn, .slice yQ yh.length yM, .int .i64 yo, .int .i64 yu, .slice (some bM) l1.length c1, .int .i64 (wrap64 (t226 - yu)), .int .i64 t226] 71 (0, 0)) (by refine kp ?_; refine ze ?_ aI.out _; refine kp ?_; refine ze ?_ aI.out _; refine kp ?_; refine ze ?_ aI.out _; refine kp ?_; refine ze ?_ aI.out _; refine kp ?_; exact af.out) hb); replace BR := yf.mk (yS (g := Fh) (o := Eg l1 ae) (by refine kp ?_; refine ze ?_ aJ.out _; refine kp ?_; refine ze ?_ aJ.out _; refine kp ?_; refine ze ?_ aJ.out _; refine kp ?_; refine ze ?_ aJ.out _; refine kp ?_; exact BR.out) hb); replace BA := yf.mk (yS (g := Fe) (o := .cells #[.int .i64 ((yg l1 ak).f0), .int .i64 ((yg l1 ak).f1), .int .i64 ((yg l1 ak).f2.f0), .int .i64 ((yg l1 ak).f2.f1)] 47 (0, 0)) (CJ BA rfl) hb); replace HB := bS HB hb; clear hb; have gT := aD.out; have iC := aG.out; have eX := bD.out; have gF := bZ.out; have iU := Gt aa; have gp := bf aa))
       refine bodyPost_ret (BS rfl _ _ au 71 #[.int .i64 0, .slice none 0 0, .int .i64 0, .int .i64 0, .slice none 0 0, .int .i64 0, .int .i64 0] (0, 0) _ rfl (CJ aa rfl) Try.underlying71 rfl (by kernel_rfl)) rfl ?_
       exact ⟨_, _, by rfl, by exact Kd.FM _ _ _ _ _, by exact Kd.FM _ _ _ _ _, bO HB⟩
     ·
      rw [if_neg c130] at H;exact absurd H (by simp)
    ·
     rw [if_neg dm] at H;exact absurd H (by simp)
   ·
    rw [if_neg bF] at H;have dW := decide_eq_false bF;clear bF;simp only [Option.some.injEq, Prod.mk.injEq] at H;obtain ⟨rfl, rfl, rfl, rfl, rfl, rfl, rfl, rfl⟩ := H;have il := aD.out;have gX := aG.out;have eP := ah.out;have iM := aM.out;have gW := bD.out;have gZ := bZ.out;have gY := Gt aa;have fw := bf aa;have gK := Gt af;have iA := bf af
    go_wp2
    refine bodyPost_ret (BS rfl _ _ au 71 #[.int .i64 yn, (.slice yQ yh.length yM), .int .i64 yo, .int .i64 yu, (.slice A1 l1.length c1), .int .i64 (wrap64 (t226 - yu)), .int .i64 t226] (0, 0) _ rfl (CJ aa rfl) Try.underlying71 rfl (by kernel_rfl)) rfl ?_
    exact ⟨_, _, by rfl, Kd.z8 (Kd.Ao HS0.out (bO HB)) (fun k_ hk => .inl (.inl hk)), Kd.z8 (Kd.Ao dP.out (bO HB)) (fun k_ hk => .inl (.inr hk)), bO HB⟩
 rw [if_pos Ih] at H;have JV := decide_eq_true Ih;clear Ih
 by_cases c23 : 0 ≤ ae
 rotate_left
 ·
  rw [if_neg c23] at H;exact absurd H (by simp)
 rw [if_pos c23] at H;have QM := decide_eq_true c23;have dH := yf.mk (show 0 ≤ ae ∧ ae < (l1.length : Int) from ⟨c23, of_decide_eq_true ‹_›⟩);clear c23
 by_cases c24 : ae < (l1.length : Int)
 rotate_left
 ·
  rw [if_neg c24] at H;exact absurd H (by simp)
 rw [if_pos c24] at H;have Nl := decide_eq_true c24;clear c24;obtain ⟨a2K, A25, H⟩ := bE H
 try dsimp only at H
 by_cases Qu : a2K = true
 rotate_left
 ·
  replace Qu := Bool.eq_false_iff.mpr Qu;subst Qu
  rw [if_neg (show ¬ (false = true) by decide)] at H
  simp only [Option.some.injEq, Prod.mk.injEq] at H;obtain ⟨rfl, rfl, rfl, rfl, rfl, rfl, rfl, rfl⟩ := H
  have aX : 0 ≤ (ae : Int) := of_decide_eq_true ‹_›
  have bq : ae < (l1.length : Int) := of_decide_eq_true ‹_›
  obtain ⟨aA, e229, bL, bI, bJ, bH⟩ := BU HR1.out ae aX bq;cases e229;replace bL := cB HB bL;replace bI := cB HB bI;replace bJ := cB HB bJ;replace bH := cB HB bH;replace aX := eq_true aX;replace bq := eq_true bq
  go_wp2_with (first | ((with_reducible refine yI (N := 10) rfl ?_); refine yG rfl (N := 10) rfl (cs := #[.int .i64 0, .int .i64 0, .int .i64 0, .int .i64 0]) (t := 47) (by go_simp) ?_; intro aT hg w114 yJ hb; have ag := yf.mk (yJ); have dV := bG (w := w) hg; have dX := bG (w := w) hg; have ay := Co Ba hg; have aY := Ar Ba hg; have av := Co aa hg; have aN := Ar aa hg; have az := Co af hg; have bu := Ar af hg; have ax := Co BR hg; have bg := Ar BR hg; replace Ba := bB Ba hb; replace aa := bB aa hb; replace af := bB af hb; replace BR := bB BR hb; replace HB := bS HB hb; clear hb yJ hg; have fo := aY.out; have fK := ay.out; have iN := aN.out; have gJ := av.out; have a2X := bu.out; have a2Y := az.out; have a2Z := bg.out; have a3a := ax.out; have a3b := AP ag; have a3c := bf ag; have fG := aQ.out; have gH := aj.out; have a3d := aM.out; have a3e := ah.out; have a3f := aW.out; have a3g := bA.out; have a3h := Gt af; have a3i := bf af) | ((with_reducible refine yw (f := 60) rfl ?_); refine gL (some 39) Try.func60 #[.agg #[.int .i64 yn, .slice yQ yh.length yM, .int .i64 yo, .int .i64 yu, .slice (some aA) l1.length c1, .int .i64 (wrap64 (t226 - yu)), .int .i64 t226], .int .i64 ((yg l1 ae).f0), .int .i64 ((yg l1 ae).f1)] ?_; (with_reducible refine (DT.calls yn _ _ yh yo yu _ _ l1 (wrap64 (t226 - yu)) t226 ((yg l1 ae).f0) ((yg l1 ae).f1) false _ ?yD ?yF ?zw ?zx A25.out).mono ?_); (case yD => exact Kd.Cg zA.out (bO HB)); (case yF => exact zK.out); (case zw => exact Kd.Cg HR1.out (bO HB)); (case zx => exact GH.out); rintro e w124 ⟨rfl, hb⟩; refine ⟨_, rfl, ?_⟩; replace Ba := yf.mk (yS (g := DR) (o := .cells #[.int .i64 yn, .slice yQ yh.length yM, .int .i64 yo, .int .i64 yu] 31 (0, 0)) (by refine kp ?_; refine ze ?_ ay.out _; refine kp ?_; refine ze ?_ ay.out _; refine kp ?_; refine ze ?_ ay.out _; refine kp ?_; refine ze ?_ ay.out _; refine kp ?_; exact Ba.out) hb); replace aa := yf.mk (yS (g := au) (o := .cells #[.int .i64 aV, .slice none 0 0, .int .i64 aZ, .int .i64 aU, .slice none 0 0, .int .i64 bn, .int .i64 bi] 71 (0, 0)) (by refine kp ?_; refine ze ?_ av.out _; refine kp ?_; refine ze ?_ av.out _; refine kp ?_; refine ze ?_ av.out _; refine kp ?_; refine ze ?_ av.out _; refine kp ?_; exact aa.out) hb); replace af := yf.mk (yS (g := aC) (o := .cells #[.int .i64 yn, .slice yQ yh.length yM, .int .i64 yo, .int .i64 yu, .slice (some aA) l1.length c1, .int .i64 (wrap64 (t226 - yu)), .int .i64 t226] 71 (0, 0)) (by refine kp ?_; refine ze ?_ az.out _; refine kp ?_; refine ze ?_ az.out _; refine kp ?_; refine ze ?_ az.out _; refine kp ?_; refine ze ?_ az.out _; refine kp ?_; exact af.out) hb); replace BR := yf.mk (yS (g := Fh) (o := Eg l1 ae) (by refine kp ?_; refine ze ?_ ax.out _; refine kp ?_; refine ze ?_ ax.out _; refine kp ?_; refine ze ?_ ax.out _; refine kp ?_; refine ze ?_ ax.out _; refine kp ?_; exact BR.out) hb); replace ag := yf.mk (yS (g := aT) (o := .cells #[.int .i64 ((yg l1 ae).f0), .int .i64 ((yg l1 ae).f1), .int .i64 ((yg l1 ae).f2.f0), .int .i64 ((yg l1 ae).f2.f1)] 47 (0, 0)) (CJ ag rfl) hb); replace HB := bS HB hb; clear hb; have iT := aD.out; have fu := aG.out; have a3j := bD.out; have a3k := bZ.out; have a3l := Gt aa; have a3m := bf aa))
  refine bodyPost_ret (BS rfl _ _ au 71 #[.int .i64 0, .slice none 0 0, .int .i64 0, .int .i64 0, .slice none 0 0, .int .i64 0, .int .i64 0] (0, 0) _ rfl (CJ aa rfl) Try.underlying71 rfl (by kernel_rfl)) rfl ?_
  exact ⟨_, _, by rfl, by exact Kd.FM _ _ _ _ _, by exact Kd.FM _ _ _ _ _, bO HB⟩
 subst Qu;rw [if_pos rfl] at H;have TF := yf.mk H;clear H
 have aX : 0 ≤ (ae : Int) := of_decide_eq_true ‹_›
 have bq : ae < (l1.length : Int) := of_decide_eq_true ‹_›
 obtain ⟨aA, e229, bL, bI, bJ, bH⟩ := BU HR1.out ae aX bq;cases e229;replace bL := cB HB bL;replace bI := cB HB bI;replace bJ := cB HB bJ;replace bH := cB HB bH;replace aX := eq_true aX;replace bq := eq_true bq
 go_upto_region 11 with (first | ((with_reducible refine yI (N := 10) rfl ?_); refine yG rfl (N := 10) rfl (cs := #[.int .i64 0, .int .i64 0, .int .i64 0, .int .i64 0]) (t := 47) (by go_simp) ?_; intro aT hg w28 yJ hb; have ag := yf.mk (yJ); have dV := bG (w := w) hg; have dX := bG (w := w) hg; have ay := Co Ba hg; have aY := Ar Ba hg; have av := Co aa hg; have aN := Ar aa hg; have az := Co af hg; have bu := Ar af hg; have ax := Co BR hg; have bg := Ar BR hg; replace Ba := bB Ba hb; replace aa := bB aa hb; replace af := bB af hb; replace BR := bB BR hb; replace HB := bS HB hb; clear hb yJ hg; have Ri := aY.out; have Rj := ay.out; have R4 := aN.out; have R5 := av.out; have QT := bu.out; have QU := az.out; have P8 := bg.out; have P9 := ax.out; have Je := AP ag; have Jf := bf ag; have U9 := aQ.out; have Ua := aj.out; have XC := aM.out; have XD := ah.out; have Rk := aW.out; have Rl := bA.out; have KS := Gt af; have KT := bf af) | ((with_reducible refine yw (f := 60) rfl ?_); refine gL (some 39) Try.func60 #[.agg #[.int .i64 yn, .slice yQ yh.length yM, .int .i64 yo, .int .i64 yu, .slice (some aA) l1.length c1, .int .i64 (wrap64 (t226 - yu)), .int .i64 t226], .int .i64 ((yg l1 ae).f0), .int .i64 ((yg l1 ae).f1)] ?_; (with_reducible refine (DT.calls yn _ _ yh yo yu _ _ l1 (wrap64 (t226 - yu)) t226 ((yg l1 ae).f0) ((yg l1 ae).f1) true _ ?yD ?yF ?zw ?zx A25.out).mono ?_); (case yD => exact Kd.Cg zA.out (bO HB)); (case yF => exact zK.out); (case zw => exact Kd.Cg HR1.out (bO HB)); (case zx => exact GH.out); rintro e w38 ⟨rfl, hb⟩; refine ⟨_, rfl, ?_⟩; replace Ba := yf.mk (yS (g := DR) (o := .cells #[.int .i64 yn, .slice yQ yh.length yM, .int .i64 yo, .int .i64 yu] 31 (0, 0)) (by refine kp ?_; refine ze ?_ ay.out _; refine kp ?_; refine ze ?_ ay.out _; refine kp ?_; refine ze ?_ ay.out _; refine kp ?_; refine ze ?_ ay.out _; refine kp ?_; exact Ba.out) hb); replace aa := yf.mk (yS (g := au) (o := .cells #[.int .i64 aV, .slice none 0 0, .int .i64 aZ, .int .i64 aU, .slice none 0 0, .int .i64 bn, .int .i64 bi] 71 (0, 0)) (by refine kp ?_; refine ze ?_ av.out _; refine kp ?_; refine ze ?_ av.out _; refine kp ?_; refine ze ?_ av.out _; refine kp ?_; refine ze ?_ av.out _; refine kp ?_; exact aa.out) hb); replace af := yf.mk (yS (g := aC) (o := .cells #[.int .i64 yn, .slice yQ yh.length yM, .int .i64 yo, .int .i64 yu, .slice (some aA) l1.length c1, .int .i64 (wrap64 (t226 - yu)), .int .i64 t226] 71 (0, 0)) (by refine kp ?_; refine ze ?_ az.out _; refine kp ?_; refine ze ?_ az.out _; refine kp ?_; refine ze ?_ az.out _; refine kp ?_; refine ze ?_ az.out _; refine kp ?_; exact af.out) hb); replace BR := yf.mk (yS (g := Fh) (o := Eg l1 ae) (by refine kp ?_; refine ze ?_ ax.out _; refine kp ?_; refine ze ?_ ax.out _; refine kp ?_; refine ze ?_ ax.out _; refine kp ?_; refine ze ?_ ax.out _; refine kp ?_; exact BR.out) hb); replace ag := yf.mk (yS (g := aT) (o := .cells #[.int .i64 ((yg l1 ae).f0), .int .i64 ((yg l1 ae).f1), .int .i64 ((yg l1 ae).f2.f0), .int .i64 ((yg l1 ae).f2.f1)] 47 (0, 0)) (CJ ag rfl) hb); replace HB := bS HB hb; clear hb))
 (try simp only [pz])
 go_cut [57] (fun v57 wc => ∃ (kq : Nat) (df : Bool), v57 = .bool df ∧ yf (zb.j1 kq l1 l1 (l1.length : Int) ae df yn yh yo yu yn yh yo yu l1 (wrap64 (t226 - yu)) t226 ((yg l1 ae).f0) ((yg l1 ae).f1) ((yg l1 ae).f2.f0) ((yg l1 ae).f2.f1) = some (r1, r2, r3, r4, r5, r6, r7, r8)) ∧ yf (kq ≤ k1) ∧ yf (wc.heap[DR]? = some (.cells #[.int .i64 yn, (.slice yQ yh.length yM), .int .i64 yo, .int .i64 yu] 31 (0, 0))) ∧ yf (wc.heap[au]? = some (.cells #[.int .i64 aV, (.slice none 0 0), .int .i64 aZ, .int .i64 aU, (.slice none 0 0), .int .i64 bn, .int .i64 bi] 71 (0, 0))) ∧ yf (wc.heap[aC]? = some (.cells #[.int .i64 yn, (.slice yQ yh.length yM), .int .i64 yo, .int .i64 yu, (.slice (some aA) l1.length c1), .int .i64 (wrap64 (t226 - yu)), .int .i64 t226] 71 (0, 0))) ∧ yf (wc.heap[Fh]? = some (Eg l1 ae)) ∧ yf (wc.heap[aT]? = some (.cells #[.int .i64 ((yg l1 ae).f0), .int .i64 ((yg l1 ae).f1), .int .i64 ((yg l1 ae).f2.f0), .int .i64 ((yg l1 ae).f2.f1)] 47 (0, 0))) ∧ yf (Below w.heap.size w wc))
 case first =>
  have H := TF.out;clear TF
  by_cases K7 : ae > 0
  rotate_left
  ·
   rw [if_neg K7] at H;have OW := decide_eq_false K7;clear K7
   (skip)
   have H' := yf.mk H;clear H
   try go_wp2
   replace Ba := yf.mk (yO Ba.out);replace aa := yf.mk (yO aa.out);replace af := yf.mk (yO af.out);replace BR := yf.mk (yO BR.out);replace ag := yf.mk (yO ag.out);replace HB := yf.mk (za HB.out)
   refine Bc (n := 16) (S := fun w' => True) (ds := []) (bz 16 0) (by kernel_rfl) rfl rfl trivial (fun hHeld => ?_); refine zF zb.a0Q zb.Xy (fun yz Bi => ?_)
   generalize w38.drew = w46 at Ba aa af BR ag HB hHeld ⊢;refine pU 0 42 16 1 yz ?_;refine pU 1 43 16 3 yz ?_;refine pU 2 44 16 7 yz ?_;refine pN 3 45 16 15 yz ?_;refine pN 4 46 16 31 yz ?_;refine pN 5 47 16 63 yz ?_;refine pN 6 48 16 127 yz ?_;refine pN 7 49 16 255 yz ?_;refine pN 8 50 16 511 yz ?_;refine pN 9 51 16 1023 yz ?_;refine pN 10 52 16 2047 yz ?_;refine pN 11 53 16 4095 yz ?_;refine pN 12 54 16 8191 yz ?_;refine pN 13 55 16 16383 yz ?_;refine pN 14 56 16 32767 yz ?_;refine pU 15 57 16 65535 yz ?_
   refine BG (Al yz.out (by kernel_rfl)) ?_
   try go_wp2
   go_meet
   case rel => exact ⟨_, (false), (by rfl), H', ⟨by have := BJ.out; omega⟩, ⟨kk Ba⟩, ⟨kk aa⟩, ⟨kk af⟩, ⟨kk BR⟩, ⟨kk ag⟩, ⟨bO HB⟩⟩
  rw [if_pos K7] at H;have OW := decide_eq_true K7;clear K7
  (skip)
  obtain ⟨ai, dN⟩ : ∃ j_ : Int, (wrap64 (ae - 1)) = j_ := ⟨_, rfl⟩
  replace H : (if 0 ≤ (ai) then (if (ai) < (l1.length : Int) then ((BC.f k1 ((yg l1 (ai)).f0) ((yg l1 (ai)).f1) ((yg l1 (ai)).f2.f0) ((yg l1 (ai)).f2.f1) ((yg l1 ae).f0) ((yg l1 ae).f1)).bind fun t233 => (zb.j1 k1 l1 l1 (l1.length : Int) ae (decide (t233 ≥ 0)) yn yh yo yu yn yh yo yu l1 (wrap64 (t226 - yu)) t226 ((yg l1 ae).f0) ((yg l1 ae).f1) ((yg l1 ae).f2.f0) ((yg l1 ae).f2.f1))) else (none)) else (none)) = some (r1, r2, r3, r4, r5, r6, r7, r8) := by (rw [dN] at H; exact H)
  have hji40w : (IntKind.i64.wrap (ae - 1)) = ai := (i64_w _).trans dN
  by_cases JH : 0 ≤ (ai)
  rotate_left
  ·
   rw [if_neg JH] at H;exact absurd H (by simp)
  rw [if_pos JH] at H;have UE := decide_eq_true JH;clear JH
  by_cases Hu : (ai) < (l1.length : Int)
  rotate_left
  ·
   rw [if_neg Hu] at H;exact absurd H (by simp)
  rw [if_pos Hu] at H;have JU := decide_eq_true Hu;clear Hu;obtain ⟨t233, A43, H⟩ := bE H
  try dsimp only at H
  have H' := yf.mk H;clear H
  try go_wp2
  replace Ba := yf.mk (yO Ba.out);replace aa := yf.mk (yO aa.out);replace af := yf.mk (yO af.out);replace BR := yf.mk (yO BR.out);replace ag := yf.mk (yO ag.out);replace HB := yf.mk (za HB.out)
  have dx : 0 ≤ ((ai) : Int) := of_decide_eq_true ‹_›
  have dB : (ai) < (l1.length : Int) := of_decide_eq_true ‹_›
  obtain ⟨dO, e232, di, cO, cZ, dn⟩ := BU HR1.out (ai) dx dB;have dJ := dn;have dG := cZ;have dK := cO;have dM := di;obtain rfl : aA = dO := (by injection e232);replace di := cB HB di;replace cO := cB HB cO;replace cZ := cB HB cZ;replace dn := cB HB dn;replace dx := eq_true dx;replace dB := eq_true dB
  refine Bc (n := 16) (S := fun w' => w'.cell? ⟨aT, 0, none⟩ = some (.int .i64 ((yg l1 ae).f0)) ∧ w'.cell? ⟨aT, 1, none⟩ = some (.int .i64 ((yg l1 ae).f1)) ∧ w'.cell? ⟨aT, 2, none⟩ = some (.int .i64 ((yg l1 ae).f2.f0)) ∧ w'.cell? ⟨aT, 3, none⟩ = some (.int .i64 ((yg l1 ae).f2.f1)) ∧ w'.cell? (aA.add (((ai)).toNat * 4)) = some (.int .i64 ((yg l1 (ai)).f0)) ∧ w'.cell? ⟨(aA.add (((ai)).toNat * 4)).block, (aA.add (((ai)).toNat * 4)).off + 1, none⟩ = some (.int .i64 ((yg l1 (ai)).f1)) ∧ w'.cell? ⟨(aA.add (((ai)).toNat * 4)).block, (aA.add (((ai)).toNat * 4)).off + 2, none⟩ = some (.int .i64 ((yg l1 (ai)).f2.f0)) ∧ w'.cell? ⟨(aA.add (((ai)).toNat * 4)).block, (aA.add (((ai)).toNat * 4)).off + 3, none⟩ = some (.int .i64 ((yg l1 (ai)).f2.f1))) (ds := []) (bz 16 0) (by kernel_rfl) rfl rfl ⟨(yA ag.out 0).trans rfl, (yA ag.out 1).trans rfl, (yA ag.out 2).trans rfl, (yA ag.out 3).trans rfl, (cB HB dM), (cB HB dK), (cB HB dG), (cB HB dJ)⟩ (fun hHeld => ?_); refine zF zb.a0Q zb.Xy (fun yz Bi => ?_)
  generalize w38.drew = w44 at Ba aa af BR ag HB di cO cZ dn hHeld ⊢;refine pU 0 42 16 1 yz ?_;refine pU 1 43 16 3 yz ?_;refine pU 2 44 16 7 yz ?_;refine pU 3 45 16 15 yz ?_;refine pU 4 46 16 31 yz ?_;refine pU 5 47 16 63 yz ?_;refine pU 6 48 16 127 yz ?_;refine pU 8 50 16 383 yz ?_;refine pU 10 52 16 1407 yz ?_
  refine BO 7 49 16 1535 yz Bi hHeld ?_
  refine BO 9 51 16 2047 yz Bi hHeld ?_
  refine BO 11 53 16 4095 yz Bi hHeld ?_
  refine pU 12 54 16 8191 yz ?_
  refine Ck (i := 13) (N := some 55) (bz 16 16383) rfl rfl (Af yz.out (by kernel_rfl)) (by decide) (fun K hK => ?_)
  refine ZR Try.func42 (by kernel_rfl) rfl #[.agg #[.int .i64 ((yg l1 (ai)).f0), .int .i64 ((yg l1 (ai)).f1), .int .i64 ((yg l1 (ai)).f2.f0), .int .i64 ((yg l1 (ai)).f2.f1)], .agg #[.int .i64 ((yg l1 ae).f0), .int .i64 ((yg l1 ae).f1)]] (by rfl) rfl rfl (by (try simp only [List.map_toArray, List.map_cons, List.map_nil]); rfl) ?_
  with_reducible refine (BC.calls k1 ((yg l1 (ai)).f0) ((yg l1 (ai)).f1) ((yg l1 (ai)).f2.f0) ((yg l1 (ai)).f2.f1) ((yg l1 ae).f0) ((yg l1 ae).f1) t233 _ A43.out).mono ?_
  rintro e w45 ⟨rfl, hb⟩
  refine ⟨_, rfl, ?_⟩
  replace Ba := bB Ba hb;replace aa := bB aa hb;replace af := bB af hb;replace BR := bB BR hb;replace ag := bB ag hb;replace HB := bS HB hb;clear hb
  refine hK.out _ _ ⟨(yA ag.out 0).trans rfl, (yA ag.out 1).trans rfl, (yA ag.out 2).trans rfl, (yA ag.out 3).trans rfl, (cB HB dM), (cB HB dK), (cB HB dG), (cB HB dJ)⟩ (fun hHeld => ?_)
  clear hK K
  refine AR (a' := ?_) ?_ ?_
  rotate_left
  ·
   show Act.put _ (some 55) _ = _
   simp only [pz]
   rfl
  refine pU 14 56 16 32767 yz ?_;refine pU 15 57 16 65535 yz ?_
  refine BG (Al yz.out (by kernel_rfl)) ?_
  try go_wp2
  go_meet
  case rel => exact ⟨_, (decide (t233 ≥ 0)), (by rfl), H', ⟨by have := BJ.out; omega⟩, ⟨kk Ba⟩, ⟨kk aa⟩, ⟨kk af⟩, ⟨kk BR⟩, ⟨kk ag⟩, ⟨bO HB⟩⟩
 case rest =>
 clear TF JV QM Nl Je KS Jf KT bL bI bJ bH aX bq;obtain ⟨kq, df, rfl, HA, NV, Ba, aa, af, BR, ag, HB⟩ := hcut
 cases kq with
 | zero => exact absurd HA.out (by simp [zb.j1])
 | succ Zz =>
  have H := HA.out;clear HA;simp only [zb.j1] at H
  by_cases J2 : df = true
  ·
   subst J2;rw [if_pos rfl] at H;simp only [Option.some.injEq, Prod.mk.injEq] at H;obtain ⟨rfl, rfl, rfl, rfl, rfl, rfl, rfl, rfl⟩ := H;have WE := aD.out;have WF := aG.out;have Ui := ah.out;have Uj := aM.out;have Pj := bD.out;have Pm := bZ.out;have Ut := av.out;have Uu := aN.out;have Rm := Gt aa;have Rn := bf aa
   go_wp2
   refine bodyPost_ret (BS rfl _ _ au 71 #[.int .i64 0, .slice none 0 0, .int .i64 0, .int .i64 0, .slice none 0 0, .int .i64 0, .int .i64 0] (0, 0) _ rfl (CJ aa rfl) Try.underlying71 rfl (by kernel_rfl)) rfl ?_
   exact ⟨_, _, by rfl, by exact Kd.FM _ _ _ _ _, by exact Kd.FM _ _ _ _ _, bO HB⟩
  ·
   replace J2 := Bool.eq_false_iff.mpr J2;subst J2
   rw [if_neg (show ¬ (false = true) by decide)] at H
   have dw := yf.mk H;clear H
   go_upto_region 13 with (fail)
   go_cut [93] (fun v93 wc => ∃ (kq : Nat) (bW : Bool), v93 = .bool bW ∧ yf (zb.j2 kq l1 l1 (l1.length : Int) ae bW yn yh yo yu yn yh yo yu l1 (wrap64 (t226 - yu)) t226 = some (r1, r2, r3, r4, r5, r6, r7, r8)) ∧ yf (kq ≤ Zz) ∧ yf (wc.heap[DR]? = some (.cells #[.int .i64 yn, (.slice yQ yh.length yM), .int .i64 yo, .int .i64 yu] 31 (0, 0))) ∧ yf (wc.heap[au]? = some (.cells #[.int .i64 aV, (.slice none 0 0), .int .i64 aZ, .int .i64 aU, (.slice none 0 0), .int .i64 bn, .int .i64 bi] 71 (0, 0))) ∧ yf (wc.heap[aC]? = some (.cells #[.int .i64 yn, (.slice yQ yh.length yM), .int .i64 yo, .int .i64 yu, (.slice (some aA) l1.length c1), .int .i64 (wrap64 (t226 - yu)), .int .i64 t226] 71 (0, 0))) ∧ yf (wc.heap[Fh]? = some (Eg l1 ae)) ∧ yf (wc.heap[aT]? = some (.cells #[.int .i64 ((yg l1 ae).f0), .int .i64 ((yg l1 ae).f1), .int .i64 ((yg l1 ae).f2.f0), .int .i64 ((yg l1 ae).f2.f1)] 47 (0, 0))) ∧ yf (Below w.heap.size w wc) ∧ yf (bW = false → Jr l1 ae = false))
   case first =>
    have H := dw.out;clear dw
    by_cases Qk : ((yg l1 ae).f2.f0) < 0
    ·
     rw [if_pos Qk] at H;have UF := decide_eq_true Qk;clear Qk
     (skip)
     have H' := yf.mk H;clear H;have a5j := aY.out;have a5k := ay.out;have X7 := aN.out;have X8 := av.out;have a0v := bu.out;have a0w := az.out;have XE := bg.out;have XF := ax.out;have a0U := AP ag;have a0V := bf ag
     go_wp2
     go_meet
     case rel => exact ⟨_, (true), (by rfl), H', ⟨by have := BJ.out; have := NV.out; omega⟩, ⟨kk Ba⟩, ⟨kk aa⟩, ⟨kk af⟩, ⟨kk BR⟩, ⟨kk ag⟩, ⟨bO HB⟩, ⟨fun h => by cases h⟩⟩
    ·
     rw [if_neg Qk] at H;have UF := decide_eq_false Qk;clear Qk
     (skip)
     by_cases RD : ((yg l1 ae).f2.f0) ≥ yn
     ·
      rw [if_pos RD] at H;have a0W := decide_eq_true RD;clear RD;have H' := yf.mk H;clear H;have a0x := aY.out;have a0y := ay.out;have a0X := aN.out;have a0Y := av.out;have a0z := bu.out;have a0A := az.out;have gB := bg.out;have eB := ax.out;have a5l := AP ag;have a5m := bf ag;have XG := aG.out;have XH := aD.out;have a5n := aj.out;have a5o := aQ.out;have a0Z := bV.out;have a11 := dh.out;have a13 := AP Ba;have a14 := bf Ba
      go_wp2
      go_meet
      case rel => exact ⟨_, (true), (by rfl), H', ⟨by have := BJ.out; have := NV.out; omega⟩, ⟨kk Ba⟩, ⟨kk aa⟩, ⟨kk af⟩, ⟨kk BR⟩, ⟨kk ag⟩, ⟨bO HB⟩, ⟨fun h => by cases h⟩⟩
     ·
      rw [if_neg RD] at H;have a0W := decide_eq_false RD;clear RD
      by_cases c70 : ((yg l1 ae).f2.f1) < (wrap64 (t226 - yu))
      ·
       rw [if_pos c70] at H;have dZ := decide_eq_true c70;clear c70;have H' := yf.mk H;clear H;have a15 := aY.out;have a18 := ay.out;have XI := aN.out;have XJ := av.out;have a5p := bu.out;have a5q := az.out;have a19 := bg.out;have a1a := ax.out;have UG := AP ag;have UH := bf ag;have a1b := aG.out;have a1c := aD.out;have a0B := aj.out;have a0C := aQ.out;have Xb := bV.out;have Xc := dh.out;have a0D := AP Ba;have a0E := bf Ba;have a5r := aM.out;have a5s := ah.out;have a5t := aW.out;have a5u := bA.out;have ek := Gt af;have iD := bf af
       go_wp2
       go_meet
       case rel => exact ⟨_, (true), (by rfl), H', ⟨by have := BJ.out; have := NV.out; omega⟩, ⟨kk Ba⟩, ⟨kk aa⟩, ⟨kk af⟩, ⟨kk BR⟩, ⟨kk ag⟩, ⟨bO HB⟩, ⟨fun h => by cases h⟩⟩
      ·
       rw [if_neg c70] at H;have dZ := decide_eq_false c70;clear c70
       by_cases UI : ((yg l1 ae).f2.f1) ≥ t226
       ·
        rw [if_pos UI] at H;have XK := decide_eq_true UI;clear UI;have H' := yf.mk H;clear H;have a5v := aY.out;have a5w := ay.out;have gy := aN.out;have eG := av.out;have a5x := bu.out;have a5y := az.out;have gN := bg.out;have iq := ax.out;have gz := AP ag;have fe := bf ag;have fA := aG.out;have gI := aD.out;have eH := aj.out;have eZ := aQ.out;have a5z := bV.out;have a5A := dh.out;have iy := AP Ba;have fC := bf Ba;have a4J := aM.out;have a4K := ah.out;have fq := aW.out;have fP := bA.out;have a5B := Gt af;have a5C := bf af
        go_wp2
        go_meet
        case rel => exact ⟨_, (true), (by rfl), H', ⟨by have := BJ.out; have := NV.out; omega⟩, ⟨kk Ba⟩, ⟨kk aa⟩, ⟨kk af⟩, ⟨kk BR⟩, ⟨kk ag⟩, ⟨bO HB⟩, ⟨fun h => by cases h⟩⟩
       ·
        rw [if_neg UI] at H;have XK := decide_eq_false UI;clear UI;have H' := yf.mk H;clear H;have eu := aY.out;have fJ := ay.out;have gG := aN.out;have gQ := av.out;have eF := bu.out;have iw := az.out;have a5D := bg.out;have a5E := ax.out;have iG := AP ag;have fV := bf ag;have XL := aG.out;have XM := aD.out;have a3n := aj.out;have a3o := aQ.out;have XN := bV.out;have XO := dh.out;have a3p := AP Ba;have a3q := bf Ba;have fB := aM.out;have eQ := ah.out;have fT := aW.out;have iH := bA.out;have eT := Gt af;have eY := bf af;have dR := RA l1 ae Fh _ BR.out;simp only [Gx] at dR
        go_wp2
        go_meet
        case rel => exact ⟨_, (Jr l1 ae), (by rfl), H', ⟨by have := BJ.out; have := NV.out; omega⟩, ⟨kk Ba⟩, ⟨kk aa⟩, ⟨kk af⟩, ⟨kk BR⟩, ⟨kk ag⟩, ⟨bO HB⟩, ⟨fun h => by exact h⟩⟩
   case rest =>
    clear dw;obtain ⟨kq, bW, rfl, HA, dI, Ba, aa, af, BR, ag, HB, HSN⟩ := hcut
    cases kq with
    | zero => exact absurd HA.out (by simp [zb.j2])
    | succ dS =>
     have H := HA.out;clear HA;simp only [zb.j2] at H
     by_cases cK : bW = true
     ·
      subst cK;rw [if_pos rfl] at H;simp only [Option.some.injEq, Prod.mk.injEq] at H;obtain ⟨rfl, rfl, rfl, rfl, rfl, rfl, rfl, rfl⟩ := H;have a3r := aD.out;have a3s := aG.out;have XP := ah.out;have XQ := aM.out;have gU := bD.out;have iQ := bZ.out;have fM := av.out;have iK := aN.out;have a3t := Gt aa;have a3u := bf aa
      go_wp2
      refine bodyPost_ret (BS rfl _ _ au 71 #[.int .i64 0, .slice none 0 0, .int .i64 0, .int .i64 0, .slice none 0 0, .int .i64 0, .int .i64 0] (0, 0) _ rfl (CJ aa rfl) Try.underlying71 rfl (by kernel_rfl)) rfl ?_
      exact ⟨_, _, by rfl, by exact Kd.FM _ _ _ _ _, by exact Kd.FM _ _ _ _ _, bO HB⟩
     ·
      replace cK := Bool.eq_false_iff.mpr cK;subst cK
      rw [if_neg (show ¬ (false = true) by decide)] at H
      have H' := yf.mk H;clear H;obtain ⟨iL, fU, dU, cz⟩ := Vr l1 ae dH.out.1 dH.out.2 HR1.out.2.1 Fh _ BR.out (HSN.out rfl);have ic := AP ag;have ik := bf ag
      go_wp2
      replace Ba := yf.mk (zY Ba.out cz (fun e => bV.out (by injection e)))
      replace aa := yf.mk (zY aa.out cz (fun e => bD.out (by injection e)))
      replace af := yf.mk (zY af.out cz (fun e => aW.out (by injection e)))
      replace BR := yf.mk dU;replace HB := yf.mk (HB.out.grown cz HB.out.size (fun k hk => by injection hk with hk; subst hk; exact XB.out))
      go_roundg dS
      case measure => have := BJ.out; have := NV.out; have := dI.out; omega
      case rel => exact ⟨(wrap64 (ae + 1)), (aV), (aZ), (aU), (bn), (bi), (by rfl), H', ⟨by have := BJ.out; have := NV.out; have := dI.out; omega⟩, ⟨kk Ba⟩, ⟨kk aa⟩, ⟨kk af⟩, ⟨kk BR⟩, ⟨bO HB⟩⟩
end Go.Proofs.Ytjonnfmoocijlaa.P
