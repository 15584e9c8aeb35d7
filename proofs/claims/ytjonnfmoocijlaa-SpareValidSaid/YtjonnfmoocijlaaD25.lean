/- Texts of a claim, packed. -/
import Derived.Test.YtjonnfmoocijlaaD24
set_option linter.all false
namespace Go.Proofs.Ytjonnfmoocijlaa.P
open Go.RowKit Go.Proofs.YtjonnfmoocijlaaKW.PrintWords Go.Proofs.YtjonnfmoocijlaaKW.PrintLast Go.Proofs.YtjonnfmoocijlaaKW.PrintMore
attribute [local go_sem] zz zA zS zT zn zo zB zC
mutual
def yL.l0 : Nat → List (AY) → List (AY) → Int → Int → Int → List (List Int) → Int → Int → Int → List (List Int) → Int → Int → List (AY) → Int → Int → Option (Int × (List (List Int)) × Int × Int × (List (AY)) × Int × Int × Bool)
 | 0, _, _, _, _, _, _, _, _, _, _, _, _, _, _, _ => none
 | k + 1, x1, x27, x28, x29, ak, ax, au, av, ah, af, aj, ai, ag, aa, ae => if x29 < x28 then (if 0 ≤ x29 then (if x29 < (x27.length : Int) then ((D6.f ah af aj ai ag aa ae ((yh x27 x29).f0) ((yh x27 x29).f1)).bind fun ZQ => (if ZQ = true then (if x29 > 0 then (if 0 ≤ (wrap64 (x29 - 1)) then (if (wrap64 (x29 - 1)) < (x1.length : Int) then ((zW.f k ((yh x1 (wrap64 (x29 - 1))).f0) ((yh x1 (wrap64 (x29 - 1))).f1) ((yh x1 (wrap64 (x29 - 1))).f2.f0) ((yh x1 (wrap64 (x29 - 1))).f2.f1) ((yh x27 x29).f0) ((yh x27 x29).f1)).bind fun t233 => (yL.j1 k x1 x27 x28 x29 (decide (t233 ≥ 0)) ak ax au av ah af aj ai ag aa ae ((yh x27 x29).f0) ((yh x27 x29).f1) ((yh x27 x29).f2.f0) ((yh x27 x29).f2.f1))) else (none)) else (none)) else (yL.j1 k x1 x27 x28 x29 false ak ax au av ah af aj ai ag aa ae ((yh x27 x29).f0) ((yh x27 x29).f1) ((yh x27 x29).f2.f0) ((yh x27 x29).f2.f1))) else (some (0, ([] : List (List Int)), 0, 0, ([] : List (AY)), 0, 0, false)))) else (none)) else (none)) else (yL.l1 k x1 (x1.length : Int) 0 ah af aj ai ag aa ae)
def yL.j1 : Nat → List (AY) → List (AY) → Int → Int → Bool → Int → List (List Int) → Int → Int → Int → List (List Int) → Int → Int → List (AY) → Int → Int → Int → Int → Int → Int → Option (Int × (List (List Int)) × Int × Int × (List (AY)) × Int × Int × Bool)
 | 0, _, _, _, _, _, _, _, _, _, _, _, _, _, _, _, _, _, _, _, _ => none
 | k + 1, x1, x27, x28, x29, aA, ak, ax, au, av, ah, af, aj, ai, ag, aa, ae, aC, aD, ay, az => if aA = true then (some (0, ([] : List (List Int)), 0, 0, ([] : List (AY)), 0, 0, false)) else (if ay < 0 then (yL.j2 k x1 x27 x28 x29 true ak ax au av ah af aj ai ag aa ae) else (if ay ≥ ak then (yL.j2 k x1 x27 x28 x29 true ak ax au av ah af aj ai ag aa ae) else (if az < aa then (yL.j2 k x1 x27 x28 x29 true ak ax au av ah af aj ai ag aa ae) else (if az ≥ ae then (yL.j2 k x1 x27 x28 x29 true ak ax au av ah af aj ai ag aa ae) else (yL.j2 k x1 x27 x28 x29 (I4 x27 x29) ak ax au av ah af aj ai ag aa ae)))))
def yL.j2 : Nat → List (AY) → List (AY) → Int → Int → Bool → Int → List (List Int) → Int → Int → Int → List (List Int) → Int → Int → List (AY) → Int → Int → Option (Int × (List (List Int)) × Int × Int × (List (AY)) × Int × Int × Bool)
 | 0, _, _, _, _, _, _, _, _, _, _, _, _, _, _, _, _ => none
 | k + 1, x1, x27, x28, x29, x93, ak, ax, au, av, ah, af, aj, ai, ag, aa, ae => if x93 = true then (some (0, ([] : List (List Int)), 0, 0, ([] : List (AY)), 0, 0, false)) else (yL.l0 k x1 x27 x28 (wrap64 (x29 + 1)) ak ax au av ah af aj ai ag aa ae)
def yL.l1 : Nat → List (AY) → Int → Int → Int → List (List Int) → Int → Int → List (AY) → Int → Int → Option (Int × (List (List Int)) × Int × Int × (List (AY)) × Int × Int × Bool)
 | 0, _, _, _, _, _, _, _, _, _, _ => none
 | k + 1, x99, x100, x101, ah, af, aj, ai, ag, aa, ae => if x101 < x100 then (if 0 ≤ x101 then (if x101 < (x99.length : Int) then ((Ac.f k ah af aj ai ag aa ae ((yh x99 x101).f0)).bind fun t236 => (if t236 = true then (yL.l1 k x99 x100 (wrap64 (x101 + 1)) ah af aj ai ag aa ae) else (some (0, ([] : List (List Int)), 0, 0, ([] : List (AY)), 0, 0, false)))) else (none)) else (none)) else (some (ah, af, aj, ai, ag, aa, ae, true))
end
def yL.f (k : Nat) (yn : Int) (yg : List (List Int)) (yo : Int) (yt : Int) (l1 : List (AY)) : Option (Int × (List (List Int)) × Int × Int × (List (AY)) × Int × Int × Bool) := (zF.f k yn yg yo yt).bind fun t226 => (if t226 = 0 then (some (0, ([] : List (List Int)), 0, 0, ([] : List (AY)), 0, 0, false)) else (yL.l0 k l1 l1 (l1.length : Int) 0 yn yg yo yt yn yg yo yt l1 (wrap64 (t226 - yt)) t226))
theorem yL.mono_l : ∀ k, (∀ y0 y1 y2 y3 y4 y5 y6 y7 y8 y9 JL LM LP y13 Qu, zZ (yL.l0 k y0 y1 y2 y3 y4 y5 y6 y7 y8 y9 JL LM LP y13 Qu) (yL.l0 (k + 1) y0 y1 y2 y3 y4 y5 y6 y7 y8 y9 JL LM LP y13 Qu)) ∧ (∀ y0 y1 y2 y3 y4 y5 y6 y7 y8 y9 JL LM LP y13 Qu aa af ah ag ae, zZ (yL.j1 k y0 y1 y2 y3 y4 y5 y6 y7 y8 y9 JL LM LP y13 Qu aa af ah ag ae) (yL.j1 (k + 1) y0 y1 y2 y3 y4 y5 y6 y7 y8 y9 JL LM LP y13 Qu aa af ah ag ae)) ∧ (∀ y0 y1 y2 y3 y4 y5 y6 y7 y8 y9 JL LM LP y13 Qu aa, zZ (yL.j2 k y0 y1 y2 y3 y4 y5 y6 y7 y8 y9 JL LM LP y13 Qu aa) (yL.j2 (k + 1) y0 y1 y2 y3 y4 y5 y6 y7 y8 y9 JL LM LP y13 Qu aa)) ∧ (∀ y0 y1 y2 y3 y4 y5 y6 y7 y8 y9, zZ (yL.l1 k y0 y1 y2 y3 y4 y5 y6 y7 y8 y9) (yL.l1 (k + 1) y0 y1 y2 y3 y4 y5 y6 y7 y8 y9))
 | 0 => ⟨fun _ _ _ _ _ _ _ _ _ _ _ _ _ _ _ r h => by simp [yL.l0] at h, fun _ _ _ _ _ _ _ _ _ _ _ _ _ _ _ _ _ _ _ _ r h => by simp [yL.j1] at h, fun _ _ _ _ _ _ _ _ _ _ _ _ _ _ _ _ r h => by simp [yL.j2] at h, fun _ _ _ _ _ _ _ _ _ _ r h => by simp [yL.l1] at h⟩
 | k + 1 => by
  obtain ⟨DN, ih1, ih2, ih3⟩ := yL.mono_l k
  refine ⟨?_, ?_, ?_, ?_⟩
  ·
   intro y0 y1 y2 y3 y4 y5 y6 y7 y8 y9 JL LM LP y13 Qu
   unfold yL.l0
   repeat' first
   | exact DN _ _ _ _ _ _ _ _ _ _ _ _ _ _ _
   | exact ih1 _ _ _ _ _ _ _ _ _ _ _ _ _ _ _ _ _ _ _ _
   | exact ih2 _ _ _ _ _ _ _ _ _ _ _ _ _ _ _ _
   | exact ih3 _ _ _ _ _ _ _ _ _ _
   | exact zF.mono _ _ _ _ _
   | exact zW.mono _ _ _ _ _ _ _
   | exact Ac.mono _ _ _ _ _ _ _ _ _
   | exact zZ.refl _
   | exact zZ.none _
   | refine zZ.ite ?_ ?_
   | refine zZ.bind ?_ (fun _ => ?_)
  ·
   intro y0 y1 y2 y3 y4 y5 y6 y7 y8 y9 JL LM LP y13 Qu aa af ah ag ae
   unfold yL.j1
   repeat' first
   | exact DN _ _ _ _ _ _ _ _ _ _ _ _ _ _ _
   | exact ih1 _ _ _ _ _ _ _ _ _ _ _ _ _ _ _ _ _ _ _ _
   | exact ih2 _ _ _ _ _ _ _ _ _ _ _ _ _ _ _ _
   | exact ih3 _ _ _ _ _ _ _ _ _ _
   | exact zF.mono _ _ _ _ _
   | exact zW.mono _ _ _ _ _ _ _
   | exact Ac.mono _ _ _ _ _ _ _ _ _
   | exact zZ.refl _
   | exact zZ.none _
   | refine zZ.ite ?_ ?_
   | refine zZ.bind ?_ (fun _ => ?_)
  ·
   intro y0 y1 y2 y3 y4 y5 y6 y7 y8 y9 JL LM LP y13 Qu aa
   unfold yL.j2
   repeat' first
   | exact DN _ _ _ _ _ _ _ _ _ _ _ _ _ _ _
   | exact ih1 _ _ _ _ _ _ _ _ _ _ _ _ _ _ _ _ _ _ _ _
   | exact ih2 _ _ _ _ _ _ _ _ _ _ _ _ _ _ _ _
   | exact ih3 _ _ _ _ _ _ _ _ _ _
   | exact zF.mono _ _ _ _ _
   | exact zW.mono _ _ _ _ _ _ _
   | exact Ac.mono _ _ _ _ _ _ _ _ _
   | exact zZ.refl _
   | exact zZ.none _
   | refine zZ.ite ?_ ?_
   | refine zZ.bind ?_ (fun _ => ?_)
  ·
   intro y0 y1 y2 y3 y4 y5 y6 y7 y8 y9
   unfold yL.l1
   repeat' first
   | exact DN _ _ _ _ _ _ _ _ _ _ _ _ _ _ _
   | exact ih1 _ _ _ _ _ _ _ _ _ _ _ _ _ _ _ _ _ _ _ _
   | exact ih2 _ _ _ _ _ _ _ _ _ _ _ _ _ _ _ _
   | exact ih3 _ _ _ _ _ _ _ _ _ _
   | exact zF.mono _ _ _ _ _
   | exact zW.mono _ _ _ _ _ _ _
   | exact Ac.mono _ _ _ _ _ _ _ _ _
   | exact zZ.refl _
   | exact zZ.none _
   | refine zZ.ite ?_ ?_
   | refine zZ.bind ?_ (fun _ => ?_)
theorem yL.mono : ∀ a0 a1 a2 a3 a4 k, zZ (yL.f k a0 a1 a2 a3 a4) (yL.f (k + 1) a0 a1 a2 a3 a4) := by
 intro a0 a1 a2 a3 a4 k
 obtain ⟨DN, ih1, ih2, ih3⟩ := yL.mono_l k
 unfold yL.f
 repeat' first
  | exact DN _ _ _ _ _ _ _ _ _ _ _ _ _ _ _
  | exact ih1 _ _ _ _ _ _ _ _ _ _ _ _ _ _ _ _ _ _ _ _
  | exact ih2 _ _ _ _ _ _ _ _ _ _ _ _ _ _ _ _
  | exact ih3 _ _ _ _ _ _ _ _ _ _
  | exact zF.mono _ _ _ _ _
  | exact zW.mono _ _ _ _ _ _ _
  | exact Ac.mono _ _ _ _ _ _ _ _ _
  | exact zZ.refl _
  | exact zZ.none _
  | refine zZ.ite ?_ ?_
  | refine zZ.bind ?_ (fun _ => ?_)
def yL.T11 : Bool × List (List Nat × List Nat) := (true, [([], []), ([0], [0]), ([1], [1]), ([2], [2]), ([2], [2]), ([4, 2], [2, 4]), ([3, 5, 2], [2, 3, 5]), ([6, 2], [2, 6]), ([2], [2]), ([8, 2], [2, 8]), ([2], [2]), ([10, 2], [2, 10]), ([9, 11, 2], [2, 9, 11]), ([7, 12, 2, 2], [2, 7, 12]), ([13, 2], [2, 13]), ([2, 14], [2, 14])])
def yL.B11 : List Nat := [0, 1, 3, 7, 7, 23, 63, 127, 7, 263, 7, 1031, 3847, 8191, 16383, 32767]
theorem yL.Ym : CX .any (opsOf Try.f33 11) = yL.T11 := by kernel_rfl
theorem yL.Vt : Bi yL.T11.2 yL.B11 = true := by kernel_rfl
set_option maxHeartbeats 8000000 in
set_option maxRecDepth 100000 in
theorem yL.calls (k : Nat) (yn : Int) (EK : Nat → Prop) (yP : Option Addr) (yI : Nat) (yg : List (List Int)) (yo : Int) (yt : Int) (dF : Nat → Prop) (A1 : Option Addr) (c1 : Nat) (l1 : List (AY)) (r1 : Int) (r2 : List (List Int)) (r3 : Int) (r4 : Int) (r5 : List (AY)) (r6 : Int) (r7 : Int) (r8 : Bool) (w : World) (IE : Kd.V (Kd.slice 3 (Kd.int .i64)) 63 w w.heap.size (fun k_ => EK k_) (.slice yP yg.length yI) yg) (hs1 : Kd.V Dy 47 w w.heap.size (fun k_ => dF k_) (.slice A1 l1.length c1) l1) (h : yL.f k yn yg yo yt l1 = some (r1, r2, r3, r4, r5, r6, r7, r8)) :
  Calls Try.prog 33 #[.agg #[.int .i64 yn, .slice yP yg.length yI, .int .i64 yo, .int .i64 yt], .slice A1 l1.length c1] w fun e w' => ∃ Rc dK : Value, e = .returned (.tuple #[.agg #[.int .i64 r1, Rc, .int .i64 r3, .int .i64 r4, dK, .int .i64 r6, .int .i64 r7], .bool r8]) ∧ Kd.V (Kd.slice 3 (Kd.int .i64)) 63 w' w.heap.size (fun k_ => ((EK k_ ∨ dF k_) ∨ w.heap.size ≤ k_)) Rc r2 ∧ Kd.V Dy 47 w' w.heap.size (fun k_ => ((EK k_ ∨ dF k_) ∨ w.heap.size ≤ k_)) dK r5 ∧ Below w.heap.size w w' := by
 have FB := Try.underlying31;have KF := Try.underlying71;have Lv := Try.underlying38;have Pf := Try.underlying47;have QE := Try.underlying81;have HS0 := yf.mk IE;have dX := yf.mk hs1;have zR := (Kd.zx IE).2.2;have zU := (Kd.zx IE).2.1;have hr1 := (Kd.zx hs1).2.2;have hc1 := (Kd.zx hs1).2.1;clear IE hs1;have zq := yf.mk zR;have zG := yf.mk zU;clear zR zU;have HR1 := yf.mk hr1;have Gd := yf.mk hc1;clear hr1 hc1;have jT := @run_makeMap Try.prog;have HB := yf.mk (Below.refl w.heap.size w)
 have H : ((zF.f k yn yg yo yt).bind fun t226 => (if t226 = 0 then (some (0, ([] : List (List Int)), 0, 0, ([] : List (AY)), 0, 0, false)) else (yL.l0 k l1 l1 (l1.length : Int) 0 yn yg yo yt yn yg yo yt l1 (wrap64 (t226 - yt)) t226))) = some (r1, r2, r3, r4, r5, r6, r7, r8) := h
 clear h;obtain ⟨t226, A3, H⟩ := bE H
 try dsimp only at H
 by_cases c4 : t226 = 0
 ·
  rw [if_pos c4] at H;have Ex := beq_iff_eq.mpr c4
  have KA : (t226 != 0) = false := bne_eq_false_iff_eq.mpr c4
  clear c4;simp only [Option.some.injEq, Prod.mk.injEq] at H;obtain ⟨rfl, rfl, rfl, rfl, rfl, rfl, rfl, rfl⟩ := H
  go_enter Try.func33, Try.ntmps33
  go_wp2_with (first | ((with_reducible refine yK (N := 2) rfl ?_); refine yE rfl (N := 2) rfl (cs := #[.int .i64 yn, .slice yP yg.length yI, .int .i64 yo, .int .i64 yt]) (t := 31) (by go_simp) ?_; intro D5 hg w5 yG hb; have Ak := yf.mk (yG); have Yh := bG (w := w) hg; have Yi := bG (w := w) hg; replace HB := bS HB hb; clear hb yG hg) | ((with_reducible refine yK (N := 4) rfl ?_); refine yE rfl (N := 4) rfl (cs := #[.int .i64 0, .slice none 0 0, .int .i64 0, .int .i64 0, .slice none 0 0, .int .i64 0, .int .i64 0]) (t := 71) (by go_simp) ?_; intro au hg w6 yG hb; have aa := yf.mk (yG); have dQ := bG (w := w) hg; have dR := bG (w := w) hg; have aD := BL Ak hg; have aG := Ag Ak hg; replace Ak := bB Ak hb; replace HB := bS HB hb; clear hb yG hg; have Zg := aD.out; have Zh := aG.out; have Ox := AR Ak; have Oy := bf Ak) | ((with_reducible refine yB (f := 45) rfl ?_); refine gL (some 14) Try.func45 #[.agg #[.int .i64 yn, .slice yP yg.length yI, .int .i64 yo, .int .i64 yt]] ?_; (with_reducible refine (zF.calls k yn _ _ yg yo yt t226 _ ?yF ?yM A3.out).mono ?_); (case yF => exact Da zq); (case yM => exact zG.out); rintro e w9 ⟨rfl, hb⟩; refine ⟨_, rfl, ?_⟩; replace Ak := bB Ak hb; replace aa := bB aa hb; replace HB := bS HB hb; clear hb; have Ve := EP aa; have Vf := bf aa))
  refine bodyPost_ret (Bg rfl _ _ au 71 #[.int .i64 0, .slice none 0 0, .int .i64 0, .int .i64 0, .slice none 0 0, .int .i64 0, .int .i64 0] (0, 0) _ rfl (CF aa rfl) Try.underlying71 rfl (by kernel_rfl)) rfl ?_
  exact ⟨_, _, by rfl, by exact Kd.EJ _ _ _ _ _, by exact Kd.EJ _ _ _ _ _, bO HB⟩
 rw [if_neg c4] at H;have Ex := beq_eq_false_iff_ne.mpr c4;have KA := bne_iff_ne.mpr c4;have H' := yf.mk H;clear H
 go_enter Try.func33, Try.ntmps33
 go_wp2_with (first | ((with_reducible refine yK (N := 2) rfl ?_); refine yE rfl (N := 2) rfl (cs := #[.int .i64 yn, .slice yP yg.length yI, .int .i64 yo, .int .i64 yt]) (t := 31) (by go_simp) ?_; intro D5 hg w11 yG hb; have Ak := yf.mk (yG); have Yh := bG (w := w) hg; have Yi := bG (w := w) hg; replace HB := bS HB hb; clear hb yG hg) | ((with_reducible refine yK (N := 4) rfl ?_); refine yE rfl (N := 4) rfl (cs := #[.int .i64 0, .slice none 0 0, .int .i64 0, .int .i64 0, .slice none 0 0, .int .i64 0, .int .i64 0]) (t := 71) (by go_simp) ?_; intro au hg w12 yG hb; have aa := yf.mk (yG); have dQ := bG (w := w) hg; have dR := bG (w := w) hg; have aD := BL Ak hg; have aG := Ag Ak hg; replace Ak := bB Ak hb; replace HB := bS HB hb; clear hb yG hg; have Yn := aD.out; have Yo := aG.out; have LQ := AR Ak; have LU := bf Ak) | ((with_reducible refine yB (f := 45) rfl ?_); refine gL (some 14) Try.func45 #[.agg #[.int .i64 yn, .slice yP yg.length yI, .int .i64 yo, .int .i64 yt]] ?_; (with_reducible refine (zF.calls k yn _ _ yg yo yt t226 _ ?yF ?yM A3.out).mono ?_); (case yF => exact Da zq); (case yM => exact zG.out); rintro e w15 ⟨rfl, hb⟩; refine ⟨_, rfl, ?_⟩; replace Ak := bB Ak hb; replace aa := bB aa hb; replace HB := bS HB hb; clear hb; have JZ := AR Ak; have K3 := bf Ak) | ((with_reducible refine yK (N := 7) rfl ?_); refine yE rfl (N := 7) rfl (cs := #[.int .i64 0, .slice none 0 0, .int .i64 0, .int .i64 0, .slice none 0 0, .int .i64 0, .int .i64 0]) (t := 71) (by go_simp) ?_; intro aC hg w17 yG hb; have af := yf.mk (yG); have iN := bG (w := w) hg; have gZ := bG (w := w) hg; have aj := BL Ak hg; have aQ := Ag Ak hg; have ah := BL aa hg; have aM := Ag aa hg; replace Ak := bB Ak hb; replace aa := bB aa hb; replace HB := bS HB hb; clear hb yG hg; have a1F := aQ.out; have a1G := aj.out; have a1M := aM.out; have a1N := ah.out; have UC := EP af; have UD := bf af) | ((with_reducible refine yK (N := 26) rfl ?_); refine Tq ?hg (N := 26) ?hd l1 ?hr ?_; (case hd => rfl); (case hg => rfl); (case hr => go_simp); intro Eo hg w21 yG hb; have Bt := yf.mk (yX (g := D5) (o := .cells #[.int .i64 yn, .slice yP yg.length yI, .int .i64 yo, .int .i64 yt] 31 (0, 0)) (by refine kp ?_; refine yU ?_ aj.out _; refine kp ?_; refine yU ?_ aj.out _; refine kp ?_; refine yU ?_ aj.out _; refine kp ?_; refine yU ?_ aj.out _; refine kp ?_; refine yU ?_ aj.out _; refine kp ?_; refine yU ?_ aj.out _; refine kp ?_; refine yU ?_ aj.out _; refine kp ?_; exact Ak.out) hb); have Bu := yf.mk (yX (g := au) (o := .cells #[.int .i64 0, .slice none 0 0, .int .i64 0, .int .i64 0, .slice none 0 0, .int .i64 0, .int .i64 0] 71 (0, 0)) (by refine kp ?_; refine yU ?_ ah.out _; refine kp ?_; refine yU ?_ ah.out _; refine kp ?_; refine yU ?_ ah.out _; refine kp ?_; refine yU ?_ ah.out _; refine kp ?_; refine yU ?_ ah.out _; refine kp ?_; refine yU ?_ ah.out _; refine kp ?_; refine yU ?_ ah.out _; refine kp ?_; exact aa.out) hb); have BJ := yf.mk (yX (g := aC) (o := .cells #[.int .i64 yn, .slice yP yg.length yI, .int .i64 yo, .int .i64 yt, .slice A1 l1.length c1, .int .i64 (wrap64 (t226 - yt)), .int .i64 t226] 71 (0, 0)) (CF af rfl) hb); have Cs := bS HB hb; have CJ := yf.mk (yG); have Db := bG (w := w) hg; have Ec := bG (w := w) hg; have En := yf.mk ((by rw [hg]; exact Nat.ne_of_lt (Ea (g := D5) (o := .cells #[.int .i64 yn, .slice yP yg.length yI, .int .i64 yo, .int .i64 yt] 31 (0, 0)) (by refine kp ?_; refine yU ?_ aj.out _; refine kp ?_; refine yU ?_ aj.out _; refine kp ?_; refine yU ?_ aj.out _; refine kp ?_; refine yU ?_ aj.out _; refine kp ?_; refine yU ?_ aj.out _; refine kp ?_; refine yU ?_ aj.out _; refine kp ?_; refine yU ?_ aj.out _; refine kp ?_; exact Ak.out)) : D5 ≠ Eo)); have EB := yf.mk ((by rw [hg]; exact Nat.ne_of_gt (Ea (g := D5) (o := .cells #[.int .i64 yn, .slice yP yg.length yI, .int .i64 yo, .int .i64 yt] 31 (0, 0)) (by refine kp ?_; refine yU ?_ aj.out _; refine kp ?_; refine yU ?_ aj.out _; refine kp ?_; refine yU ?_ aj.out _; refine kp ?_; refine yU ?_ aj.out _; refine kp ?_; refine yU ?_ aj.out _; refine kp ?_; refine yU ?_ aj.out _; refine kp ?_; refine yU ?_ aj.out _; refine kp ?_; exact Ak.out)) : Eo ≠ D5)); have EC := yf.mk ((by rw [hg]; exact Nat.ne_of_lt (Ea (g := au) (o := .cells #[.int .i64 0, .slice none 0 0, .int .i64 0, .int .i64 0, .slice none 0 0, .int .i64 0, .int .i64 0] 71 (0, 0)) (by refine kp ?_; refine yU ?_ ah.out _; refine kp ?_; refine yU ?_ ah.out _; refine kp ?_; refine yU ?_ ah.out _; refine kp ?_; refine yU ?_ ah.out _; refine kp ?_; refine yU ?_ ah.out _; refine kp ?_; refine yU ?_ ah.out _; refine kp ?_; refine yU ?_ ah.out _; refine kp ?_; exact aa.out)) : au ≠ Eo)); have Ct := yf.mk ((by rw [hg]; exact Nat.ne_of_gt (Ea (g := au) (o := .cells #[.int .i64 0, .slice none 0 0, .int .i64 0, .int .i64 0, .slice none 0 0, .int .i64 0, .int .i64 0] 71 (0, 0)) (by refine kp ?_; refine yU ?_ ah.out _; refine kp ?_; refine yU ?_ ah.out _; refine kp ?_; refine yU ?_ ah.out _; refine kp ?_; refine yU ?_ ah.out _; refine kp ?_; refine yU ?_ ah.out _; refine kp ?_; refine yU ?_ ah.out _; refine kp ?_; refine yU ?_ ah.out _; refine kp ?_; exact aa.out)) : Eo ≠ au)); have CL := yf.mk ((by rw [hg]; exact Nat.ne_of_lt (Ea (g := aC) (o := .cells #[.int .i64 yn, .slice yP yg.length yI, .int .i64 yo, .int .i64 yt, .slice A1 l1.length c1, .int .i64 (wrap64 (t226 - yt)), .int .i64 t226] 71 (0, 0)) (CF af rfl)) : aC ≠ Eo)); have D9 := yf.mk ((by rw [hg]; exact Nat.ne_of_gt (Ea (g := aC) (o := .cells #[.int .i64 yn, .slice yP yg.length yI, .int .i64 yo, .int .i64 yt, .slice A1 l1.length c1, .int .i64 (wrap64 (t226 - yt)), .int .i64 t226] 71 (0, 0)) (CF af rfl)) : Eo ≠ aC)); clear Ak; clear aa; clear af; clear HB; have Ak := Bt; have aa := Bu; have af := BJ; have HB := Cs; have Ba := CJ; have Vu := Db; have Yp := Ec; have bT := En; have dw := EB; have bH := EC; have cu := Ct; have aY := CL; have bA := D9; clear Bt Bu BJ Cs CJ Db Ec En EB EC Ct CL D9; clear hb yG hg))
 go_loopg [29] k (fun kq v29 w' => ∃ (ae : Int) (bu : Int) (aX : Int) (aW : Int) (bg : Int) (bq : Int), v29 = .int .i64 ae ∧ yf (yL.l0 kq l1 l1 (l1.length : Int) ae yn yg yo yt yn yg yo yt l1 (wrap64 (t226 - yt)) t226 = some (r1, r2, r3, r4, r5, r6, r7, r8)) ∧ yf (kq ≤ k) ∧ yf (w'.heap[D5]? = some (.cells #[.int .i64 yn, (.slice yP yg.length yI), .int .i64 yo, .int .i64 yt] 31 (0, 0))) ∧ yf (w'.heap[au]? = some (.cells #[.int .i64 bu, (.slice none 0 0), .int .i64 aX, .int .i64 aW, (.slice none 0 0), .int .i64 bg, .int .i64 bq] 71 (0, 0))) ∧ yf (w'.heap[aC]? = some (.cells #[.int .i64 yn, (.slice yP yg.length yI), .int .i64 yo, .int .i64 yt, (.slice A1 l1.length c1), .int .i64 (wrap64 (t226 - yt)), .int .i64 t226] 71 (0, 0))) ∧ yf (w'.heap[Eo]? = some (Dg l1 ae)) ∧ yf (Below w.heap.size w w'))
 case atStart => exact ⟨(0), (0), (0), (0), (0), (0), (by rfl), H', ⟨Nat.le_refl _⟩, ⟨kk Ak⟩, ⟨kk aa⟩, ⟨kk af⟩, ⟨kk Ba⟩, ⟨bO HB⟩⟩
 case round =>
 clear H' c4 Ex KA LQ JZ UC LU K3 UD;obtain ⟨ae, bu, aX, aW, bg, bq, rfl, HA, BZ, Ak, aa, af, Ba, HB⟩ := hrel
 cases gk with
 | zero => exact absurd HA.out (by simp [yL.l0])
 | succ k1 =>
 have H := HA.out;clear HA;simp only [yL.l0] at H
 by_cases Ha : ae < (l1.length : Int)
 rotate_left
 ·
  rw [if_neg Ha] at H;have IB := decide_eq_false Ha;clear Ha;have H' := yf.mk H;clear H
  go_wp2
  go_loopg [101] k1 (fun kq v101 w' => ∃ (ak : Int) (bP : Int) (bN : Int) (bW : Int) (bQ : Int) (bU : Int), v101 = .int .i64 ak ∧ yf (yL.l1 kq l1 (l1.length : Int) ak yn yg yo yt l1 (wrap64 (t226 - yt)) t226 = some (r1, r2, r3, r4, r5, r6, r7, r8)) ∧ yf (kq ≤ k1) ∧ yf (w'.heap[D5]? = some (.cells #[.int .i64 yn, (.slice yP yg.length yI), .int .i64 yo, .int .i64 yt] 31 (0, 0))) ∧ yf (w'.heap[au]? = some (.cells #[.int .i64 bP, (.slice none 0 0), .int .i64 bN, .int .i64 bW, (.slice none 0 0), .int .i64 bQ, .int .i64 bU] 71 (0, 0))) ∧ yf (w'.heap[aC]? = some (.cells #[.int .i64 yn, (.slice yP yg.length yI), .int .i64 yo, .int .i64 yt, (.slice A1 l1.length c1), .int .i64 (wrap64 (t226 - yt)), .int .i64 t226] 71 (0, 0))) ∧ yf (w'.heap[Eo]? = some (Dg l1 ae)) ∧ yf (Below w.heap.size w w'))
  case atStart => exact ⟨(0), (bu), (aX), (aW), (bg), (bq), (by rfl), H', ⟨Nat.le_refl _⟩, ⟨kk Ak⟩, ⟨kk aa⟩, ⟨kk af⟩, ⟨kk Ba⟩, ⟨bO HB⟩⟩
  case round =>
  clear H' IB;obtain ⟨ak, bP, bN, bW, bQ, bU, rfl, HA, DU, Ak, aa, af, Ba, HB⟩ := hrel
  cases gk with
  | zero => exact absurd HA.out (by simp [yL.l1])
  | succ k2 =>
   have H := HA.out;clear HA;simp only [yL.l1] at H
   by_cases bL : ak < (l1.length : Int)
   ·
    rw [if_pos bL] at H;have dP := decide_eq_true bL;clear bL
    by_cases di : 0 ≤ ak
    ·
     rw [if_pos di] at H;have iX := decide_eq_true di;clear di
     by_cases c130 : ak < (l1.length : Int)
     ·
      rw [if_pos c130] at H;have iZ := decide_eq_true c130;clear c130;obtain ⟨t236, dI, H⟩ := bE H
      try dsimp only at H
      by_cases dh : t236 = true
      ·
       subst dh;rw [if_pos rfl] at H;have H' := yf.mk H;clear H
       have bC : 0 ≤ (ak : Int) := of_decide_eq_true ‹_›
       have bv : ak < (l1.length : Int) := of_decide_eq_true ‹_›
       obtain ⟨bX, e234, bV, bY, cz, bR⟩ := Cb HR1.out ak bC bv;cases e234;replace bV := cB HB bV;replace bY := cB HB bY;replace cz := cB HB cz;replace bR := cB HB bR;replace bC := eq_true bC;replace bv := eq_true bv
       go_wp2_with (first | ((with_reducible refine yK (N := 12) rfl ?_); refine yE rfl (N := 12) rfl (cs := #[.int .i64 0, .int .i64 0, .int .i64 0, .int .i64 0]) (t := 47) (by go_simp) ?_; intro Ej hg w133 yG hb; have AB := yf.mk (yG); have Kq := bG (w := w) hg; have RS := bG (w := w) hg; have aK := BL Ak hg; have dz := Ag Ak hg; have aH := BL aa hg; have dE := Ag aa hg; have aI := BL af hg; have dB := Ag af hg; have aJ := BL Ba hg; have dx := Ag Ba hg; replace Ak := bB Ak hb; replace aa := bB aa hb; replace af := bB af hb; replace Ba := bB Ba hb; replace HB := bS HB hb; clear hb yG hg; have kv := dz.out; have jV := aK.out; have gY := dE.out; have eP := aH.out; have jZ := dB.out; have eU := aI.out; have jP := dx.out; have jo := aJ.out; have fE := AR AB; have jg := bf AB; have ja := aQ.out; have jU := aj.out; have ZR := aM.out; have ZT := ah.out; have ZU := aY.out; have ZV := bA.out; have ZW := EP af; have ZX := bf af) | ((with_reducible refine yB (f := 46) rfl ?_); refine gL (some 108) Try.func46 #[.agg #[.int .i64 yn, .slice yP yg.length yI, .int .i64 yo, .int .i64 yt, .slice (some bX) l1.length c1, .int .i64 (wrap64 (t226 - yt)), .int .i64 t226], .int .i64 ((yh l1 ak).f0)] ?_; (with_reducible refine (Ac.calls k2 yn _ _ yg yo yt _ _ l1 (wrap64 (t226 - yt)) t226 ((yh l1 ak).f0) true _ ?yF ?yM ?zI ?zJ dI.out).mono ?_); (case yF => exact Kd.Ci zq.out (bO HB)); (case yM => exact zG.out); (case zI => exact Kd.Ci HR1.out (bO HB)); (case zJ => exact Gd.out); rintro e w143 ⟨rfl, hb⟩; refine ⟨_, rfl, ?_⟩; replace Ak := yf.mk (yX (g := D5) (o := .cells #[.int .i64 yn, .slice yP yg.length yI, .int .i64 yo, .int .i64 yt] 31 (0, 0)) (by refine kp ?_; refine yU ?_ aK.out _; refine kp ?_; refine yU ?_ aK.out _; refine kp ?_; refine yU ?_ aK.out _; refine kp ?_; refine yU ?_ aK.out _; refine kp ?_; exact Ak.out) hb); replace aa := yf.mk (yX (g := au) (o := .cells #[.int .i64 bP, .slice none 0 0, .int .i64 bN, .int .i64 bW, .slice none 0 0, .int .i64 bQ, .int .i64 bU] 71 (0, 0)) (by refine kp ?_; refine yU ?_ aH.out _; refine kp ?_; refine yU ?_ aH.out _; refine kp ?_; refine yU ?_ aH.out _; refine kp ?_; refine yU ?_ aH.out _; refine kp ?_; exact aa.out) hb); replace af := yf.mk (yX (g := aC) (o := .cells #[.int .i64 yn, .slice yP yg.length yI, .int .i64 yo, .int .i64 yt, .slice (some bX) l1.length c1, .int .i64 (wrap64 (t226 - yt)), .int .i64 t226] 71 (0, 0)) (by refine kp ?_; refine yU ?_ aI.out _; refine kp ?_; refine yU ?_ aI.out _; refine kp ?_; refine yU ?_ aI.out _; refine kp ?_; refine yU ?_ aI.out _; refine kp ?_; exact af.out) hb); replace Ba := yf.mk (yX (g := Eo) (o := Dg l1 ae) (by refine kp ?_; refine yU ?_ aJ.out _; refine kp ?_; refine yU ?_ aJ.out _; refine kp ?_; refine yU ?_ aJ.out _; refine kp ?_; refine yU ?_ aJ.out _; refine kp ?_; exact Ba.out) hb); replace AB := yf.mk (yX (g := Ej) (o := .cells #[.int .i64 ((yh l1 ak).f0), .int .i64 ((yh l1 ak).f1), .int .i64 ((yh l1 ak).f2.f0), .int .i64 ((yh l1 ak).f2.f1)] 47 (0, 0)) (CF AB rfl) hb); replace HB := bS HB hb; clear hb))
       go_roundg k2
       case measure => have := BZ.out; have := DU.out; omega
       case rel => exact ⟨(wrap64 (ak + 1)), (bP), (bN), (bW), (bQ), (bU), (by rfl), H', ⟨by have := BZ.out; have := DU.out; omega⟩, ⟨kk Ak⟩, ⟨kk aa⟩, ⟨kk af⟩, ⟨kk Ba⟩, ⟨bO HB⟩⟩
      ·
       replace dh := Bool.eq_false_iff.mpr dh;subst dh
       rw [if_neg (show ¬ (false = true) by decide)] at H
       simp only [Option.some.injEq, Prod.mk.injEq] at H;obtain ⟨rfl, rfl, rfl, rfl, rfl, rfl, rfl, rfl⟩ := H
       have bC : 0 ≤ (ak : Int) := of_decide_eq_true ‹_›
       have bv : ak < (l1.length : Int) := of_decide_eq_true ‹_›
       obtain ⟨bX, e234, bV, bY, cz, bR⟩ := Cb HR1.out ak bC bv;cases e234;replace bV := cB HB bV;replace bY := cB HB bY;replace cz := cB HB cz;replace bR := cB HB bR;replace bC := eq_true bC;replace bv := eq_true bv
       go_wp2_with (first | ((with_reducible refine yK (N := 12) rfl ?_); refine yE rfl (N := 12) rfl (cs := #[.int .i64 0, .int .i64 0, .int .i64 0, .int .i64 0]) (t := 47) (by go_simp) ?_; intro Ej hg w144 yG hb; have AB := yf.mk (yG); have Kq := bG (w := w) hg; have RS := bG (w := w) hg; have aK := BL Ak hg; have dz := Ag Ak hg; have aH := BL aa hg; have dE := Ag aa hg; have aI := BL af hg; have dB := Ag af hg; have aJ := BL Ba hg; have dx := Ag Ba hg; replace Ak := bB Ak hb; replace aa := bB aa hb; replace af := bB af hb; replace Ba := bB Ba hb; replace HB := bS HB hb; clear hb yG hg; have ZY := dz.out; have ZZ := aK.out; have eB := dE.out; have eu := aH.out; have il := dB.out; have fo := aI.out; have fT := dx.out; have j5 := aJ.out; have fZ := AR AB; have jI := bf AB; have gX := aQ.out; have gu := aj.out; have jM := aM.out; have jl := ah.out; have iO := aY.out; have jB := bA.out; have kz := EP af; have eY := bf af) | ((with_reducible refine yB (f := 46) rfl ?_); refine gL (some 108) Try.func46 #[.agg #[.int .i64 yn, .slice yP yg.length yI, .int .i64 yo, .int .i64 yt, .slice (some bX) l1.length c1, .int .i64 (wrap64 (t226 - yt)), .int .i64 t226], .int .i64 ((yh l1 ak).f0)] ?_; (with_reducible refine (Ac.calls k2 yn _ _ yg yo yt _ _ l1 (wrap64 (t226 - yt)) t226 ((yh l1 ak).f0) false _ ?yF ?yM ?zI ?zJ dI.out).mono ?_); (case yF => exact Kd.Ci zq.out (bO HB)); (case yM => exact zG.out); (case zI => exact Kd.Ci HR1.out (bO HB)); (case zJ => exact Gd.out); rintro e w154 ⟨rfl, hb⟩; refine ⟨_, rfl, ?_⟩; replace Ak := yf.mk (yX (g := D5) (o := .cells #[.int .i64 yn, .slice yP yg.length yI, .int .i64 yo, .int .i64 yt] 31 (0, 0)) (by refine kp ?_; refine yU ?_ aK.out _; refine kp ?_; refine yU ?_ aK.out _; refine kp ?_; refine yU ?_ aK.out _; refine kp ?_; refine yU ?_ aK.out _; refine kp ?_; exact Ak.out) hb); replace aa := yf.mk (yX (g := au) (o := .cells #[.int .i64 bP, .slice none 0 0, .int .i64 bN, .int .i64 bW, .slice none 0 0, .int .i64 bQ, .int .i64 bU] 71 (0, 0)) (by refine kp ?_; refine yU ?_ aH.out _; refine kp ?_; refine yU ?_ aH.out _; refine kp ?_; refine yU ?_ aH.out _; refine kp ?_; refine yU ?_ aH.out _; refine kp ?_; exact aa.out) hb); replace af := yf.mk (yX (g := aC) (o := .cells #[.int .i64 yn, .slice yP yg.length yI, .int .i64 yo, .int .i64 yt, .slice (some bX) l1.length c1, .int .i64 (wrap64 (t226 - yt)), .int .i64 t226] 71 (0, 0)) (by refine kp ?_; refine yU ?_ aI.out _; refine kp ?_; refine yU ?_ aI.out _; refine kp ?_; refine yU ?_ aI.out _; refine kp ?_; refine yU ?_ aI.out _; refine kp ?_; exact af.out) hb); replace Ba := yf.mk (yX (g := Eo) (o := Dg l1 ae) (by refine kp ?_; refine yU ?_ aJ.out _; refine kp ?_; refine yU ?_ aJ.out _; refine kp ?_; refine yU ?_ aJ.out _; refine kp ?_; refine yU ?_ aJ.out _; refine kp ?_; exact Ba.out) hb); replace AB := yf.mk (yX (g := Ej) (o := .cells #[.int .i64 ((yh l1 ak).f0), .int .i64 ((yh l1 ak).f1), .int .i64 ((yh l1 ak).f2.f0), .int .i64 ((yh l1 ak).f2.f1)] 47 (0, 0)) (CF AB rfl) hb); replace HB := bS HB hb; clear hb; have eX := aG.out; have eG := aD.out; have jv := bH.out; have eH := cu.out; have jQ := EP aa; have kg := bf aa))
       refine bodyPost_ret (Bg rfl _ _ au 71 #[.int .i64 0, .slice none 0 0, .int .i64 0, .int .i64 0, .slice none 0 0, .int .i64 0, .int .i64 0] (0, 0) _ rfl (CF aa rfl) Try.underlying71 rfl (by kernel_rfl)) rfl ?_
       exact ⟨_, _, by rfl, by exact Kd.EJ _ _ _ _ _, by exact Kd.EJ _ _ _ _ _, bO HB⟩
     ·
      rw [if_neg c130] at H;exact absurd H (by simp)
    ·
     rw [if_neg di] at H;exact absurd H (by simp)
   ·
    rw [if_neg bL] at H;have dP := decide_eq_false bL;clear bL;simp only [Option.some.injEq, Prod.mk.injEq] at H;obtain ⟨rfl, rfl, rfl, rfl, rfl, rfl, rfl, rfl⟩ := H;have jF := aG.out;have fO := aD.out;have jf := ah.out;have ig := aM.out;have jm := bH.out;have iQ := cu.out;have iP := EP aa;have iF := bf aa;have iR := EP af;have iD := bf af
    go_wp2
    refine bodyPost_ret (Bg rfl _ _ au 71 #[.int .i64 yn, (.slice yP yg.length yI), .int .i64 yo, .int .i64 yt, (.slice A1 l1.length c1), .int .i64 (wrap64 (t226 - yt)), .int .i64 t226] (0, 0) _ rfl (CF aa rfl) Try.underlying71 rfl (by kernel_rfl)) rfl ?_
    exact ⟨_, _, by rfl, Kd.yH (Kd.zg HS0.out (bO HB)) (fun k_ hk => .inl (.inl hk)), Kd.yH (Kd.zg dX.out (bO HB)) (fun k_ hk => .inl (.inr hk)), bO HB⟩
 rw [if_pos Ha] at H;have IB := decide_eq_true Ha;clear Ha
 by_cases c23 : 0 ≤ ae
 rotate_left
 ·
  rw [if_neg c23] at H;exact absurd H (by simp)
 rw [if_pos c23] at H;have OG := decide_eq_true c23;have dG := yf.mk (show 0 ≤ ae ∧ ae < (l1.length : Int) from ⟨c23, of_decide_eq_true ‹_›⟩);clear c23
 by_cases c24 : ae < (l1.length : Int)
 rotate_left
 ·
  rw [if_neg c24] at H;exact absurd H (by simp)
 rw [if_pos c24] at H;have Ls := decide_eq_true c24;clear c24;obtain ⟨ZQ, Xz, H⟩ := bE H
 try dsimp only at H
 by_cases Oj : ZQ = true
 rotate_left
 ·
  replace Oj := Bool.eq_false_iff.mpr Oj;subst Oj
  rw [if_neg (show ¬ (false = true) by decide)] at H
  simp only [Option.some.injEq, Prod.mk.injEq] at H;obtain ⟨rfl, rfl, rfl, rfl, rfl, rfl, rfl, rfl⟩ := H
  have bi : 0 ≤ (ae : Int) := of_decide_eq_true ‹_›
  have aV : ae < (l1.length : Int) := of_decide_eq_true ‹_›
  obtain ⟨aA, e229, bJ, bM, bI, bF⟩ := Cb HR1.out ae bi aV;cases e229;replace bJ := cB HB bJ;replace bM := cB HB bM;replace bI := cB HB bI;replace bF := cB HB bF;replace bi := eq_true bi;replace aV := eq_true aV
  go_wp2_with (first | ((with_reducible refine yK (N := 10) rfl ?_); refine yE rfl (N := 10) rfl (cs := #[.int .i64 0, .int .i64 0, .int .i64 0, .int .i64 0]) (t := 47) (by go_simp) ?_; intro aT hg w114 yG hb; have ag := yf.mk (yG); have dU := bG (w := w) hg; have dZ := bG (w := w) hg; have az := BL Ak hg; have aU := Ag Ak hg; have av := BL aa hg; have aN := Ag aa hg; have ay := BL af hg; have bn := Ag af hg; have ax := BL Ba hg; have aZ := Ag Ba hg; replace Ak := bB Ak hb; replace aa := bB aa hb; replace af := bB af hb; replace Ba := bB Ba hb; replace HB := bS HB hb; clear hb yG hg; have jr := aU.out; have jd := az.out; have ib := aN.out; have eF := av.out; have jX := bn.out; have iW := ay.out; have jR := aZ.out; have iJ := ax.out; have fP := AR ag; have kD := bf ag; have eD := aQ.out; have jb := aj.out; have ko := aM.out; have jK := ah.out; have jq := aY.out; have eO := bA.out; have jA := EP af; have iA := bf af) | ((with_reducible refine yB (f := 60) rfl ?_); refine gL (some 39) Try.func60 #[.agg #[.int .i64 yn, .slice yP yg.length yI, .int .i64 yo, .int .i64 yt, .slice (some aA) l1.length c1, .int .i64 (wrap64 (t226 - yt)), .int .i64 t226], .int .i64 ((yh l1 ae).f0), .int .i64 ((yh l1 ae).f1)] ?_; (with_reducible refine (D6.calls yn _ _ yg yo yt _ _ l1 (wrap64 (t226 - yt)) t226 ((yh l1 ae).f0) ((yh l1 ae).f1) false _ ?yF ?yM ?zI ?zJ Xz.out).mono ?_); (case yF => exact Kd.Ci zq.out (bO HB)); (case yM => exact zG.out); (case zI => exact Kd.Ci HR1.out (bO HB)); (case zJ => exact Gd.out); rintro e w124 ⟨rfl, hb⟩; refine ⟨_, rfl, ?_⟩; replace Ak := yf.mk (yX (g := D5) (o := .cells #[.int .i64 yn, .slice yP yg.length yI, .int .i64 yo, .int .i64 yt] 31 (0, 0)) (by refine kp ?_; refine yU ?_ az.out _; refine kp ?_; refine yU ?_ az.out _; refine kp ?_; refine yU ?_ az.out _; refine kp ?_; refine yU ?_ az.out _; refine kp ?_; exact Ak.out) hb); replace aa := yf.mk (yX (g := au) (o := .cells #[.int .i64 bu, .slice none 0 0, .int .i64 aX, .int .i64 aW, .slice none 0 0, .int .i64 bg, .int .i64 bq] 71 (0, 0)) (by refine kp ?_; refine yU ?_ av.out _; refine kp ?_; refine yU ?_ av.out _; refine kp ?_; refine yU ?_ av.out _; refine kp ?_; refine yU ?_ av.out _; refine kp ?_; exact aa.out) hb); replace af := yf.mk (yX (g := aC) (o := .cells #[.int .i64 yn, .slice yP yg.length yI, .int .i64 yo, .int .i64 yt, .slice (some aA) l1.length c1, .int .i64 (wrap64 (t226 - yt)), .int .i64 t226] 71 (0, 0)) (by refine kp ?_; refine yU ?_ ay.out _; refine kp ?_; refine yU ?_ ay.out _; refine kp ?_; refine yU ?_ ay.out _; refine kp ?_; refine yU ?_ ay.out _; refine kp ?_; exact af.out) hb); replace Ba := yf.mk (yX (g := Eo) (o := Dg l1 ae) (by refine kp ?_; refine yU ?_ ax.out _; refine kp ?_; refine yU ?_ ax.out _; refine kp ?_; refine yU ?_ ax.out _; refine kp ?_; refine yU ?_ ax.out _; refine kp ?_; exact Ba.out) hb); replace ag := yf.mk (yX (g := aT) (o := .cells #[.int .i64 ((yh l1 ae).f0), .int .i64 ((yh l1 ae).f1), .int .i64 ((yh l1 ae).f2.f0), .int .i64 ((yh l1 ae).f2.f1)] 47 (0, 0)) (CF ag rfl) hb); replace HB := bS HB hb; clear hb; have gT := aG.out; have gI := aD.out; have a00 := bH.out; have a01 := cu.out; have fJ := EP aa; have kr := bf aa))
  refine bodyPost_ret (Bg rfl _ _ au 71 #[.int .i64 0, .slice none 0 0, .int .i64 0, .int .i64 0, .slice none 0 0, .int .i64 0, .int .i64 0] (0, 0) _ rfl (CF aa rfl) Try.underlying71 rfl (by kernel_rfl)) rfl ?_
  exact ⟨_, _, by rfl, by exact Kd.EJ _ _ _ _ _, by exact Kd.EJ _ _ _ _ _, bO HB⟩
 subst Oj;rw [if_pos rfl] at H;have QI := yf.mk H;clear H
 have bi : 0 ≤ (ae : Int) := of_decide_eq_true ‹_›
 have aV : ae < (l1.length : Int) := of_decide_eq_true ‹_›
 obtain ⟨aA, e229, bJ, bM, bI, bF⟩ := Cb HR1.out ae bi aV;cases e229;replace bJ := cB HB bJ;replace bM := cB HB bM;replace bI := cB HB bI;replace bF := cB HB bF;replace bi := eq_true bi;replace aV := eq_true aV
 go_upto_region 11 with (first | ((with_reducible refine yK (N := 10) rfl ?_); refine yE rfl (N := 10) rfl (cs := #[.int .i64 0, .int .i64 0, .int .i64 0, .int .i64 0]) (t := 47) (by go_simp) ?_; intro aT hg w28 yG hb; have ag := yf.mk (yG); have dU := bG (w := w) hg; have dZ := bG (w := w) hg; have az := BL Ak hg; have aU := Ag Ak hg; have av := BL aa hg; have aN := Ag aa hg; have ay := BL af hg; have bn := Ag af hg; have ax := BL Ba hg; have aZ := Ag Ba hg; replace Ak := bB Ak hb; replace aa := bB aa hb; replace af := bB af hb; replace Ba := bB Ba hb; replace HB := bS HB hb; clear hb yG hg; have Y3 := aU.out; have Y4 := az.out; have MZ := aN.out; have N7 := av.out; have XH := bn.out; have XI := ay.out; have Rp := aZ.out; have Rq := ax.out; have OQ := AR ag; have OT := bf ag; have Uc := aQ.out; have Ud := aj.out; have a1O := aM.out; have a1P := ah.out; have Rx := aY.out; have Ry := bA.out; have Kg := EP af; have Kh := bf af) | ((with_reducible refine yB (f := 60) rfl ?_); refine gL (some 39) Try.func60 #[.agg #[.int .i64 yn, .slice yP yg.length yI, .int .i64 yo, .int .i64 yt, .slice (some aA) l1.length c1, .int .i64 (wrap64 (t226 - yt)), .int .i64 t226], .int .i64 ((yh l1 ae).f0), .int .i64 ((yh l1 ae).f1)] ?_; (with_reducible refine (D6.calls yn _ _ yg yo yt _ _ l1 (wrap64 (t226 - yt)) t226 ((yh l1 ae).f0) ((yh l1 ae).f1) true _ ?yF ?yM ?zI ?zJ Xz.out).mono ?_); (case yF => exact Kd.Ci zq.out (bO HB)); (case yM => exact zG.out); (case zI => exact Kd.Ci HR1.out (bO HB)); (case zJ => exact Gd.out); rintro e w38 ⟨rfl, hb⟩; refine ⟨_, rfl, ?_⟩; replace Ak := yf.mk (yX (g := D5) (o := .cells #[.int .i64 yn, .slice yP yg.length yI, .int .i64 yo, .int .i64 yt] 31 (0, 0)) (by refine kp ?_; refine yU ?_ az.out _; refine kp ?_; refine yU ?_ az.out _; refine kp ?_; refine yU ?_ az.out _; refine kp ?_; refine yU ?_ az.out _; refine kp ?_; exact Ak.out) hb); replace aa := yf.mk (yX (g := au) (o := .cells #[.int .i64 bu, .slice none 0 0, .int .i64 aX, .int .i64 aW, .slice none 0 0, .int .i64 bg, .int .i64 bq] 71 (0, 0)) (by refine kp ?_; refine yU ?_ av.out _; refine kp ?_; refine yU ?_ av.out _; refine kp ?_; refine yU ?_ av.out _; refine kp ?_; refine yU ?_ av.out _; refine kp ?_; exact aa.out) hb); replace af := yf.mk (yX (g := aC) (o := .cells #[.int .i64 yn, .slice yP yg.length yI, .int .i64 yo, .int .i64 yt, .slice (some aA) l1.length c1, .int .i64 (wrap64 (t226 - yt)), .int .i64 t226] 71 (0, 0)) (by refine kp ?_; refine yU ?_ ay.out _; refine kp ?_; refine yU ?_ ay.out _; refine kp ?_; refine yU ?_ ay.out _; refine kp ?_; refine yU ?_ ay.out _; refine kp ?_; exact af.out) hb); replace Ba := yf.mk (yX (g := Eo) (o := Dg l1 ae) (by refine kp ?_; refine yU ?_ ax.out _; refine kp ?_; refine yU ?_ ax.out _; refine kp ?_; refine yU ?_ ax.out _; refine kp ?_; refine yU ?_ ax.out _; refine kp ?_; exact Ba.out) hb); replace ag := yf.mk (yX (g := aT) (o := .cells #[.int .i64 ((yh l1 ae).f0), .int .i64 ((yh l1 ae).f1), .int .i64 ((yh l1 ae).f2.f0), .int .i64 ((yh l1 ae).f2.f1)] 47 (0, 0)) (CF ag rfl) hb); replace HB := bS HB hb; clear hb))
 (try simp only [pz])
 go_cut [57] (fun v57 wc => ∃ (kq : Nat) (cK : Bool), v57 = .bool cK ∧ yf (yL.j1 kq l1 l1 (l1.length : Int) ae cK yn yg yo yt yn yg yo yt l1 (wrap64 (t226 - yt)) t226 ((yh l1 ae).f0) ((yh l1 ae).f1) ((yh l1 ae).f2.f0) ((yh l1 ae).f2.f1) = some (r1, r2, r3, r4, r5, r6, r7, r8)) ∧ yf (kq ≤ k1) ∧ yf (wc.heap[D5]? = some (.cells #[.int .i64 yn, (.slice yP yg.length yI), .int .i64 yo, .int .i64 yt] 31 (0, 0))) ∧ yf (wc.heap[au]? = some (.cells #[.int .i64 bu, (.slice none 0 0), .int .i64 aX, .int .i64 aW, (.slice none 0 0), .int .i64 bg, .int .i64 bq] 71 (0, 0))) ∧ yf (wc.heap[aC]? = some (.cells #[.int .i64 yn, (.slice yP yg.length yI), .int .i64 yo, .int .i64 yt, (.slice (some aA) l1.length c1), .int .i64 (wrap64 (t226 - yt)), .int .i64 t226] 71 (0, 0))) ∧ yf (wc.heap[Eo]? = some (Dg l1 ae)) ∧ yf (wc.heap[aT]? = some (.cells #[.int .i64 ((yh l1 ae).f0), .int .i64 ((yh l1 ae).f1), .int .i64 ((yh l1 ae).f2.f0), .int .i64 ((yh l1 ae).f2.f1)] 47 (0, 0))) ∧ yf (Below w.heap.size w wc))
 case first =>
  have H := QI.out;clear QI
  by_cases Jl : ae > 0
  rotate_left
  ·
   rw [if_neg Jl] at H;have MU := decide_eq_false Jl;clear Jl
   (skip)
   have H' := yf.mk H;clear H
   try go_wp2
   replace Ak := yf.mk (yZ Ak.out);replace aa := yf.mk (yZ aa.out);replace af := yf.mk (yZ af.out);replace Ba := yf.mk (yZ Ba.out);replace ag := yf.mk (yZ ag.out);replace HB := yf.mk (ze HB.out)
   refine AV (n := 16) (S := fun w' => True) (ds := []) (bz 16 0) (by kernel_rfl) rfl rfl trivial (fun hHeld => ?_); refine zQ yL.Ym yL.Vt (fun yD AZ => ?_)
   generalize w38.drew = w46 at Ak aa af Ba ag HB hHeld ⊢;refine pU 0 42 16 1 yD ?_;refine pU 1 43 16 3 yD ?_;refine pU 2 44 16 7 yD ?_;refine pN 3 45 16 15 yD ?_;refine pN 4 46 16 31 yD ?_;refine pN 5 47 16 63 yD ?_;refine pN 6 48 16 127 yD ?_;refine pN 7 49 16 255 yD ?_;refine pN 8 50 16 511 yD ?_;refine pN 9 51 16 1023 yD ?_;refine pN 10 52 16 2047 yD ?_;refine pN 11 53 16 4095 yD ?_;refine pN 12 54 16 8191 yD ?_;refine pN 13 55 16 16383 yD ?_;refine pN 14 56 16 32767 yD ?_;refine pU 15 57 16 65535 yD ?_
   refine BI (Az yD.out (by kernel_rfl)) ?_
   try go_wp2
   go_meet
   case rel => exact ⟨_, (false), (by rfl), H', ⟨by have := BZ.out; omega⟩, ⟨kk Ak⟩, ⟨kk aa⟩, ⟨kk af⟩, ⟨kk Ba⟩, ⟨kk ag⟩, ⟨bO HB⟩⟩
  rw [if_pos Jl] at H;have MU := decide_eq_true Jl;clear Jl
  (skip)
  obtain ⟨ai, dO⟩ : ∃ j_ : Int, (wrap64 (ae - 1)) = j_ := ⟨_, rfl⟩
  replace H : (if 0 ≤ (ai) then (if (ai) < (l1.length : Int) then ((zW.f k1 ((yh l1 (ai)).f0) ((yh l1 (ai)).f1) ((yh l1 (ai)).f2.f0) ((yh l1 (ai)).f2.f1) ((yh l1 ae).f0) ((yh l1 ae).f1)).bind fun t233 => (yL.j1 k1 l1 l1 (l1.length : Int) ae (decide (t233 ≥ 0)) yn yg yo yt yn yg yo yt l1 (wrap64 (t226 - yt)) t226 ((yh l1 ae).f0) ((yh l1 ae).f1) ((yh l1 ae).f2.f0) ((yh l1 ae).f2.f1))) else (none)) else (none)) = some (r1, r2, r3, r4, r5, r6, r7, r8) := by (rw [dO] at H; exact H)
  have hji40w : (IntKind.i64.wrap (ae - 1)) = ai := (i64_w _).trans dO
  by_cases Mr : 0 ≤ (ai)
  rotate_left
  ·
   rw [if_neg Mr] at H;exact absurd H (by simp)
  rw [if_pos Mr] at H;have Yq := decide_eq_true Mr;clear Mr
  by_cases IQ : (ai) < (l1.length : Int)
  rotate_left
  ·
   rw [if_neg IQ] at H;exact absurd H (by simp)
  rw [if_pos IQ] at H;have Lj := decide_eq_true IQ;clear IQ;obtain ⟨t233, A43, H⟩ := bE H
  try dsimp only at H
  have H' := yf.mk H;clear H
  try go_wp2
  replace Ak := yf.mk (yZ Ak.out);replace aa := yf.mk (yZ aa.out);replace af := yf.mk (yZ af.out);replace Ba := yf.mk (yZ Ba.out);replace ag := yf.mk (yZ ag.out);replace HB := yf.mk (ze HB.out)
  have dC : 0 ≤ ((ai) : Int) := of_decide_eq_true ‹_›
  have dA : (ai) < (l1.length : Int) := of_decide_eq_true ‹_›
  obtain ⟨dY, e232, df, dn, dm, cZ⟩ := Cb HR1.out (ai) dC dA;have dN := cZ;have dM := dm;have dL := dn;have dJ := df;obtain rfl : aA = dY := (by injection e232);replace df := cB HB df;replace dn := cB HB dn;replace dm := cB HB dm;replace cZ := cB HB cZ;replace dC := eq_true dC;replace dA := eq_true dA
  refine AV (n := 16) (S := fun w' => w'.cell? ⟨aT, 0, none⟩ = some (.int .i64 ((yh l1 ae).f0)) ∧ w'.cell? ⟨aT, 1, none⟩ = some (.int .i64 ((yh l1 ae).f1)) ∧ w'.cell? ⟨aT, 2, none⟩ = some (.int .i64 ((yh l1 ae).f2.f0)) ∧ w'.cell? ⟨aT, 3, none⟩ = some (.int .i64 ((yh l1 ae).f2.f1)) ∧ w'.cell? (aA.add (((ai)).toNat * 4)) = some (.int .i64 ((yh l1 (ai)).f0)) ∧ w'.cell? ⟨(aA.add (((ai)).toNat * 4)).block, (aA.add (((ai)).toNat * 4)).off + 1, none⟩ = some (.int .i64 ((yh l1 (ai)).f1)) ∧ w'.cell? ⟨(aA.add (((ai)).toNat * 4)).block, (aA.add (((ai)).toNat * 4)).off + 2, none⟩ = some (.int .i64 ((yh l1 (ai)).f2.f0)) ∧ w'.cell? ⟨(aA.add (((ai)).toNat * 4)).block, (aA.add (((ai)).toNat * 4)).off + 3, none⟩ = some (.int .i64 ((yh l1 (ai)).f2.f1))) (ds := []) (bz 16 0) (by kernel_rfl) rfl rfl ⟨(yz ag.out 0).trans rfl, (yz ag.out 1).trans rfl, (yz ag.out 2).trans rfl, (yz ag.out 3).trans rfl, (cB HB dJ), (cB HB dL), (cB HB dM), (cB HB dN)⟩ (fun hHeld => ?_); refine zQ yL.Ym yL.Vt (fun yD AZ => ?_)
  generalize w38.drew = w44 at Ak aa af Ba ag HB df dn dm cZ hHeld ⊢;refine pU 0 42 16 1 yD ?_;refine pU 1 43 16 3 yD ?_;refine pU 2 44 16 7 yD ?_;refine pU 3 45 16 15 yD ?_;refine pU 4 46 16 31 yD ?_;refine pU 5 47 16 63 yD ?_;refine pU 6 48 16 127 yD ?_;refine pU 8 50 16 383 yD ?_;refine pU 10 52 16 1407 yD ?_
  refine BQ 7 49 16 1535 yD AZ hHeld ?_
  refine BQ 9 51 16 2047 yD AZ hHeld ?_
  refine BQ 11 53 16 4095 yD AZ hHeld ?_
  refine pU 12 54 16 8191 yD ?_
  refine BP (i := 13) (N := some 55) (bz 16 16383) rfl rfl (Af yD.out (by kernel_rfl)) (by decide) (fun K hK => ?_)
  refine Xi Try.func42 (by kernel_rfl) rfl #[.agg #[.int .i64 ((yh l1 (ai)).f0), .int .i64 ((yh l1 (ai)).f1), .int .i64 ((yh l1 (ai)).f2.f0), .int .i64 ((yh l1 (ai)).f2.f1)], .agg #[.int .i64 ((yh l1 ae).f0), .int .i64 ((yh l1 ae).f1)]] (by rfl) rfl rfl (by (try simp only [List.map_toArray, List.map_cons, List.map_nil]); rfl) ?_
  with_reducible refine (zW.calls k1 ((yh l1 (ai)).f0) ((yh l1 (ai)).f1) ((yh l1 (ai)).f2.f0) ((yh l1 (ai)).f2.f1) ((yh l1 ae).f0) ((yh l1 ae).f1) t233 _ A43.out).mono ?_
  rintro e w45 ⟨rfl, hb⟩
  refine ⟨_, rfl, ?_⟩
  replace Ak := bB Ak hb;replace aa := bB aa hb;replace af := bB af hb;replace Ba := bB Ba hb;replace ag := bB ag hb;replace HB := bS HB hb;clear hb
  refine hK.out _ _ ⟨(yz ag.out 0).trans rfl, (yz ag.out 1).trans rfl, (yz ag.out 2).trans rfl, (yz ag.out 3).trans rfl, (cB HB dJ), (cB HB dL), (cB HB dM), (cB HB dN)⟩ (fun hHeld => ?_)
  clear hK K
  refine Aj (a' := ?_) ?_ ?_
  rotate_left
  ·
   show Act.put _ (some 55) _ = _
   simp only [pz]
   rfl
  refine pU 14 56 16 32767 yD ?_;refine pU 15 57 16 65535 yD ?_
  refine BI (Az yD.out (by kernel_rfl)) ?_
  try go_wp2
  go_meet
  case rel => exact ⟨_, (decide (t233 ≥ 0)), (by rfl), H', ⟨by have := BZ.out; omega⟩, ⟨kk Ak⟩, ⟨kk aa⟩, ⟨kk af⟩, ⟨kk Ba⟩, ⟨kk ag⟩, ⟨bO HB⟩⟩
 case rest =>
 clear QI IB OG Ls OQ Kg OT Kh bJ bM bI bF bi aV;obtain ⟨kq, cK, rfl, HA, LY, Ak, aa, af, Ba, ag, HB⟩ := hcut
 cases kq with
 | zero => exact absurd HA.out (by simp [yL.j1])
 | succ X4 =>
  have H := HA.out;clear HA;simp only [yL.j1] at H
  by_cases Ji : cK = true
  ·
   subst Ji;rw [if_pos rfl] at H;simp only [Option.some.injEq, Prod.mk.injEq] at H;obtain ⟨rfl, rfl, rfl, rfl, rfl, rfl, rfl, rfl⟩ := H;have Us := aG.out;have Ut := aD.out;have XP := ah.out;have XQ := aM.out;have V4 := bH.out;have V5 := cu.out;have V6 := av.out;have V7 := aN.out;have RF := EP aa;have RG := bf aa
   go_wp2
   refine bodyPost_ret (Bg rfl _ _ au 71 #[.int .i64 0, .slice none 0 0, .int .i64 0, .int .i64 0, .slice none 0 0, .int .i64 0, .int .i64 0] (0, 0) _ rfl (CF aa rfl) Try.underlying71 rfl (by kernel_rfl)) rfl ?_
   exact ⟨_, _, by rfl, by exact Kd.EJ _ _ _ _ _, by exact Kd.EJ _ _ _ _ _, bO HB⟩
  ·
   replace Ji := Bool.eq_false_iff.mpr Ji;subst Ji
   rw [if_neg (show ¬ (false = true) by decide)] at H
   have dD := yf.mk H;clear H
   go_upto_region 13 with (fail)
   go_cut [93] (fun v93 wc => ∃ (kq : Nat) (bZ : Bool), v93 = .bool bZ ∧ yf (yL.j2 kq l1 l1 (l1.length : Int) ae bZ yn yg yo yt yn yg yo yt l1 (wrap64 (t226 - yt)) t226 = some (r1, r2, r3, r4, r5, r6, r7, r8)) ∧ yf (kq ≤ X4) ∧ yf (wc.heap[D5]? = some (.cells #[.int .i64 yn, (.slice yP yg.length yI), .int .i64 yo, .int .i64 yt] 31 (0, 0))) ∧ yf (wc.heap[au]? = some (.cells #[.int .i64 bu, (.slice none 0 0), .int .i64 aX, .int .i64 aW, (.slice none 0 0), .int .i64 bg, .int .i64 bq] 71 (0, 0))) ∧ yf (wc.heap[aC]? = some (.cells #[.int .i64 yn, (.slice yP yg.length yI), .int .i64 yo, .int .i64 yt, (.slice (some aA) l1.length c1), .int .i64 (wrap64 (t226 - yt)), .int .i64 t226] 71 (0, 0))) ∧ yf (wc.heap[Eo]? = some (Dg l1 ae)) ∧ yf (wc.heap[aT]? = some (.cells #[.int .i64 ((yh l1 ae).f0), .int .i64 ((yh l1 ae).f1), .int .i64 ((yh l1 ae).f2.f0), .int .i64 ((yh l1 ae).f2.f1)] 47 (0, 0))) ∧ yf (Below w.heap.size w wc) ∧ yf (bZ = false → I4 l1 ae = false))
   case first =>
    have H := dD.out;clear dD
    by_cases Vv : ((yh l1 ae).f2.f0) < 0
    ·
     rw [if_pos Vv] at H;have Yr := decide_eq_true Vv;clear Vv
     (skip)
     have H' := yf.mk H;clear H;have iw := aU.out;have jh := az.out;have Y7 := aN.out;have Y8 := av.out;have Y9 := bn.out;have Ya := ay.out;have jE := aZ.out;have jG := ax.out;have gW := AR ag;have gF := bf ag
     go_wp2
     go_meet
     case rel => exact ⟨_, (true), (by rfl), H', ⟨by have := BZ.out; have := LY.out; omega⟩, ⟨kk Ak⟩, ⟨kk aa⟩, ⟨kk af⟩, ⟨kk Ba⟩, ⟨kk ag⟩, ⟨bO HB⟩, ⟨fun h => by cases h⟩⟩
    ·
     rw [if_neg Vv] at H;have Yr := decide_eq_false Vv;clear Vv
     (skip)
     by_cases PU : ((yh l1 ae).f2.f0) ≥ yn
     ·
      rw [if_pos PU] at H;have Yt := decide_eq_true PU;clear PU;have H' := yf.mk H;clear H;have a1l := aU.out;have a1m := az.out;have gJ := aN.out;have eQ := av.out;have a1n := bn.out;have a1o := ay.out;have gq := aZ.out;have fD := ax.out;have fA := AR ag;have gp := bf ag;have Yu := aD.out;have Yv := aG.out;have gD := aj.out;have iq := aQ.out;have jL := bT.out;have jW := dw.out;have fQ := AR Ak;have gM := bf Ak
      go_wp2
      go_meet
      case rel => exact ⟨_, (true), (by rfl), H', ⟨by have := BZ.out; have := LY.out; omega⟩, ⟨kk Ak⟩, ⟨kk aa⟩, ⟨kk af⟩, ⟨kk Ba⟩, ⟨kk ag⟩, ⟨bO HB⟩, ⟨fun h => by cases h⟩⟩
     ·
      rw [if_neg PU] at H;have Yt := decide_eq_false PU;clear PU
      by_cases c70 : ((yh l1 ae).f2.f1) < (wrap64 (t226 - yt))
      ·
       rw [if_pos c70] at H;have dS := decide_eq_true c70;clear c70;have H' := yf.mk H;clear H;have a1Q := aU.out;have a1R := az.out;have gG := aN.out;have iG := av.out;have ku := bn.out;have jy := ay.out;have ik := aZ.out;have gB := ax.out;have gN := AR ag;have ky := bf ag;have gP := aD.out;have iL := aG.out;have a1p := aj.out;have a1q := aQ.out;have V9 := bT.out;have Va := dw.out;have a1r := AR Ak;have a1s := bf Ak;have Yw := aM.out;have Yx := ah.out;have jY := aY.out;have gU := bA.out;have eT := EP af;have iB := bf af
       go_wp2
       go_meet
       case rel => exact ⟨_, (true), (by rfl), H', ⟨by have := BZ.out; have := LY.out; omega⟩, ⟨kk Ak⟩, ⟨kk aa⟩, ⟨kk af⟩, ⟨kk Ba⟩, ⟨kk ag⟩, ⟨bO HB⟩, ⟨fun h => by cases h⟩⟩
      ·
       rw [if_neg c70] at H;have dS := decide_eq_false c70;clear c70
       by_cases bD : ((yh l1 ae).f2.f1) ≥ t226
       ·
        rw [if_pos bD] at H;have dV := decide_eq_true bD;clear bD;have H' := yf.mk H;clear H;have a1S := aU.out;have a1T := az.out;have kw := aN.out;have j4 := av.out;have a1U := bn.out;have a1V := ay.out;have ji := aZ.out;have fM := ax.out;have fK := AR ag;have fe := bf ag;have fw := aD.out;have iy := aG.out;have fu := aj.out;have iY := aQ.out;have fq := bT.out;have j6 := dw.out;have jk := AR Ak;have gz := bf Ak;have a1a := aM.out;have a1b := ah.out;have eZ := aY.out;have jN := bA.out;have iM := EP af;have jw := bf af
        go_wp2
        go_meet
        case rel => exact ⟨_, (true), (by rfl), H', ⟨by have := BZ.out; have := LY.out; omega⟩, ⟨kk Ak⟩, ⟨kk aa⟩, ⟨kk af⟩, ⟨kk Ba⟩, ⟨kk ag⟩, ⟨bO HB⟩, ⟨fun h => by cases h⟩⟩
       ·
        rw [if_neg bD] at H;have dV := decide_eq_false bD;clear bD;have H' := yf.mk H;clear H;have ic := aU.out;have kC := az.out;have jJ := aN.out;have kE := av.out;have iK := bn.out;have jO := ay.out;have fU := aZ.out;have fV := ax.out;have jC := AR ag;have gy := bf ag;have iT := aD.out;have gQ := aG.out;have a02 := aj.out;have a03 := aQ.out;have a04 := bT.out;have a05 := dw.out;have iI := AR Ak;have gH := bf Ak;have jD := aM.out;have fI := ah.out;have iU := aY.out;have iH := bA.out;have jS := EP af;have gK := bf af;have ed := Pj l1 ae Eo _ Ba.out;simp only [Fq] at ed
        go_wp2
        go_meet
        case rel => exact ⟨_, (I4 l1 ae), (by rfl), H', ⟨by have := BZ.out; have := LY.out; omega⟩, ⟨kk Ak⟩, ⟨kk aa⟩, ⟨kk af⟩, ⟨kk Ba⟩, ⟨kk ag⟩, ⟨bO HB⟩, ⟨fun h => by exact h⟩⟩
   case rest =>
    clear dD;obtain ⟨kq, bZ, rfl, HA, dH, Ak, aa, af, Ba, ag, HB, HSN⟩ := hcut
    cases kq with
    | zero => exact absurd HA.out (by simp [yL.j2])
    | succ ek =>
     have H := HA.out;clear HA;simp only [yL.j2] at H
     by_cases cO : bZ = true
     ·
      subst cO;rw [if_pos rfl] at H;simp only [Option.some.injEq, Prod.mk.injEq] at H;obtain ⟨rfl, rfl, rfl, rfl, rfl, rfl, rfl, rfl⟩ := H;have fH := aG.out;have jc := aD.out;have a06 := ah.out;have a07 := aM.out;have iC := bH.out;have gV := cu.out;have iV := av.out;have je := aN.out;have fG := EP aa;have fF := bf aa
      go_wp2
      refine bodyPost_ret (Bg rfl _ _ au 71 #[.int .i64 0, .slice none 0 0, .int .i64 0, .int .i64 0, .slice none 0 0, .int .i64 0, .int .i64 0] (0, 0) _ rfl (CF aa rfl) Try.underlying71 rfl (by kernel_rfl)) rfl ?_
      exact ⟨_, _, by rfl, by exact Kd.EJ _ _ _ _ _, by exact Kd.EJ _ _ _ _ _, bO HB⟩
     ·
      replace cO := Bool.eq_false_iff.mpr cO;subst cO
      rw [if_neg (show ¬ (false = true) by decide)] at H
      have H' := yf.mk H;clear H;obtain ⟨iE, jH, dW, d9⟩ := Tp l1 ae dG.out.1 dG.out.2 HR1.out.2.1 Eo _ Ba.out (HSN.out rfl);have fC := AR ag;have fB := bf ag
      go_wp2
      replace Ak := yf.mk (Aa Ak.out d9 (fun e => bT.out (by injection e)))
      replace aa := yf.mk (Aa aa.out d9 (fun e => bH.out (by injection e)))
      replace af := yf.mk (Aa af.out d9 (fun e => aY.out (by injection e)))
      replace Ba := yf.mk dW;replace HB := yf.mk (HB.out.grown d9 HB.out.size (fun k hk => by injection hk with hk; subst hk; exact Vu.out))
      go_roundg ek
      case measure => have := BZ.out; have := LY.out; have := dH.out; omega
      case rel => exact ⟨(wrap64 (ae + 1)), (bu), (aX), (aW), (bg), (bq), (by rfl), H', ⟨by have := BZ.out; have := LY.out; have := dH.out; omega⟩, ⟨kk Ak⟩, ⟨kk aa⟩, ⟨kk af⟩, ⟨kk Ba⟩, ⟨bO HB⟩⟩
end Go.Proofs.Ytjonnfmoocijlaa.P
