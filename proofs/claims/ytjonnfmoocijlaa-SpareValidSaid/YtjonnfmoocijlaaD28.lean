/- Texts of a claim, packed. -/
import Derived.Test.YtjonnfmoocijlaaD27
set_option linter.all false
namespace Go.Proofs.Ytjonnfmoocijlaa.P
open Go.RowKit Go.Proofs.YtjonnfmoocijlaaKW.PrintWords Go.Proofs.YtjonnfmoocijlaaKW.PrintLast Go.Proofs.YtjonnfmoocijlaaKW.PrintMore
attribute [local go_sem] zz zA zS zT zn zo zB zC
mutual
def yN.j0 : Nat → Int → List Bool → Bool → Int → List (List Int) → Int → Int → Int → List (List Int) → Int → Int → List (AY) → Int → Int → Option (Int × Int × Int)
 | 0, _, _, _, _, _, _, _, _, _, _, _, _, _, _ => none
 | k + 1, x2, x3, x26, ax, aA, ay, av, ai, aj, af, ag, ak, ae, ah => if x26 = true then (some (0, 0, 1)) else (if x2 < 0 then (some (0, 0, 2)) else ((Ch.f k ax aA ay av).bind fun O9 => (if x2 ≥ O9 then (some (0, 0, 2)) else ((yA.f k ai aj af ag ak ae ah x2).bind fun I5 => (yN.l0 k x3 I5 (-1) av ax 0 ai aj af ag ak ae ah)))))
def yN.l0 : Nat → List Bool → List Int → Int → Int → Int → Int → Int → List (List Int) → Int → Int → List (AY) → Int → Int → Option (Int × Int × Int)
 | 0, _, _, _, _, _, _, _, _, _, _, _, _, _ => none
 | k + 1, x3, GH, IR, MQ, x55, aa, ai, aj, af, ag, ak, ae, ah => if aa < x55 then ((zH.f k ai aj af ag ak ae ah aa).bind fun IV => (if 0 ≤ aa then (if aa < (x3.length : Int) then (if Ns false x3 aa = true then (yN.j2 k x3 GH IR MQ aa (IV.length : Int) x55 aa false ai aj af ag ak ae ah) else ((slices_Contains_int.f k GH aa).bind fun Vx => (if Vx = true then (yN.j2 k x3 GH IR MQ aa (IV.length : Int) x55 aa false ai aj af ag ak ae ah) else (yN.j2 k x3 GH IR MQ aa (IV.length : Int) x55 aa (decide ((IV.length : Int) < MQ)) ai aj af ag ak ae ah)))) else (none)) else (none))) else (if IR < 0 then (some (0, 0, 11)) else ((zH.f k ai aj af ag ak ae ah IR).bind fun H8 => (yN.l1 k IR ae H8 (H8.length : Int) 0)))
def yN.j2 : Nat → List Bool → List Int → Int → Int → Int → Int → Int → Int → Bool → Int → List (List Int) → Int → Int → List (AY) → Int → Int → Option (Int × Int × Int)
 | 0, _, _, _, _, _, _, _, _, _, _, _, _, _, _, _, _ => none
 | k + 1, x3, GH, IR, MQ, OC, Rk, x55, aa, az, ai, aj, af, ag, ak, ae, ah => if az = true then (yN.l0 k x3 GH OC Rk x55 (wrap64 (aa + 1)) ai aj af ag ak ae ah) else (yN.l0 k x3 GH IR MQ x55 (wrap64 (aa + 1)) ai aj af ag ak ae ah)
def yN.l1 : Nat → Int → Int → List Int → Int → Int → Option (Int × Int × Int)
 | 0, _, _, _, _, _ => none
 | k + 1, IR, au, x89, x90, x91 => if x91 < x90 then (if 0 ≤ x91 then (if x91 < (x89.length : Int) then (if (rd x89 x91) = au then (yN.l1 k IR (wrap64 (au + 1)) x89 x90 (wrap64 (x91 + 1))) else (yN.l1 k IR au x89 x90 (wrap64 (x91 + 1)))) else (none)) else (none)) else (some (IR, au, 0))
end
def yN.f (k : Nat) (yn : Int) (yg : List (List Int)) (yo : Int) (yt : Int) (l1 : List (AY)) (a2 : Int) (l3 : List Bool) : Option (Int × Int × Int) := (yL.f k yn yg yo yt l1).bind fun Df => (if Df.2.2.2.2.2.2.2 = true then (yN.j0 k a2 l3 ((l3.length : Int) != yn) yn yg yo yt Df.1 Df.2.1 Df.2.2.1 Df.2.2.2.1 Df.2.2.2.2.1 Df.2.2.2.2.2.1 Df.2.2.2.2.2.2.1) else (yN.j0 k a2 l3 true yn yg yo yt Df.1 Df.2.1 Df.2.2.1 Df.2.2.2.1 Df.2.2.2.2.1 Df.2.2.2.2.2.1 Df.2.2.2.2.2.2.1))
set_option maxHeartbeats 8000000 in
set_option maxRecDepth 100000 in
theorem yN.calls (k : Nat) (yn : Int) (yP : Option Addr) (yI : Nat) (yg : List (List Int)) (yo : Int) (yt : Int) (A1 : Option Addr) (c1 : Nat) (l1 : List (AY)) (a2 : Int) (A3 : Option Addr) (c3 : Nat) (l3 : List Bool) (r1 : Int) (r2 : Int) (r3 : Int) (w : World) (zR : Kd.C (Kd.slice 3 (Kd.int .i64)) w yP yg.length yg) (zU : yg.length ≤ yI) (hr1 : Kd.C Dy w A1 l1.length l1) (hc1 : l1.length ≤ c1) (hr3 : Kd.C Kd.bool w A3 l3.length l3) (hc3 : l3.length ≤ c3) (h : yN.f k yn yg yo yt l1 a2 l3 = some (r1, r2, r3)) :
  Calls Try.prog 13 #[.agg #[.int .i64 yn, .slice yP yg.length yI, .int .i64 yo, .int .i64 yt], .slice A1 l1.length c1, .int .i64 a2, .slice A3 l3.length c3] w fun e w' => e = .returned (.tuple #[.agg #[.int .i64 r1, .int .i64 r2], .int .i64 r3]) ∧ Below w.heap.size w w' := by
 have FB := Try.underlying31;have Lv := Try.underlying38;have KF := Try.underlying71;have zq := yf.mk zR;have zG := yf.mk zU;clear zR zU;have HR1 := yf.mk hr1;have Gd := yf.mk hc1;clear hr1 hc1;have HR3 := yf.mk hr3;have HC3 := yf.mk hc3;clear hr3 hc3;have HB := yf.mk (Below.refl w.heap.size w)
 have H : ((yL.f k yn yg yo yt l1).bind fun Df => (if Df.2.2.2.2.2.2.2 = true then (yN.j0 k a2 l3 ((l3.length : Int) != yn) yn yg yo yt Df.1 Df.2.1 Df.2.2.1 Df.2.2.2.1 Df.2.2.2.2.1 Df.2.2.2.2.2.1 Df.2.2.2.2.2.2.1) else (yN.j0 k a2 l3 true yn yg yo yt Df.1 Df.2.1 Df.2.2.1 Df.2.2.2.1 Df.2.2.2.2.1 Df.2.2.2.2.2.1 Df.2.2.2.2.2.2.1))) = some (r1, r2, r3) := h
 clear h;obtain ⟨⟨aA, aj, ay, ax, ai, av, az, bT⟩, A5, H⟩ := bE H
 try dsimp only at H
 have bJ := yf.mk H;clear H
 go_enter Try.func13, Try.ntmps13
 go_upto_region 2 with (first | ((with_reducible refine yK (N := 4) rfl ?_); (try (refine BH (by rfl) ?_; dsimp only)); refine yE rfl (N := 4) rfl (cs := #[.int .i64 yn, .slice yP yg.length yI, .int .i64 yo, .int .i64 yt]) (t := 31) (by go_simp) ?_; intro Ej hg w7 yG hb; have AB := yf.mk (yG); have Kq := bG (w := w) hg; have RS := bG (w := w) hg; replace HB := bS HB hb; clear hb yG hg) | ((with_reducible refine yK (N := 8) rfl ?_); (try (refine BH (by rfl) ?_; dsimp only)); refine yE rfl (N := 8) rfl (cs := #[.int .i64 0, .int .i64 0]) (t := 38) (by go_simp) ?_; intro au hg w8 yG hb; have aa := yf.mk (yG); have bI := bG (w := w) hg; have cO := bG (w := w) hg; have aU := BL AB hg; have aQ := Ag AB hg; replace AB := bB AB hb; replace HB := bS HB hb; clear hb yG hg; have dw := aU.out; have dz := aQ.out; have Ve := AR AB; have Vf := bf AB) | (go_at_call 33; (with_reducible refine (yL.calls k yn (fun k_ => k_ < w.heap.size) _ _ yg yo yt (fun k_ => k_ < w.heap.size) _ _ l1 aA aj ay ax ai av az bT _ ?yF ?yM A5.out).mono ?_); (case yF => exact Kd.E8 zG.out (Kd.AX (Kd.Ho (Kd.Bc 3 (Kd.Br .i64)) zq.out) (bO HB))); (case yM => exact Kd.E8 Gd.out (Kd.AX (Kd.Ho DC HR1.out) (bO HB))); rintro e w11 ⟨v239, v244, rfl, ho0, ho1, hb⟩; have bu := yf.mk (Kd.Ao (Kd.yH (ok' := fun k_ => k_ ≠ Ej ∧ k_ ≠ au) ho0 (fun k_ BG => ⟨Or.elim BG (fun hs_ => Or.elim hs_ (fun hs_ => fun e_ => Nat.not_le.2 hs_ (by rw [e_]; exact Kq.out)) (fun hs_ => fun e_ => Nat.not_le.2 hs_ (by rw [e_]; exact Kq.out))) (fun BO => (Kd.Ae (g := Ej) (o := .cells #[.int .i64 yn, .slice yP yg.length yI, .int .i64 yo, .int .i64 yt] 31 (0, 0)) (kk AB) k_ BO)), Or.elim BG (fun hs_ => Or.elim hs_ (fun hs_ => fun e_ => Nat.not_le.2 hs_ (by rw [e_]; exact bI.out)) (fun hs_ => fun e_ => Nat.not_le.2 hs_ (by rw [e_]; exact bI.out))) (fun BO => (Kd.Ae (g := au) (o := .cells #[.int .i64 0, .int .i64 0] 38 (0, 0)) (kk aa) k_ BO))⟩)) (yJ (bO HB))); have bn := yf.mk (Kd.Ao (Kd.yH (ok' := fun k_ => k_ ≠ Ej ∧ k_ ≠ au) ho1 (fun k_ BG => ⟨Or.elim BG (fun hs_ => Or.elim hs_ (fun hs_ => fun e_ => Nat.not_le.2 hs_ (by rw [e_]; exact Kq.out)) (fun hs_ => fun e_ => Nat.not_le.2 hs_ (by rw [e_]; exact Kq.out))) (fun BO => (Kd.Ae (g := Ej) (o := .cells #[.int .i64 yn, .slice yP yg.length yI, .int .i64 yo, .int .i64 yt] 31 (0, 0)) (kk AB) k_ BO)), Or.elim BG (fun hs_ => Or.elim hs_ (fun hs_ => fun e_ => Nat.not_le.2 hs_ (by rw [e_]; exact bI.out)) (fun hs_ => fun e_ => Nat.not_le.2 hs_ (by rw [e_]; exact bI.out))) (fun BO => (Kd.Ae (g := au) (o := .cells #[.int .i64 0, .int .i64 0] 38 (0, 0)) (kk aa) k_ BO))⟩)) (yJ (bO HB))); replace AB := bB AB hb; replace aa := bB aa hb; replace HB := bS HB hb; clear hb; clear ho0; clear ho1) | ((with_reducible refine yK (N := 10) rfl ?_); (try (refine BH (by rfl) ?_; dsimp only)); refine yE rfl (N := 10) rfl (cs := #[.int .i64 0, .slice none 0 0, .int .i64 0, .int .i64 0, .slice none 0 0, .int .i64 0, .int .i64 0]) (t := 71) (by go_simp) ?_; intro ak hg w12 yG hb; have ae := yf.mk (yG); have dA := bG (w := w) hg; have cZ := bG (w := w) hg; have aX := BL AB hg; have aY := Ag AB hg; have aD := BL aa hg; have aG := Ag aa hg; replace bu := yf.mk (Kd.zg (Kd.zu (kV bu) ak (Nat.le_of_eq hg.symm)) hb); replace bn := yf.mk (Kd.zg (Kd.zu (kV bn) ak (Nat.le_of_eq hg.symm)) hb); replace AB := bB AB hb; replace aa := bB aa hb; replace HB := bS HB hb; clear hb yG hg; have Yn := aY.out; have Yo := aX.out; have a1J := aG.out; have a1K := aD.out; have OW := EP ae; have OX := bf ae; obtain ⟨NS, NT, Zn⟩ := Kd.Am bu.out; subst Zn; obtain ⟨NU, NV, Zo⟩ := Kd.Am bn.out; subst Zo))
 repeat (go_quiet (((with_reducible refine yK (N := 4) rfl ?_); (try (refine BH (by rfl) ?_; dsimp only)); refine yE rfl (N := 4) rfl (cs := #[.int .i64 yn, .slice yP yg.length yI, .int .i64 yo, .int .i64 yt]) (t := 31) (by go_simp) ?_; intro Ej hg w7 yG hb; have AB := yf.mk (yG); have Kq := bG (w := w) hg; have RS := bG (w := w) hg; replace HB := bS HB hb; clear hb yG hg)); go_upto_region 2 with (((with_reducible refine yK (N := 4) rfl ?_); (try (refine BH (by rfl) ?_; dsimp only)); refine yE rfl (N := 4) rfl (cs := #[.int .i64 yn, .slice yP yg.length yI, .int .i64 yo, .int .i64 yt]) (t := 31) (by go_simp) ?_; intro Ej hg w7 yG hb; have AB := yf.mk (yG); have Kq := bG (w := w) hg; have RS := bG (w := w) hg; replace HB := bS HB hb; clear hb yG hg)))
 (try simp only [pz])
 go_cut [26] (fun v26 wc => ∃ (kq : Nat) (bA : Bool), v26 = .bool bA ∧ yf (yN.j0 kq a2 l3 bA yn yg yo yt aA aj ay ax ai av az = some (r1, r2, r3)) ∧ yf (kq ≤ k) ∧ yf (Kd.V (Kd.slice 3 (Kd.int .i64)) 63 wc w.heap.size (fun k_ => k_ ≠ Ej ∧ k_ ≠ au ∧ k_ ≠ ak) (.slice NS aj.length NT) aj) ∧ yf (Kd.V Dy 47 wc w.heap.size (fun k_ => k_ ≠ Ej ∧ k_ ≠ au ∧ k_ ≠ ak) (.slice NU ai.length NV) ai) ∧ yf (wc.heap[Ej]? = some (.cells #[.int .i64 yn, (.slice yP yg.length yI), .int .i64 yo, .int .i64 yt] 31 (0, 0))) ∧ yf (wc.heap[au]? = some (.cells #[.int .i64 0, .int .i64 0] 38 (0, 0))) ∧ yf (wc.heap[ak]? = some (.cells #[.int .i64 aA, (.slice NS aj.length NT), .int .i64 ay, .int .i64 ax, (.slice NU ai.length NV), .int .i64 av, .int .i64 az] 71 (0, 0))) ∧ yf (Below w.heap.size w wc))
 case first =>
  have H := bJ.out;clear bJ
  by_cases c18 : bT = true
  rotate_left
  ·
   replace c18 := Bool.eq_false_iff.mpr c18;subst c18
   rw [if_neg (show ¬ (false = true) by decide)] at H
   have H' := yf.mk H;clear H
   go_wp2
   repeat (go_quiet (fail); try go_wp2)
   go_meet
   case rel => exact ⟨_, (true), (by rfl), H', ⟨by omega⟩, ⟨by (with_reducible repeat (apply Kd.zh)); exact Kd.yH (E9 (g := ak) (Kd.yH bu.out (fun k_ hk => (⟨hk, hk.2⟩ : _ ∧ k_ ≠ ak))) (fun _ hk => hk.2)) (fun _ hk => ⟨hk.1.1.1, ⟨hk.1.1.2, hk.1.2⟩⟩)⟩, ⟨by (with_reducible repeat (apply Kd.zh)); exact Kd.yH (E9 (g := ak) (Kd.yH bn.out (fun k_ hk => (⟨hk, hk.2⟩ : _ ∧ k_ ≠ ak))) (fun _ hk => hk.2)) (fun _ hk => ⟨hk.1.1.1, ⟨hk.1.1.2, hk.1.2⟩⟩)⟩, bK AB rfl, bK aa rfl, bK ae rfl, ⟨bO HB⟩⟩
  subst c18;rw [if_pos rfl] at H;have H' := yf.mk H;clear H;have a1M := aU.out;have a1N := aQ.out;have RV := aX.out;have RX := aY.out;have K8 := AR AB;have K9 := bf AB
  go_wp2
  repeat (go_quiet (fail); try go_wp2)
  go_meet
  case rel => exact ⟨_, (((l3.length : Int) != yn)), (by rfl), H', ⟨by omega⟩, ⟨by (with_reducible repeat (apply Kd.zh)); exact Kd.yH (E9 (g := ak) (Kd.yH bu.out (fun k_ hk => (⟨hk, hk.2⟩ : _ ∧ k_ ≠ ak))) (fun _ hk => hk.2)) (fun _ hk => ⟨hk.1.1.1, ⟨hk.1.1.2, hk.1.2⟩⟩)⟩, ⟨by (with_reducible repeat (apply Kd.zh)); exact Kd.yH (E9 (g := ak) (Kd.yH bn.out (fun k_ hk => (⟨hk, hk.2⟩ : _ ∧ k_ ≠ ak))) (fun _ hk => hk.2)) (fun _ hk => ⟨hk.1.1.1, ⟨hk.1.1.2, hk.1.2⟩⟩)⟩, bK AB rfl, bK aa rfl, bK ae rfl, ⟨bO HB⟩⟩
 case rest =>
 clear bJ Ve OW Vf OX;obtain ⟨kq, bA, rfl, HA, aH, ag, af, AB, aa, ae, HB⟩ := hcut
 cases kq with
 | zero => exact absurd HA.out (by simp [yN.j0])
 | succ aN =>
  have H := HA.out;clear HA;simp only [yN.j0] at H
  by_cases Ha : bA = true
  ·
   subst Ha;rw [if_pos rfl] at H;simp only [Option.some.injEq, Prod.mk.injEq] at H;obtain ⟨rfl, rfl, rfl⟩ := H;have dx := aQ.out;have df := aU.out;have UE := aD.out;have UF := aG.out;have OI := bc2 aa;have OJ := bf aa
   go_wp2
   repeat (go_quiet (fail); try go_wp2)
   refine bodyPost_ret (Bg rfl _ _ au 38 #[.int .i64 0, .int .i64 0] (0, 0) _ rfl (CF aa rfl) Try.underlying38 rfl (by kernel_rfl)) rfl ?_
   exact ⟨by rfl, bO HB⟩
  ·
   replace Ha := Bool.eq_false_iff.mpr Ha;subst Ha
   rw [if_neg (show ¬ (false = true) by decide)] at H
   by_cases Oj : a2 < 0
   ·
    rw [if_pos Oj] at H;have Rv := decide_eq_true Oj;clear Oj;simp only [Option.some.injEq, Prod.mk.injEq] at H;obtain ⟨rfl, rfl, rfl⟩ := H;have a1A := aQ.out;have a1B := aU.out;have a0S := aD.out;have a0T := aG.out;have a0U := bc2 aa;have a0V := bf aa
    go_wp2
    repeat (go_quiet (fail); try go_wp2)
    refine bodyPost_ret (Bg rfl _ _ au 38 #[.int .i64 0, .int .i64 0] (0, 0) _ rfl (CF aa rfl) Try.underlying38 rfl (by kernel_rfl)) rfl ?_
    exact ⟨by rfl, bO HB⟩
   ·
    rw [if_neg Oj] at H;have Rv := decide_eq_false Oj;clear Oj;obtain ⟨O9, Yy, H⟩ := bE H
    try dsimp only at H
    by_cases c31 : a2 ≥ O9
    ·
     rw [if_pos c31] at H;have MO := decide_eq_true c31;clear c31;simp only [Option.some.injEq, Prod.mk.injEq] at H;obtain ⟨rfl, rfl, rfl⟩ := H;have Rp := aU.out;have Rq := aQ.out;have UZ := aX.out;have V3 := aY.out;have JX := AR AB;have JY := bf AB
     go_wp2_with ((go_at_call 34; (with_reducible refine (Ch.calls aN yn _ _ yg yo yt O9 _ ?yF ?yM Yy.out).mono ?_); (case yF => exact Da zq); (case yM => exact zG.out); rintro e w35 ⟨rfl, hb⟩; replace ag := KP ag hb; replace af := KP af hb; replace AB := bB AB hb; replace aa := bB aa hb; replace ae := bB ae hb; replace HB := bS HB hb; clear hb; have Rx := aD.out; have Ry := aG.out; have Kg := bc2 aa; have Kh := bf aa))
     repeat (go_quiet ((go_at_call 34; (with_reducible refine (Ch.calls aN yn _ _ yg yo yt O9 _ ?yF ?yM Yy.out).mono ?_); (case yF => exact Da zq); (case yM => exact zG.out); rintro e w35 ⟨rfl, hb⟩; replace ag := KP ag hb; replace af := KP af hb; replace AB := bB AB hb; replace aa := bB aa hb; replace ae := bB ae hb; replace HB := bS HB hb; have Rx := aD.out; have Ry := aG.out; have Kg := bc2 aa; have Kh := bf aa)); try go_wp2_with ((go_at_call 34; (with_reducible refine (Ch.calls aN yn _ _ yg yo yt O9 _ ?yF ?yM Yy.out).mono ?_); (case yF => exact Da zq); (case yM => exact zG.out); rintro e w35 ⟨rfl, hb⟩; replace ag := KP ag hb; replace af := KP af hb; replace AB := bB AB hb; replace aa := bB aa hb; replace ae := bB ae hb; replace HB := bS HB hb; have Rx := aD.out; have Ry := aG.out; have Kg := bc2 aa; have Kh := bf aa)))
     refine bodyPost_ret (Bg rfl _ _ au 38 #[.int .i64 0, .int .i64 0] (0, 0) _ rfl (CF aa rfl) Try.underlying38 rfl (by kernel_rfl)) rfl ?_
     exact ⟨by rfl, bO HB⟩
    ·
     rw [if_neg c31] at H;have MO := decide_eq_false c31;clear c31;obtain ⟨I5, bY, H⟩ := bE H
     try dsimp only at H
     have H' := yf.mk H;clear H;have Rz := aU.out;have RA := aQ.out;have Y5 := aX.out;have Y6 := aY.out;have OM := AR AB;have OO := bf AB
     go_wp2_with (first | (go_at_call 34; (with_reducible refine (Ch.calls aN yn _ _ yg yo yt O9 _ ?yF ?yM Yy.out).mono ?_); (case yF => exact Da zq); (case yM => exact zG.out); rintro e w42 ⟨rfl, hb⟩; replace ag := KP ag hb; replace af := KP af hb; replace AB := bB AB hb; replace aa := bB aa hb; replace ae := bB ae hb; replace HB := bS HB hb; clear hb; have Vy := aG.out; have Vz := aD.out; have RY := EP ae; have RZ := bf ae) | (go_at_call 35; (with_reducible refine (yA.calls aN aA _ _ aj ay ax _ _ ai av az a2 I5 _ ?yF ?yM ?zI ?zJ bY.out).mono ?_); (case yF => exact KQ ag); (case yM => exact (Kd.zx ag.out).2.1); (case zI => exact KQ af); (case zJ => exact (Kd.zx af.out).2.1); rintro e w45 ⟨v252, rfl, ho0, hb⟩; replace ag := yf.mk (Kd.Cm (kV ag) (Kd.AO ho0) hb); replace af := yf.mk (Kd.Cm (kV af) (Kd.AO ho0) hb); have bV := yf.mk (Kd.AL ho0 (yJ (bO HB))); replace AB := bB AB hb; replace aa := bB aa hb; replace ae := bB ae hb; replace HB := bS HB hb; clear hb; clear ho0; have XN := AR AB; have XO := bf AB))
     repeat (go_quiet ((go_at_call 34; (with_reducible refine (Ch.calls aN yn _ _ yg yo yt O9 _ ?yF ?yM Yy.out).mono ?_); (case yF => exact Da zq); (case yM => exact zG.out); rintro e w42 ⟨rfl, hb⟩; replace ag := KP ag hb; replace af := KP af hb; replace AB := bB AB hb; replace aa := bB aa hb; replace ae := bB ae hb; replace HB := bS HB hb; have Vy := aG.out; have Vz := aD.out; have RY := EP ae; have RZ := bf ae)); try go_wp2_with ((go_at_call 34; (with_reducible refine (Ch.calls aN yn _ _ yg yo yt O9 _ ?yF ?yM Yy.out).mono ?_); (case yF => exact Da zq); (case yM => exact zG.out); rintro e w42 ⟨rfl, hb⟩; replace ag := KP ag hb; replace af := KP af hb; replace AB := bB AB hb; replace aa := bB aa hb; replace ae := bB ae hb; replace HB := bS HB hb; have Vy := aG.out; have Vz := aD.out; have RY := EP ae; have RZ := bf ae)))
     go_loopg [13, 14, 56] aN (fun kq v13 v14 v56 w' => ∃ (Cy : Int) (aM : Int) (ah : Int), v13 = .int .i64 Cy ∧ v14 = .int .i64 aM ∧ v56 = .int .i64 ah ∧ yf (yN.l0 kq l3 I5 Cy aM yn ah aA aj ay ax ai av az = some (r1, r2, r3)) ∧ yf (kq ≤ aN) ∧ yf (Kd.R (Kd.int .i64) 3 w' w.heap.size (fun _ => True) v252 I5) ∧ yf (Kd.V (Kd.slice 3 (Kd.int .i64)) 63 w' w.heap.size (fun k_ => some k_ ≠ (v252 : Value).ownBlock ∧ k_ ≠ Ej ∧ k_ ≠ au ∧ k_ ≠ ak) (.slice NS aj.length NT) aj) ∧ yf (Kd.V Dy 47 w' w.heap.size (fun k_ => some k_ ≠ (v252 : Value).ownBlock ∧ k_ ≠ Ej ∧ k_ ≠ au ∧ k_ ≠ ak) (.slice NU ai.length NV) ai) ∧ yf (w'.heap[Ej]? = some (.cells #[.int .i64 yn, (.slice yP yg.length yI), .int .i64 yo, .int .i64 yt] 31 (0, 0))) ∧ yf (w'.heap[au]? = some (.cells #[.int .i64 0, .int .i64 0] 38 (0, 0))) ∧ yf (w'.heap[ak]? = some (.cells #[.int .i64 aA, (.slice NS aj.length NT), .int .i64 ay, .int .i64 ax, (.slice NU ai.length NV), .int .i64 av, .int .i64 az] 71 (0, 0))) ∧ yf (Below w.heap.size w w'))
     case atStart => exact ⟨((-1)), (yt), (0), (by rfl), (by rfl), (by rfl), H', ⟨Nat.le_refl _⟩, ⟨kR bV⟩, ⟨by (with_reducible repeat (apply Kd.Il)); exact Kd.yH ag.out (fun _ hk => ⟨hk.2, ⟨hk.1.1, ⟨hk.1.2.1, hk.1.2.2⟩⟩⟩)⟩, ⟨by (with_reducible repeat (apply Kd.Il)); exact Kd.yH af.out (fun _ hk => ⟨hk.2, ⟨hk.1.1, ⟨hk.1.2.1, hk.1.2.2⟩⟩⟩)⟩, ⟨kk AB⟩, ⟨kk aa⟩, ⟨kk ae⟩, ⟨bO HB⟩⟩
     case round =>
      clear H' Rv MO OM RY XN OO RZ XO;obtain ⟨Cy, aM, ah, rfl, rfl, rfl, HA, DU, AJ, ag, af, AB, aa, ae, HB⟩ := hrel
      cases gk with
      | zero => exact absurd HA.out (by simp [yN.l0])
      | succ k2 =>
       have H := HA.out;clear HA;simp only [yN.l0] at H
       by_cases Ji : ah < yn
       ·
        rw [if_pos Ji] at H;have Ll := decide_eq_true Ji;clear Ji;obtain ⟨IV, bM, H⟩ := bE H
        try dsimp only at H
        have bP := yf.mk H;clear H;have V4 := aY.out;have V5 := aX.out;have V6 := aG.out;have V7 := aD.out;have RF := EP ae;have RG := bf ae
        go_upto_region 12 with ((go_at_call 36; (with_reducible refine (zH.calls k2 aA _ _ aj ay ax _ _ ai av az ah IV _ ?yF ?yM ?zI ?zJ bM.out).mono ?_); (case yF => exact KQ ag); (case yM => exact (Kd.zx ag.out).2.1); (case zI => exact KQ af); (case zJ => exact (Kd.zx af.out).2.1); rintro e w53 ⟨v255, rfl, ho0, hb⟩; have bi := yf.mk (Kd.AL (Kd.CE ho0 (Kd.Em (kR AJ))) (yJ (bO HB))); replace AJ := yf.mk (Kd.Bf (kR AJ) (Kd.AO ho0) hb); replace ag := yf.mk (Kd.Cm (kV ag) (Kd.AO ho0) hb); replace af := yf.mk (Kd.Cm (kV af) (Kd.AO ho0) hb); replace AB := bB AB hb; replace aa := bB aa hb; replace ae := bB ae hb; replace HB := bS HB hb; clear hb; clear ho0; obtain ⟨Zr, Zt, Qg⟩ := Kd.zX bi.out; subst Qg))
        repeat (go_quiet ((go_at_call 36; (with_reducible refine (zH.calls k2 aA _ _ aj ay ax _ _ ai av az ah IV _ ?yF ?yM ?zI ?zJ bM.out).mono ?_); (case yF => exact KQ ag); (case yM => exact (Kd.zx ag.out).2.1); (case zI => exact KQ af); (case zJ => exact (Kd.zx af.out).2.1); rintro e w53 ⟨v255, rfl, ho0, hb⟩; have bi := yf.mk (Kd.AL (Kd.CE ho0 (Kd.Em (kR AJ))) (yJ (bO HB))); replace AJ := yf.mk (Kd.Bf (kR AJ) (Kd.AO ho0) hb); replace ag := yf.mk (Kd.Cm (kV ag) (Kd.AO ho0) hb); replace af := yf.mk (Kd.Cm (kV af) (Kd.AO ho0) hb); replace AB := bB AB hb; replace aa := bB aa hb; replace ae := bB ae hb; replace HB := bS HB hb; obtain ⟨Zr, Zt, Qg⟩ := Kd.zX bi.out; subst Qg)); go_upto_region 12 with ((go_at_call 36; (with_reducible refine (zH.calls k2 aA _ _ aj ay ax _ _ ai av az ah IV _ ?yF ?yM ?zI ?zJ bM.out).mono ?_); (case yF => exact KQ ag); (case yM => exact (Kd.zx ag.out).2.1); (case zI => exact KQ af); (case zJ => exact (Kd.zx af.out).2.1); rintro e w53 ⟨v255, rfl, ho0, hb⟩; have bi := yf.mk (Kd.AL (Kd.CE ho0 (Kd.Em (kR AJ))) (yJ (bO HB))); replace AJ := yf.mk (Kd.Bf (kR AJ) (Kd.AO ho0) hb); replace ag := yf.mk (Kd.Cm (kV ag) (Kd.AO ho0) hb); replace af := yf.mk (Kd.Cm (kV af) (Kd.AO ho0) hb); replace AB := bB AB hb; replace aa := bB aa hb; replace ae := bB ae hb; replace HB := bS HB hb; obtain ⟨Zr, Zt, Qg⟩ := Kd.zX bi.out; subst Qg)))
        (try simp only [pz])
        go_cut [78] (fun v78 wc => ∃ (kq : Nat) (bD : Bool), v78 = .bool bD ∧ yf (yN.j2 kq l3 I5 Cy aM ah (IV.length : Int) yn ah bD aA aj ay ax ai av az = some (r1, r2, r3)) ∧ yf (kq ≤ k2) ∧ yf (Kd.R (Kd.int .i64) 3 wc w.heap.size (fun _ => True) v252 I5) ∧ yf (Kd.V (Kd.slice 3 (Kd.int .i64)) 63 wc w.heap.size (fun k_ => some k_ ≠ (v252 : Value).ownBlock ∧ k_ ≠ Ej ∧ k_ ≠ au ∧ k_ ≠ ak) (.slice NS aj.length NT) aj) ∧ yf (Kd.V Dy 47 wc w.heap.size (fun k_ => some k_ ≠ (v252 : Value).ownBlock ∧ k_ ≠ Ej ∧ k_ ≠ au ∧ k_ ≠ ak) (.slice NU ai.length NV) ai) ∧ yf (wc.heap[Ej]? = some (.cells #[.int .i64 yn, (.slice yP yg.length yI), .int .i64 yo, .int .i64 yt] 31 (0, 0))) ∧ yf (wc.heap[au]? = some (.cells #[.int .i64 0, .int .i64 0] 38 (0, 0))) ∧ yf (wc.heap[ak]? = some (.cells #[.int .i64 aA, (.slice NS aj.length NT), .int .i64 ay, .int .i64 ax, (.slice NU ai.length NV), .int .i64 av, .int .i64 az] 71 (0, 0))) ∧ yf (Below w.heap.size w wc))
        case first =>
         have H := bP.out;clear bP
         by_cases Mx : 0 ≤ ah
         ·
          rw [if_pos Mx] at H;have Yz := decide_eq_true Mx;clear Mx
          (skip)
          by_cases bF : ah < (l3.length : Int)
          ·
           rw [if_pos bF] at H;have dh := decide_eq_true bF;clear bF;obtain ⟨bR, bN⟩ : ∃ b_ : Bool, b_ = (Ns false l3 ah) := ⟨_, rfl⟩
           replace H : (if bR = true then (yN.j2 k2 l3 I5 Cy aM ah (IV.length : Int) yn ah false aA aj ay ax ai av az) else ((slices_Contains_int.f k2 I5 ah).bind fun Vx => (if Vx = true then (yN.j2 k2 l3 I5 Cy aM ah (IV.length : Int) yn ah false aA aj ay ax ai av az) else (yN.j2 k2 l3 I5 Cy aM ah (IV.length : Int) yn ah (decide ((IV.length : Int) < aM)) aA aj ay ax ai av az)))) = some (r1, r2, r3) := by rw [← bN] at H; exact H
           have bL := yf.mk bN;clear bN
           by_cases PQ : bR = true
           ·
            subst PQ;rw [if_pos rfl] at H;have H' := yf.mk H;clear H
            have aK : 0 ≤ (ah : Int) := of_decide_eq_true ‹_›
            have aJ : ah < (l3.length : Int) := of_decide_eq_true ‹_›
            obtain ⟨bQ, e257, aI⟩ := Kd.Ny HR3.out ah aK aJ
            (try rw [← bL.out] at aI)
            cases e257;replace aI := cB HB aI;replace aK := eq_true aK;replace aJ := eq_true aJ
            go_wp2
            repeat (go_quiet (fail); try go_wp2)
            go_meet
            case rel => exact ⟨_, (false), (by rfl), H', ⟨by have := aH.out; have := DU.out; omega⟩, ⟨by (with_reducible repeat (apply Kd.zl)); exact Kd.zb AJ.out (fun _ hk => trivial)⟩, ⟨by (with_reducible repeat (apply Kd.zh)); exact Kd.yH ag.out (fun _ hk => ⟨hk.1.1, ⟨hk.1.2.1, ⟨hk.1.2.2.1, hk.1.2.2.2⟩⟩⟩)⟩, ⟨by (with_reducible repeat (apply Kd.zh)); exact Kd.yH af.out (fun _ hk => ⟨hk.1.1, ⟨hk.1.2.1, ⟨hk.1.2.2.1, hk.1.2.2.2⟩⟩⟩)⟩, ⟨kk AB⟩, ⟨kk aa⟩, ⟨kk ae⟩, ⟨bO HB⟩⟩
           ·
            replace PQ := Bool.eq_false_iff.mpr PQ;subst PQ
            rw [if_neg (show ¬ (false = true) by decide)] at H
            obtain ⟨Vx, Tt, H⟩ := bE H
            try dsimp only at H
            by_cases PU : Vx = true
            ·
             subst PU;rw [if_pos rfl] at H;have H' := yf.mk H;clear H
             have aK : 0 ≤ (ah : Int) := of_decide_eq_true ‹_›
             have aJ : ah < (l3.length : Int) := of_decide_eq_true ‹_›
             obtain ⟨bQ, e257, aI⟩ := Kd.Ny HR3.out ah aK aJ
             (try rw [← bL.out] at aI)
             cases e257;replace aI := cB HB aI;replace aK := eq_true aK;replace aJ := eq_true aJ;obtain ⟨Tu, Tv, VA⟩ := Kd.zX AJ.out;subst VA
             go_wp2_with ((go_at_call 37; (with_reducible refine (slices_Contains_int.calls k2 _ _ I5 ah true _ ?yF ?yM Tt.out).mono ?_); (case yF => exact Kz AJ); (case yM => exact (Kd.zt AJ.out).2.1); rintro e w' ⟨rfl, ⟨nd, rfl⟩⟩; (try exact ⟨rfl, _, World.drewN_drewN _ _ _⟩)))
             repeat (go_quiet ((go_at_call 37; (with_reducible refine (slices_Contains_int.calls k2 _ _ I5 ah true _ ?yF ?yM Tt.out).mono ?_); (case yF => exact Kz AJ); (case yM => exact (Kd.zt AJ.out).2.1); rintro e w' ⟨rfl, ⟨nd, rfl⟩⟩; (try exact ⟨rfl, _, World.drewN_drewN _ _ _⟩))); try go_wp2_with ((go_at_call 37; (with_reducible refine (slices_Contains_int.calls k2 _ _ I5 ah true _ ?yF ?yM Tt.out).mono ?_); (case yF => exact Kz AJ); (case yM => exact (Kd.zt AJ.out).2.1); rintro e w' ⟨rfl, ⟨nd, rfl⟩⟩; (try exact ⟨rfl, _, World.drewN_drewN _ _ _⟩))))
             go_meet
             case rel => exact ⟨_, (false), (by rfl), H', ⟨by have := aH.out; have := DU.out; omega⟩, ⟨by (with_reducible repeat (apply Kd.R5)); exact Kd.zb AJ.out (fun _ hk => trivial)⟩, ⟨by (with_reducible repeat (apply Kd.Il)); exact Kd.yH ag.out (fun _ hk => ⟨hk.1.1, ⟨hk.1.2.1, ⟨hk.1.2.2.1, hk.1.2.2.2⟩⟩⟩)⟩, ⟨by (with_reducible repeat (apply Kd.Il)); exact Kd.yH af.out (fun _ hk => ⟨hk.1.1, ⟨hk.1.2.1, ⟨hk.1.2.2.1, hk.1.2.2.2⟩⟩⟩)⟩, ⟨kk AB⟩, ⟨kk aa⟩, ⟨kk ae⟩, ⟨bO HB⟩⟩
            ·
             replace PU := Bool.eq_false_iff.mpr PU;subst PU
             rw [if_neg (show ¬ (false = true) by decide)] at H
             have H' := yf.mk H;clear H
             have aK : 0 ≤ (ah : Int) := of_decide_eq_true ‹_›
             have aJ : ah < (l3.length : Int) := of_decide_eq_true ‹_›
             obtain ⟨bQ, e257, aI⟩ := Kd.Ny HR3.out ah aK aJ
             (try rw [← bL.out] at aI)
             cases e257;replace aI := cB HB aI;replace aK := eq_true aK;replace aJ := eq_true aJ;obtain ⟨dn, dB, cu⟩ := Kd.zX AJ.out;subst cu
             go_wp2_with ((go_at_call 37; (with_reducible refine (slices_Contains_int.calls k2 _ _ I5 ah false _ ?yF ?yM Tt.out).mono ?_); (case yF => exact Kz AJ); (case yM => exact (Kd.zt AJ.out).2.1); rintro e w' ⟨rfl, ⟨nd, rfl⟩⟩; (try exact ⟨rfl, _, World.drewN_drewN _ _ _⟩)))
             repeat (go_quiet ((go_at_call 37; (with_reducible refine (slices_Contains_int.calls k2 _ _ I5 ah false _ ?yF ?yM Tt.out).mono ?_); (case yF => exact Kz AJ); (case yM => exact (Kd.zt AJ.out).2.1); rintro e w' ⟨rfl, ⟨nd, rfl⟩⟩; (try exact ⟨rfl, _, World.drewN_drewN _ _ _⟩))); try go_wp2_with ((go_at_call 37; (with_reducible refine (slices_Contains_int.calls k2 _ _ I5 ah false _ ?yF ?yM Tt.out).mono ?_); (case yF => exact Kz AJ); (case yM => exact (Kd.zt AJ.out).2.1); rintro e w' ⟨rfl, ⟨nd, rfl⟩⟩; (try exact ⟨rfl, _, World.drewN_drewN _ _ _⟩))))
             go_meet
             case rel => exact ⟨_, (decide ((IV.length : Int) < aM)), (by rfl), H', ⟨by have := aH.out; have := DU.out; omega⟩, ⟨by (with_reducible repeat (apply Kd.R5)); exact Kd.zb AJ.out (fun _ hk => trivial)⟩, ⟨by (with_reducible repeat (apply Kd.Il)); exact Kd.yH ag.out (fun _ hk => ⟨hk.1.1, ⟨hk.1.2.1, ⟨hk.1.2.2.1, hk.1.2.2.2⟩⟩⟩)⟩, ⟨by (with_reducible repeat (apply Kd.Il)); exact Kd.yH af.out (fun _ hk => ⟨hk.1.1, ⟨hk.1.2.1, ⟨hk.1.2.2.1, hk.1.2.2.2⟩⟩⟩)⟩, ⟨kk AB⟩, ⟨kk aa⟩, ⟨kk ae⟩, ⟨bO HB⟩⟩
          ·
           rw [if_neg bF] at H;exact absurd H (by simp)
         ·
          rw [if_neg Mx] at H;exact absurd H (by simp)
        case rest =>
         clear bP Ll RF RG;obtain ⟨kq, bD, rfl, HA, bC, AJ, ag, af, AB, aa, ae, HB⟩ := hcut
         cases kq with
         | zero => exact absurd HA.out (by simp [yN.j2])
         | succ bU =>
          have H := HA.out;clear HA;simp only [yN.j2] at H
          by_cases Qh : bD = true
          ·
           subst Qh;rw [if_pos rfl] at H;have H' := yf.mk H;clear H
           go_wp2
           repeat (go_quiet (fail); try go_wp2)
           go_roundg bU
           case measure => have := aH.out; have := DU.out; have := bC.out; omega
           case rel => exact ⟨(ah), ((IV.length : Int)), (wrap64 (ah + 1)), (by rfl), (by rfl), (by rfl), H', ⟨by have := aH.out; have := DU.out; have := bC.out; omega⟩, ⟨kR AJ⟩, ⟨kV ag⟩, ⟨kV af⟩, ⟨kk AB⟩, ⟨kk aa⟩, ⟨kk ae⟩, ⟨bO HB⟩⟩
          ·
           replace Qh := Bool.eq_false_iff.mpr Qh;subst Qh
           rw [if_neg (show ¬ (false = true) by decide)] at H
           have H' := yf.mk H;clear H
           go_wp2
           repeat (go_quiet (fail); try go_wp2)
           go_roundg bU
           case measure => have := aH.out; have := DU.out; have := bC.out; omega
           case rel => exact ⟨(Cy), (aM), (wrap64 (ah + 1)), (by rfl), (by rfl), (by rfl), H', ⟨by have := aH.out; have := DU.out; have := bC.out; omega⟩, ⟨kR AJ⟩, ⟨kV ag⟩, ⟨kV af⟩, ⟨kk AB⟩, ⟨kk aa⟩, ⟨kk ae⟩, ⟨bO HB⟩⟩
       ·
        rw [if_neg Ji] at H;have Ll := decide_eq_false Ji;clear Ji
        by_cases c64 : Cy < 0
        ·
         rw [if_pos c64] at H;have S9 := decide_eq_true c64;clear c64;simp only [Option.some.injEq, Prod.mk.injEq] at H;obtain ⟨rfl, rfl, rfl⟩ := H;have a1W := aQ.out;have a1X := aU.out;have Yu := aD.out;have Yv := aG.out;have a1Y := bc2 aa;have a1Z := bf aa
         go_wp2
         repeat (go_quiet (fail); try go_wp2)
         refine bodyPost_ret (Bg rfl _ _ au 38 #[.int .i64 0, .int .i64 0] (0, 0) _ rfl (CF aa rfl) Try.underlying38 rfl (by kernel_rfl)) rfl ?_
         exact ⟨by rfl, bO HB⟩
        ·
         rw [if_neg c64] at H;have S9 := decide_eq_false c64;clear c64;obtain ⟨H8, A68, H⟩ := bE H
         try dsimp only at H
         have H' := yf.mk H;clear H;have d9 := aY.out;have dm := aX.out;have a2a := aG.out;have a2b := aD.out;have bZ := EP ae;have bW := bf ae
         go_wp2_with ((go_at_call 36; (with_reducible refine (zH.calls k2 aA _ _ aj ay ax _ _ ai av az Cy H8 _ ?yF ?yM ?zI ?zJ A68.out).mono ?_); (case yF => exact KQ ag); (case yM => exact (Kd.zx ag.out).2.1); (case zI => exact KQ af); (case zJ => exact (Kd.zx af.out).2.1); rintro e w72 ⟨v260, rfl, ho0, hb⟩; have aZ := yf.mk (Kd.AL (Kd.CE ho0 (Kd.Em (kR AJ))) (yJ (bO HB))); replace AJ := yf.mk (Kd.Bf (kR AJ) (Kd.AO ho0) hb); replace ag := yf.mk (Kd.Cm (kV ag) (Kd.AO ho0) hb); replace af := yf.mk (Kd.Cm (kV af) (Kd.AO ho0) hb); replace AB := bB AB hb; replace aa := bB aa hb; replace ae := bB ae hb; replace HB := bS HB hb; clear hb; clear ho0; obtain ⟨bv, bg, bq⟩ := Kd.zX aZ.out; subst bq))
         repeat (go_quiet ((go_at_call 36; (with_reducible refine (zH.calls k2 aA _ _ aj ay ax _ _ ai av az Cy H8 _ ?yF ?yM ?zI ?zJ A68.out).mono ?_); (case yF => exact KQ ag); (case yM => exact (Kd.zx ag.out).2.1); (case zI => exact KQ af); (case zJ => exact (Kd.zx af.out).2.1); rintro e w72 ⟨v260, rfl, ho0, hb⟩; have aZ := yf.mk (Kd.AL (Kd.CE ho0 (Kd.Em (kR AJ))) (yJ (bO HB))); replace AJ := yf.mk (Kd.Bf (kR AJ) (Kd.AO ho0) hb); replace ag := yf.mk (Kd.Cm (kV ag) (Kd.AO ho0) hb); replace af := yf.mk (Kd.Cm (kV af) (Kd.AO ho0) hb); replace AB := bB AB hb; replace aa := bB aa hb; replace ae := bB ae hb; replace HB := bS HB hb; obtain ⟨bv, bg, bq⟩ := Kd.zX aZ.out; subst bq)); try go_wp2_with ((go_at_call 36; (with_reducible refine (zH.calls k2 aA _ _ aj ay ax _ _ ai av az Cy H8 _ ?yF ?yM ?zI ?zJ A68.out).mono ?_); (case yF => exact KQ ag); (case yM => exact (Kd.zx ag.out).2.1); (case zI => exact KQ af); (case zJ => exact (Kd.zx af.out).2.1); rintro e w72 ⟨v260, rfl, ho0, hb⟩; have aZ := yf.mk (Kd.AL (Kd.CE ho0 (Kd.Em (kR AJ))) (yJ (bO HB))); replace AJ := yf.mk (Kd.Bf (kR AJ) (Kd.AO ho0) hb); replace ag := yf.mk (Kd.Cm (kV ag) (Kd.AO ho0) hb); replace af := yf.mk (Kd.Cm (kV af) (Kd.AO ho0) hb); replace AB := bB AB hb; replace aa := bB aa hb; replace ae := bB ae hb; replace HB := bS HB hb; obtain ⟨bv, bg, bq⟩ := Kd.zX aZ.out; subst bq)))
         go_loopg [17, 91] k2 (fun kq v17 v91 w' => ∃ (aT : Int) (aC : Int), v17 = .int .i64 aT ∧ v91 = .int .i64 aC ∧ yf (yN.l1 kq Cy aT H8 (H8.length : Int) aC = some (r1, r2, r3)) ∧ yf (kq ≤ k2) ∧ yf (Kd.R (Kd.int .i64) 3 w' w.heap.size (fun _ => True) (.slice bv H8.length bg) H8) ∧ yf (Kd.V (Kd.slice 3 (Kd.int .i64)) 63 w' w.heap.size (fun k_ => some k_ ≠ ((.slice bv H8.length bg) : Value).ownBlock ∧ k_ ≠ Ej ∧ k_ ≠ au ∧ k_ ≠ ak) (.slice NS aj.length NT) aj) ∧ yf (Kd.V Dy 47 w' w.heap.size (fun k_ => some k_ ≠ ((.slice bv H8.length bg) : Value).ownBlock ∧ k_ ≠ Ej ∧ k_ ≠ au ∧ k_ ≠ ak) (.slice NU ai.length NV) ai) ∧ yf (w'.heap[Ej]? = some (.cells #[.int .i64 yn, (.slice yP yg.length yI), .int .i64 yo, .int .i64 yt] 31 (0, 0))) ∧ yf (w'.heap[au]? = some (.cells #[.int .i64 0, .int .i64 0] 38 (0, 0))) ∧ yf (w'.heap[ak]? = some (.cells #[.int .i64 aA, (.slice NS aj.length NT), .int .i64 ay, .int .i64 ax, (.slice NU ai.length NV), .int .i64 av, .int .i64 az] 71 (0, 0))) ∧ yf (Below w.heap.size w w'))
         case atStart => exact ⟨(av), (0), (by rfl), (by rfl), H', ⟨Nat.le_refl _⟩, ⟨by (with_reducible repeat (apply Kd.zl)); exact Kd.zb aZ.out (fun _ hk => trivial)⟩, ⟨by (with_reducible repeat (apply Kd.zh)); exact Kd.yH ag.out (fun _ hk => ⟨hk.2, ⟨hk.1.2.1, ⟨hk.1.2.2.1, hk.1.2.2.2⟩⟩⟩)⟩, ⟨by (with_reducible repeat (apply Kd.zh)); exact Kd.yH af.out (fun _ hk => ⟨hk.2, ⟨hk.1.2.1, ⟨hk.1.2.2.1, hk.1.2.2.2⟩⟩⟩)⟩, ⟨kk AB⟩, ⟨kk aa⟩, ⟨kk ae⟩, ⟨bO HB⟩⟩
         case round =>
          clear H' Ll S9 bZ bW;obtain ⟨aT, aC, rfl, rfl, HA, FH, bH, ag, af, AB, aa, ae, HB⟩ := hrel
          cases gk with
          | zero => exact absurd HA.out (by simp [yN.l1])
          | succ k3 =>
           have H := HA.out;clear HA;simp only [yN.l1] at H
           by_cases VB : aC < (H8.length : Int)
           ·
            rw [if_pos VB] at H;have YA := decide_eq_true VB;clear VB
            by_cases c75 : 0 ≤ aC
            ·
             rw [if_pos c75] at H;have a2c := decide_eq_true c75;clear c75
             by_cases c76 : aC < (H8.length : Int)
             ·
              rw [if_pos c76] at H;have a2d := decide_eq_true c76;clear c76
              by_cases Tw : (rd H8 aC) = aT
              ·
               rw [if_pos Tw] at H;have YB := beq_iff_eq.mpr Tw
               have YC : ((rd H8 aC) != aT) = false := bne_eq_false_iff_eq.mpr Tw
               clear Tw;have H' := yf.mk H;clear H
               have aW : 0 ≤ (aC : Int) := of_decide_eq_true ‹_›
               have aV : aC < (H8.length : Int) := of_decide_eq_true ‹_›
               obtain ⟨bX, e262, cz⟩ := Kd.Bv (Kd.zt bH.out).2.2 aC aW aV;cases e262;replace aW := eq_true aW;replace aV := eq_true aV
               go_wp2
               repeat (go_quiet (fail); try go_wp2)
               go_roundg k3
               case measure => have := aH.out; have := DU.out; have := FH.out; omega
               case rel => exact ⟨(wrap64 (aT + 1)), (wrap64 (aC + 1)), (by rfl), (by rfl), H', ⟨by have := aH.out; have := DU.out; have := FH.out; omega⟩, ⟨kR bH⟩, ⟨kV ag⟩, ⟨kV af⟩, ⟨kk AB⟩, ⟨kk aa⟩, ⟨kk ae⟩, ⟨bO HB⟩⟩
              ·
               rw [if_neg Tw] at H;have YB := beq_eq_false_iff_ne.mpr Tw;have YC := bne_iff_ne.mpr Tw;have H' := yf.mk H;clear H
               have aW : 0 ≤ (aC : Int) := of_decide_eq_true ‹_›
               have aV : aC < (H8.length : Int) := of_decide_eq_true ‹_›
               obtain ⟨bX, e262, cz⟩ := Kd.Bv (Kd.zt bH.out).2.2 aC aW aV;cases e262;replace aW := eq_true aW;replace aV := eq_true aV
               go_wp2
               repeat (go_quiet (fail); try go_wp2)
               go_roundg k3
               case measure => have := aH.out; have := DU.out; have := FH.out; omega
               case rel => exact ⟨(aT), (wrap64 (aC + 1)), (by rfl), (by rfl), H', ⟨by have := aH.out; have := DU.out; have := FH.out; omega⟩, ⟨kR bH⟩, ⟨kV ag⟩, ⟨kV af⟩, ⟨kk AB⟩, ⟨kk aa⟩, ⟨kk ae⟩, ⟨bO HB⟩⟩
             ·
              rw [if_neg c76] at H;exact absurd H (by simp)
            ·
             rw [if_neg c75] at H;exact absurd H (by simp)
           ·
            rw [if_neg VB] at H;have YA := decide_eq_false VB;clear VB;simp only [Option.some.injEq, Prod.mk.injEq] at H;obtain ⟨rfl, rfl, rfl⟩ := H;have V9 := aQ.out;have Va := aU.out;have a2e := aD.out;have a2f := aG.out;have di := bc2 aa;have cK := bf aa
            go_wp2
            repeat (go_quiet (fail); try go_wp2)
            refine bodyPost_ret (Bg rfl _ _ au 38 #[.int .i64 Cy, .int .i64 aT] (0, 0) _ rfl (CF aa rfl) Try.underlying38 rfl (by kernel_rfl)) rfl ?_
            exact ⟨by rfl, bO HB⟩
end Go.Proofs.Ytjonnfmoocijlaa.P
