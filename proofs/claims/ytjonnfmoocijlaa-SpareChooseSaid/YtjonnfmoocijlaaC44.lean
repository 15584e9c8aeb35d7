/- Texts of a claim, packed. -/
import Derived.Test.YtjonnfmoocijlaaC43
set_option linter.all false
namespace Go.Proofs.Ytjonnfmoocijlaa.P
open Go.RowKit Go.Proofs.YtjonnfmoocijlaaKW.PrintWords Go.Proofs.YtjonnfmoocijlaaKW.PrintLast Go.Proofs.YtjonnfmoocijlaaKW.PrintMore
attribute [local go_sem] zO zP Aj Ak zC zD zQ zR
attribute [local go_sem high] Mr
def zm.j0 : Nat → List (AX) → List Bool → Int → Bool → Int → Int → Int → List (List Int) → Int → Int → Int → Int → Option (Bool)
 | 0, _, _, _, _, _, _, _, _, _, _, _, _ => none
 | k + 1, x8, x9, EK, ag, aj, av, au, ah, ai, ak, af, aa => if ag = true then (if EK = 2 then (if (af == 0 && (aa == 0)) = true then (some true) else (none)) else (none)) else ((yH.f k au ah ai ak x8 aj x9).bind fun ae => (if ae.2.2 = true then (if EK = 0 then (if (af == ae.1 && (aa == ae.2.1)) = true then (some true) else (none)) else (none)) else (if EK = 11 then (if (af == 0 && (aa == 0)) = true then (some true) else (none)) else (none))))
def zm.f (k : Nat) (a0 : Int) (l1 : List Int) (zn : Int) (zz : Int) : Option (Bool) := (zN.f k).bind fun YA => (if YA = true then (if (l1.length : Int) > 20 then (some true) else ((zh.f k a0).bind fun CO => ((yK.f k CO.1 CO.2.1 CO.2.2.1 CO.2.2.2 l1).bind fun Hm => ((zk.f k CO.1 zz).bind fun Ho => ((yV.f k CO.1 CO.2.1 CO.2.2.1 CO.2.2.2 Hm zn Ho).bind fun Iu => (if zn < 0 then (zm.j0 k Hm Ho Iu.2.2 true zn zz CO.1 CO.2.1 CO.2.2.1 CO.2.2.2 Iu.1 Iu.2.1) else ((zI.f CO.1 CO.2.1 CO.2.2.1 CO.2.2.2).bind fun VD => (zm.j0 k Hm Ho Iu.2.2 (decide (zn ≥ VD)) zn zz CO.1 CO.2.1 CO.2.2.1 CO.2.2.2 Iu.1 Iu.2.1)))))))) else (none))
def zm.T9 : Bool × List (List Nat × List Nat) := (true, [([], []), ([0], [0]), ([1], [1]), ([2], [2]), ([3], [3]), ([4, 3], [3, 4]), ([3], [3]), ([6, 3, 3], [3, 6]), ([5, 7, 3], [3, 5, 7]), ([3, 8], [3, 8])])
def zm.B9 : List Nat := [0, 1, 3, 7, 15, 31, 15, 79, 255, 511]
theorem zm.NJ : CZ .any (opsOf Try.f3 9) = zm.T9 := by kernel_rfl
theorem zm.Jm : BD zm.T9.2 zm.B9 = true := by kernel_rfl
set_option maxHeartbeats 8000000 in
set_option maxRecDepth 100000 in
theorem zm.calls (k : Nat) (a0 : Int) (A1 : Option Addr) (c1 : Nat) (l1 : List Int) (zn : Int) (zz : Int) (r : Bool) (w : World) (hr1 : Kd.C (Kd.int .u8) w A1 l1.length l1) (hc1 : l1.length ≤ c1) (h : zm.f k a0 l1 zn zz = some r) :
  Calls Try.prog 3 #[.int .u16 a0, .slice A1 l1.length c1, .agg #[.int .i64 zn, .int .u16 zz]] w fun e w' => e = .returned (.bool r) ∧ Below w.heap.size w w' := by
 have a7h := Try.underlying25;have FH := Try.underlying31;have Jd := Try.underlying38;have HR1 := yf.mk hr1;have GH := yf.mk hc1;clear hr1 hc1;have HB := yf.mk (Below.refl w.heap.size w)
 have H : ((zN.f k).bind fun YA => (if YA = true then (if (l1.length : Int) > 20 then (some true) else ((zh.f k a0).bind fun CO => ((yK.f k CO.1 CO.2.1 CO.2.2.1 CO.2.2.2 l1).bind fun Hm => ((zk.f k CO.1 zz).bind fun Ho => ((yV.f k CO.1 CO.2.1 CO.2.2.1 CO.2.2.2 Hm zn Ho).bind fun Iu => (if zn < 0 then (zm.j0 k Hm Ho Iu.2.2 true zn zz CO.1 CO.2.1 CO.2.2.1 CO.2.2.2 Iu.1 Iu.2.1) else ((zI.f CO.1 CO.2.1 CO.2.2.1 CO.2.2.2).bind fun VD => (zm.j0 k Hm Ho Iu.2.2 (decide (zn ≥ VD)) zn zz CO.1 CO.2.1 CO.2.2.1 CO.2.2.2 Iu.1 Iu.2.1)))))))) else (none))) = some r := h
 clear h;obtain ⟨YA, A4, H⟩ := bE H
 try dsimp only at H
 by_cases c5 : YA = true
 rotate_left
 ·
  replace c5 := Bool.eq_false_iff.mpr c5;subst c5
  rw [if_neg (show ¬ (false = true) by decide)] at H
  exact absurd H (by simp)
 subst c5;rw [if_pos rfl] at H
 by_cases c6 : (l1.length : Int) > 20
 ·
  rw [if_pos c6] at H;have EJ := decide_eq_true c6
  have IX : decide (20 < l1.length) = true := decide_eq_true (by omega)
  clear c6;obtain rfl := Option.some.inj H
  go_enter Try.func3, Try.ntmps3
  go_wp2_with (first | ((with_reducible refine yI (N := 5) rfl ?_); refine yG rfl (N := 5) rfl (cs := #[.int .i64 zn, .int .u16 zz]) (t := 25) (by go_simp) ?_; intro aD hg w7 yJ hb; have aa := yf.mk (yJ); have bA := bG (w := w) hg; have bu := bG (w := w) hg; replace HB := bS HB hb; clear hb yJ hg) | ((with_reducible refine yw (f := 9) rfl ?_); refine gL (some 14) Try.func9 #[] ?_; (with_reducible refine (zN.calls k  true _ A4.out).mono ?_); rintro e w8 ⟨rfl, hb⟩; refine ⟨_, rfl, ?_⟩; replace aa := bB aa hb; replace HB := bS HB hb; clear hb))
  go_ret
  exact ⟨by rfl, bO HB⟩
 rw [if_neg c6] at H;have EJ := decide_eq_false c6
 have IX : decide (20 < l1.length) = false := decide_eq_false (by omega)
 clear c6;obtain ⟨⟨ax, au, az, ay⟩, A9, H⟩ := bE H
 try dsimp only at H
 obtain ⟨Hm, VJ, H⟩ := bE H
 try dsimp only at H
 obtain ⟨Ho, RP, H⟩ := bE H
 try dsimp only at H
 obtain ⟨⟨ah, ai, aG⟩, ZL, H⟩ := bE H
 try dsimp only at H
 have TS := yf.mk H;clear H
 go_enter Try.func3, Try.ntmps3
 go_upto_region 9 with (first | ((with_reducible refine yI (N := 5) rfl ?_); refine yG rfl (N := 5) rfl (cs := #[.int .i64 zn, .int .u16 zz]) (t := 25) (by go_simp) ?_; intro aD hg w14 yJ hb; have aa := yf.mk (yJ); have bA := bG (w := w) hg; have bu := bG (w := w) hg; replace HB := bS HB hb; clear hb yJ hg) | ((with_reducible refine yw (f := 9) rfl ?_); refine gL (some 14) Try.func9 #[] ?_; (with_reducible refine (zN.calls k  true _ A4.out).mono ?_); rintro e w15 ⟨rfl, hb⟩; refine ⟨_, rfl, ?_⟩; replace aa := bB aa hb; replace HB := bS HB hb; clear hb) | ((with_reducible refine yw (f := 10) rfl ?_); refine gL (some 20) Try.func10 #[.int .u16 a0] ?_; (with_reducible refine (zh.calls k a0 ax au az ay _ A9.out).mono ?_); rintro e w16 ⟨v598, rfl, ho0, hb⟩; refine ⟨_, rfl, ?_⟩; have aj := yf.mk (Kd.Eu ho0 (yL (bO HB))); replace aa := bB aa hb; replace HB := bS HB hb; clear hb; clear ho0) | ((with_reducible refine yI (N := 7) rfl ?_); refine yG rfl (N := 7) rfl (cs := #[.int .i64 0, .slice none 0 0, .int .i64 0, .int .i64 0]) (t := 31) (by go_simp) ?_; intro aC hg w17 yJ hb; have ae := yf.mk (yJ); have bI := bG (w := w) hg; have bM := bG (w := w) hg; have aU := Co aa hg; have aZ := Ar aa hg; replace aj := EH aj hb; replace aa := bB aa hb; replace HB := bS HB hb; clear hb yJ hg; have Ux := aZ.out; have Uy := aU.out; have Uz := AP ae; have UA := bf ae; obtain ⟨DX, Dn, Q3⟩ := Kd.Eb aj.out; subst Q3) | ((with_reducible refine yw (f := 11) rfl ?_); refine gL (some 23) Try.func11 #[.agg #[.int .i64 ax, .slice DX au.length Dn, .int .i64 az, .int .i64 ay], .slice A1 l1.length c1] ?_; (with_reducible refine (yK.calls k ax _ _ au az ay _ _ l1 Hm _ ?yD ?yF ?zw ?zx VJ.out).mono ?_); (case yD => refine (Kd.zG (e := 63) (base := w.heap.size) (ok := fun k_ => True) (n := au.length) (c := Dn) ?_).2.2; exact (by (with_reducible repeat (apply Kd.Az)); exact (Kd.Bo (GA (g := aC) (Kd.AO aj.out ae.out (by decide)) (fun _ hk => hk.2)) (fun _ h_ => h_.1)))); (case yF => exact (Kd.zG aj.out).2.1); (case zw => exact Kd.Cg HR1.out (bO HB)); (case zx => exact GH.out); rintro e w21 ⟨v604, rfl, ho0, hb⟩; refine ⟨_, rfl, ?_⟩; replace aj := yf.mk (Kd.E9 (by (with_reducible repeat (apply Kd.Az)); exact (Kd.Bo (GA (g := aC) (Kd.AO aj.out ae.out (by decide)) (fun _ hk => hk.2)) (fun _ h_ => h_.1))) hb); have ak := yf.mk (Kd.Ay ho0 (yL (bO HB))); replace aa := yf.mk (yS (g := aD) (o := .cells #[.int .i64 zn, .int .u16 zz] 25 (0, 0)) (CJ aa rfl) hb); replace ae := yf.mk (yS (g := aC) (o := .cells #[.int .i64 ax, .slice DX au.length Dn, .int .i64 az, .int .i64 ay] 31 (0, 0)) (CJ ae rfl) hb); replace HB := bS HB hb; clear hb; clear ho0; have KU := AP ae; have KV := bf ae; have Ro := bc2 aa; have Rp := bf aa) | ((with_reducible refine yw (f := 12) rfl ?_); refine gL (some 29) Try.func12 #[.int .i64 ax, .int .u16 zz] ?_; (with_reducible refine (zk.calls k ax zz Ho _ RP.out).mono ?_); rintro e w24 ⟨v607, rfl, ho0, hb⟩; refine ⟨_, rfl, ?_⟩; replace aj := EH aj hb; replace ak := BZ ak hb; have av := yf.mk (Kd.Ay ho0 (yL (bO HB))); replace aa := bB aa hb; replace ae := bB ae hb; replace HB := bS HB hb; clear hb; clear ho0; have KM := AP ae; have KN := bf ae; have Pq := bc2 aa; have Ps := bf aa; obtain ⟨Gv, Gw, Q0⟩ := Kd.zJ ak.out; subst Q0; obtain ⟨Td, Te, a2k⟩ := Kd.zJ av.out; subst a2k) | ((with_reducible refine yw (f := 13) rfl ?_); refine gL (some 36) Try.func13 #[.agg #[.int .i64 ax, .slice DX au.length Dn, .int .i64 az, .int .i64 ay], .slice Gv Hm.length Gw, .int .i64 zn, .slice Td Ho.length Te] ?_; (with_reducible refine (yV.calls k ax _ _ au az ay _ _ Hm zn _ _ Ho ah ai aG _ ?yD ?yF ?zw ?zx ?Dy ?Dz ZL.out).mono ?_); (case yD => exact H9 aj); (case yF => exact (Kd.zG aj.out).2.1); (case zw => exact G7 ak); (case zx => exact (Kd.yT ak.out).2.1); (case Dy => exact G7 av); (case Dz => exact (Kd.yT av.out).2.1); rintro e w29 ⟨rfl, hb⟩; refine ⟨_, rfl, ?_⟩; replace aj := EH aj hb; replace ak := BZ ak hb; replace av := BZ av hb; replace aa := bB aa hb; replace ae := bB ae hb; replace HB := bS HB hb; clear hb) | ((with_reducible refine yI (N := 10) rfl ?_); refine yG rfl (N := 10) rfl (cs := #[.int .i64 0, .int .i64 0]) (t := 38) (by go_simp) ?_; intro ag hg w30 yJ hb; have af := yf.mk (yJ); have bD := bG (w := w) hg; have bL := bG (w := w) hg; have aQ := Co aa hg; have aK := Ar aa hg; have aT := Co ae hg; have aN := Ar ae hg; replace aj := EH aj hb; replace ak := BZ ak hb; replace av := BZ av hb; replace aa := bB aa hb; replace ae := bB ae hb; replace HB := bS HB hb; clear hb yJ hg; have QT := aK.out; have QU := aQ.out; have P8 := aN.out; have P9 := aT.out; have Je := bc2 af; have Jf := bf af))
 (try simp only [pz])
 go_cut [48] (fun v48 wc => ∃ (kq : Nat) (aM : Bool), v48 = .bool aM ∧ yf (zm.j0 kq Hm Ho aG aM zn zz ax au az ay ah ai = some r) ∧ yf (kq ≤ k) ∧ yf (Kd.R CS 47 wc w.heap.size (fun _ => True) (.slice Gv Hm.length Gw) Hm) ∧ yf (Kd.R Kd.bool 4 wc w.heap.size (fun _ => True) (.slice Td Ho.length Te) Ho) ∧ yf (Kd.S (Kd.slice 3 (Kd.int .i64)) 63 wc w.heap.size (fun _ => True) (.slice DX au.length Dn) au) ∧ yf (wc.heap[aD]? = some (.cells #[.int .i64 zn, .int .u16 zz] 25 (0, 0))) ∧ yf (wc.heap[aC]? = some (.cells #[.int .i64 ax, (.slice DX au.length Dn), .int .i64 az, .int .i64 ay] 31 (0, 0))) ∧ yf (wc.heap[ag]? = some (.cells #[.int .i64 ah, .int .i64 ai] 38 (0, 0))) ∧ yf (Below w.heap.size w wc))
 case first =>
  have H := TS.out;clear TS
  by_cases c34 : zn < 0
  ·
   rw [if_pos c34] at H;have YB := decide_eq_true c34;clear c34
   (skip)
   have H' := yf.mk H;clear H
   try go_wp2
   have BL : yf (Kd.S (Kd.slice 3 (Kd.int .i64)) 63 ((w30.setCell ⟨ag, 0, none⟩ (.int .i64 ah)).setCell ⟨ag, 1, none⟩ (.int .i64 ai)) w.heap.size (fun _ => True) (.slice DX au.length Dn) au) := ⟨by (with_reducible repeat (apply Kd.Az)); exact Kd.Bo (GA (g := ag) (Kd.AO aj.out af.out (by decide)) (fun _ hk => hk.2)) (fun _ hk => trivial)⟩
   have BN : yf (Kd.R CS 47 ((w30.setCell ⟨ag, 0, none⟩ (.int .i64 ah)).setCell ⟨ag, 1, none⟩ (.int .i64 ai)) w.heap.size (fun _ => True) (.slice Gv Hm.length Gw) Hm) := ⟨by (with_reducible repeat (apply Kd.yZ)); exact Kd.yX (F4 (g := ag) (Kd.Aw ak.out af.out (by decide)) (fun _ hk => hk.2)) (fun _ hk => trivial)⟩
   have BX : yf (Kd.R Kd.bool 4 ((w30.setCell ⟨ag, 0, none⟩ (.int .i64 ah)).setCell ⟨ag, 1, none⟩ (.int .i64 ai)) w.heap.size (fun _ => True) (.slice Td Ho.length Te) Ho) := ⟨by (with_reducible repeat (apply Kd.yZ)); exact Kd.yX (F4 (g := ag) (Kd.Aw av.out af.out (by decide)) (fun _ hk => hk.2)) (fun _ hk => trivial)⟩
   have Cr : yf (((w30.setCell ⟨ag, 0, none⟩ (.int .i64 ah)).setCell ⟨ag, 1, none⟩ (.int .i64 ai)).heap[aD]? = some (.cells #[.int .i64 zn, .int .u16 zz] 25 (0, 0))) := bK aa rfl
   have CG : yf (((w30.setCell ⟨ag, 0, none⟩ (.int .i64 ah)).setCell ⟨ag, 1, none⟩ (.int .i64 ai)).heap[aC]? = some (.cells #[.int .i64 ax, .slice DX au.length Dn, .int .i64 az, .int .i64 ay] 31 (0, 0))) := bK ae rfl
   have CU : yf (((w30.setCell ⟨ag, 0, none⟩ (.int .i64 ah)).setCell ⟨ag, 1, none⟩ (.int .i64 ai)).heap[ag]? = some (.cells #[.int .i64 ah, .int .i64 ai] 38 (0, 0))) := bK af rfl
   have Eh : yf (Below w.heap.size w ((w30.setCell ⟨ag, 0, none⟩ (.int .i64 ah)).setCell ⟨ag, 1, none⟩ (.int .i64 ai))) := ⟨bO HB⟩
   clear aj ak av aa ae af HB;generalize ((w30.setCell ⟨ag, 0, none⟩ (.int .i64 ah)).setCell ⟨ag, 1, none⟩ (.int .i64 ai)) = w35 at BL BN BX Cr CG CU Eh ⊢;have aj := BL;have ak := BN;have av := BX;have aa := Cr;have ae := CG;have af := CU;have HB := Eh;clear BL BN BX Cr CG CU Eh;replace aj := yf.mk (Kd.Ea aj.out);replace ak := yf.mk (Kd.AQ ak.out);replace av := yf.mk (Kd.AQ av.out);replace aa := yf.mk (yO aa.out);replace ae := yf.mk (yO ae.out);replace af := yf.mk (yO af.out);replace HB := yf.mk (za HB.out)
   refine Bc (n := 10) (S := fun w' => w'.cell? ⟨aD, 0, none⟩ = some (.int .i64 zn) ∧ w'.cell? ⟨aD, 1, none⟩ = some (.int .u16 zz)) (ds := []) (bz 10 0) (by kernel_rfl) rfl rfl (bc2 aa) (fun hHeld => ?_); refine zF zm.NJ zm.Jm (fun yz Bi => ?_)
   generalize w35.drew = w36 at aj ak av aa ae af HB hHeld ⊢;refine pU 0 39 10 1 yz ?_
   refine BO 1 40 10 3 yz Bi hHeld ?_
   refine pU 2 41 10 7 yz ?_;refine pU 3 42 10 15 yz ?_;refine pN 4 43 10 31 yz ?_;refine pN 5 44 10 63 yz ?_;refine pN 6 45 10 127 yz ?_;refine pN 7 46 10 255 yz ?_;refine pN 8 47 10 511 yz ?_;refine pU 9 48 10 1023 yz ?_
   refine BG (Al yz.out (by kernel_rfl)) ?_
   try go_wp2
   go_meet
   case rel => exact ⟨_, (true), (by rfl), H', ⟨by omega⟩, ⟨kR ak⟩, ⟨kR av⟩, ⟨kS aj⟩, ⟨kk aa⟩, ⟨kk ae⟩, ⟨kk af⟩, ⟨bO HB⟩⟩
  rw [if_neg c34] at H;have YB := decide_eq_false c34;clear c34
  (skip)
  obtain ⟨VD, A37, H⟩ := bE H
  try dsimp only at H
  have H' := yf.mk H;clear H
  try go_wp2
  have BL : yf (Kd.S (Kd.slice 3 (Kd.int .i64)) 63 ((w30.setCell ⟨ag, 0, none⟩ (.int .i64 ah)).setCell ⟨ag, 1, none⟩ (.int .i64 ai)) w.heap.size (fun _ => True) (.slice DX au.length Dn) au) := ⟨by (with_reducible repeat (apply Kd.Az)); exact Kd.Bo (GA (g := ag) (Kd.AO aj.out af.out (by decide)) (fun _ hk => hk.2)) (fun _ hk => trivial)⟩
  have BN : yf (Kd.R CS 47 ((w30.setCell ⟨ag, 0, none⟩ (.int .i64 ah)).setCell ⟨ag, 1, none⟩ (.int .i64 ai)) w.heap.size (fun _ => True) (.slice Gv Hm.length Gw) Hm) := ⟨by (with_reducible repeat (apply Kd.yZ)); exact Kd.yX (F4 (g := ag) (Kd.Aw ak.out af.out (by decide)) (fun _ hk => hk.2)) (fun _ hk => trivial)⟩
  have BX : yf (Kd.R Kd.bool 4 ((w30.setCell ⟨ag, 0, none⟩ (.int .i64 ah)).setCell ⟨ag, 1, none⟩ (.int .i64 ai)) w.heap.size (fun _ => True) (.slice Td Ho.length Te) Ho) := ⟨by (with_reducible repeat (apply Kd.yZ)); exact Kd.yX (F4 (g := ag) (Kd.Aw av.out af.out (by decide)) (fun _ hk => hk.2)) (fun _ hk => trivial)⟩
  have Cr : yf (((w30.setCell ⟨ag, 0, none⟩ (.int .i64 ah)).setCell ⟨ag, 1, none⟩ (.int .i64 ai)).heap[aD]? = some (.cells #[.int .i64 zn, .int .u16 zz] 25 (0, 0))) := bK aa rfl
  have CG : yf (((w30.setCell ⟨ag, 0, none⟩ (.int .i64 ah)).setCell ⟨ag, 1, none⟩ (.int .i64 ai)).heap[aC]? = some (.cells #[.int .i64 ax, .slice DX au.length Dn, .int .i64 az, .int .i64 ay] 31 (0, 0))) := bK ae rfl
  have CU : yf (((w30.setCell ⟨ag, 0, none⟩ (.int .i64 ah)).setCell ⟨ag, 1, none⟩ (.int .i64 ai)).heap[ag]? = some (.cells #[.int .i64 ah, .int .i64 ai] 38 (0, 0))) := bK af rfl
  have Eh : yf (Below w.heap.size w ((w30.setCell ⟨ag, 0, none⟩ (.int .i64 ah)).setCell ⟨ag, 1, none⟩ (.int .i64 ai))) := ⟨bO HB⟩
  clear aj ak av aa ae af HB;generalize ((w30.setCell ⟨ag, 0, none⟩ (.int .i64 ah)).setCell ⟨ag, 1, none⟩ (.int .i64 ai)) = w38 at BL BN BX Cr CG CU Eh ⊢;have aj := BL;have ak := BN;have av := BX;have aa := Cr;have ae := CG;have af := CU;have HB := Eh;clear BL BN BX Cr CG CU Eh;replace aj := yf.mk (Kd.Ea aj.out);replace ak := yf.mk (Kd.AQ ak.out);replace av := yf.mk (Kd.AQ av.out);replace aa := yf.mk (yO aa.out);replace ae := yf.mk (yO ae.out);replace af := yf.mk (yO af.out);replace HB := yf.mk (za HB.out)
  refine Bc (n := 10) (S := fun w' => w'.cell? ⟨aD, 0, none⟩ = some (.int .i64 zn) ∧ w'.cell? ⟨aD, 1, none⟩ = some (.int .u16 zz) ∧ w'.cell? ⟨aC, 0, none⟩ = some (.int .i64 ax) ∧ w'.cell? ⟨aC, 1, none⟩ = some (.slice DX au.length Dn) ∧ w'.cell? ⟨aC, 2, none⟩ = some (.int .i64 az) ∧ w'.cell? ⟨aC, 3, none⟩ = some (.int .i64 ay)) (ds := []) (bz 10 0) (by kernel_rfl) rfl rfl (bb2 aa (AP ae)) (fun hHeld => ?_); refine zF zm.NJ zm.Jm (fun yz Bi => ?_)
  generalize w38.drew = w39 at aj ak av aa ae af HB hHeld ⊢;refine pU 0 39 10 1 yz ?_
  refine BO 1 40 10 3 yz Bi hHeld ?_
  refine pU 2 41 10 7 yz ?_;refine pU 3 42 10 15 yz ?_;refine pU 4 43 10 31 yz ?_
  refine BO 5 44 10 63 yz Bi hHeld ?_
  refine BO 6 45 10 127 yz Bi hHeld ?_
  refine Ck (i := 7) (N := some 46) (bz 10 255) rfl rfl (Af yz.out (by kernel_rfl)) (by decide) (fun K hK => ?_)
  refine gO Try.func14 #[.agg #[.int .i64 ax, .slice DX au.length Dn, .int .i64 az, .int .i64 ay]] ?_
  with_reducible refine (zI.calls ax _ _ au az ay VD _ ?yD ?yF A37.out).mono ?_
  (case yD => exact H9 aj)
  (case yF => exact (Kd.zG aj.out).2.1)
  rintro e w40 ⟨rfl, hb⟩
  refine ⟨_, rfl, ?_⟩
  replace aj := EH aj hb;replace ak := BZ ak hb;replace av := BZ av hb;replace aa := bB aa hb;replace ae := bB ae hb;replace af := bB af hb;replace HB := bS HB hb;clear hb
  refine hK.out _ _ (bb2 aa (AP ae)) (fun hHeld => ?_)
  clear hK K
  refine AR (a' := ?_) ?_ ?_
  rotate_left
  ·
   show Act.put _ (some 46) _ = _
   simp only [pz]
   rfl
  refine pU 8 47 10 511 yz ?_;refine pU 9 48 10 1023 yz ?_
  refine BG (Al yz.out (by kernel_rfl)) ?_
  try go_wp2
  go_meet
  case rel => exact ⟨_, (decide (zn ≥ VD)), (by rfl), H', ⟨by omega⟩, ⟨kR ak⟩, ⟨kR av⟩, ⟨kS aj⟩, ⟨kk aa⟩, ⟨kk ae⟩, ⟨kk af⟩, ⟨bO HB⟩⟩
 case rest =>
 clear TS EJ IX Uz KU Ro KM Pq Je UA KV Rp KN Ps Jf;obtain ⟨kq, aM, rfl, HA, TT, Aa, zT, aA, aa, ae, af, HB⟩ := hcut
 cases kq with
 | zero => exact absurd HA.out (by simp [zm.j0])
 | succ YC =>
  have H := HA.out;clear HA;simp only [zm.j0] at H
  by_cases JH : aM = true
  ·
   subst JH;rw [if_pos rfl] at H
   by_cases Hu : aG = 2
   ·
    rw [if_pos Hu] at H;have JU := beq_iff_eq.mpr Hu
    have a0m : (aG != 2) = false := bne_eq_false_iff_eq.mpr Hu
    clear Hu
    by_cases Kq : (ah == 0 && (ai == 0)) = true
    ·
     rw [if_pos Kq] at H
     have OX : (ah == 0 && (ai == 0)) = true := Kq
     (try (have bJ : decide (ah = 0 && (ai == 0)) = true := by simpa using Kq))
     (try (have bQ : (ah == 0 && (ai == 0)) = true := by simpa using Kq))
     clear Kq;obtain rfl := Option.some.inj H;have a1j := aK.out;have a1k := aQ.out;have QV := aN.out;have QW := aT.out;have QX := bc2 af;have QY := bf af
     go_wp2
     go_ret
     exact ⟨by rfl, bO HB⟩
    ·
     rw [if_neg Kq] at H;exact absurd H (by simp)
   ·
    rw [if_neg Hu] at H;exact absurd H (by simp)
  ·
   replace JH := Bool.eq_false_iff.mpr JH;subst JH
   rw [if_neg (show ¬ (false = true) by decide)] at H
   obtain ⟨⟨aI, aH, bC⟩, A47, H⟩ := bE H
   try dsimp only at H
   by_cases Zd : bC = true
   ·
    subst Zd;rw [if_pos rfl] at H
    by_cases c49 : aG = 0
    ·
     rw [if_pos c49] at H;have a07 := beq_iff_eq.mpr c49
     have bH : (aG != 0) = false := bne_eq_false_iff_eq.mpr c49
     clear c49
     by_cases Sv : (ah == aI && (ai == aH)) = true
     ·
      rw [if_pos Sv] at H
      have a08 : (ah == aI && (ai == aH)) = true := Sv
      (try (have bN : decide (ah = aI && (ai == aH)) = true := by simpa using Sv))
      (try (have bF : (ah == aI && (ai == aH)) = true := by simpa using Sv))
      clear Sv;obtain rfl := Option.some.inj H;have Ut := aZ.out;have Uu := aU.out;have a1z := aT.out;have a1A := aN.out;have a6c := AP ae;have a6d := bf ae;have a1l := aQ.out;have a1m := aK.out;have a1n := bc2 aa;have a1o := bf aa
      go_wp2_with (first | ((with_reducible refine yw (f := 15) rfl ?_); refine gL (some 62) Try.func15 #[.agg #[.int .i64 ax, .slice DX au.length Dn, .int .i64 az, .int .i64 ay], .slice Gv Hm.length Gw, .int .i64 zn, .slice Td Ho.length Te] ?_; (with_reducible refine (yH.calls YC ax _ _ au az ay _ _ Hm zn _ _ Ho aI aH true _ ?yD ?yF ?zw ?zx ?Dy ?Dz A47.out).mono ?_); (case yD => exact H9 aA); (case yF => exact (Kd.zG aA.out).2.1); (case zw => exact G7 Aa); (case zx => exact (Kd.yT Aa.out).2.1); (case Dy => exact G7 zT); (case Dz => exact (Kd.yT zT.out).2.1); rintro e w56 ⟨rfl, hb⟩; refine ⟨_, rfl, ?_⟩; replace Aa := BZ Aa hb; replace zT := BZ zT hb; replace aA := EH aA hb; replace aa := bB aa hb; replace ae := bB ae hb; replace af := bB af hb; replace HB := bS HB hb; clear hb) | ((with_reducible refine yI (N := 12) rfl ?_); refine yG rfl (N := 12) rfl (cs := #[.int .i64 0, .int .i64 0]) (t := 38) (by go_simp) ?_; intro bq hg w57 yJ hb; have aJ := yf.mk (yJ); have bv := bG (w := w) hg; have bn := bG (w := w) hg; have aY := Co aa hg; have aV := Ar aa hg; have aW := Co ae hg; have bi := Ar ae hg; have bg := Co af hg; have aX := Ar af hg; replace Aa := BZ Aa hb; replace zT := BZ zT hb; replace aA := EH aA hb; replace aa := bB aa hb; replace ae := bB ae hb; replace af := bB af hb; replace HB := bS HB hb; clear hb yJ hg; have XE := aV.out; have XF := aY.out; have a5R := bi.out; have a5S := aW.out; have a4P := aX.out; have a4Q := bg.out; have a6e := bc2 aJ; have a6f := bf aJ; have X9 := bc2 af; have Xa := bf af))
      go_ret
      exact ⟨by rfl, bO HB⟩
     ·
      rw [if_neg Sv] at H;exact absurd H (by simp)
    ·
     rw [if_neg c49] at H;exact absurd H (by simp)
   ·
    replace Zd := Bool.eq_false_iff.mpr Zd;subst Zd
    rw [if_neg (show ¬ (false = true) by decide)] at H
    by_cases M9 : aG = 11
    ·
     rw [if_pos M9] at H;have Ud := beq_iff_eq.mpr M9
     have a4s : (aG != 11) = false := bne_eq_false_iff_eq.mpr M9
     clear M9
     by_cases c64 : (ah == 0 && (ai == 0)) = true
     ·
      rw [if_pos c64] at H
      have La : (ah == 0 && (ai == 0)) = true := c64
      (try (have a1r : decide (ah = 0 && (ai == 0)) = true := by simpa using c64))
      (try (have bP : (ah == 0 && (ai == 0)) = true := by simpa using c64))
      clear c64;obtain rfl := Option.some.inj H;have a1h := aZ.out;have a1i := aU.out;have XG := aT.out;have XH := aN.out;have XY := AP ae;have XZ := bf ae;have a0Z := aQ.out;have a11 := aK.out;have a13 := bc2 aa;have a14 := bf aa
      go_wp2_with (first | ((with_reducible refine yw (f := 15) rfl ?_); refine gL (some 62) Try.func15 #[.agg #[.int .i64 ax, .slice DX au.length Dn, .int .i64 az, .int .i64 ay], .slice Gv Hm.length Gw, .int .i64 zn, .slice Td Ho.length Te] ?_; (with_reducible refine (yH.calls YC ax _ _ au az ay _ _ Hm zn _ _ Ho aI aH false _ ?yD ?yF ?zw ?zx ?Dy ?Dz A47.out).mono ?_); (case yD => exact H9 aA); (case yF => exact (Kd.zG aA.out).2.1); (case zw => exact G7 Aa); (case zx => exact (Kd.yT Aa.out).2.1); (case Dy => exact G7 zT); (case Dz => exact (Kd.yT zT.out).2.1); rintro e w70 ⟨rfl, hb⟩; refine ⟨_, rfl, ?_⟩; replace Aa := BZ Aa hb; replace zT := BZ zT hb; replace aA := EH aA hb; replace aa := bB aa hb; replace ae := bB ae hb; replace af := bB af hb; replace HB := bS HB hb; clear hb) | ((with_reducible refine yI (N := 12) rfl ?_); refine yG rfl (N := 12) rfl (cs := #[.int .i64 0, .int .i64 0]) (t := 38) (by go_simp) ?_; intro bq hg w71 yJ hb; have aJ := yf.mk (yJ); have bv := bG (w := w) hg; have bn := bG (w := w) hg; have aY := Co aa hg; have aV := Ar aa hg; have aW := Co ae hg; have bi := Ar ae hg; have bg := Co af hg; have aX := Ar af hg; replace Aa := BZ Aa hb; replace zT := BZ zT hb; replace aA := EH aA hb; replace aa := bB aa hb; replace ae := bB ae hb; replace af := bB af hb; replace HB := bS HB hb; clear hb yJ hg; have XI := aV.out; have XJ := aY.out; have a5p := bi.out; have a5q := aW.out; have a19 := aX.out; have a1a := bg.out; have UG := bc2 aJ; have UH := bf aJ; have a5P := bc2 af; have a5Q := bf af))
      go_ret
      exact ⟨by rfl, bO HB⟩
     ·
      rw [if_neg c64] at H;exact absurd H (by simp)
    ·
     rw [if_neg M9] at H;exact absurd H (by simp)
end Go.Proofs.Ytjonnfmoocijlaa.P
namespace Go.Proofs.Ytjonnfmoocijlaa.P
open Go.RowKit Go.Proofs.YtjonnfmoocijlaaKW.PrintWords
theorem Ob (x : Int) (raw : List Int) (g y : Int) (h0 : 0 ≤ x) (h1 : x < 65536) (hraw : ∀ b ∈ raw, 0 ≤ b ∧ b < 256) : Ev (fun k => zm.f k x raw g y) true := by
  unfold zm.f
  refine DN Jy (AJ rfl ?_)
  by_cases hl : (raw.length : Int) > 20
  · exact AJ hl (Ev.now _)
  refine BQ hl ?_
  obtain ⟨d, L, w, n, r, T, S, hs, H⟩ := Jo x h0 h1
  refine DN hs ?_
  obtain ⟨ms, hm, hv, hml⟩ := H.NZ raw hraw (by omega)
  refine DN hm ?_
  obtain ⟨dead, hd, hdl⟩ := Ru d y ⟨by have := H.ok.d1; omega, H.ok.d1.2⟩
  refine DN hd ?_
  have hms : ms.length ≤ 1000 := by omega
  have hcs := H.Lc ms hms hv g dead hdl
  refine DN hcs ?_
  have hj : ∀ bb : Bool, bb = decide (¬ (0 ≤ g ∧ g < T * n)) → ∀ v : Int × Int × Int, v = (if 0 ≤ g ∧ g < T * n then (match G6 L w n r S ms g dead d.toNat with | none => ((0, 0, 11) : Int × Int × Int) | some p => (p.1, EM (T * r) (Dr ms p.1), 0)) else (0, 0, 2)) →
      Ev (fun k => zm.j0 k ms dead v.2.2 bb g y d L T S v.1 v.2.1) true := by
    intro bb hbb v hvv
    refine evs (fun k => by rw [zm.j0]) ?_
    by_cases hg : 0 ≤ g ∧ g < T * n
    · rw [decide_eq_false (fun h => h hg)] at hbb
      rw [if_pos hg] at hvv
      subst hbb
      refine BQ (by decide) (DN (H.UL ms hms hv g dead hdl hg) ?_)
      cases hc : G6 L w n r S ms g dead d.toNat with
      | none =>
        rw [hc] at hvv
        subst hvv
        exact BQ (show ¬ (false = true) by decide) (AJ rfl (AJ rfl (Ev.now _)))
      | some p =>
        rw [hc] at hvv
        subst hvv
        exact AJ rfl (AJ rfl (AJ (by simp) (Ev.now _)))
    · rw [decide_eq_true hg] at hbb
      rw [if_neg hg] at hvv
      subst hbb
      subst hvv
      exact AJ rfl (AJ rfl (AJ rfl (Ev.now _)))
  by_cases c1 : g < 0
  · exact AJ c1 (hj true (decide_eq_true (by omega)).symm _ rfl)
  · refine BQ c1 (GJ H.groups ?_)
    refine hj _ ?_ _ rfl
    rw [decide_eq_decide]
    omega
end Go.Proofs.Ytjonnfmoocijlaa.P
