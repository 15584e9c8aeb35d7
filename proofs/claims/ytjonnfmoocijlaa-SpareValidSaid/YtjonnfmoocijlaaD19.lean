/- Texts of a claim, packed. -/
import Derived.Test.YtjonnfmoocijlaaD18
set_option linter.all false
namespace Go.Proofs.Ytjonnfmoocijlaa.P
open Go.RowKit Go.Proofs.YtjonnfmoocijlaaKW.PrintWords Go.Proofs.YtjonnfmoocijlaaKW.PrintLast Go.Proofs.YtjonnfmoocijlaaKW.PrintMore
attribute [local go_sem] zz zA zS zT zn zo zB zC
def zF.f (k : Nat) (yn : Int) (yg : List (List Int)) (yo : Int) (yt : Int) : Option (Int) := (yC.f k yn yg yo yt).bind fun Vk => (some Vk.2.2.2.2.2.2.2.2.2.2.1)
theorem zF.mono : ∀ a0 a1 a2 a3 k, zZ (zF.f k a0 a1 a2 a3) (zF.f (k + 1) a0 a1 a2 a3) := by
 intro a0 a1 a2 a3 k
 unfold zF.f
 repeat' first
  | exact yC.mono _ _ _ _ _
  | exact zZ.refl _
  | exact zZ.none _
  | refine zZ.ite ?_ ?_
  | refine zZ.bind ?_ (fun _ => ?_)
set_option maxHeartbeats 8000000 in
set_option maxRecDepth 100000 in
theorem zF.calls (k : Nat) (yn : Int) (yP : Option Addr) (yI : Nat) (yg : List (List Int)) (yo : Int) (yt : Int) (r : Int) (w : World) (zR : Kd.C (Kd.slice 3 (Kd.int .i64)) w yP yg.length yg) (zU : yg.length ≤ yI) (h : zF.f k yn yg yo yt = some r) :
  Calls Try.prog 45 #[.agg #[.int .i64 yn, .slice yP yg.length yI, .int .i64 yo, .int .i64 yt]] w fun e w' => e = .returned (.int .i64 r) ∧ Below w.heap.size w w' := by
 have FB := Try.underlying31;have Jm := Try.underlying102;have zq := yf.mk zR;have zG := yf.mk zU;clear zR zU;have HB := yf.mk (Below.refl w.heap.size w)
 have H : ((yC.f k yn yg yo yt).bind fun Vk => (some Vk.2.2.2.2.2.2.2.2.2.2.1)) = some r := h
 clear h;obtain ⟨⟨aI, aC, av, aM, aG, aD, aK, aA, aH, az, ax, au⟩, A2, H⟩ := bE H
 try dsimp only at H
 obtain rfl := Option.some.inj H
 go_enter Try.func45, Try.ntmps45
 go_wp2_with (first | ((with_reducible refine yK (N := 1) rfl ?_); refine yE rfl (N := 1) rfl (cs := #[.int .i64 yn, .slice yP yg.length yI, .int .i64 yo, .int .i64 yt]) (t := 31) (by go_simp) ?_; intro ae hg w3 yG hb; have aa := yf.mk (yG); have af := bG (w := w) hg; have aT := bG (w := w) hg; replace HB := bS HB hb; clear hb yG hg; have UL := AR aa; have UM := bf aa) | ((with_reducible refine yB (f := 61) rfl ?_); refine gL (some 7) Try.func61 #[.agg #[.int .i64 yn, .slice yP yg.length yI, .int .i64 yo, .int .i64 yt]] ?_; (with_reducible refine (yC.calls k yn (fun k_ => k_ < w.heap.size) _ _ yg yo yt aI aC av aM aG aD aK aA aH az ax au _ ?yF A2.out).mono ?_); (case yF => exact Kd.E8 zG.out (Kd.AX (Kd.Ho (Kd.Bc 3 (Kd.Br .i64)) zq.out) (bO HB))); rintro e w5 ⟨v312, v320, v323, rfl, ho0, ho1, ho2, hb⟩; refine ⟨_, rfl, ?_⟩; have ai := yf.mk (Kd.Ao (Kd.yH (ok' := fun k_ => k_ ≠ ae) ho0 (fun k_ BG => Or.elim BG (fun hs_ => fun e_ => Nat.not_le.2 hs_ (by rw [e_]; exact af.out)) (fun BO => (Kd.Ae (g := ae) (o := .cells #[.int .i64 yn, .slice yP yg.length yI, .int .i64 yo, .int .i64 yt] 31 (0, 0)) (kk aa) k_ BO)))) (yJ (bO HB))); have ah := yf.mk (Kd.Ao (Kd.yH (ok' := fun k_ => k_ ≠ ae) ho1 (fun k_ BG => Or.elim BG (fun hs_ => fun e_ => Nat.not_le.2 hs_ (by rw [e_]; exact af.out)) (fun BO => (Kd.Ae (g := ae) (o := .cells #[.int .i64 yn, .slice yP yg.length yI, .int .i64 yo, .int .i64 yt] 31 (0, 0)) (kk aa) k_ BO)))) (yJ (bO HB))); have aj := yf.mk (Kd.Ao (Kd.yH (ok' := fun k_ => k_ ≠ ae) ho2 (fun k_ BG => Or.elim BG (fun hs_ => fun e_ => Nat.not_le.2 hs_ (by rw [e_]; exact af.out)) (fun BO => (Kd.Ae (g := ae) (o := .cells #[.int .i64 yn, .slice yP yg.length yI, .int .i64 yo, .int .i64 yt] 31 (0, 0)) (kk aa) k_ BO)))) (yJ (bO HB))); replace aa := bB aa hb; replace HB := bS HB hb; clear hb; clear ho0; clear ho1; clear ho2) | ((with_reducible refine yK (N := 3) rfl ?_); refine yE rfl (N := 3) rfl (cs := #[.int .i64 0, .slice none 0 0, .int .i64 0, .int .i64 0, .int .i64 0, .int .i64 0, .int .i64 0, .slice none 0 0, .slice none 0 0, .int .i64 0, .int .i64 0]) (t := 102) (by go_simp) ?_; intro ag hg w6 yG hb; have ak := yf.mk (yG); have aU := bG (w := w) hg; have aV := bG (w := w) hg; have aJ := BL aa hg; have ay := Ag aa hg; replace ai := yf.mk (Kd.zg (Kd.zu (kV ai) ag (Nat.le_of_eq hg.symm)) hb); replace ah := yf.mk (Kd.zg (Kd.zu (kV ah) ag (Nat.le_of_eq hg.symm)) hb); replace aj := yf.mk (Kd.zg (Kd.zu (kV aj) ag (Nat.le_of_eq hg.symm)) hb); replace aa := bB aa hb; replace HB := bS HB hb; clear hb yG hg; have Zg := ay.out; have Zh := aJ.out; have Ox := Dt ak; have Oy := bf ak; obtain ⟨aQ, aW, aN⟩ := Kd.Am ai.out; subst aN; obtain ⟨LV, KE, QA⟩ := Kd.Am ah.out; subst QA; obtain ⟨Tf, QB, QC⟩ := Kd.Am aj.out; subst QC))
 go_ret
 exact ⟨by rfl, bO HB⟩
def Ch.f (k : Nat) (yn : Int) (yg : List (List Int)) (yo : Int) (yt : Int) : Option (Int) := (yC.f k yn yg yo yt).bind fun BC => ((Au.f BC.1 BC.2.1 BC.2.2.1 BC.2.2.2.1 BC.2.2.2.2.1 BC.2.2.2.2.2.1 BC.2.2.2.2.2.2.1 BC.2.2.2.2.2.2.2.1 BC.2.2.2.2.2.2.2.2.1 BC.2.2.2.2.2.2.2.2.2.1 BC.2.2.2.2.2.2.2.2.2.2.1).bind fun Vl => (some Vl))
set_option maxHeartbeats 8000000 in
set_option maxRecDepth 100000 in
theorem Ch.calls (k : Nat) (yn : Int) (yP : Option Addr) (yI : Nat) (yg : List (List Int)) (yo : Int) (yt : Int) (r : Int) (w : World) (zR : Kd.C (Kd.slice 3 (Kd.int .i64)) w yP yg.length yg) (zU : yg.length ≤ yI) (h : Ch.f k yn yg yo yt = some r) :
  Calls Try.prog 34 #[.agg #[.int .i64 yn, .slice yP yg.length yI, .int .i64 yo, .int .i64 yt]] w fun e w' => e = .returned (.int .i64 r) ∧ Below w.heap.size w w' := by
 have FB := Try.underlying31;have Jm := Try.underlying102;have zq := yf.mk zR;have zG := yf.mk zU;clear zR zU;have HB := yf.mk (Below.refl w.heap.size w)
 have H : ((yC.f k yn yg yo yt).bind fun BC => ((Au.f BC.1 BC.2.1 BC.2.2.1 BC.2.2.2.1 BC.2.2.2.2.1 BC.2.2.2.2.2.1 BC.2.2.2.2.2.2.1 BC.2.2.2.2.2.2.2.1 BC.2.2.2.2.2.2.2.2.1 BC.2.2.2.2.2.2.2.2.2.1 BC.2.2.2.2.2.2.2.2.2.2.1).bind fun Vl => (some Vl))) = some r := h
 clear h;obtain ⟨⟨t206, P6, t210, Mw, t212, t213, ai, ag, t218, ah, t222, ak⟩, A2, H⟩ := bE H
 try dsimp only at H
 obtain ⟨Vl, A3, H⟩ := bE H
 try dsimp only at H
 obtain rfl := Option.some.inj H
 go_enter Try.func34, Try.ntmps34
 go_wp2_with (first | ((with_reducible refine yK (N := 1) rfl ?_); refine yE rfl (N := 1) rfl (cs := #[.int .i64 yn, .slice yP yg.length yI, .int .i64 yo, .int .i64 yt]) (t := 31) (by go_simp) ?_; intro CB hg w4 yG hb; have Ah := yf.mk (yG); have P7 := bG (w := w) hg; have Y0 := bG (w := w) hg; replace HB := bS HB hb; clear hb yG hg; have WV := AR Ah; have WW := bf Ah) | ((with_reducible refine yB (f := 61) rfl ?_); refine gL (some 7) Try.func61 #[.agg #[.int .i64 yn, .slice yP yg.length yI, .int .i64 yo, .int .i64 yt]] ?_; (with_reducible refine (yC.calls k yn (fun k_ => k_ < w.heap.size) _ _ yg yo yt t206 P6 t210 Mw t212 t213 ai ag t218 ah t222 ak _ ?yF A2.out).mono ?_); (case yF => exact Kd.E8 zG.out (Kd.AX (Kd.Ho (Kd.Bc 3 (Kd.Br .i64)) zq.out) (bO HB))); rintro e w6 ⟨v208, v216, v219, rfl, ho0, ho1, ho2, hb⟩; refine ⟨_, rfl, ?_⟩; have aa := yf.mk (Kd.Ao (Kd.yH (ok' := fun k_ => k_ ≠ CB) ho0 (fun k_ BG => Or.elim BG (fun hs_ => fun e_ => Nat.not_le.2 hs_ (by rw [e_]; exact P7.out)) (fun BO => (Kd.Ae (g := CB) (o := .cells #[.int .i64 yn, .slice yP yg.length yI, .int .i64 yo, .int .i64 yt] 31 (0, 0)) (kk Ah) k_ BO)))) (yJ (bO HB))); have ae := yf.mk (Kd.Ao (Kd.yH (ok' := fun k_ => k_ ≠ CB) ho1 (fun k_ BG => Or.elim BG (fun hs_ => fun e_ => Nat.not_le.2 hs_ (by rw [e_]; exact P7.out)) (fun BO => (Kd.Ae (g := CB) (o := .cells #[.int .i64 yn, .slice yP yg.length yI, .int .i64 yo, .int .i64 yt] 31 (0, 0)) (kk Ah) k_ BO)))) (yJ (bO HB))); have af := yf.mk (Kd.Ao (Kd.yH (ok' := fun k_ => k_ ≠ CB) ho2 (fun k_ BG => Or.elim BG (fun hs_ => fun e_ => Nat.not_le.2 hs_ (by rw [e_]; exact P7.out)) (fun BO => (Kd.Ae (g := CB) (o := .cells #[.int .i64 yn, .slice yP yg.length yI, .int .i64 yo, .int .i64 yt] 31 (0, 0)) (kk Ah) k_ BO)))) (yJ (bO HB))); replace Ah := bB Ah hb; replace HB := bS HB hb; clear hb; clear ho0; clear ho1; clear ho2) | ((with_reducible refine yK (N := 3) rfl ?_); refine yE rfl (N := 3) rfl (cs := #[.int .i64 0, .slice none 0 0, .int .i64 0, .int .i64 0, .int .i64 0, .int .i64 0, .int .i64 0, .slice none 0 0, .slice none 0 0, .int .i64 0, .int .i64 0]) (t := 102) (by go_simp) ?_; intro D5 hg w7 yG hb; have Ak := yf.mk (yG); have Yh := bG (w := w) hg; have Yi := bG (w := w) hg; have au := BL Ah hg; have aj := Ag Ah hg; replace aa := yf.mk (Kd.zg (Kd.zu (kV aa) D5 (Nat.le_of_eq hg.symm)) hb); replace ae := yf.mk (Kd.zg (Kd.zu (kV ae) D5 (Nat.le_of_eq hg.symm)) hb); replace af := yf.mk (Kd.zg (Kd.zu (kV af) D5 (Nat.le_of_eq hg.symm)) hb); replace Ah := bB Ah hb; replace HB := bS HB hb; clear hb yG hg; have a1c := aj.out; have a1d := au.out; have NW := Dt Ak; have NY := bf Ak; obtain ⟨LV, KE, QA⟩ := Kd.Am aa.out; subst QA; obtain ⟨Tf, QB, QC⟩ := Kd.Am ae.out; subst QC; obtain ⟨SS, Qi, Uy⟩ := Kd.Am af.out; subst Uy) | ((with_reducible refine yB (f := 62) rfl ?_); refine gL (some 11) Try.func62 #[.agg #[.int .i64 t206, .slice LV P6.length KE, .int .i64 t210, .int .i64 Mw, .int .i64 t212, .int .i64 t213, .int .i64 ai, .slice Tf ag.length QB, .slice SS t218.length Qi, .int .i64 ah, .int .i64 t222]] ?_; (with_reducible refine (Au.calls t206 _ _ P6 t210 Mw t212 t213 ai _ _ ag _ _ t218 ah t222 Vl _ ?yF ?yM ?zI ?zJ ?CO ?CP A3.out).mono ?_); (case yF => refine (Kd.zx (e := 63) (base := w.heap.size) (ok := fun k_ => (k_ ≠ CB ∧ k_ ≠ D5)) (n := P6.length) (c := KE) ?_).2.2; exact (by (with_reducible repeat (apply Kd.zh)); exact (Kd.yH (E9 (g := D5) (Kd.yH aa.out (fun k_ hk => (⟨hk, hk.2⟩ : _ ∧ k_ ≠ D5))) (fun _ hk => hk.2)) (fun _ h_ => h_.1)))); (case yM => exact (Kd.zx aa.out).2.1); (case zI => refine (Kd.zx (e := 63) (base := w.heap.size) (ok := fun k_ => (k_ ≠ CB ∧ k_ ≠ D5)) (n := ag.length) (c := QB) ?_).2.2; exact (by (with_reducible repeat (apply Kd.zh)); exact (Kd.yH (E9 (g := D5) (Kd.yH ae.out (fun k_ hk => (⟨hk, hk.2⟩ : _ ∧ k_ ≠ D5))) (fun _ hk => hk.2)) (fun _ h_ => h_.1)))); (case zJ => exact (Kd.zx ae.out).2.1); (case CO => refine (Kd.zx (e := 63) (base := w.heap.size) (ok := fun k_ => (k_ ≠ CB ∧ k_ ≠ D5)) (n := t218.length) (c := Qi) ?_).2.2; exact (by (with_reducible repeat (apply Kd.zh)); exact (Kd.yH (E9 (g := D5) (Kd.yH af.out (fun k_ hk => (⟨hk, hk.2⟩ : _ ∧ k_ ≠ D5))) (fun _ hk => hk.2)) (fun _ h_ => h_.1)))); (case CP => exact (Kd.zx af.out).2.1); rintro e w13 ⟨rfl, hb⟩; refine ⟨_, rfl, ?_⟩; replace aa := yf.mk (Kd.zg (by (with_reducible repeat (apply Kd.zh)); exact (Kd.yH (E9 (g := D5) (Kd.yH aa.out (fun k_ hk => (⟨hk, hk.2⟩ : _ ∧ k_ ≠ D5))) (fun _ hk => hk.2)) (fun _ h_ => h_.1))) hb); replace ae := yf.mk (Kd.zg (by (with_reducible repeat (apply Kd.zh)); exact (Kd.yH (E9 (g := D5) (Kd.yH ae.out (fun k_ hk => (⟨hk, hk.2⟩ : _ ∧ k_ ≠ D5))) (fun _ hk => hk.2)) (fun _ h_ => h_.1))) hb); replace af := yf.mk (Kd.zg (by (with_reducible repeat (apply Kd.zh)); exact (Kd.yH (E9 (g := D5) (Kd.yH af.out (fun k_ hk => (⟨hk, hk.2⟩ : _ ∧ k_ ≠ D5))) (fun _ hk => hk.2)) (fun _ h_ => h_.1))) hb); replace Ah := yf.mk (yX (g := CB) (o := .cells #[.int .i64 yn, .slice yP yg.length yI, .int .i64 yo, .int .i64 yt] 31 (0, 0)) (CF Ah rfl) hb); replace Ak := yf.mk (yX (g := D5) (o := .cells #[.int .i64 t206, .slice LV P6.length KE, .int .i64 t210, .int .i64 Mw, .int .i64 t212, .int .i64 t213, .int .i64 ai, .slice Tf ag.length QB, .slice SS t218.length Qi, .int .i64 ah, .int .i64 t222] 102 (0, 0)) (CF Ak rfl) hb); replace HB := bS HB hb; clear hb))
 go_ret
 exact ⟨by rfl, bO HB⟩
end Go.Proofs.Ytjonnfmoocijlaa.P
namespace Go.Proofs.Ytjonnfmoocijlaa.P
open Go.RowKit Go.Proofs.YtjonnfmoocijlaaKW.PrintWords
structure Lo (d : Int) (L : List (List Int)) (w n r : Nat) (T S : Int) : Prop where
 ok : Ki d L w n r
 t1 : 1 ≤ T ∧ T ≤ 5
 s1 : 0 ≤ S ∧ S ≤ 7
section
variable {d : Int} {L : List (List Int)} {w n r : Nat} {T S : Int} (H : Lo d L w n r T S)
include H
theorem Lo.tn : 0 ≤ T * n ∧ T * n ≤ 105 := by
 have h1 := H.ok.n1
 have h2 := H.t1
 refine ⟨Int.mul_nonneg (by omega) (by omega), ?_⟩
 calc T * n ≤ 5 * n := Int.mul_le_mul_of_nonneg_right h2.2 (by omega)
  _ ≤ 105 := by omega
theorem Lo.tr : 1 ≤ T * r ∧ T * r ≤ 75 := by
 have h1 := H.ok.r1
 have h2 := H.t1
 refine ⟨?_, ?_⟩
 · calc (1 : Int) ≤ 1 * r := by omega
  _ ≤ T * r := Int.mul_le_mul_of_nonneg_right h2.1 (by omega)
 · calc T * r ≤ 5 * r := Int.mul_le_mul_of_nonneg_right h2.2 (by omega)
  _ ≤ 75 := by omega
theorem Lo.row0 : (yT L 0).length = w ∧ 0 < L.length := by
 have h1 := H.ok.n1
 have h3 : 0 < L.length := by have := H.ok.len; omega
 refine ⟨?_, h3⟩
 show (L.getD 0 []).length = w
 rw [getD_at _ _ _ h3]
 exact H.ok.width _ (List.getElem_mem h3)
theorem Lo.groups : BB.f d L T S = some (T * n) := by
 have := H.tn
 unfold BB.f
 rw [H.ok.len, ww (by omega) (by omega)]
theorem Lo.QD : AC.f d L T S = some (w : Int) := by
 unfold AC.f
 rw [if_pos (by have := H.row0.2; omega), H.row0.1]
theorem Lo.homes : Bq.f d L T S = some (T * r) := by
 have := H.tr
 obtain ⟨lam, h⟩ := H.ok.checkR
 unfold Bq.f
 rw [h]
 simp only [Option.bind_some]
 rw [ww (by omega) (by omega)]
theorem Lo.blocks : CR.f d L T S = some (T * r + S) := by
 have := H.tr
 have := H.s1
 unfold CR.f
 rw [H.homes]
 simp only [Option.bind_some]
 rw [ww (by omega) (by omega)]
theorem Lo.is (g i : Int) : Cg.f d L T S g i = some (decide (0 ≤ g ∧ g < T * n ∧ 0 ≤ i ∧ i < (w : Int))) := by
  unfold Cg.f
  rw [H.groups, H.QD]
  simp only [Option.bind_some]
  by_cases h1 : g ≥ 0
  · rw [if_pos h1]
    by_cases h2 : g < T * n
    · rw [if_pos h2]
      by_cases h3 : i ≥ 0
      · rw [if_pos h3]
        congr 1
        rw [decide_eq_decide]
        omega
      · rw [if_neg h3, decide_eq_false (by omega)]
    · rw [if_neg h2, decide_eq_false (by omega)]
  · rw [if_neg h1, decide_eq_false (by omega)]
theorem Lo.valid : Ev (fun k => zK.f k d L T S) true := by
 have h1 := H.tr
 have h2 := H.tn
 have h3 := H.s1
 have h4 := H.t1
 have h5 := H.ok.w1
 obtain ⟨lam, h⟩ := H.ok.checkR
 unfold zK.f
 refine Kv h (AP rfl (C8 (by omega) (C8 (by omega) (C8 (by omega) ?_))))
 rw [decide_eq_false (show ¬ S > 65536 by omega)]
 refine evs (fun k => by rw [zK.j0]) (C8 (by decide) (AP (by have := H.row0.2; omega) ?_))
 rw [H.row0.1, H.ok.len]
 have e1 : wrap64 (T * (n : Int)) = T * n := ww (by omega) (by omega)
 have e2 : wrap64 ((w : Int) - 3) = (w : Int) - 3 := ww (by omega) (by omega)
 have e5 : 0 ≤ (T * n) * ((w : Int) - 3) ∧ (T * n) * ((w : Int) - 3) ≤ 210 := by
  refine ⟨Int.mul_nonneg h2.1 (by omega), ?_⟩
  calc (T * n) * ((w : Int) - 3) ≤ (T * n) * 2 := Int.mul_le_mul_of_nonneg_left (by omega) h2.1
   _ ≤ 210 := by omega
 have e3 : wrap64 ((T * (n : Int)) * ((w : Int) - 3)) = (T * n) * ((w : Int) - 3) := ww (by omega) (by omega)
 have e4 : wrap64 (wrap64 (T * (r : Int)) + S) = T * r + S := by rw [ww (x := T * (r : Int)) (by omega) (by omega), ww (by omega) (by omega)]
 rw [e1, e2, e3]
 refine AP (by omega) (AP (by omega) (AP (by omega) (AP (by omega) (GX ?_))))
 rw [e4, decide_eq_true (by omega)]
theorem Lo.inG {g : Int} (h0 : 0 ≤ g) (h1 : g < T * n) : g.toNat < 5 * n := by
 have h2 := H.t1
 have h3 : T * (n : Int) ≤ 5 * n := Int.mul_le_mul_of_nonneg_right h2.2 (by omega)
 omega
theorem Lo.a1C (g i : Int) (h0 : 0 ≤ g) (h1 : g < T * n) (h2 : 0 ≤ i) (h3 : i < (w : Int)) : Ev (fun k => yS.f k d L T S g i) (ER L w n r g.toNat i.toNat) := by
 have h4 := List.all_eq_true.1 (List.all_eq_true.1 (H.ok.home T S) g.toNat (List.mem_range.2 (H.inG h0 h1))) i.toNat (List.mem_range.2 (by omega))
 have h5 := of_decide_eq_true h4
 rw [Int.toNat_of_nonneg h0, Int.toNat_of_nonneg h2] at h5
 exact MJ (fun k => yS.mono _ _ _ _ _ _ k) h5
theorem Lo.measure : Ev (fun k => yC.f k d L T S) (d, L, T, S, (w : Int), (r : Int), (n : Int), (FN d.toNat L).2, (FN d.toNat L).1, T * r, T * r + S, true) := by
 have h1 := H.tr
 have h2 := H.tn
 have h3 := H.s1
 have h4 := H.t1
 have h5 := H.ok.w1
 have h6 := H.ok.d1
 obtain ⟨lam, h⟩ := H.ok.check
 have hm : MOk d L := ⟨by have := H.ok.len; have := H.ok.n1; omega, fun g hg => ⟨by have := H.ok.width g hg; omega, H.ok.rng g hg⟩⟩
 have e1 : wrap64 (T * (n : Int)) = T * n := ww (by omega) (by omega)
 have e2 : wrap64 ((w : Int) - 3) = (w : Int) - 3 := ww (by omega) (by omega)
 have e5 : 0 ≤ (T * n) * ((w : Int) - 3) ∧ (T * n) * ((w : Int) - 3) ≤ 210 := by
  refine ⟨Int.mul_nonneg h2.1 (by omega), ?_⟩
  calc (T * n) * ((w : Int) - 3) ≤ (T * n) * 2 := Int.mul_le_mul_of_nonneg_left (by omega) h2.1
   _ ≤ 210 := by omega
 have e3 : wrap64 ((T * (n : Int)) * ((w : Int) - 3)) = (T * n) * ((w : Int) - 3) := ww (by omega) (by omega)
 have e4 : wrap64 (T * (r : Int)) = T * r := ww (by omega) (by omega)
 have e6 : wrap64 (T * r + S) = T * r + S := ww (by omega) (by omega)
 unfold yC.f
 refine Kv h (AP rfl (AP (by have := H.row0.2; omega) ?_))
 rw [H.row0.1, H.ok.len]
 refine C8 (by omega) (C8 (by omega) (C8 (by omega) (C8 (by omega) (C8 (by omega) ?_))))
 rw [decide_eq_false (show ¬ S > 65536 by omega)]
 refine evs (fun k => by rw [yC.j0]) (C8 (by decide) ?_)
 simp only [e1, e4, e6]
 refine C8 (by omega) (Kv (a := (w : Int) - 3) (by simp only [Cx.f, e2]) ?_)
 rw [e3]
 refine C8 (by omega) ?_
 rw [decide_eq_false (show ¬ T * r + S > 65536 by omega)]
 refine evs (fun k => by rw [yC.j1]) (C8 (by decide) (AP (by omega) (AP (by omega) (a2P ?_))))
 unfold layout_measure_fin
 rw [if_pos hm]
theorem Lo.WZ : Ev (fun k => Ch.f k d L T S) (T * n) := by
 have h2 := H.tn
 unfold Ch.f
 refine DL H.measure (Kv (a := T * n) ?_ (Ev.now _))
 simp only [Au.f]
 rw [ww (by omega) (by omega)]
theorem Lo.O1 : Ev (fun k => zF.f k d L T S) (T * r + S) := by
 unfold zF.f
 exact DL H.measure (Ev.now _)
theorem Lo.RN (g i : Int) : Ev (fun k => BV.f k d L T S g i) (if 0 ≤ g ∧ g < T * n ∧ 0 ≤ i ∧ i < (w : Int) then ((ER L w n r g.toNat i.toNat).1, (ER L w n r g.toNat i.toNat).2, 0) else (0, 0, 2)) := by
  have h2 := H.tn
  unfold BV.f
  refine DL H.measure (AP rfl ?_)
  have e1 : wrap64 (T * (n : Int)) = T * n := ww (by omega) (by omega)
  have hh : BU.f d L T S (w : Int) (r : Int) (n : Int) (FN d.toNat L).2 (FN d.toNat L).1 (T * r) (T * r + S) g i = some (decide (0 ≤ g ∧ g < T * n ∧ 0 ≤ i ∧ i < (w : Int))) := by
    unfold BU.f Au.f
    rw [e1]
    simp only [Option.bind_some]
    by_cases h1 : g ≥ 0
    · rw [if_pos h1]
      by_cases h2 : g < T * n
      · rw [if_pos h2]
        by_cases h3 : i ≥ 0
        · rw [if_pos h3]
          congr 1
          rw [decide_eq_decide]
          omega
        · rw [if_neg h3, decide_eq_false (by omega)]
      · rw [if_neg h2, decide_eq_false (by omega)]
    · rw [if_neg h1, decide_eq_false (by omega)]
  refine Kv hh ?_
  by_cases hc : 0 ≤ g ∧ g < T * n ∧ 0 ≤ i ∧ i < (w : Int)
  · rw [decide_eq_true hc, if_pos hc]
    refine AP rfl ?_
    have h4 := List.all_eq_true.1 (List.all_eq_true.1 (H.ok.homeN T S (T * r) (T * r + S)) g.toNat (List.mem_range.2 (H.inG hc.1 hc.2.1))) i.toNat (List.mem_range.2 (by omega))
    have h5 := of_decide_eq_true h4
    rw [Int.toNat_of_nonneg hc.1, Int.toNat_of_nonneg hc.2.2.1] at h5
    exact Kv h5 (Ev.now _)
  · rw [decide_eq_false hc, if_neg hc]
    exact C8 (by decide) (Ev.now _)
end
end Go.Proofs.Ytjonnfmoocijlaa.P
namespace Go.Proofs.Ytjonnfmoocijlaa.P
open Go.RowKit Go.Proofs.YtjonnfmoocijlaaKW.PrintWords Go.Proofs.YtjonnfmoocijlaaKW.PrintLast Go.Proofs.YtjonnfmoocijlaaKW.PrintMore
attribute [local go_sem] zz zA zS zT zn zo zB zC
def cmp_isNaN_int.f (a0 : Int) : Option (Bool) := some (a0 != a0)
set_option maxHeartbeats 8000000 in
set_option maxRecDepth 100000 in
theorem cmp_isNaN_int.calls (a0 : Int) (r : Bool) (w : World) (h : cmp_isNaN_int.f a0 = some r) :
  Calls Try.prog 75 #[.int .i64 a0] w fun e w' => e = .returned (.bool r) ∧ zN w w' := by
 have H : (some (a0 != a0)) = some r := h
 clear h;obtain rfl := Option.some.inj H
 go_enter Try.func75, Try.ntmps75
 go_wp2
 go_ret
 exact ⟨by rfl, by repeat (exact zN.refl _)⟩
def cmp_Compare_int.f (a0 : Int) (a1 : Int) : Option (Int) := (cmp_isNaN_int.f a0).bind fun t154 => ((cmp_isNaN_int.f a1).bind fun Pe => (if t154 = true then (if Pe = true then (some 0) else (some (-1))) else (if Pe = true then (some 1) else (if a0 < a1 then (some (-1)) else (if a0 > a1 then (some 1) else (some 0))))))
set_option maxHeartbeats 8000000 in
set_option maxRecDepth 100000 in
theorem cmp_Compare_int.calls (a0 : Int) (a1 : Int) (r : Int) (w : World) (h : cmp_Compare_int.f a0 a1 = some r) :
  Calls Try.prog 56 #[.int .i64 a0, .int .i64 a1] w fun e w' => e = .returned (.int .i64 r) ∧ zN w w' := by
 have H : ((cmp_isNaN_int.f a0).bind fun t154 => ((cmp_isNaN_int.f a1).bind fun Pe => (if t154 = true then (if Pe = true then (some 0) else (some (-1))) else (if Pe = true then (some 1) else (if a0 < a1 then (some (-1)) else (if a0 > a1 then (some 1) else (some 0))))))) = some r := h
 clear h;obtain ⟨t154, A3, H⟩ := bE H
 try dsimp only at H
 obtain ⟨Pe, A4, H⟩ := bE H
 try dsimp only at H
 by_cases c5 : t154 = true
 ·
  subst c5;rw [if_pos rfl] at H
  by_cases c6 : Pe = true
  ·
   subst c6;rw [if_pos rfl] at H;obtain rfl := Option.some.inj H
   go_enter Try.func56, Try.ntmps56
   go_wp2_with (first | ((with_reducible refine yB (f := 75) rfl ?_); refine gL (some 8) Try.func75 #[.int .i64 a0] ?_; (with_reducible refine (cmp_isNaN_int.calls a0 true _ A3.out).mono ?_); rintro e w' ⟨rfl, ⟨nd, rfl⟩⟩; refine ⟨_, rfl, ?_⟩) | ((with_reducible refine yB (f := 75) rfl ?_); refine gL (some 10) Try.func75 #[.int .i64 a1] ?_; (with_reducible refine (cmp_isNaN_int.calls a1 true _ A4.out).mono ?_); rintro e w' ⟨rfl, ⟨nd, rfl⟩⟩; refine ⟨_, rfl, ?_⟩))
   go_ret
   exact ⟨by rfl, by repeat (first | exact zN.refl _ | apply zN.step)⟩
  replace c6 := Bool.eq_false_iff.mpr c6;subst c6
  rw [if_neg (show ¬ (false = true) by decide)] at H
  obtain rfl := Option.some.inj H
  go_enter Try.func56, Try.ntmps56
  go_wp2_with (first | ((with_reducible refine yB (f := 75) rfl ?_); refine gL (some 8) Try.func75 #[.int .i64 a0] ?_; (with_reducible refine (cmp_isNaN_int.calls a0 true _ A3.out).mono ?_); rintro e w' ⟨rfl, ⟨nd, rfl⟩⟩; refine ⟨_, rfl, ?_⟩) | ((with_reducible refine yB (f := 75) rfl ?_); refine gL (some 10) Try.func75 #[.int .i64 a1] ?_; (with_reducible refine (cmp_isNaN_int.calls a1 false _ A4.out).mono ?_); rintro e w' ⟨rfl, ⟨nd, rfl⟩⟩; refine ⟨_, rfl, ?_⟩))
  go_ret
  exact ⟨by rfl, by repeat (first | exact zN.refl _ | apply zN.step)⟩
 replace c5 := Bool.eq_false_iff.mpr c5;subst c5
 rw [if_neg (show ¬ (false = true) by decide)] at H
 by_cases c7 : Pe = true
 ·
  subst c7;rw [if_pos rfl] at H;obtain rfl := Option.some.inj H
  go_enter Try.func56, Try.ntmps56
  go_wp2_with (first | ((with_reducible refine yB (f := 75) rfl ?_); refine gL (some 8) Try.func75 #[.int .i64 a0] ?_; (with_reducible refine (cmp_isNaN_int.calls a0 false _ A3.out).mono ?_); rintro e w' ⟨rfl, ⟨nd, rfl⟩⟩; refine ⟨_, rfl, ?_⟩) | ((with_reducible refine yB (f := 75) rfl ?_); refine gL (some 10) Try.func75 #[.int .i64 a1] ?_; (with_reducible refine (cmp_isNaN_int.calls a1 true _ A4.out).mono ?_); rintro e w' ⟨rfl, ⟨nd, rfl⟩⟩; refine ⟨_, rfl, ?_⟩))
  go_ret
  exact ⟨by rfl, by repeat (first | exact zN.refl _ | apply zN.step)⟩
 replace c7 := Bool.eq_false_iff.mpr c7;subst c7
 rw [if_neg (show ¬ (false = true) by decide)] at H
 by_cases c8 : a0 < a1
 ·
  rw [if_pos c8] at H;have Gl := decide_eq_true c8;clear c8;obtain rfl := Option.some.inj H
  go_enter Try.func56, Try.ntmps56
  go_wp2_with (first | ((with_reducible refine yB (f := 75) rfl ?_); refine gL (some 8) Try.func75 #[.int .i64 a0] ?_; (with_reducible refine (cmp_isNaN_int.calls a0 false _ A3.out).mono ?_); rintro e w' ⟨rfl, ⟨nd, rfl⟩⟩; refine ⟨_, rfl, ?_⟩) | ((with_reducible refine yB (f := 75) rfl ?_); refine gL (some 10) Try.func75 #[.int .i64 a1] ?_; (with_reducible refine (cmp_isNaN_int.calls a1 false _ A4.out).mono ?_); rintro e w' ⟨rfl, ⟨nd, rfl⟩⟩; refine ⟨_, rfl, ?_⟩))
  go_ret
  exact ⟨by rfl, by repeat (first | exact zN.refl _ | apply zN.step)⟩
 rw [if_neg c8] at H;have Gl := decide_eq_false c8;clear c8
 by_cases c9 : a0 > a1
 ·
  rw [if_pos c9] at H;have Hr := decide_eq_true c9;clear c9;obtain rfl := Option.some.inj H
  go_enter Try.func56, Try.ntmps56
  go_wp2_with (first | ((with_reducible refine yB (f := 75) rfl ?_); refine gL (some 8) Try.func75 #[.int .i64 a0] ?_; (with_reducible refine (cmp_isNaN_int.calls a0 false _ A3.out).mono ?_); rintro e w' ⟨rfl, ⟨nd, rfl⟩⟩; refine ⟨_, rfl, ?_⟩) | ((with_reducible refine yB (f := 75) rfl ?_); refine gL (some 10) Try.func75 #[.int .i64 a1] ?_; (with_reducible refine (cmp_isNaN_int.calls a1 false _ A4.out).mono ?_); rintro e w' ⟨rfl, ⟨nd, rfl⟩⟩; refine ⟨_, rfl, ?_⟩))
  go_ret
  exact ⟨by rfl, by repeat (first | exact zN.refl _ | apply zN.step)⟩
 rw [if_neg c9] at H;have Hr := decide_eq_false c9;clear c9;obtain rfl := Option.some.inj H
 go_enter Try.func56, Try.ntmps56
 go_wp2_with (first | ((with_reducible refine yB (f := 75) rfl ?_); refine gL (some 8) Try.func75 #[.int .i64 a0] ?_; (with_reducible refine (cmp_isNaN_int.calls a0 false _ A3.out).mono ?_); rintro e w' ⟨rfl, ⟨nd, rfl⟩⟩; refine ⟨_, rfl, ?_⟩) | ((with_reducible refine yB (f := 75) rfl ?_); refine gL (some 10) Try.func75 #[.int .i64 a1] ?_; (with_reducible refine (cmp_isNaN_int.calls a1 false _ A4.out).mono ?_); rintro e w' ⟨rfl, ⟨nd, rfl⟩⟩; refine ⟨_, rfl, ?_⟩))
 go_ret
 exact ⟨by rfl, by repeat (first | exact zN.refl _ | apply zN.step)⟩
end Go.Proofs.Ytjonnfmoocijlaa.P
