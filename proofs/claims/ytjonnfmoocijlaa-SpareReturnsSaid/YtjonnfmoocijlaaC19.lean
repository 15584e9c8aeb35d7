/- Texts of a claim, packed. -/
import Derived.Test.YtjonnfmoocijlaaC18
set_option linter.all false
namespace Go.Proofs.Ytjonnfmoocijlaa.P
open Go.RowKit Go.Proofs.YtjonnfmoocijlaaKW.PrintWords Go.Proofs.YtjonnfmoocijlaaKW.PrintLast Go.Proofs.YtjonnfmoocijlaaKW.PrintMore
attribute [local go_sem] zO zP Aj Ak zC zD zQ zR
def AU.f (k : Nat) (yn : Int) (yh : List (List Int)) (yo : Int) (yu : Int) : Option (Int) := (yR.f k yn yh yo yu).bind fun Xm => (some Xm.2.2.2.2.2.2.2.2.2.2.1)
set_option maxHeartbeats 8000000 in
set_option maxRecDepth 100000 in
theorem AU.calls (k : Nat) (yn : Int) (yQ : Option Addr) (yM : Nat) (yh : List (List Int)) (yo : Int) (yu : Int) (r : Int) (w : World) (Ah : Kd.C (Kd.slice 3 (Kd.int .i64)) w yQ yh.length yh) (Ai : yh.length ≤ yM) (h : AU.f k yn yh yo yu = some r) :
  Calls Try.prog 45 #[.agg #[.int .i64 yn, .slice yQ yh.length yM, .int .i64 yo, .int .i64 yu]] w fun e w' => e = .returned (.int .i64 r) ∧ Below w.heap.size w w' := by
 have FH := Try.underlying31;have Nu := Try.underlying102;have zA := yf.mk Ah;have zK := yf.mk Ai;clear Ah Ai;have HB := yf.mk (Below.refl w.heap.size w)
 have H : ((yR.f k yn yh yo yu).bind fun Xm => (some Xm.2.2.2.2.2.2.2.2.2.2.1)) = some r := h
 clear h;obtain ⟨⟨aJ, aK, aH, ax, aI, ay, az, aN, aG, aM, aA, av⟩, A2, H⟩ := bE H
 try dsimp only at H
 obtain rfl := Option.some.inj H
 go_enter Try.func45, Try.ntmps45
 go_wp2_with (first | ((with_reducible refine yI (N := 1) rfl ?_); refine yG rfl (N := 1) rfl (cs := #[.int .i64 yn, .slice yQ yh.length yM, .int .i64 yo, .int .i64 yu]) (t := 31) (by go_simp) ?_; intro ae hg w3 yJ hb; have aa := yf.mk (yJ); have ah := bG (w := w) hg; have aW := bG (w := w) hg; replace HB := bS HB hb; clear hb yJ hg; have Tj := AP aa; have Tk := bf aa) | ((with_reducible refine yw (f := 61) rfl ?_); refine gL (some 7) Try.func61 #[.agg #[.int .i64 yn, .slice yQ yh.length yM, .int .i64 yo, .int .i64 yu]] ?_; (with_reducible refine (yR.calls k yn (fun k_ => k_ < w.heap.size) _ _ yh yo yu aJ aK aH ax aI ay az aN aG aM aA av _ ?yD A2.out).mono ?_); (case yD => exact Kd.GK zK.out (Kd.CE (Kd.Nb (Kd.D5 3 (Kd.Dj .i64)) zA.out) (bO HB))); rintro e w5 ⟨v312, v320, v323, rfl, ho0, ho1, ho2, hb⟩; refine ⟨_, rfl, ?_⟩; have aj := yf.mk (Kd.Cc (Kd.z8 (ok' := fun k_ => k_ ≠ ae) ho0 (fun k_ E8 => Or.elim E8 (fun hs_ => fun e_ => Nat.not_le.2 hs_ (by rw [e_]; exact ah.out)) (fun DC => (Kd.Bj (g := ae) (o := .cells #[.int .i64 yn, .slice yQ yh.length yM, .int .i64 yo, .int .i64 yu] 31 (0, 0)) (kk aa) k_ DC)))) (yL (bO HB))); have ai := yf.mk (Kd.Cc (Kd.z8 (ok' := fun k_ => k_ ≠ ae) ho1 (fun k_ E8 => Or.elim E8 (fun hs_ => fun e_ => Nat.not_le.2 hs_ (by rw [e_]; exact ah.out)) (fun DC => (Kd.Bj (g := ae) (o := .cells #[.int .i64 yn, .slice yQ yh.length yM, .int .i64 yo, .int .i64 yu] 31 (0, 0)) (kk aa) k_ DC)))) (yL (bO HB))); have af := yf.mk (Kd.Cc (Kd.z8 (ok' := fun k_ => k_ ≠ ae) ho2 (fun k_ E8 => Or.elim E8 (fun hs_ => fun e_ => Nat.not_le.2 hs_ (by rw [e_]; exact ah.out)) (fun DC => (Kd.Bj (g := ae) (o := .cells #[.int .i64 yn, .slice yQ yh.length yM, .int .i64 yo, .int .i64 yu] 31 (0, 0)) (kk aa) k_ DC)))) (yL (bO HB))); replace aa := bB aa hb; replace HB := bS HB hb; clear hb; clear ho0; clear ho1; clear ho2) | ((with_reducible refine yI (N := 3) rfl ?_); refine yG rfl (N := 3) rfl (cs := #[.int .i64 0, .slice none 0 0, .int .i64 0, .int .i64 0, .int .i64 0, .int .i64 0, .int .i64 0, .slice none 0 0, .slice none 0 0, .int .i64 0, .int .i64 0]) (t := 102) (by go_simp) ?_; intro ag hg w6 yJ hb; have ak := yf.mk (yJ); have aV := bG (w := w) hg; have aT := bG (w := w) hg; have au := Co aa hg; have aD := Ar aa hg; replace aj := yf.mk (Kd.Ao (Kd.Bf (kV aj) ag (Nat.le_of_eq hg.symm)) hb); replace ai := yf.mk (Kd.Ao (Kd.Bf (kV ai) ag (Nat.le_of_eq hg.symm)) hb); replace af := yf.mk (Kd.Ao (Kd.Bf (kV af) ag (Nat.le_of_eq hg.symm)) hb); replace aa := bB aa hb; replace HB := bS HB hb; clear hb yJ hg; have a1Y := aD.out; have a1Z := au.out; have SL := EW ak; have SN := bf ak; obtain ⟨aU, aQ, aC⟩ := Kd.Cb aj.out; subst aC; obtain ⟨NR, MG, Tx⟩ := Kd.Cb ai.out; subst Tx; obtain ⟨Vj, Ty, Tz⟩ := Kd.Cb af.out; subst Tz))
 go_ret
 exact ⟨by rfl, bO HB⟩
def CL.f (k : Nat) (yn : Int) (yh : List (List Int)) (yo : Int) (yu : Int) : Option (Int) := (yR.f k yn yh yo yu).bind fun Cq => ((Br.f Cq.1 Cq.2.1 Cq.2.2.1 Cq.2.2.2.1 Cq.2.2.2.2.1 Cq.2.2.2.2.2.1 Cq.2.2.2.2.2.2.1 Cq.2.2.2.2.2.2.2.1 Cq.2.2.2.2.2.2.2.2.1 Cq.2.2.2.2.2.2.2.2.2.1 Cq.2.2.2.2.2.2.2.2.2.2.1).bind fun Xn => (some Xn))
set_option maxHeartbeats 8000000 in
set_option maxRecDepth 100000 in
theorem CL.calls (k : Nat) (yn : Int) (yQ : Option Addr) (yM : Nat) (yh : List (List Int)) (yo : Int) (yu : Int) (r : Int) (w : World) (Ah : Kd.C (Kd.slice 3 (Kd.int .i64)) w yQ yh.length yh) (Ai : yh.length ≤ yM) (h : CL.f k yn yh yo yu = some r) :
  Calls Try.prog 34 #[.agg #[.int .i64 yn, .slice yQ yh.length yM, .int .i64 yo, .int .i64 yu]] w fun e w' => e = .returned (.int .i64 r) ∧ Below w.heap.size w w' := by
 have FH := Try.underlying31;have Nu := Try.underlying102;have zA := yf.mk Ah;have zK := yf.mk Ai;clear Ah Ai;have HB := yf.mk (Below.refl w.heap.size w)
 have H : ((yR.f k yn yh yo yu).bind fun Cq => ((Br.f Cq.1 Cq.2.1 Cq.2.2.1 Cq.2.2.2.1 Cq.2.2.2.2.1 Cq.2.2.2.2.2.1 Cq.2.2.2.2.2.2.1 Cq.2.2.2.2.2.2.2.1 Cq.2.2.2.2.2.2.2.2.1 Cq.2.2.2.2.2.2.2.2.2.1 Cq.2.2.2.2.2.2.2.2.2.2.1).bind fun Xn => (some Xn))) = some r := h
 clear h;obtain ⟨⟨t206, Rf, t210, Ox, t212, t213, ah, ag, t218, ai, t222, aj⟩, A2, H⟩ := bE H
 try dsimp only at H
 obtain ⟨Xn, A3, H⟩ := bE H
 try dsimp only at H
 obtain rfl := Option.some.inj H
 go_enter Try.func34, Try.ntmps34
 go_wp2_with (first | ((with_reducible refine yI (N := 1) rfl ?_); refine yG rfl (N := 1) rfl (cs := #[.int .i64 yn, .slice yQ yh.length yM, .int .i64 yo, .int .i64 yu]) (t := 31) (by go_simp) ?_; intro Df hg w4 yJ hb; have AL := yf.mk (yJ); have Rh := bG (w := w) hg; have a0s := bG (w := w) hg; replace HB := bS HB hb; clear hb yJ hg; have Zp := AP AL; have Zq := bf AL) | ((with_reducible refine yw (f := 61) rfl ?_); refine gL (some 7) Try.func61 #[.agg #[.int .i64 yn, .slice yQ yh.length yM, .int .i64 yo, .int .i64 yu]] ?_; (with_reducible refine (yR.calls k yn (fun k_ => k_ < w.heap.size) _ _ yh yo yu t206 Rf t210 Ox t212 t213 ah ag t218 ai t222 aj _ ?yD A2.out).mono ?_); (case yD => exact Kd.GK zK.out (Kd.CE (Kd.Nb (Kd.D5 3 (Kd.Dj .i64)) zA.out) (bO HB))); rintro e w6 ⟨v208, v216, v219, rfl, ho0, ho1, ho2, hb⟩; refine ⟨_, rfl, ?_⟩; have aa := yf.mk (Kd.Cc (Kd.z8 (ok' := fun k_ => k_ ≠ Df) ho0 (fun k_ E8 => Or.elim E8 (fun hs_ => fun e_ => Nat.not_le.2 hs_ (by rw [e_]; exact Rh.out)) (fun DC => (Kd.Bj (g := Df) (o := .cells #[.int .i64 yn, .slice yQ yh.length yM, .int .i64 yo, .int .i64 yu] 31 (0, 0)) (kk AL) k_ DC)))) (yL (bO HB))); have ae := yf.mk (Kd.Cc (Kd.z8 (ok' := fun k_ => k_ ≠ Df) ho1 (fun k_ E8 => Or.elim E8 (fun hs_ => fun e_ => Nat.not_le.2 hs_ (by rw [e_]; exact Rh.out)) (fun DC => (Kd.Bj (g := Df) (o := .cells #[.int .i64 yn, .slice yQ yh.length yM, .int .i64 yo, .int .i64 yu] 31 (0, 0)) (kk AL) k_ DC)))) (yL (bO HB))); have af := yf.mk (Kd.Cc (Kd.z8 (ok' := fun k_ => k_ ≠ Df) ho2 (fun k_ E8 => Or.elim E8 (fun hs_ => fun e_ => Nat.not_le.2 hs_ (by rw [e_]; exact Rh.out)) (fun DC => (Kd.Bj (g := Df) (o := .cells #[.int .i64 yn, .slice yQ yh.length yM, .int .i64 yo, .int .i64 yu] 31 (0, 0)) (kk AL) k_ DC)))) (yL (bO HB))); replace AL := bB AL hb; replace HB := bS HB hb; clear hb; clear ho0; clear ho1; clear ho2) | ((with_reducible refine yI (N := 3) rfl ?_); refine yG rfl (N := 3) rfl (cs := #[.int .i64 0, .slice none 0 0, .int .i64 0, .int .i64 0, .int .i64 0, .int .i64 0, .int .i64 0, .slice none 0 0, .slice none 0 0, .int .i64 0, .int .i64 0]) (t := 102) (by go_simp) ?_; intro DR hg w7 yJ hb; have Ba := yf.mk (yJ); have a0M := bG (w := w) hg; have a0N := bG (w := w) hg; have ak := Co AL hg; have au := Ar AL hg; replace aa := yf.mk (Kd.Ao (Kd.Bf (kV aa) DR (Nat.le_of_eq hg.symm)) hb); replace ae := yf.mk (Kd.Ao (Kd.Bf (kV ae) DR (Nat.le_of_eq hg.symm)) hb); replace af := yf.mk (Kd.Ao (Kd.Bf (kV af) DR (Nat.le_of_eq hg.symm)) hb); replace AL := bB AL hb; replace HB := bS HB hb; clear hb yJ hg; have a2C := au.out; have a2D := ak.out; have Qb := EW Ba; have Qc := bf Ba; obtain ⟨NR, MG, Tx⟩ := Kd.Cb aa.out; subst Tx; obtain ⟨Vj, Ty, Tz⟩ := Kd.Cb ae.out; subst Tz; obtain ⟨WK, V7, a2r⟩ := Kd.Cb af.out; subst a2r) | ((with_reducible refine yw (f := 62) rfl ?_); refine gL (some 11) Try.func62 #[.agg #[.int .i64 t206, .slice NR Rf.length MG, .int .i64 t210, .int .i64 Ox, .int .i64 t212, .int .i64 t213, .int .i64 ah, .slice Vj ag.length Ty, .slice WK t218.length V7, .int .i64 ai, .int .i64 t222]] ?_; (with_reducible refine (Br.calls t206 _ _ Rf t210 Ox t212 t213 ah _ _ ag _ _ t218 ai t222 Xn _ ?yD ?yF ?zw ?zx ?Dy ?Dz A3.out).mono ?_); (case yD => refine (Kd.zW (e := 63) (base := w.heap.size) (ok := fun k_ => (k_ ≠ Df ∧ k_ ≠ DR)) (n := Rf.length) (c := MG) ?_).2.2; exact (by (with_reducible repeat (apply Kd.Ap)); exact (Kd.z8 (FZ (g := DR) (Kd.z8 aa.out (fun k_ hk => (⟨hk, hk.2⟩ : _ ∧ k_ ≠ DR))) (fun _ hk => hk.2)) (fun _ h_ => h_.1)))); (case yF => exact (Kd.zW aa.out).2.1); (case zw => refine (Kd.zW (e := 63) (base := w.heap.size) (ok := fun k_ => (k_ ≠ Df ∧ k_ ≠ DR)) (n := ag.length) (c := Ty) ?_).2.2; exact (by (with_reducible repeat (apply Kd.Ap)); exact (Kd.z8 (FZ (g := DR) (Kd.z8 ae.out (fun k_ hk => (⟨hk, hk.2⟩ : _ ∧ k_ ≠ DR))) (fun _ hk => hk.2)) (fun _ h_ => h_.1)))); (case zx => exact (Kd.zW ae.out).2.1); (case Dy => refine (Kd.zW (e := 63) (base := w.heap.size) (ok := fun k_ => (k_ ≠ Df ∧ k_ ≠ DR)) (n := t218.length) (c := V7) ?_).2.2; exact (by (with_reducible repeat (apply Kd.Ap)); exact (Kd.z8 (FZ (g := DR) (Kd.z8 af.out (fun k_ hk => (⟨hk, hk.2⟩ : _ ∧ k_ ≠ DR))) (fun _ hk => hk.2)) (fun _ h_ => h_.1)))); (case Dz => exact (Kd.zW af.out).2.1); rintro e w13 ⟨rfl, hb⟩; refine ⟨_, rfl, ?_⟩; replace aa := yf.mk (Kd.Ao (by (with_reducible repeat (apply Kd.Ap)); exact (Kd.z8 (FZ (g := DR) (Kd.z8 aa.out (fun k_ hk => (⟨hk, hk.2⟩ : _ ∧ k_ ≠ DR))) (fun _ hk => hk.2)) (fun _ h_ => h_.1))) hb); replace ae := yf.mk (Kd.Ao (by (with_reducible repeat (apply Kd.Ap)); exact (Kd.z8 (FZ (g := DR) (Kd.z8 ae.out (fun k_ hk => (⟨hk, hk.2⟩ : _ ∧ k_ ≠ DR))) (fun _ hk => hk.2)) (fun _ h_ => h_.1))) hb); replace af := yf.mk (Kd.Ao (by (with_reducible repeat (apply Kd.Ap)); exact (Kd.z8 (FZ (g := DR) (Kd.z8 af.out (fun k_ hk => (⟨hk, hk.2⟩ : _ ∧ k_ ≠ DR))) (fun _ hk => hk.2)) (fun _ h_ => h_.1))) hb); replace AL := yf.mk (yS (g := Df) (o := .cells #[.int .i64 yn, .slice yQ yh.length yM, .int .i64 yo, .int .i64 yu] 31 (0, 0)) (CJ AL rfl) hb); replace Ba := yf.mk (yS (g := DR) (o := .cells #[.int .i64 t206, .slice NR Rf.length MG, .int .i64 t210, .int .i64 Ox, .int .i64 t212, .int .i64 t213, .int .i64 ah, .slice Vj ag.length Ty, .slice WK t218.length V7, .int .i64 ai, .int .i64 t222] 102 (0, 0)) (CJ Ba rfl) hb); replace HB := bS HB hb; clear hb))
 go_ret
 exact ⟨by rfl, bO HB⟩
end Go.Proofs.Ytjonnfmoocijlaa.P
namespace Go.Proofs.Ytjonnfmoocijlaa.P
open Go.RowKit Go.Proofs.YtjonnfmoocijlaaKW.PrintWords
structure Lo (d : Int) (L : List (List Int)) (w n r : Nat) (T S : Int) : Prop where
 ok : Mj d L w n r
 t1 : 1 ≤ T ∧ T ≤ 5
 s1 : 0 ≤ S ∧ S ≤ 7
section
variable {d : Int} {L : List (List Int)} {w n r : Nat} {T S : Int} (H : Lo d L w n r T S)
include H
theorem Lo.tn : 0 ≤ T * n ∧ T * n ≤ 105 := by
 have h1 := H.ok.n1
 have h2 := H.t1
 refine ⟨Int.mul_nonneg (by omega) (by omega), ?_⟩
 calc T * n ≤ 5 * n := Int.mul_le_mul_of_nonneg_right h2.2 (by omega)
  _ ≤ 105 := by omega
theorem Lo.tr : 1 ≤ T * r ∧ T * r ≤ 75 := by
 have h1 := H.ok.r1
 have h2 := H.t1
 refine ⟨?_, ?_⟩
 · calc (1 : Int) ≤ 1 * r := by omega
  _ ≤ T * r := Int.mul_le_mul_of_nonneg_right h2.1 (by omega)
 · calc T * r ≤ 5 * r := Int.mul_le_mul_of_nonneg_right h2.2 (by omega)
  _ ≤ 75 := by omega
theorem Lo.row0 : (zt L 0).length = w ∧ 0 < L.length := by
 have h1 := H.ok.n1
 have h3 : 0 < L.length := by have := H.ok.len; omega
 refine ⟨?_, h3⟩
 show (L.getD 0 []).length = w
 rw [getD_at _ _ _ h3]
 exact H.ok.width _ (List.getElem_mem h3)
theorem Lo.groups : zI.f d L T S = some (T * n) := by
 have := H.tn
 unfold zI.f
 rw [H.ok.len, ww (by omega) (by omega)]
theorem Lo.FR : zi.f d L T S = some (w : Int) := by
 unfold zi.f
 rw [if_pos (by have := H.row0.2; omega), H.row0.1]
theorem Lo.homes : AA.f d L T S = some (T * r) := by
 have := H.tr
 obtain ⟨lam, h⟩ := H.ok.checkR
 unfold AA.f
 rw [h]
 simp only [Option.bind_some]
 rw [ww (by omega) (by omega)]
theorem Lo.blocks : Cn.f d L T S = some (T * r + S) := by
 have := H.tr
 have := H.s1
 unfold Cn.f
 rw [H.homes]
 simp only [Option.bind_some]
 rw [ww (by omega) (by omega)]
theorem Lo.is (g i : Int) : Bz.f d L T S g i = some (decide (0 ≤ g ∧ g < T * n ∧ 0 ≤ i ∧ i < (w : Int))) := by
  unfold Bz.f
  rw [H.groups, H.FR]
  simp only [Option.bind_some]
  by_cases h1 : g ≥ 0
  · rw [if_pos h1]
    by_cases h2 : g < T * n
    · rw [if_pos h2]
      by_cases h3 : i ≥ 0
      · rw [if_pos h3]
        congr 1
        rw [decide_eq_decide]
        omega
      · rw [if_neg h3, decide_eq_false (by omega)]
    · rw [if_neg h2, decide_eq_false (by omega)]
  · rw [if_neg h1, decide_eq_false (by omega)]
theorem Lo.valid : Ev (fun k => zX.f k d L T S) true := by
 have h1 := H.tr
 have h2 := H.tn
 have h3 := H.s1
 have h4 := H.t1
 have h5 := H.ok.w1
 obtain ⟨lam, h⟩ := H.ok.checkR
 unfold zX.f
 refine GJ h (AJ rfl (BQ (by omega) (BQ (by omega) (BQ (by omega) ?_))))
 rw [decide_eq_false (show ¬ S > 65536 by omega)]
 refine evs (fun k => by rw [zX.j0]) (BQ (by decide) (AJ (by have := H.row0.2; omega) ?_))
 rw [H.row0.1, H.ok.len]
 have e1 : wrap64 (T * (n : Int)) = T * n := ww (by omega) (by omega)
 have e2 : wrap64 ((w : Int) - 3) = (w : Int) - 3 := ww (by omega) (by omega)
 have e5 : 0 ≤ (T * n) * ((w : Int) - 3) ∧ (T * n) * ((w : Int) - 3) ≤ 210 := by
  refine ⟨Int.mul_nonneg h2.1 (by omega), ?_⟩
  calc (T * n) * ((w : Int) - 3) ≤ (T * n) * 2 := Int.mul_le_mul_of_nonneg_left (by omega) h2.1
   _ ≤ 210 := by omega
 have e3 : wrap64 ((T * (n : Int)) * ((w : Int) - 3)) = (T * n) * ((w : Int) - 3) := ww (by omega) (by omega)
 have e4 : wrap64 (wrap64 (T * (r : Int)) + S) = T * r + S := by rw [ww (x := T * (r : Int)) (by omega) (by omega), ww (by omega) (by omega)]
 rw [e1, e2, e3]
 refine AJ (by omega) (AJ (by omega) (AJ (by omega) (AJ (by omega) (I8 ?_))))
 rw [e4, decide_eq_true (by omega)]
theorem Lo.inG {g : Int} (h0 : 0 ≤ g) (h1 : g < T * n) : g.toNat < 5 * n := by
 have h2 := H.t1
 have h3 : T * (n : Int) ≤ 5 * n := Int.mul_le_mul_of_nonneg_right h2.2 (by omega)
 omega
theorem Lo.Xo (g i : Int) (h0 : 0 ≤ g) (h1 : g < T * n) (h2 : 0 ≤ i) (h3 : i < (w : Int)) : Ev (fun k => yU.f k d L T S g i) (Fb L w n r g.toNat i.toNat) := by
 have h4 := List.all_eq_true.1 (List.all_eq_true.1 (H.ok.home T S) g.toNat (List.mem_range.2 (H.inG h0 h1))) i.toNat (List.mem_range.2 (by omega))
 have h5 := of_decide_eq_true h4
 rw [Int.toNat_of_nonneg h0, Int.toNat_of_nonneg h2] at h5
 exact U2 (fun k => yU.mono _ _ _ _ _ _ k) h5
theorem Lo.measure : Ev (fun k => yR.f k d L T S) (d, L, T, S, (w : Int), (r : Int), (n : Int), (Ny d.toNat L).2, (Ny d.toNat L).1, T * r, T * r + S, true) := by
 have h1 := H.tr
 have h2 := H.tn
 have h3 := H.s1
 have h4 := H.t1
 have h5 := H.ok.w1
 have h6 := H.ok.d1
 obtain ⟨lam, h⟩ := H.ok.check
 have hm : MOk d L := ⟨by have := H.ok.len; have := H.ok.n1; omega, fun g hg => ⟨by have := H.ok.width g hg; omega, H.ok.rng g hg⟩⟩
 have e1 : wrap64 (T * (n : Int)) = T * n := ww (by omega) (by omega)
 have e2 : wrap64 ((w : Int) - 3) = (w : Int) - 3 := ww (by omega) (by omega)
 have e5 : 0 ≤ (T * n) * ((w : Int) - 3) ∧ (T * n) * ((w : Int) - 3) ≤ 210 := by
  refine ⟨Int.mul_nonneg h2.1 (by omega), ?_⟩
  calc (T * n) * ((w : Int) - 3) ≤ (T * n) * 2 := Int.mul_le_mul_of_nonneg_left (by omega) h2.1
   _ ≤ 210 := by omega
 have e3 : wrap64 ((T * (n : Int)) * ((w : Int) - 3)) = (T * n) * ((w : Int) - 3) := ww (by omega) (by omega)
 have e4 : wrap64 (T * (r : Int)) = T * r := ww (by omega) (by omega)
 have e6 : wrap64 (T * r + S) = T * r + S := ww (by omega) (by omega)
 unfold yR.f
 refine GJ h (AJ rfl (AJ (by have := H.row0.2; omega) ?_))
 rw [H.row0.1, H.ok.len]
 refine BQ (by omega) (BQ (by omega) (BQ (by omega) (BQ (by omega) (BQ (by omega) ?_))))
 rw [decide_eq_false (show ¬ S > 65536 by omega)]
 refine evs (fun k => by rw [yR.j0]) (BQ (by decide) ?_)
 simp only [e1, e4, e6]
 refine BQ (by omega) (GJ (a := (w : Int) - 3) (by simp only [Dc.f, e2]) ?_)
 rw [e3]
 refine BQ (by omega) ?_
 rw [decide_eq_false (show ¬ T * r + S > 65536 by omega)]
 refine evs (fun k => by rw [yR.j1]) (BQ (by decide) (AJ (by omega) (AJ (by omega) (a6u ?_))))
 unfold layout_measure_fin
 rw [if_pos hm]
theorem Lo.Zu : Ev (fun k => CL.f k d L T S) (T * n) := by
 have h2 := H.tn
 unfold CL.f
 refine DN H.measure (GJ (a := T * n) ?_ (Ev.now _))
 simp only [Br.f]
 rw [ww (by omega) (by omega)]
theorem Lo.Qf : Ev (fun k => AU.f k d L T S) (T * r + S) := by
 unfold AU.f
 exact DN H.measure (Ev.now _)
theorem Lo.Uv (g i : Int) : Ev (fun k => Cx.f k d L T S g i) (if 0 ≤ g ∧ g < T * n ∧ 0 ≤ i ∧ i < (w : Int) then ((Fb L w n r g.toNat i.toNat).1, (Fb L w n r g.toNat i.toNat).2, 0) else (0, 0, 2)) := by
  have h2 := H.tn
  unfold Cx.f
  refine DN H.measure (AJ rfl ?_)
  have e1 : wrap64 (T * (n : Int)) = T * n := ww (by omega) (by omega)
  have hh : Cw.f d L T S (w : Int) (r : Int) (n : Int) (Ny d.toNat L).2 (Ny d.toNat L).1 (T * r) (T * r + S) g i = some (decide (0 ≤ g ∧ g < T * n ∧ 0 ≤ i ∧ i < (w : Int))) := by
    unfold Cw.f Br.f
    rw [e1]
    simp only [Option.bind_some]
    by_cases h1 : g ≥ 0
    · rw [if_pos h1]
      by_cases h2 : g < T * n
      · rw [if_pos h2]
        by_cases h3 : i ≥ 0
        · rw [if_pos h3]
          congr 1
          rw [decide_eq_decide]
          omega
        · rw [if_neg h3, decide_eq_false (by omega)]
      · rw [if_neg h2, decide_eq_false (by omega)]
    · rw [if_neg h1, decide_eq_false (by omega)]
  refine GJ hh ?_
  by_cases hc : 0 ≤ g ∧ g < T * n ∧ 0 ≤ i ∧ i < (w : Int)
  · rw [decide_eq_true hc, if_pos hc]
    refine AJ rfl ?_
    have h4 := List.all_eq_true.1 (List.all_eq_true.1 (H.ok.homeN T S (T * r) (T * r + S)) g.toNat (List.mem_range.2 (H.inG hc.1 hc.2.1))) i.toNat (List.mem_range.2 (by omega))
    have h5 := of_decide_eq_true h4
    rw [Int.toNat_of_nonneg hc.1, Int.toNat_of_nonneg hc.2.2.1] at h5
    exact GJ h5 (Ev.now _)
  · rw [decide_eq_false hc, if_neg hc]
    exact BQ (by decide) (Ev.now _)
end
end Go.Proofs.Ytjonnfmoocijlaa.P
namespace Go.Proofs.Ytjonnfmoocijlaa.P
open Go.RowKit Go.Proofs.YtjonnfmoocijlaaKW.PrintWords Go.Proofs.YtjonnfmoocijlaaKW.PrintLast Go.Proofs.YtjonnfmoocijlaaKW.PrintMore
attribute [local go_sem] zO zP Aj Ak zC zD zQ zR
mutual
def zk.l0 : Nat → Int → Int → List Bool → Int → Int → Option (List Bool)
 | 0, _, _, _, _, _ => none
 | k + 1, x0, x1, x5, x6, x7 => if x7 < x0 then (zk.j1 k x0 x1 x5 x6 x7 (decide (x7 < 16))) else (zk.j1 k x0 x1 x5 x6 x7 false)
def zk.j1 : Nat → Int → Int → List Bool → Int → Int → Bool → Option (List Bool)
 | 0, _, _, _, _, _, _ => none
 | k + 1, x0, x1, x5, x6, x7, KI => if KI = true then (if 0 ≤ x7 then (if (Go.bits .and .u16 (shr .u16 x1 x7) 1) = 1 then (if x6 < 3 then (if x7 < (x5.length : Int) then (zk.l0 k x0 x1 (x5.set (x7 : Int).toNat true) (wrap64 (x6 + 1)) (wrap64 (x7 + 1))) else (none)) else (zk.l0 k x0 x1 x5 x6 (wrap64 (x7 + 1)))) else (zk.l0 k x0 x1 x5 x6 (wrap64 (x7 + 1)))) else (none)) else (some x5)
end
def zk.f (k : Nat) (a0 : Int) (a1 : Int) : Option (List Bool) := if 0 ≤ a0 then (if (a0 : Int).toNat ≤ 281474976710656 then (zk.l0 k a0 a1 (List.replicate (a0 : Int).toNat false) 0 0) else (none)) else (none)
set_option maxHeartbeats 8000000 in
set_option maxRecDepth 100000 in
theorem zk.calls (k : Nat) (a0 : Int) (a1 : Int) (r : List Bool) (w : World) (h : zk.f k a0 a1 = some r) :
  Calls Try.prog 12 #[.int .i64 a0, .int .u16 a1] w fun e w' => ∃ GG : Value, e = .returned (GG) ∧ Kd.R Kd.bool 4 w' w.heap.size (fun _ => True) GG r ∧ Below w.heap.size w w' := by
 have HB := yf.mk (Below.refl w.heap.size w)
 have H : (if 0 ≤ a0 then (if (a0 : Int).toNat ≤ 281474976710656 then (zk.l0 k a0 a1 (List.replicate (a0 : Int).toNat false) 0 0) else (none)) else (none)) = some r := h
 clear h
 by_cases c3 : 0 ≤ a0
 rotate_left
 ·
  rw [if_neg c3] at H;exact absurd H (by simp)
 rw [if_pos c3] at H;have G5 := eq_true c3;have JM := decide_eq_true c3;clear c3
 by_cases c4 : (a0 : Int).toNat ≤ 281474976710656
 rotate_left
 ·
  rw [if_neg c4] at H;exact absurd H (by simp)
 rw [if_pos c4] at H;have ES := eq_true c4;have Lx := decide_eq_true c4;clear c4;obtain ⟨aA, ag⟩ : ∃ y_ : List Bool, y_ = (List.replicate (a0 : Int).toNat false) := ⟨_, rfl⟩
 replace H : (zk.l0 k a0 a1 aA 0 0) = some r := by (rw [ag]; with_reducible exact H)
 have aH := yf.mk ag;clear ag;have H' := yf.mk H;clear H
 go_enter Try.func12, Try.ntmps12
 go_wp2_with (((with_reducible refine yI (N := 9) rfl ?_); refine Kd.MS Kd.bool _ 4 rfl (N := 9) rfl 35 _ _ rfl a0 rfl rfl Try.underlying35 (.bool false) 1 ZX rfl (by decide) (by omega) false (ok := fun _ => True) (okp := fun _ => True) rfl (fun _ hk => hk) trivial (of_decide_eq_true ‹_›) (Nat.le_trans (Nat.mul_le_mul_right _ (of_decide_eq_true ‹_› : a0.toNat ≤ 281474976710656)) (by omega)) (Below.refl _ _) (Nat.le_refl _) ?_; intro v591 w5 ai hb JN DW; clear JN DW; (rw [← aH.out] at ai); have aG := yf.mk (Kd.Ay ai (yL (bO HB))); replace HB := bS HB hb; clear hb ai))
 go_loopg [6, 7] k (fun kq v6 v7 w' => ∃ (yN : List Bool) (Bu : Int) (Ag : Int), v6 = .int .i64 Bu ∧ v7 = .int .i64 Ag ∧ yf (zk.l0 kq a0 a1 yN Bu Ag = some r) ∧ yf (kq ≤ k) ∧ yf (Kd.R Kd.bool 4 w' w.heap.size (fun _ => True) v591 yN) ∧ yf (Below w.heap.size w w'))
 case atStart => exact ⟨(aA), (0), (0), (by rfl), (by rfl), H', ⟨Nat.le_refl _⟩, ⟨kR aG⟩, ⟨bO HB⟩⟩
 case round =>
 clear H' G5 JM ES Lx;obtain ⟨yN, Bu, Ag, rfl, rfl, HA, BJ, Bw, HB⟩ := hrel
 cases gk with
 | zero => exact absurd HA.out (by simp [zk.l0])
 | succ k1 =>
 have H := HA.out;clear HA;simp only [zk.l0] at H;have Xp := yf.mk H;clear H
 go_upto_region 4 with (fail)
 go_cut [16] (fun v16 wc => ∃ (kq : Nat) (ae : Bool), v16 = .bool ae ∧ yf (zk.j1 kq a0 a1 yN Bu Ag ae = some r) ∧ yf (kq ≤ k1) ∧ yf (Kd.R Kd.bool 4 wc w.heap.size (fun _ => True) v591 yN) ∧ yf (Below w.heap.size w wc))
 case first =>
  have H := Xp.out;clear Xp
  by_cases c8 : Ag < a0
  ·
   rw [if_pos c8] at H;have GZ := decide_eq_true c8;clear c8
   (skip)
   have H' := yf.mk H;clear H
   go_wp2
   go_meet
   case rel => exact ⟨_, (decide (Ag < 16)), (by rfl), H', ⟨by have := BJ.out; omega⟩, ⟨kR Bw⟩, ⟨bO HB⟩⟩
  rw [if_neg c8] at H;have GZ := decide_eq_false c8;clear c8
  (skip)
  have H' := yf.mk H;clear H
  go_wp2
  go_meet
  case rel => exact ⟨_, (false), (by rfl), H', ⟨by have := BJ.out; omega⟩, ⟨kR Bw⟩, ⟨bO HB⟩⟩
 case rest =>
 clear Xp;obtain ⟨kq, ae, rfl, HA, Qv, Bw, HB⟩ := hcut
 cases kq with
 | zero => exact absurd HA.out (by simp [zk.j1])
 | succ Vk =>
  have H := HA.out;clear HA;simp only [zk.j1] at H
  by_cases c9 : ae = true
  ·
   subst c9;rw [if_pos rfl] at H
   by_cases c10 : 0 ≤ Ag
   ·
    rw [if_pos c10] at H;have Gi := eq_true c10;have M7 := decide_eq_true c10;clear c10;obtain ⟨aa, af⟩ : ∃ j_ : Int, (shr .u16 a1 Ag) = j_ := ⟨_, rfl⟩
    replace H : (if (Go.bits .and .u16 (aa) 1) = 1 then (if Bu < 3 then (if Ag < (yN.length : Int) then (zk.l0 Vk a0 a1 (yN.set (Ag : Int).toNat true) (wrap64 (Bu + 1)) (wrap64 (Ag + 1))) else (none)) else (zk.l0 Vk a0 a1 yN Bu (wrap64 (Ag + 1)))) else (zk.l0 Vk a0 a1 yN Bu (wrap64 (Ag + 1)))) = some r := by (rw [af] at H; exact H)
    have aQ : (a1 / 2 ^ min Ag.toNat 16) = aa := af
    have hji11z : Ag ≤ 16 → (a1 / 2 ^ Ag.toNat) = aa := V3 af
    by_cases c12 : (Go.bits .and .u16 (aa) 1) = 1
    ·
     rw [if_pos c12] at H;have Gh := beq_iff_eq.mpr c12
     have NA : ((Go.bits .and .u16 (aa) 1) != 1) = false := bne_eq_false_iff_eq.mpr c12
     clear c12
     by_cases c13 : Bu < 3
     ·
      rw [if_pos c13] at H;have J9 := decide_eq_true c13;clear c13
      by_cases c14 : Ag < (yN.length : Int)
      ·
       rw [if_pos c14] at H;have Jc := decide_eq_true c14;clear c14;obtain ⟨av, ak⟩ : ∃ y_ : List Bool, y_ = (yN.set (Ag : Int).toNat true) := ⟨_, rfl⟩
       replace H : (zk.l0 Vk a0 a1 av (wrap64 (Bu + 1)) (wrap64 (Ag + 1))) = some r := by (rw [ak]; with_reducible exact H)
       have aD := yf.mk ak;clear ak;have H' := yf.mk H;clear H
       have aj : 0 ≤ (Ag : Int) := of_decide_eq_true ‹_›
       have ax : (Ag : Int) < ((yN.length : Int) : Int) := of_decide_eq_true ‹_›
       obtain ⟨ah, aC, aI, ay, aK, aT, az⟩ := Kd.HZ Bw.out (by omega)
       (cases aI)
       have aJ := yf.mk ay;have aM := yf.mk az;clear ay aK az;obtain ⟨aN, aU⟩ := Kd.FJ false Bw.out (Ag : Int) aj ax;replace aj := eq_true aj;replace ax := eq_true ax;have au := Kd.Lm Bw.out (Ag : Int) true
       go_wp2_with (((with_reducible refine Fu (t := 4) (p := 30) rfl ?_); refine EU (t := 4) (p := 30) (v := ?vo_w17) (w1 := (wc.setCell ⟨ah, (Ag : Int).toNat, none⟩ (.bool true))) ?hg ?ho ?hn ?hr ?_; (case ho => rfl); (case hg => rfl); (case hn => rfl); (case hr => go_simp); intro w17 hw; have hg : wc.grownBy w17 (some ah) := (by rw [hw]; exact au.2); have OP : Kd.R Kd.bool 4 w17 w.heap.size (fun _ => True) (.slice (some ⟨ah, 0, none⟩) yN.length aC) av := (by rw [hw, aD.out]; exact au.1); clear au; replace Bw := yf.mk (OP); replace HB := yf.mk ((by rw [hw]; exact DL (HB.out) aJ.out : Below w.heap.size w w17)); clear hg hw OP))
       go_roundg Vk
       case measure => have := BJ.out; have := Qv.out; omega
       case rel => exact ⟨(av), (wrap64 (Bu + 1)), (wrap64 (Ag + 1)), (by rfl), (by rfl), H', ⟨by have := BJ.out; have := Qv.out; omega⟩, ⟨kR Bw⟩, ⟨bO HB⟩⟩
      ·
       rw [if_neg c14] at H;exact absurd H (by simp)
     ·
      rw [if_neg c13] at H;have J9 := decide_eq_false c13;clear c13;have H' := yf.mk H;clear H
      go_wp2
      go_roundg Vk
      case measure => have := BJ.out; have := Qv.out; omega
      case rel => exact ⟨(yN), (Bu), (wrap64 (Ag + 1)), (by rfl), (by rfl), H', ⟨by have := BJ.out; have := Qv.out; omega⟩, ⟨kR Bw⟩, ⟨bO HB⟩⟩
    ·
     rw [if_neg c12] at H;have Gh := beq_eq_false_iff_ne.mpr c12;have NA := bne_iff_ne.mpr c12;have H' := yf.mk H;clear H
     go_wp2
     go_roundg Vk
     case measure => have := BJ.out; have := Qv.out; omega
     case rel => exact ⟨(yN), (Bu), (wrap64 (Ag + 1)), (by rfl), (by rfl), H', ⟨by have := BJ.out; have := Qv.out; omega⟩, ⟨kR Bw⟩, ⟨bO HB⟩⟩
   ·
    rw [if_neg c10] at H;exact absurd H (by simp)
  ·
   replace c9 := Bool.eq_false_iff.mpr c9;subst c9
   rw [if_neg (show ¬ (false = true) by decide)] at H
   obtain rfl := Option.some.inj H
   go_wp2
   go_ret
   exact ⟨_, by rfl, by (with_reducible repeat (apply Kd.yZ)); exact Bw.out, bO HB⟩
end Go.Proofs.Ytjonnfmoocijlaa.P
