/- Texts of a claim, packed. -/
import Derived.Test.YtjonnfmoocijlaaD23
set_option linter.all false
namespace Go.Proofs.Ytjonnfmoocijlaa.P
open Go.RowKit Go.Proofs.YtjonnfmoocijlaaKW.PrintWords Go.Proofs.YtjonnfmoocijlaaKW.PrintLast Go.Proofs.YtjonnfmoocijlaaKW.PrintMore
attribute [local go_sem] zz zA zS zT zn zo zB zC
def Ac.f (k : Nat) (yn : Int) (yg : List (List Int)) (yo : Int) (yt : Int) (Ab : List (AY)) (Al : Int) (zY : Int) (a1 : Int) : Option (Bool) := (yA.f k yn yg yo yt Ab Al zY a1).bind fun KH => ((slices_Sort_int.f KH).bind fun Tn => ((slices_Compact_int.f Tn).bind fun Vr => ((Aq.f yn yg yo yt Ab Al zY).bind fun t194 => (some ((Vr.length : Int) == t194)))))
theorem Ac.mono : ∀ a0 a1 a2 a3 a4 a5 a6 a7 k, zZ (Ac.f k a0 a1 a2 a3 a4 a5 a6 a7) (Ac.f (k + 1) a0 a1 a2 a3 a4 a5 a6 a7) := by
 intro a0 a1 a2 a3 a4 a5 a6 a7 k
 unfold Ac.f
 repeat' first
  | exact yA.mono _ _ _ _ _ _ _ _ _
  | exact zZ.refl _
  | exact zZ.none _
  | refine zZ.ite ?_ ?_
  | refine zZ.bind ?_ (fun _ => ?_)
set_option maxHeartbeats 8000000 in
set_option maxRecDepth 100000 in
theorem Ac.calls (k : Nat) (yn : Int) (yP : Option Addr) (yI : Nat) (yg : List (List Int)) (yo : Int) (yt : Int) (DF : Option Addr) (Du : Nat) (Ab : List (AY)) (Al : Int) (zY : Int) (a1 : Int) (r : Bool) (w : World) (zR : Kd.C (Kd.slice 3 (Kd.int .i64)) w yP yg.length yg) (zU : yg.length ≤ yI) (F9 : Kd.C Dy w DF Ab.length Ab) (Fa : Ab.length ≤ Du) (h : Ac.f k yn yg yo yt Ab Al zY a1 = some r) :
  Calls Try.prog 46 #[.agg #[.int .i64 yn, .slice yP yg.length yI, .int .i64 yo, .int .i64 yt, .slice DF Ab.length Du, .int .i64 Al, .int .i64 zY], .int .i64 a1] w fun e w' => e = .returned (.bool r) ∧ Below w.heap.size w w' := by
 have KF := Try.underlying71;have zq := yf.mk zR;have zG := yf.mk zU;clear zR zU;have ED := yf.mk F9;have GA := yf.mk Fa;clear F9 Fa;have HB := yf.mk (Below.refl w.heap.size w)
 have H : ((yA.f k yn yg yo yt Ab Al zY a1).bind fun KH => ((slices_Sort_int.f KH).bind fun Tn => ((slices_Compact_int.f Tn).bind fun Vr => ((Aq.f yn yg yo yt Ab Al zY).bind fun t194 => (some ((Vr.length : Int) == t194)))))) = some r := h
 clear h;obtain ⟨KH, A3, H⟩ := bE H
 try dsimp only at H
 obtain ⟨Tn, A4, H⟩ := bE H
 try dsimp only at H
 obtain ⟨Vr, A5, H⟩ := bE H
 try dsimp only at H
 obtain ⟨t194, A6, H⟩ := bE H
 try dsimp only at H
 obtain rfl := Option.some.inj H
 go_enter Try.func46, Try.ntmps46
 try go_wp2_with (first | ((with_reducible refine yK (N := 2) rfl ?_); refine yE rfl (N := 2) rfl (cs := #[.int .i64 yn, .slice yP yg.length yI, .int .i64 yo, .int .i64 yt, .slice DF Ab.length Du, .int .i64 Al, .int .i64 zY]) (t := 71) (by go_simp) ?_; intro af hg w7 yG hb; have aa := yf.mk (yG); have ah := bG (w := w) hg; have ai := bG (w := w) hg; replace HB := bS HB hb; clear hb yG hg; have Ox := EP aa; have Oy := bf aa) | ((with_reducible refine yB (f := 35) rfl ?_); refine gL (some 8) Try.func35 #[.agg #[.int .i64 yn, .slice yP yg.length yI, .int .i64 yo, .int .i64 yt, .slice DF Ab.length Du, .int .i64 Al, .int .i64 zY], .int .i64 a1] ?_; (with_reducible refine (yA.calls k yn _ _ yg yo yt _ _ Ab Al zY a1 KH _ ?yF ?yM ?zI ?zJ A3.out).mono ?_); (case yF => exact Da zq); (case yM => exact zG.out); (case zI => exact Da ED); (case zJ => exact GA.out); rintro e w9 ⟨v188, rfl, ho0, hb⟩; refine ⟨_, rfl, ?_⟩; have ae := yf.mk (Kd.AL ho0 (yJ (bO HB))); replace aa := bB aa hb; replace HB := bS HB hb; clear hb; clear ho0; obtain ⟨LV, KE, QA⟩ := Kd.zX ae.out; subst QA) | ((with_reducible refine yB (f := 64) rfl ?_); refine gL (some 10) Try.func64 #[.slice LV KH.length KE] ?_; (with_reducible refine (slices_Sort_int.calls (fun k_ => some k_ = (.slice LV KH.length KE : Value).ownBlock) (.slice LV KH.length KE) KH Tn w _ ?yF ?yM A4.out).mono ?_); (case yF => repeat ((with_reducible exact HB.out))); (case yM => exact Kd.Fx rfl ae.out); rintro e w11 ⟨rfl, hy0, hb, hkp⟩; refine ⟨_, rfl, ?_⟩; replace aa := yf.mk (Eb (kk aa) hkp (fun hs_ => (fun e_ => (Kd.Dx ae.out aa.out (by decide)) e_) hs_)); replace ae := yf.mk (Kd.Q8 rfl hy0 (fun k_ e_ => ae.out.1 k_ e_)); replace HB := yf.mk (hb); clear hb; clear hkp; clear hy0))
 replace ae := yf.mk (Kd.Cr ae.out);replace aa := yf.mk (yZ aa.out);replace HB := yf.mk (ze HB.out)
 refine AV (n := 7) (S := fun w' => w'.cell? ⟨af, 0, none⟩ = some (.int .i64 yn) ∧ w'.cell? ⟨af, 1, none⟩ = some (.slice yP yg.length yI) ∧ w'.cell? ⟨af, 2, none⟩ = some (.int .i64 yo) ∧ w'.cell? ⟨af, 3, none⟩ = some (.int .i64 yt) ∧ w'.cell? ⟨af, 4, none⟩ = some (.slice DF Ab.length Du) ∧ w'.cell? ⟨af, 5, none⟩ = some (.int .i64 Al) ∧ w'.cell? ⟨af, 6, none⟩ = some (.int .i64 zY)) (ds := []) (bz 7 0) (by kernel_rfl) rfl rfl (EP aa) (fun hHeld => ?_)
 generalize w11.drew = w12 at ae aa HB hHeld ⊢
 refine Hl (i := 0) (N := some 11) (v := ?_) (a' := ?_) (bz 7 1) rfl rfl (by kernel_rfl) (fun _ _ _ h => h) (Or.inl ⟨by rfl, ?_⟩) ?_ ?_
 rotate_left
 ·
  intro w'
  go_simp
  with_reducible rfl
 rotate_left
 ·
  simp only [pz]
  rfl
 refine MK (i := 3) (N := some 14) (v := ?_) (a' := ?_) (bz 7 9) rfl rfl (by kernel_rfl) (fun _ _ _ h => h) (Or.inl ⟨by rfl, ?_⟩) hHeld ?_ ?_
 rotate_left
 ·
  rintro w' ⟨s0, s1, s2, s3, s4, s5, s6⟩
  go_simp
  with_reducible rfl
 rotate_left
 ·
  simp only [pz]
  rfl
 refine BP (i := 1) (N := some 12) (bz 7 11) rfl rfl (by kernel_rfl) (by decide) (fun K hK => ?_)
 refine gO Try.func71 #[.slice LV KH.length KE] ?_
 with_reducible refine (slices_Compact_int.calls (fun k_ => some k_ = (.slice LV KH.length KE : Value).ownBlock) (.slice LV KH.length KE) Tn Vr w _ ?yF ?yM A5.out).mono ?_
 (case yF => repeat ((with_reducible exact HB.out)))
 (case yM => exact Kd.Fx rfl ae.out)
 rintro e w13 ⟨v192, rfl, ho0, hb, hkp⟩
 refine ⟨_, rfl, ?_⟩
 replace aa := yf.mk (Eb (kk aa) hkp (fun hs_ => (fun e_ => (Kd.Dx ae.out aa.out (by decide)) e_) hs_))
 have ag := yf.mk (Kd.zb (ok' := fun k_ => True) ho0 (fun k_ BG => trivial));replace HB := yf.mk (hb);clear hb hkp ho0;obtain ⟨ZP, SI, Li⟩ := Kd.zX ag.out
 (subst Li)
 refine hK.out _ _ (EP aa) (fun hHeld => ?_)
 clear hK K
 refine Aj (a' := ?_) ?_ ?_
 rotate_left
 ·
  show Act.put _ (some 12) _ = _
  simp only [pz]
  rfl
 refine Hl (i := 2) (N := some 13) (v := ?_) (a' := ?_) (bz 7 15) rfl rfl (by kernel_rfl) (fun _ _ _ h => h) (Or.inl ⟨by rfl, ?_⟩) ?_ ?_
 rotate_left
 ·
  intro w'
  go_simp
  with_reducible rfl
 rotate_left
 ·
  simp only [pz]
  rfl
 refine BP (i := 4) (N := some 15) (bz 7 31) rfl rfl (by kernel_rfl) (by decide) (fun K hK => ?_)
 refine gO Try.func63 #[.agg #[.int .i64 yn, .slice yP yg.length yI, .int .i64 yo, .int .i64 yt, .slice DF Ab.length Du, .int .i64 Al, .int .i64 zY]] ?_
 with_reducible refine (Aq.calls yn _ _ yg yo yt _ _ Ab Al zY t194 _ ?yF ?yM ?zI ?zJ A6.out).mono ?_
 (case yF => exact Da zq)
 (case yM => exact zG.out)
 (case zI => exact Da ED)
 (case zJ => exact GA.out)
 rintro e w15 ⟨rfl, hb⟩
 refine ⟨_, rfl, ?_⟩
 replace ag := BN ag hb;replace aa := bB aa hb;replace HB := bS HB hb;clear hb
 refine hK.out _ _ (EP aa) (fun hHeld => ?_)
 clear hK K
 refine Aj (a' := ?_) ?_ ?_
 rotate_left
 ·
  show Act.put _ (some 15) _ = _
  simp only [pz]
  rfl
 refine Hl (i := 5) (N := some 16) (v := ?_) (a' := ?_) (bz 7 63) rfl rfl (by kernel_rfl) (fun _ _ _ h => h) (Or.inl ⟨by rfl, ?_⟩) ?_ ?_
 rotate_left
 ·
  intro w'
  go_simp
  with_reducible rfl
 rotate_left
 ·
  simp only [pz]
  rfl
 refine Hl (i := 6) (N := some 4) (v := ?_) (a' := ?_) (bz 7 127) rfl rfl (by kernel_rfl) (fun _ _ _ h => h) (Or.inl ⟨by rfl, ?_⟩) ?_ ?_
 rotate_left
 ·
  intro w'
  go_simp
  with_reducible rfl
 rotate_left
 ·
  simp only [pz]
  rfl
 refine BI (by kernel_rfl) ?_
 try go_wp2
 go_ret
 exact ⟨by rfl, bO HB⟩
def D6.f (yn : Int) (yg : List (List Int)) (yo : Int) (yt : Int) (Ab : List (AY)) (Al : Int) (zY : Int) (a1 : Int) (a2 : Int) : Option (Bool) := if a1 ≥ 0 then (if a1 < (wrap64 (yo * (yg.length : Int))) then (if a2 ≥ 0 then ((Aq.f yn yg yo yt Ab Al zY).bind fun Vs => (some (decide (a2 < Vs)))) else (some false)) else (some false)) else (some false)
set_option maxHeartbeats 8000000 in
set_option maxRecDepth 100000 in
theorem D6.calls (yn : Int) (yP : Option Addr) (yI : Nat) (yg : List (List Int)) (yo : Int) (yt : Int) (DF : Option Addr) (Du : Nat) (Ab : List (AY)) (Al : Int) (zY : Int) (a1 : Int) (a2 : Int) (r : Bool) (w : World) (zR : Kd.C (Kd.slice 3 (Kd.int .i64)) w yP yg.length yg) (zU : yg.length ≤ yI) (F9 : Kd.C Dy w DF Ab.length Ab) (Fa : Ab.length ≤ Du) (h : D6.f yn yg yo yt Ab Al zY a1 a2 = some r) :
  Calls Try.prog 60 #[.agg #[.int .i64 yn, .slice yP yg.length yI, .int .i64 yo, .int .i64 yt, .slice DF Ab.length Du, .int .i64 Al, .int .i64 zY], .int .i64 a1, .int .i64 a2] w fun e w' => e = .returned (.bool r) ∧ Below w.heap.size w w' := by
 have KF := Try.underlying71;have zq := yf.mk zR;have zG := yf.mk zU;clear zR zU;have ED := yf.mk F9;have GA := yf.mk Fa;clear F9 Fa;have HB := yf.mk (Below.refl w.heap.size w)
 have H : (if a1 ≥ 0 then (if a1 < (wrap64 (yo * (yg.length : Int))) then (if a2 ≥ 0 then ((Aq.f yn yg yo yt Ab Al zY).bind fun Vs => (some (decide (a2 < Vs)))) else (some false)) else (some false)) else (some false)) = some r := h
 clear h
 by_cases c4 : a1 ≥ 0
 rotate_left
 ·
  rw [if_neg c4] at H;have Ex := decide_eq_false c4;clear c4;obtain rfl := Option.some.inj H
  go_enter Try.func60, Try.ntmps60
  go_wp2_with (((with_reducible refine yK (N := 3) rfl ?_); (try (refine BH (by rfl) ?_; dsimp only)); refine yE rfl (N := 3) rfl (cs := #[.int .i64 yn, .slice yP yg.length yI, .int .i64 yo, .int .i64 yt, .slice DF Ab.length Du, .int .i64 Al, .int .i64 zY]) (t := 71) (by go_simp) ?_; intro ae hg w15 yG hb; have aa := yf.mk (yG); have ag := bG (w := w) hg; have af := bG (w := w) hg; replace HB := bS HB hb; clear hb yG hg))
  go_ret
  exact ⟨by rfl, bO HB⟩
 rw [if_pos c4] at H;have Ex := decide_eq_true c4;clear c4
 by_cases c5 : a1 < (wrap64 (yo * (yg.length : Int)))
 rotate_left
 ·
  rw [if_neg c5] at H;have Ez := decide_eq_false c5;clear c5;obtain rfl := Option.some.inj H
  go_enter Try.func60, Try.ntmps60
  go_wp2_with (((with_reducible refine yK (N := 3) rfl ?_); (try (refine BH (by rfl) ?_; dsimp only)); refine yE rfl (N := 3) rfl (cs := #[.int .i64 yn, .slice yP yg.length yI, .int .i64 yo, .int .i64 yt, .slice DF Ab.length Du, .int .i64 Al, .int .i64 zY]) (t := 71) (by go_simp) ?_; intro ae hg w13 yG hb; have aa := yf.mk (yG); have ag := bG (w := w) hg; have af := bG (w := w) hg; replace HB := bS HB hb; clear hb yG hg; have LQ := EP aa; have LU := bf aa))
  go_ret
  exact ⟨by rfl, bO HB⟩
 rw [if_pos c5] at H;have Ez := decide_eq_true c5;clear c5
 by_cases c6 : a2 ≥ 0
 ·
  rw [if_pos c6] at H;have EU := decide_eq_true c6;clear c6;obtain ⟨Vs, A7, H⟩ := bE H
  try dsimp only at H
  obtain rfl := Option.some.inj H
  go_enter Try.func60, Try.ntmps60
  go_wp2_with (first | ((with_reducible refine yK (N := 3) rfl ?_); (try (refine BH (by rfl) ?_; dsimp only)); refine yE rfl (N := 3) rfl (cs := #[.int .i64 yn, .slice yP yg.length yI, .int .i64 yo, .int .i64 yt, .slice DF Ab.length Du, .int .i64 Al, .int .i64 zY]) (t := 71) (by go_simp) ?_; intro ae hg w8 yG hb; have aa := yf.mk (yG); have ag := bG (w := w) hg; have af := bG (w := w) hg; replace HB := bS HB hb; clear hb yG hg; have NW := EP aa; have NY := bf aa) | (go_at_call 63; (with_reducible refine (Aq.calls yn _ _ yg yo yt _ _ Ab Al zY Vs _ ?yF ?yM ?zI ?zJ A7.out).mono ?_); (case yF => exact Da zq); (case yM => exact zG.out); (case zI => exact Da ED); (case zJ => exact GA.out); rintro e w10 ⟨rfl, hb⟩; replace aa := bB aa hb; replace HB := bS HB hb; clear hb))
  go_ret
  exact ⟨by rfl, bO HB⟩
 rw [if_neg c6] at H;have EU := decide_eq_false c6;clear c6;obtain rfl := Option.some.inj H
 go_enter Try.func60, Try.ntmps60
 go_wp2_with (((with_reducible refine yK (N := 3) rfl ?_); (try (refine BH (by rfl) ?_; dsimp only)); refine yE rfl (N := 3) rfl (cs := #[.int .i64 yn, .slice yP yg.length yI, .int .i64 yo, .int .i64 yt, .slice DF Ab.length Du, .int .i64 Al, .int .i64 zY]) (t := 71) (by go_simp) ?_; intro ae hg w11 yG hb; have aa := yf.mk (yG); have ag := bG (w := w) hg; have af := bG (w := w) hg; replace HB := bS HB hb; clear hb yG hg; have Nc := EP aa; have Nf := bf aa))
 go_ret
 exact ⟨by rfl, bO HB⟩
end Go.Proofs.Ytjonnfmoocijlaa.P
namespace Go.Proofs.Ytjonnfmoocijlaa.P
open Go.RowKit Go.Proofs.YtjonnfmoocijlaaKW.PrintWords Go.Proofs.YtjonnfmoocijlaaKW.PrintLast Go.Proofs.YtjonnfmoocijlaaKW.PrintMore
def Fq (p : KR) : Value := .agg #[.int .i64 p.f0, .int .i64 p.f1]
def Fs : List AY → Nat → List MapEntry
 | [], _ => []
 | m :: l, i => { key := Fq m.f2, val := .bool true, born := i } :: Fs l (i + 1)
def Dg (l : List AY) (i : Int) : Obj := .map (Fs (l.take i.toNat) 0).toArray i.toNat
def DW (p q : KR) : Bool := p.f0 == q.f0 && p.f1 == q.f1
def I4 (l : List AY) (i : Int) : Bool := (l.take i.toNat).any fun m => DW (yh l i).f2 m.f2
theorem ME (a : List AY) (m : AY) (i : Nat) : Fs (a ++ [m]) i = Fs a i ++ [{ key := Fq m.f2, val := .bool true, born := i + a.length }] := by
 induction a generalizing i with
 | nil => rfl
 | cons x a ih => simp only [List.cons_append, Fs, ih, List.length_cons]; rw [show i + 1 + a.length = i + (a.length + 1) by omega]
theorem Km (p q : KR) (w : World) : (Op.equal 38 (Fq p) (Fq q)).run Try.prog w = .ok (DW p q) w := by
 show (Op.equalIn (9998 + 2) 38 (.agg #[.int .i64 p.f0, .int .i64 p.f1]) (.agg #[.int .i64 q.f0, .int .i64 q.f1])).run Try.prog w = _
 refine Q6 Try.underlying38 (by kernel_rfl) ?_
 refine Je (by rfl) (by go_simp; rfl) (by go_simp; rfl) (by go_simp) ?_
 exact Lb (by rfl) (by go_simp; rfl) (by go_simp; rfl) (by go_simp)
theorem Kn (p : KR) (em : Bool) (w : World) : (Instr.checkKey em 10000 38 (Fq p)).run Try.prog w = .ok () w := by
 rw [show (10000 : Nat) = 9998 + 1 + 1 from rfl, Instr.checkKey]
 simp only [Sem.run_bind, run_underlying Try.underlying38, Result.andThen_ok, Fq]
 have h0 : (part 3 #[Value.int IntKind.i64 p.f0, Value.int IntKind.i64 p.f1] 0).run Try.prog w = .ok (.int .i64 p.f0) w := by go_simp
 have h1 : (part 3 #[Value.int IntKind.i64 p.f0, Value.int IntKind.i64 p.f1] 1).run Try.prog w = .ok (.int .i64 p.f1) w := by go_simp
 have hc : ∀ x : Int, (Instr.checkKey em (9998 + 1) 3 (.int .i64 x)).run Try.prog w = .ok () w := fun x => by
  rw [Instr.checkKey]
  simp only [Sem.run_bind, run_underlying Try.underlying3, Result.andThen_ok, Sem.run_pure]
 rw [← Array.forIn_toList]
 simp [h0, h1, hc]
theorem Ko (p : KR) (w : World) : ∀ (l : List AY) (i j : Nat), ∃ r, (Instr.findAsking 38 (Fq p) (Fs l j) i).run Try.prog w = .ok r w ∧ r.isSome = l.any (fun m => DW p m.f2) ∧ ∀ x, r = some x → x.2 = .bool true
 | [], i, j => ⟨none, by simp [Fs, Instr.findAsking], rfl, fun x h => by cases h⟩
 | m :: l, i, j => by
  cases hs : DW p m.f2 with
  | true => exact ⟨some (i, .bool true), by simp [Fs, Instr.findAsking, Km, hs], by simp [hs], fun x h => by cases h; rfl⟩
  | false =>
   obtain ⟨r, h1, h2, h3⟩ := Ko p w l (i + 1) (j + 1)
   exact ⟨r, by simp [Fs, Instr.findAsking, Km, hs, h1], by simp [hs, h2], h3⟩
theorem Nh (p : KR) (w : World) (l : List AY) : ∃ r, (Instr.findKey 38 (Fq p) (Fs l 0)).run Try.prog w = .ok r w ∧ r.isSome = l.any (fun m => DW p m.f2) ∧ ∀ x, r = some x → x.2 = .bool true := by
 obtain ⟨r, h1, h2, h3⟩ := Ko p w l 0 0
 refine ⟨r, ?_, h2, h3⟩
 rw [run_findKey_eq w (by rw [Try.underlying38])]
 exact h1
theorem Pj (l : List AY) (i : Int) (g : Nat) (w : World) (hg : w.heap[g]? = some (Dg l i)) : (Instr.lookup 99 (.map (some g)) (Fq (yh l i).f2) false).run Try.prog w = .ok (.bool (I4 l i)) w := by
 obtain ⟨r, h1, h2, h3⟩ := Nh (yh l i).f2 w (l.take i.toNat)
 have hz : (zeroValue 4).run Try.prog w = .ok (.bool false) w := by go_simp
 have hck := fun em => Kn (yh l i).f2 em w
 have hgo := run_getObj_map (P := Try.prog) w g _ _ hg
 unfold Instr.lookup
 simp only [Sem.run_bind, run_underlying Try.underlying99, Result.andThen_ok, hgo, hck, Sem.run_pure]
 rw [h1]
 cases r with
 | none => simp [hz, I4, ← h2]
 | some x => obtain ⟨i, v⟩ := x; have := h3 _ rfl; simp at this; subst this; simp [I4, ← h2]
theorem Pm (l : List AY) (i : Nat) (hi : i < l.length) (g : Nat) (w : World) (hg : w.heap[g]? = some (Dg l i)) (hn : I4 l i = false) :
    (Instr.mapUpdate 99 (.map (some g)) (Fq (yh l i).f2) (.bool true)).run Try.prog w = .ok () { w with heap := w.heap.setIfInBounds g (Dg l ((i + 1 : Nat) : Int)) } := by
  obtain ⟨r, h1, h2, h3⟩ := Nh (yh l i).f2 w (l.take i)
  have hck := fun em => Kn (yh l i).f2 em w
  have hr : r = none := by
    cases r with
    | none => rfl
    | some x => rw [I4, Int.toNat_natCast] at hn; rw [hn] at h2; cases h2
  subst hr
  have hg' : w.heap[g]? = some (.map (Fs (l.take i) 0).toArray i) := by rw [hg, Dg, Int.toNat_natCast]
  have hgo := run_getObj_map (P := Try.prog) w g _ _ hg'
  unfold Instr.mapUpdate
  simp only [Sem.run_bind, run_underlying Try.underlying99, Result.andThen_ok, hgo, hck, Sem.run_pure]
  rw [h1]
  simp only [Result.andThen_ok]
  have hlen : (l.take i).length = i := by rw [List.length_take, Nat.min_eq_left (Nat.le_of_lt hi)]
  have hobj : Obj.map ((Fs (l.take i) 0).toArray.push { key := Fq (yh l i).f2, val := .bool true, born := i }) (i + 1) = Dg l ((i + 1 : Nat) : Int) := by
    have e : yh l i = l[i] := by unfold yh; rw [Int.toNat_natCast, getD_at _ _ _ hi]
    rw [Dg, Int.toNat_natCast, List.take_succ_eq_append_getElem hi, ME, hlen, Nat.zero_add, e]
    simp
  rw [hobj]
  have hlt : g < w.heap.size := (Array.getElem?_eq_some_iff.1 hg).1
  generalize Dg l ((i + 1 : Nat) : Int) = o
  simp only [setObj, Sem.run, hg']
theorem QH (w : World) (g : Nat) (o : Obj) : w.grownBy { w with heap := w.heap.setIfInBounds g o } (some g) :=
 ⟨rfl, rfl, rfl, by simp, fun k hk hne => by
  show (w.heap.setIfInBounds g o)[k]? = w.heap[k]?
  rw [Array.getElem?_setIfInBounds_ne (fun e => hne (by rw [e]))]⟩
theorem Tp (l : List AY) (x : Int) (h0 : 0 ≤ x) (h1 : x < (l.length : Int)) (hL : l.length ≤ 9223372036854775807) (g : Nat) (w : World) (hg : w.heap[g]? = some (Dg l x)) (hn : I4 l x = false) :
    ∃ w', (Instr.mapUpdate 99 (.map (some g)) (.agg #[.int .i64 (yh l x).f2.f0, .int .i64 (yh l x).f2.f1]) (.bool true)).run Try.prog w = .ok () w' ∧ w'.heap[g]? = some (Dg l (wrap64 (x + 1))) ∧ w.grownBy w' (some g) := by
  obtain ⟨i, rfl⟩ : ∃ i : Nat, x = (i : Int) := ⟨x.toNat, by omega⟩
  have hi : i < l.length := by omega
  rw [ww (x := (i : Int) + 1) (by omega) (by omega), show (i : Int) + 1 = ((i + 1 : Nat) : Int) by omega]
  refine ⟨_, Pm l i hi g w hg hn, ?_, QH _ _ _⟩
  show (w.heap.setIfInBounds g _)[g]? = _
  rw [Array.getElem?_setIfInBounds_self_of_lt (Array.getElem?_eq_some_iff.1 hg).1]
theorem yU {w : World} {g : Nat} {o : Obj} (h : w.heap[g]? = some o) {p : Addr} (hp : g ≠ p.block) (u : Value) : (w.setCell p u).heap[g]? = some o := (Below.heap_setCell w p u g hp).trans h
section
variable {P : Program} {ops : Array Oper} {rest : List Oper} {o : Oper} {a : Act} {Q : Exit → Act → World → Prop}
theorem Tq {W : World} (hgd : o.guard = none) {N : Tmp} (_hd : o.dst = some N) (l : List AY)
    (hrun : (execOp a.eval o).run P W = .ok (.value (.map (some W.heap.size))) (W.alloc (.map #[] 0)))
    (h : ∀ g, g = W.heap.size → ∀ w1, w1.heap[g]? = some (Dg l 0) → Below W.heap.size W w1 → wpList P ops Q rest (a.put o.dst (.map (some g))) w1) : wpList P ops Q (o :: rest) a W :=
  Kd.JD hgd hrun (h _ rfl _ (Nu W _) (CW (Below.refl _ _) _))
end
end Go.Proofs.Ytjonnfmoocijlaa.P
