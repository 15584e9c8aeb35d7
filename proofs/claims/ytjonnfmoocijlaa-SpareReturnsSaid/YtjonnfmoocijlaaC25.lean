/- Texts of a claim, packed. -/
import Derived.Test.YtjonnfmoocijlaaC24
set_option linter.all false
namespace Go.Proofs.Ytjonnfmoocijlaa.P
open Go.RowKit Go.Proofs.YtjonnfmoocijlaaKW.PrintWords Go.Proofs.YtjonnfmoocijlaaKW.PrintLast Go.Proofs.YtjonnfmoocijlaaKW.PrintMore
attribute [local go_sem] zO zP Aj Ak zC zD zQ zR
def Ci.f (k : Nat) (yn : Int) (yh : List (List Int)) (yo : Int) (yu : Int) (AB : List (AX)) (BB : Int) (AY : Int) (a1 : Int) : Option (Bool) := (yP.f k yn yh yo yu AB BB AY a1).bind fun MH => ((slices_Sort_int.f MH).bind fun Vq => ((slices_Compact_int.f Vq).bind fun Xw => ((Bn.f yn yh yo yu AB BB AY).bind fun t194 => (some ((Xw.length : Int) == t194)))))
set_option maxHeartbeats 8000000 in
set_option maxRecDepth 100000 in
theorem Ci.calls (k : Nat) (yn : Int) (yQ : Option Addr) (yM : Nat) (yh : List (List Int)) (yo : Int) (yu : Int) (EA : Option Addr) (Eo : Nat) (AB : List (AX)) (BB : Int) (AY : Int) (a1 : Int) (r : Bool) (w : World) (Ah : Kd.C (Kd.slice 3 (Kd.int .i64)) w yQ yh.length yh) (Ai : yh.length ≤ yM) (Gj : Kd.C CS w EA AB.length AB) (Gl : AB.length ≤ Eo) (h : Ci.f k yn yh yo yu AB BB AY a1 = some r) :
  Calls Try.prog 46 #[.agg #[.int .i64 yn, .slice yQ yh.length yM, .int .i64 yo, .int .i64 yu, .slice EA AB.length Eo, .int .i64 BB, .int .i64 AY], .int .i64 a1] w fun e w' => e = .returned (.bool r) ∧ Below w.heap.size w w' := by
 have NS := Try.underlying71;have zA := yf.mk Ah;have zK := yf.mk Ai;clear Ah Ai;have FB := yf.mk Gj;have Io := yf.mk Gl;clear Gj Gl;have HB := yf.mk (Below.refl w.heap.size w)
 have H : ((yP.f k yn yh yo yu AB BB AY a1).bind fun MH => ((slices_Sort_int.f MH).bind fun Vq => ((slices_Compact_int.f Vq).bind fun Xw => ((Bn.f yn yh yo yu AB BB AY).bind fun t194 => (some ((Xw.length : Int) == t194)))))) = some r := h
 clear h;obtain ⟨MH, A3, H⟩ := bE H
 try dsimp only at H
 obtain ⟨Vq, A4, H⟩ := bE H
 try dsimp only at H
 obtain ⟨Xw, A5, H⟩ := bE H
 try dsimp only at H
 obtain ⟨t194, A6, H⟩ := bE H
 try dsimp only at H
 obtain rfl := Option.some.inj H
 go_enter Try.func46, Try.ntmps46
 try go_wp2_with (first | ((with_reducible refine yI (N := 2) rfl ?_); refine yG rfl (N := 2) rfl (cs := #[.int .i64 yn, .slice yQ yh.length yM, .int .i64 yo, .int .i64 yu, .slice EA AB.length Eo, .int .i64 BB, .int .i64 AY]) (t := 71) (by go_simp) ?_; intro af hg w7 yJ hb; have aa := yf.mk (yJ); have ah := bG (w := w) hg; have ai := bG (w := w) hg; replace HB := bS HB hb; clear hb yJ hg; have SL := Gt aa; have SN := bf aa) | ((with_reducible refine yw (f := 35) rfl ?_); refine gL (some 8) Try.func35 #[.agg #[.int .i64 yn, .slice yQ yh.length yM, .int .i64 yo, .int .i64 yu, .slice EA AB.length Eo, .int .i64 BB, .int .i64 AY], .int .i64 a1] ?_; (with_reducible refine (yP.calls k yn _ _ yh yo yu _ _ AB BB AY a1 MH _ ?yD ?yF ?zw ?zx A3.out).mono ?_); (case yD => exact Di zA); (case yF => exact zK.out); (case zw => exact Di FB); (case zx => exact Io.out); rintro e w9 ⟨v188, rfl, ho0, hb⟩; refine ⟨_, rfl, ?_⟩; have ae := yf.mk (Kd.Ay ho0 (yL (bO HB))); replace aa := bB aa hb; replace HB := bS HB hb; clear hb; clear ho0; obtain ⟨NR, MG, Tx⟩ := Kd.zJ ae.out; subst Tx) | ((with_reducible refine yw (f := 64) rfl ?_); refine gL (some 10) Try.func64 #[.slice NR MH.length MG] ?_; (with_reducible refine (slices_Sort_int.calls (fun k_ => some k_ = (.slice NR MH.length MG : Value).ownBlock) (.slice NR MH.length MG) MH Vq w _ ?yD ?yF A4.out).mono ?_); (case yD => repeat ((with_reducible exact HB.out))); (case yF => exact Kd.Ht rfl ae.out); rintro e w11 ⟨rfl, hy0, hb, hkp⟩; refine ⟨_, rfl, ?_⟩; replace aa := yf.mk (FL (kk aa) hkp (fun hs_ => (fun e_ => (Kd.EI ae.out aa.out (by decide)) e_) hs_)); replace ae := yf.mk (Kd.VZ rfl hy0 (fun k_ e_ => ae.out.1 k_ e_)); replace HB := yf.mk (hb); clear hb; clear hkp; clear hy0))
 replace ae := yf.mk (Kd.AQ ae.out);replace aa := yf.mk (yO aa.out);replace HB := yf.mk (za HB.out)
 refine Bc (n := 7) (S := fun w' => w'.cell? ⟨af, 0, none⟩ = some (.int .i64 yn) ∧ w'.cell? ⟨af, 1, none⟩ = some (.slice yQ yh.length yM) ∧ w'.cell? ⟨af, 2, none⟩ = some (.int .i64 yo) ∧ w'.cell? ⟨af, 3, none⟩ = some (.int .i64 yu) ∧ w'.cell? ⟨af, 4, none⟩ = some (.slice EA AB.length Eo) ∧ w'.cell? ⟨af, 5, none⟩ = some (.int .i64 BB) ∧ w'.cell? ⟨af, 6, none⟩ = some (.int .i64 AY)) (ds := []) (bz 7 0) (by kernel_rfl) rfl rfl (Gt aa) (fun hHeld => ?_)
 generalize w11.drew = w12 at ae aa HB hHeld ⊢
 refine KA (i := 0) (N := some 11) (v := ?_) (a' := ?_) (bz 7 1) rfl rfl (by kernel_rfl) (fun _ _ _ h => h) (Or.inl ⟨by rfl, ?_⟩) ?_ ?_
 rotate_left
 ·
  intro w'
  go_simp
  with_reducible rfl
 rotate_left
 ·
  simp only [pz]
  rfl
 refine Qx (i := 3) (N := some 14) (v := ?_) (a' := ?_) (bz 7 9) rfl rfl (by kernel_rfl) (fun _ _ _ h => h) (Or.inl ⟨by rfl, ?_⟩) hHeld ?_ ?_
 rotate_left
 ·
  rintro w' ⟨s0, s1, s2, s3, s4, s5, s6⟩
  go_simp
  with_reducible rfl
 rotate_left
 ·
  simp only [pz]
  rfl
 refine Ck (i := 1) (N := some 12) (bz 7 11) rfl rfl (by kernel_rfl) (by decide) (fun K hK => ?_)
 refine gO Try.func71 #[.slice NR MH.length MG] ?_
 with_reducible refine (slices_Compact_int.calls (fun k_ => some k_ = (.slice NR MH.length MG : Value).ownBlock) (.slice NR MH.length MG) Vq Xw w _ ?yD ?yF A5.out).mono ?_
 (case yD => repeat ((with_reducible exact HB.out)))
 (case yF => exact Kd.Ht rfl ae.out)
 rintro e w13 ⟨v192, rfl, ho0, hb, hkp⟩
 refine ⟨_, rfl, ?_⟩
 replace aa := yf.mk (FL (kk aa) hkp (fun hs_ => (fun e_ => (Kd.EI ae.out aa.out (by decide)) e_) hs_))
 have ag := yf.mk (Kd.yX (ok' := fun k_ => True) ho0 (fun k_ E8 => trivial));replace HB := yf.mk (hb);clear hb hkp ho0;obtain ⟨a7a, Zc, SV⟩ := Kd.zJ ag.out
 (subst SV)
 refine hK.out _ _ (Gt aa) (fun hHeld => ?_)
 clear hK K
 refine AR (a' := ?_) ?_ ?_
 rotate_left
 ·
  show Act.put _ (some 12) _ = _
  simp only [pz]
  rfl
 refine KA (i := 2) (N := some 13) (v := ?_) (a' := ?_) (bz 7 15) rfl rfl (by kernel_rfl) (fun _ _ _ h => h) (Or.inl ⟨by rfl, ?_⟩) ?_ ?_
 rotate_left
 ·
  intro w'
  go_simp
  with_reducible rfl
 rotate_left
 ·
  simp only [pz]
  rfl
 refine Ck (i := 4) (N := some 15) (bz 7 31) rfl rfl (by kernel_rfl) (by decide) (fun K hK => ?_)
 refine gO Try.func63 #[.agg #[.int .i64 yn, .slice yQ yh.length yM, .int .i64 yo, .int .i64 yu, .slice EA AB.length Eo, .int .i64 BB, .int .i64 AY]] ?_
 with_reducible refine (Bn.calls yn _ _ yh yo yu _ _ AB BB AY t194 _ ?yD ?yF ?zw ?zx A6.out).mono ?_
 (case yD => exact Di zA)
 (case yF => exact zK.out)
 (case zw => exact Di FB)
 (case zx => exact Io.out)
 rintro e w15 ⟨rfl, hb⟩
 refine ⟨_, rfl, ?_⟩
 replace ag := BZ ag hb;replace aa := bB aa hb;replace HB := bS HB hb;clear hb
 refine hK.out _ _ (Gt aa) (fun hHeld => ?_)
 clear hK K
 refine AR (a' := ?_) ?_ ?_
 rotate_left
 ·
  show Act.put _ (some 15) _ = _
  simp only [pz]
  rfl
 refine KA (i := 5) (N := some 16) (v := ?_) (a' := ?_) (bz 7 63) rfl rfl (by kernel_rfl) (fun _ _ _ h => h) (Or.inl ⟨by rfl, ?_⟩) ?_ ?_
 rotate_left
 ·
  intro w'
  go_simp
  with_reducible rfl
 rotate_left
 ·
  simp only [pz]
  rfl
 refine KA (i := 6) (N := some 4) (v := ?_) (a' := ?_) (bz 7 127) rfl rfl (by kernel_rfl) (fun _ _ _ h => h) (Or.inl ⟨by rfl, ?_⟩) ?_ ?_
 rotate_left
 ·
  intro w'
  go_simp
  with_reducible rfl
 rotate_left
 ·
  simp only [pz]
  rfl
 refine BG (by kernel_rfl) ?_
 try go_wp2
 go_ret
 exact ⟨by rfl, bO HB⟩
def DT.f (yn : Int) (yh : List (List Int)) (yo : Int) (yu : Int) (AB : List (AX)) (BB : Int) (AY : Int) (a1 : Int) (a2 : Int) : Option (Bool) := if a1 ≥ 0 then (if a1 < (wrap64 (yo * (yh.length : Int))) then (if a2 ≥ 0 then ((Bn.f yn yh yo yu AB BB AY).bind fun Xx => (some (decide (a2 < Xx)))) else (some false)) else (some false)) else (some false)
set_option maxHeartbeats 8000000 in
set_option maxRecDepth 100000 in
theorem DT.calls (yn : Int) (yQ : Option Addr) (yM : Nat) (yh : List (List Int)) (yo : Int) (yu : Int) (EA : Option Addr) (Eo : Nat) (AB : List (AX)) (BB : Int) (AY : Int) (a1 : Int) (a2 : Int) (r : Bool) (w : World) (Ah : Kd.C (Kd.slice 3 (Kd.int .i64)) w yQ yh.length yh) (Ai : yh.length ≤ yM) (Gj : Kd.C CS w EA AB.length AB) (Gl : AB.length ≤ Eo) (h : DT.f yn yh yo yu AB BB AY a1 a2 = some r) :
  Calls Try.prog 60 #[.agg #[.int .i64 yn, .slice yQ yh.length yM, .int .i64 yo, .int .i64 yu, .slice EA AB.length Eo, .int .i64 BB, .int .i64 AY], .int .i64 a1, .int .i64 a2] w fun e w' => e = .returned (.bool r) ∧ Below w.heap.size w w' := by
 have NS := Try.underlying71;have zA := yf.mk Ah;have zK := yf.mk Ai;clear Ah Ai;have FB := yf.mk Gj;have Io := yf.mk Gl;clear Gj Gl;have HB := yf.mk (Below.refl w.heap.size w)
 have H : (if a1 ≥ 0 then (if a1 < (wrap64 (yo * (yh.length : Int))) then (if a2 ≥ 0 then ((Bn.f yn yh yo yu AB BB AY).bind fun Xx => (some (decide (a2 < Xx)))) else (some false)) else (some false)) else (some false)) = some r := h
 clear h
 by_cases c4 : a1 ≥ 0
 rotate_left
 ·
  rw [if_neg c4] at H;have ES := decide_eq_false c4;clear c4;obtain rfl := Option.some.inj H
  go_enter Try.func60, Try.ntmps60
  go_wp2_with (((with_reducible refine yI (N := 3) rfl ?_); (try (refine Ab (by rfl) ?_; dsimp only)); refine yG rfl (N := 3) rfl (cs := #[.int .i64 yn, .slice yQ yh.length yM, .int .i64 yo, .int .i64 yu, .slice EA AB.length Eo, .int .i64 BB, .int .i64 AY]) (t := 71) (by go_simp) ?_; intro ag hg w15 yJ hb; have aa := yf.mk (yJ); have ae := bG (w := w) hg; have af := bG (w := w) hg; replace HB := bS HB hb; clear hb yJ hg))
  go_ret
  exact ⟨by rfl, bO HB⟩
 rw [if_pos c4] at H;have ES := decide_eq_true c4;clear c4
 by_cases c5 : a1 < (wrap64 (yo * (yh.length : Int)))
 rotate_left
 ·
  rw [if_neg c5] at H;have FE := decide_eq_false c5;clear c5;obtain rfl := Option.some.inj H
  go_enter Try.func60, Try.ntmps60
  go_wp2_with (((with_reducible refine yI (N := 3) rfl ?_); (try (refine Ab (by rfl) ?_; dsimp only)); refine yG rfl (N := 3) rfl (cs := #[.int .i64 yn, .slice yQ yh.length yM, .int .i64 yo, .int .i64 yu, .slice EA AB.length Eo, .int .i64 BB, .int .i64 AY]) (t := 71) (by go_simp) ?_; intro ag hg w13 yJ hb; have aa := yf.mk (yJ); have ae := bG (w := w) hg; have af := bG (w := w) hg; replace HB := bS HB hb; clear hb yJ hg; have IV := Gt aa; have IW := bf aa))
  go_ret
  exact ⟨by rfl, bO HB⟩
 rw [if_pos c5] at H;have FE := decide_eq_true c5;clear c5
 by_cases c6 : a2 ≥ 0
 ·
  rw [if_pos c6] at H;have EJ := decide_eq_true c6;clear c6;obtain ⟨Xx, A7, H⟩ := bE H
  try dsimp only at H
  obtain rfl := Option.some.inj H
  go_enter Try.func60, Try.ntmps60
  go_wp2_with (first | ((with_reducible refine yI (N := 3) rfl ?_); (try (refine Ab (by rfl) ?_; dsimp only)); refine yG rfl (N := 3) rfl (cs := #[.int .i64 yn, .slice yQ yh.length yM, .int .i64 yo, .int .i64 yu, .slice EA AB.length Eo, .int .i64 BB, .int .i64 AY]) (t := 71) (by go_simp) ?_; intro ag hg w8 yJ hb; have aa := yf.mk (yJ); have ae := bG (w := w) hg; have af := bG (w := w) hg; replace HB := bS HB hb; clear hb yJ hg; have Qb := Gt aa; have Qc := bf aa) | (go_at_call 63; (with_reducible refine (Bn.calls yn _ _ yh yo yu _ _ AB BB AY Xx _ ?yD ?yF ?zw ?zx A7.out).mono ?_); (case yD => exact Di zA); (case yF => exact zK.out); (case zw => exact Di FB); (case zx => exact Io.out); rintro e w10 ⟨rfl, hb⟩; replace aa := bB aa hb; replace HB := bS HB hb; clear hb))
  go_ret
  exact ⟨by rfl, bO HB⟩
 rw [if_neg c6] at H;have EJ := decide_eq_false c6;clear c6;obtain rfl := Option.some.inj H
 go_enter Try.func60, Try.ntmps60
 go_wp2_with (((with_reducible refine yI (N := 3) rfl ?_); (try (refine Ab (by rfl) ?_; dsimp only)); refine yG rfl (N := 3) rfl (cs := #[.int .i64 yn, .slice yQ yh.length yM, .int .i64 yo, .int .i64 yu, .slice EA AB.length Eo, .int .i64 BB, .int .i64 AY]) (t := 71) (by go_simp) ?_; intro ag hg w11 yJ hb; have aa := yf.mk (yJ); have ae := bG (w := w) hg; have af := bG (w := w) hg; replace HB := bS HB hb; clear hb yJ hg; have NM := Gt aa; have NN := bf aa))
 go_ret
 exact ⟨by rfl, bO HB⟩
end Go.Proofs.Ytjonnfmoocijlaa.P
namespace Go.Proofs.Ytjonnfmoocijlaa.P
open Go.RowKit Go.Proofs.YtjonnfmoocijlaaKW.PrintWords Go.Proofs.YtjonnfmoocijlaaKW.PrintLast Go.Proofs.YtjonnfmoocijlaaKW.PrintMore
def Gx (p : GU) : Value := .agg #[.int .i64 p.f0, .int .i64 p.f1]
def Gy : List AX → Nat → List MapEntry
 | [], _ => []
 | m :: l, i => { key := Gx m.f2, val := .bool true, born := i } :: Gy l (i + 1)
def Eg (l : List AX) (i : Int) : Obj := .map (Gy (l.take i.toNat) 0).toArray i.toNat
def Ec (p q : GU) : Bool := p.f0 == q.f0 && p.f1 == q.f1
def Jr (l : List AX) (i : Int) : Bool := (l.take i.toNat).any fun m => Ec (yg l i).f2 m.f2
theorem OB (a : List AX) (m : AX) (i : Nat) : Gy (a ++ [m]) i = Gy a i ++ [{ key := Gx m.f2, val := .bool true, born := i + a.length }] := by
 induction a generalizing i with
 | nil => rfl
 | cons x a ih => simp only [List.cons_append, Gy, ih, List.length_cons]; rw [show i + 1 + a.length = i + (a.length + 1) by omega]
theorem Ml (p q : GU) (w : World) : (Op.equal 38 (Gx p) (Gx q)).run Try.prog w = .ok (Ec p q) w := by
 show (Op.equalIn (9998 + 2) 38 (.agg #[.int .i64 p.f0, .int .i64 p.f1]) (.agg #[.int .i64 q.f0, .int .i64 q.f1])).run Try.prog w = _
 refine SI Try.underlying38 (by kernel_rfl) ?_
 refine KD (by rfl) (by go_simp; rfl) (by go_simp; rfl) (by go_simp) ?_
 exact Nc (by rfl) (by go_simp; rfl) (by go_simp; rfl) (by go_simp)
theorem Mm (p : GU) (em : Bool) (w : World) : (Instr.checkKey em 10000 38 (Gx p)).run Try.prog w = .ok () w := by
 rw [show (10000 : Nat) = 9998 + 1 + 1 from rfl, Instr.checkKey]
 simp only [Sem.run_bind, run_underlying Try.underlying38, Result.andThen_ok, Gx]
 have h0 : (part 3 #[Value.int IntKind.i64 p.f0, Value.int IntKind.i64 p.f1] 0).run Try.prog w = .ok (.int .i64 p.f0) w := by go_simp
 have h1 : (part 3 #[Value.int IntKind.i64 p.f0, Value.int IntKind.i64 p.f1] 1).run Try.prog w = .ok (.int .i64 p.f1) w := by go_simp
 have hc : ∀ x : Int, (Instr.checkKey em (9998 + 1) 3 (.int .i64 x)).run Try.prog w = .ok () w := fun x => by
  rw [Instr.checkKey]
  simp only [Sem.run_bind, run_underlying Try.underlying3, Result.andThen_ok, Sem.run_pure]
 rw [← Array.forIn_toList]
 simp [h0, h1, hc]
theorem Mo (p : GU) (w : World) : ∀ (l : List AX) (i j : Nat), ∃ r, (Instr.findAsking 38 (Gx p) (Gy l j) i).run Try.prog w = .ok r w ∧ r.isSome = l.any (fun m => Ec p m.f2) ∧ ∀ x, r = some x → x.2 = .bool true
 | [], i, j => ⟨none, by simp [Gy, Instr.findAsking], rfl, fun x h => by cases h⟩
 | m :: l, i, j => by
  cases hs : Ec p m.f2 with
  | true => exact ⟨some (i, .bool true), by simp [Gy, Instr.findAsking, Ml, hs], by simp [hs], fun x h => by cases h; rfl⟩
  | false =>
   obtain ⟨r, h1, h2, h3⟩ := Mo p w l (i + 1) (j + 1)
   exact ⟨r, by simp [Gy, Instr.findAsking, Ml, hs, h1], by simp [hs, h2], h3⟩
theorem Px (p : GU) (w : World) (l : List AX) : ∃ r, (Instr.findKey 38 (Gx p) (Gy l 0)).run Try.prog w = .ok r w ∧ r.isSome = l.any (fun m => Ec p m.f2) ∧ ∀ x, r = some x → x.2 = .bool true := by
 obtain ⟨r, h1, h2, h3⟩ := Mo p w l 0 0
 refine ⟨r, ?_, h2, h3⟩
 rw [run_findKey_eq w (by rw [Try.underlying38])]
 exact h1
theorem RA (l : List AX) (i : Int) (g : Nat) (w : World) (hg : w.heap[g]? = some (Eg l i)) : (Instr.lookup 99 (.map (some g)) (Gx (yg l i).f2) false).run Try.prog w = .ok (.bool (Jr l i)) w := by
 obtain ⟨r, h1, h2, h3⟩ := Px (yg l i).f2 w (l.take i.toNat)
 have hz : (zeroValue 4).run Try.prog w = .ok (.bool false) w := by go_simp
 have hck := fun em => Mm (yg l i).f2 em w
 have hgo := run_getObj_map (P := Try.prog) w g _ _ hg
 unfold Instr.lookup
 simp only [Sem.run_bind, run_underlying Try.underlying99, Result.andThen_ok, hgo, hck, Sem.run_pure]
 rw [h1]
 cases r with
 | none => simp [hz, Jr, ← h2]
 | some x => obtain ⟨i, v⟩ := x; have := h3 _ rfl; simp at this; subst this; simp [Jr, ← h2]
theorem RB (l : List AX) (i : Nat) (hi : i < l.length) (g : Nat) (w : World) (hg : w.heap[g]? = some (Eg l i)) (hn : Jr l i = false) :
    (Instr.mapUpdate 99 (.map (some g)) (Gx (yg l i).f2) (.bool true)).run Try.prog w = .ok () { w with heap := w.heap.setIfInBounds g (Eg l ((i + 1 : Nat) : Int)) } := by
  obtain ⟨r, h1, h2, h3⟩ := Px (yg l i).f2 w (l.take i)
  have hck := fun em => Mm (yg l i).f2 em w
  have hr : r = none := by
    cases r with
    | none => rfl
    | some x => rw [Jr, Int.toNat_natCast] at hn; rw [hn] at h2; cases h2
  subst hr
  have hg' : w.heap[g]? = some (.map (Gy (l.take i) 0).toArray i) := by rw [hg, Eg, Int.toNat_natCast]
  have hgo := run_getObj_map (P := Try.prog) w g _ _ hg'
  unfold Instr.mapUpdate
  simp only [Sem.run_bind, run_underlying Try.underlying99, Result.andThen_ok, hgo, hck, Sem.run_pure]
  rw [h1]
  simp only [Result.andThen_ok]
  have hlen : (l.take i).length = i := by rw [List.length_take, Nat.min_eq_left (Nat.le_of_lt hi)]
  have hobj : Obj.map ((Gy (l.take i) 0).toArray.push { key := Gx (yg l i).f2, val := .bool true, born := i }) (i + 1) = Eg l ((i + 1 : Nat) : Int) := by
    have e : yg l i = l[i] := by unfold yg; rw [Int.toNat_natCast, getD_at _ _ _ hi]
    rw [Eg, Int.toNat_natCast, List.take_succ_eq_append_getElem hi, OB, hlen, Nat.zero_add, e]
    simp
  rw [hobj]
  have hlt : g < w.heap.size := (Array.getElem?_eq_some_iff.1 hg).1
  generalize Eg l ((i + 1 : Nat) : Int) = o
  simp only [setObj, Sem.run, hg']
theorem TE (w : World) (g : Nat) (o : Obj) : w.grownBy { w with heap := w.heap.setIfInBounds g o } (some g) :=
 ⟨rfl, rfl, rfl, by simp, fun k hk hne => by
  show (w.heap.setIfInBounds g o)[k]? = w.heap[k]?
  rw [Array.getElem?_setIfInBounds_ne (fun e => hne (by rw [e]))]⟩
theorem Vr (l : List AX) (x : Int) (h0 : 0 ≤ x) (h1 : x < (l.length : Int)) (hL : l.length ≤ 9223372036854775807) (g : Nat) (w : World) (hg : w.heap[g]? = some (Eg l x)) (hn : Jr l x = false) :
    ∃ w', (Instr.mapUpdate 99 (.map (some g)) (.agg #[.int .i64 (yg l x).f2.f0, .int .i64 (yg l x).f2.f1]) (.bool true)).run Try.prog w = .ok () w' ∧ w'.heap[g]? = some (Eg l (wrap64 (x + 1))) ∧ w.grownBy w' (some g) := by
  obtain ⟨i, rfl⟩ : ∃ i : Nat, x = (i : Int) := ⟨x.toNat, by omega⟩
  have hi : i < l.length := by omega
  rw [ww (x := (i : Int) + 1) (by omega) (by omega), show (i : Int) + 1 = ((i + 1 : Nat) : Int) by omega]
  refine ⟨_, RB l i hi g w hg hn, ?_, TE _ _ _⟩
  show (w.heap.setIfInBounds g _)[g]? = _
  rw [Array.getElem?_setIfInBounds_self_of_lt (Array.getElem?_eq_some_iff.1 hg).1]
theorem ze {w : World} {g : Nat} {o : Obj} (h : w.heap[g]? = some o) {p : Addr} (hp : g ≠ p.block) (u : Value) : (w.setCell p u).heap[g]? = some o := (Below.heap_setCell w p u g hp).trans h
section
variable {P : Program} {ops : Array Oper} {rest : List Oper} {o : Oper} {a : Act} {Q : Exit → Act → World → Prop}
theorem Vs {W : World} (hgd : o.guard = none) {N : Tmp} (_hd : o.dst = some N) (l : List AX)
    (hrun : (execOp a.eval o).run P W = .ok (.value (.map (some W.heap.size))) (W.alloc (.map #[] 0)))
    (h : ∀ g, g = W.heap.size → ∀ w1, w1.heap[g]? = some (Eg l 0) → Below W.heap.size W w1 → wpList P ops Q rest (a.put o.dst (.map (some g))) w1) : wpList P ops Q (o :: rest) a W :=
  Kd.Ll hgd hrun (h _ rfl _ (PN W _) (Dx (Below.refl _ _) _))
end
end Go.Proofs.Ytjonnfmoocijlaa.P
