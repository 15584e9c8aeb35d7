/- Texts of a claim, packed. -/
import Derived.Test.YtjonnfmoocijlaaGreatE23
set_option linter.all false
namespace Go.Proofs.YtjonnfmoocijlaaGreat.P
open Go.RowKit Go.Proofs.YtjonnfmoocijlaaGreatKW.PrintWords Go.Proofs.YtjonnfmoocijlaaGreatKW.PrintLast Go.Proofs.YtjonnfmoocijlaaGreatKW.PrintMore
attribute [local go_sem] zN zP Af Ag zz zA zO zQ
def BO.f (k : Nat) (yj : Int) (yg : List (List Int)) (ym : Int) (yn : Int) (Aj : List (AP)) (Au : Int) (Ah : Int) (a1 : Int) : Option (Bool) := (yM.f k yj yg ym yn Aj Au Ah a1).bind fun Mt => ((slices_Sort_int.f Mt).bind fun Vh => ((slices_Compact_int.f Vh).bind fun XM => ((AJ.f yj yg ym yn Aj Au Ah).bind fun t194 => (some ((XM.length : Int) == t194)))))
set_option maxHeartbeats 8000000 in
set_option maxRecDepth 100000 in
theorem BO.calls (k : Nat) (yj : Int) (yK : Option Addr) (yE : Nat) (yg : List (List Int)) (ym : Int) (yn : Int) (Eg : Option Addr) (Ea : Nat) (Aj : List (AP)) (Au : Int) (Ah : Int) (a1 : Int) (r : Bool) (w : World) (zS : Kd.C (Kd.slice 3 (Kd.int .i64)) w yK yg.length yg) (zT : yg.length ≤ yE) (FZ : Kd.C DN w Eg Aj.length Aj) (FY : Aj.length ≤ Ea) (h : BO.f k yj yg ym yn Aj Au Ah a1 = some r) :
  Calls Tryz.prog 43 #[.agg #[.int .i64 yj,.slice yK yg.length yE,.int .i64 ym,.int .i64 yn,.slice Eg Aj.length Ea,.int .i64 Au,.int .i64 Ah],.int .i64 a1] w fun e w' => e = .returned (.bool r) ∧ Below w.heap.size w w' := by
 have Mq := Tryz.underlying65;have zk := yf.mk zS;have zq := yf.mk zT;clear zS zT;have Fa := yf.mk FZ;have Hy := yf.mk FY;clear FZ FY;have HB := yf.mk (Below.refl w.heap.size w)
 have H : ((yM.f k yj yg ym yn Aj Au Ah a1).bind fun Mt => ((slices_Sort_int.f Mt).bind fun Vh => ((slices_Compact_int.f Vh).bind fun XM => ((AJ.f yj yg ym yn Aj Au Ah).bind fun t194 => (some ((XM.length : Int) == t194)))))) = some r := h
 clear h;obtain ⟨Mt,A3,H⟩ := bE H
 try dsimp only at H
 obtain ⟨Vh,A4,H⟩ := bE H
 try dsimp only at H
 obtain ⟨XM,A5,H⟩ := bE H
 try dsimp only at H
 obtain ⟨t194,A6,H⟩ := bE H
 try dsimp only at H
 obtain rfl := Option.some.inj H
 go_enter Tryz.func43,Tryz.ntmps43
 try go_wp2_with (first | ((with_reducible refine yG (N := 2) rfl ?_);refine yD rfl (N := 2) rfl (cs := #[.int .i64 yj,.slice yK yg.length yE,.int .i64 ym,.int .i64 yn,.slice Eg Aj.length Ea,.int .i64 Au,.int .i64 Ah]) (t := 65) (by go_simp) ?_;intro af hg w7 yI hb;have aa := yf.mk (yI);have ai := bG (w := w) hg;have ah := bG (w := w) hg;replace HB := bS HB hb;clear hb yI hg;have QD := Fy aa;have QJ := bf aa) | ((with_reducible refine yz (f := 36) rfl ?_);refine gL (some 8) Tryz.func36 #[.agg #[.int .i64 yj,.slice yK yg.length yE,.int .i64 ym,.int .i64 yn,.slice Eg Aj.length Ea,.int .i64 Au,.int .i64 Ah],.int .i64 a1] ?_;(with_reducible refine (yM.calls k yj _ _ yg ym yn _ _ Aj Au Ah a1 Mt _ ?yB ?yC ?zI ?zJ A3.out).mono ?_);(case yB => exact CU zk);(case yC => exact zq.out);(case zI => exact CU Fa);(case zJ => exact Hy.out);rintro e w9 ⟨v188,rfl,ho0,hb⟩;refine ⟨_,rfl,?_⟩;have ae := yf.mk (Kd.AC ho0 (yF (bO HB)));replace aa := bB aa hb;replace HB := bS HB hb;clear hb;clear ho0;obtain ⟨MK,Mm,Sm⟩ := Kd.zB ae.out;subst Sm) | ((with_reducible refine yz (f := 57) rfl ?_);refine gL (some 10) Tryz.func57 #[.slice MK Mt.length Mm] ?_;(with_reducible refine (slices_Sort_int.calls (fun k_ => some k_ = (.slice MK Mt.length Mm : Value).ownBlock) (.slice MK Mt.length Mm) Mt Vh w _ ?yB ?yC A4.out).mono ?_);(case yB => repeat ((with_reducible exact HB.out)));(case yC => exact Kd.Gm rfl ae.out);rintro e w11 ⟨rfl,hy0,hb,hkp⟩;refine ⟨_,rfl,?_⟩;replace aa := yf.mk (EC (kk aa) hkp (fun hs_ => (fun e_ => (Kd.DC ae.out aa.out (by decide)) e_) hs_));replace ae := yf.mk (Kd.RN rfl hy0 (fun k_ e_ => ae.out.1 k_ e_));replace HB := yf.mk (hb);clear hb;clear hkp;clear hy0))
 replace ae := yf.mk (Kd.DI ae.out);replace aa := yf.mk (zl aa.out);replace HB := yf.mk (zt HB.out)
 refine Bt (n := 7) (S := fun w' => w'.cell? ⟨af,0,none⟩ = some (.int .i64 yj) ∧ w'.cell? ⟨af,1,none⟩ = some (.slice yK yg.length yE) ∧ w'.cell? ⟨af,2,none⟩ = some (.int .i64 ym) ∧ w'.cell? ⟨af,3,none⟩ = some (.int .i64 yn) ∧ w'.cell? ⟨af,4,none⟩ = some (.slice Eg Aj.length Ea) ∧ w'.cell? ⟨af,5,none⟩ = some (.int .i64 Au) ∧ w'.cell? ⟨af,6,none⟩ = some (.int .i64 Ah)) (ds := []) (bz 7 0) (by kernel_rfl) rfl rfl (Fy aa) (fun hHeld => ?_)
 generalize w11.drew = w12 at ae aa HB hHeld ⊢
 refine KM (i := 0) (N := some 11) (v := ?_) (a' := ?_) (bz 7 1) rfl rfl (by kernel_rfl) (fun _ _ _ h => h) (Or.inl ⟨by rfl,?_⟩) ?_ ?_
 rotate_left
 ·
  intro w'
  go_simp
  with_reducible rfl
 rotate_left
 ·
  simp only [pz]
  rfl
 refine Rj (i := 3) (N := some 14) (v := ?_) (a' := ?_) (bz 7 9) rfl rfl (by kernel_rfl) (fun _ _ _ h => h) (Or.inl ⟨by rfl,?_⟩) hHeld ?_ ?_
 rotate_left
 ·
  rintro w' ⟨s0,s1,s2,s3,s4,s5,s6⟩
  go_simp
  with_reducible rfl
 rotate_left
 ·
  simp only [pz]
  rfl
 refine CB (i := 1) (N := some 12) (bz 7 11) rfl rfl (by kernel_rfl) (by decide) (fun K hK => ?_)
 refine gO Tryz.func67 #[.slice MK Mt.length Mm] ?_
 with_reducible refine (slices_Compact_int.calls (fun k_ => some k_ = (.slice MK Mt.length Mm : Value).ownBlock) (.slice MK Mt.length Mm) Vh XM w _ ?yB ?yC A5.out).mono ?_
 (case yB => repeat ((with_reducible exact HB.out)))
 (case yC => exact Kd.Gm rfl ae.out)
 rintro e w13 ⟨v192,rfl,ho0,hb,hkp⟩
 refine ⟨_,rfl,?_⟩
 replace aa := yf.mk (EC (kk aa) hkp (fun hs_ => (fun e_ => (Kd.DC ae.out aa.out (by decide)) e_) hs_))
 have ag := yf.mk (Kd.zf (ok' := fun k_ => True) ho0 (fun k_ Cg => trivial));replace HB := yf.mk (hb);clear hb hkp ho0;obtain ⟨a1e,UC,Ns⟩ := Kd.zB ag.out
 (subst Ns)
 refine hK.out _ _ (Fy aa) (fun hHeld => ?_)
 clear hK K
 refine AU (a' := ?_) ?_ ?_
 rotate_left
 ·
  show Act.put _ (some 12) _ = _
  simp only [pz]
  rfl
 refine KM (i := 2) (N := some 13) (v := ?_) (a' := ?_) (bz 7 15) rfl rfl (by kernel_rfl) (fun _ _ _ h => h) (Or.inl ⟨by rfl,?_⟩) ?_ ?_
 rotate_left
 ·
  intro w'
  go_simp
  with_reducible rfl
 rotate_left
 ·
  simp only [pz]
  rfl
 refine CB (i := 4) (N := some 15) (bz 7 31) rfl rfl (by kernel_rfl) (by decide) (fun K hK => ?_)
 refine gO Tryz.func63 #[.agg #[.int .i64 yj,.slice yK yg.length yE,.int .i64 ym,.int .i64 yn,.slice Eg Aj.length Ea,.int .i64 Au,.int .i64 Ah]] ?_
 with_reducible refine (AJ.calls yj _ _ yg ym yn _ _ Aj Au Ah t194 _ ?yB ?yC ?zI ?zJ A6.out).mono ?_
 (case yB => exact CU zk)
 (case yC => exact zq.out)
 (case zI => exact CU Fa)
 (case zJ => exact Hy.out)
 rintro e w15 ⟨rfl,hb⟩
 refine ⟨_,rfl,?_⟩
 replace ag := CR ag hb;replace aa := bB aa hb;replace HB := bS HB hb;clear hb
 refine hK.out _ _ (Fy aa) (fun hHeld => ?_)
 clear hK K
 refine AU (a' := ?_) ?_ ?_
 rotate_left
 ·
  show Act.put _ (some 15) _ = _
  simp only [pz]
  rfl
 refine KM (i := 5) (N := some 16) (v := ?_) (a' := ?_) (bz 7 63) rfl rfl (by kernel_rfl) (fun _ _ _ h => h) (Or.inl ⟨by rfl,?_⟩) ?_ ?_
 rotate_left
 ·
  intro w'
  go_simp
  with_reducible rfl
 rotate_left
 ·
  simp only [pz]
  rfl
 refine KM (i := 6) (N := some 4) (v := ?_) (a' := ?_) (bz 7 127) rfl rfl (by kernel_rfl) (fun _ _ _ h => h) (Or.inl ⟨by rfl,?_⟩) ?_ ?_
 rotate_left
 ·
  intro w'
  go_simp
  with_reducible rfl
 rotate_left
 ·
  simp only [pz]
  rfl
 refine Cn (by kernel_rfl) ?_
 try go_wp2
 go_ret
 exact ⟨by rfl,bO HB⟩
def Dy.f (yj : Int) (yg : List (List Int)) (ym : Int) (yn : Int) (Aj : List (AP)) (Au : Int) (Ah : Int) (a1 : Int) (a2 : Int) : Option (Bool) := if a1 ≥ 0 then (if a1 < (wrap64 (ym * (yg.length : Int))) then (if a2 ≥ 0 then ((AJ.f yj yg ym yn Aj Au Ah).bind fun XN => (some (decide (a2 < XN)))) else (some false)) else (some false)) else (some false)
set_option maxHeartbeats 8000000 in
set_option maxRecDepth 100000 in
theorem Dy.calls (yj : Int) (yK : Option Addr) (yE : Nat) (yg : List (List Int)) (ym : Int) (yn : Int) (Eg : Option Addr) (Ea : Nat) (Aj : List (AP)) (Au : Int) (Ah : Int) (a1 : Int) (a2 : Int) (r : Bool) (w : World) (zS : Kd.C (Kd.slice 3 (Kd.int .i64)) w yK yg.length yg) (zT : yg.length ≤ yE) (FZ : Kd.C DN w Eg Aj.length Aj) (FY : Aj.length ≤ Ea) (h : Dy.f yj yg ym yn Aj Au Ah a1 a2 = some r) :
  Calls Tryz.prog 50 #[.agg #[.int .i64 yj,.slice yK yg.length yE,.int .i64 ym,.int .i64 yn,.slice Eg Aj.length Ea,.int .i64 Au,.int .i64 Ah],.int .i64 a1,.int .i64 a2] w fun e w' => e = .returned (.bool r) ∧ Below w.heap.size w w' := by
 have Mq := Tryz.underlying65;have zk := yf.mk zS;have zq := yf.mk zT;clear zS zT;have Fa := yf.mk FZ;have Hy := yf.mk FY;clear FZ FY;have HB := yf.mk (Below.refl w.heap.size w)
 have H : (if a1 ≥ 0 then (if a1 < (wrap64 (ym * (yg.length : Int))) then (if a2 ≥ 0 then ((AJ.f yj yg ym yn Aj Au Ah).bind fun XN => (some (decide (a2 < XN)))) else (some false)) else (some false)) else (some false)) = some r := h
 clear h
 by_cases c4 : a1 ≥ 0
 rotate_left
 ·
  rw [if_neg c4] at H;have ER := decide_eq_false c4;clear c4;obtain rfl := Option.some.inj H
  go_enter Tryz.func50,Tryz.ntmps50
  go_wp2_with (((with_reducible refine yG (N := 3) rfl ?_);(try (refine AX (by rfl) ?_;dsimp only));refine yD rfl (N := 3) rfl (cs := #[.int .i64 yj,.slice yK yg.length yE,.int .i64 ym,.int .i64 yn,.slice Eg Aj.length Ea,.int .i64 Au,.int .i64 Ah]) (t := 65) (by go_simp) ?_;intro ag hg w15 yI hb;have aa := yf.mk (yI);have af := bG (w := w) hg;have ae := bG (w := w) hg;replace HB := bS HB hb;clear hb yI hg))
  go_ret
  exact ⟨by rfl,bO HB⟩
 rw [if_pos c4] at H;have ER := decide_eq_true c4;clear c4
 by_cases c5 : a1 < (wrap64 (ym * (yg.length : Int)))
 rotate_left
 ·
  rw [if_neg c5] at H;have ES := decide_eq_false c5;clear c5;obtain rfl := Option.some.inj H
  go_enter Tryz.func50,Tryz.ntmps50
  go_wp2_with (((with_reducible refine yG (N := 3) rfl ?_);(try (refine AX (by rfl) ?_;dsimp only));refine yD rfl (N := 3) rfl (cs := #[.int .i64 yj,.slice yK yg.length yE,.int .i64 ym,.int .i64 yn,.slice Eg Aj.length Ea,.int .i64 Au,.int .i64 Ah]) (t := 65) (by go_simp) ?_;intro ag hg w13 yI hb;have aa := yf.mk (yI);have af := bG (w := w) hg;have ae := bG (w := w) hg;replace HB := bS HB hb;clear hb yI hg;have I6 := Fy aa;have I7 := bf aa))
  go_ret
  exact ⟨by rfl,bO HB⟩
 rw [if_pos c5] at H;have ES := decide_eq_true c5;clear c5
 by_cases c6 : a2 ≥ 0
 ·
  rw [if_pos c6] at H;have Eu := decide_eq_true c6;clear c6;obtain ⟨XN,A7,H⟩ := bE H
  try dsimp only at H
  obtain rfl := Option.some.inj H
  go_enter Tryz.func50,Tryz.ntmps50
  go_wp2_with (first | ((with_reducible refine yG (N := 3) rfl ?_);(try (refine AX (by rfl) ?_;dsimp only));refine yD rfl (N := 3) rfl (cs := #[.int .i64 yj,.slice yK yg.length yE,.int .i64 ym,.int .i64 yn,.slice Eg Aj.length Ea,.int .i64 Au,.int .i64 Ah]) (t := 65) (by go_simp) ?_;intro ag hg w8 yI hb;have aa := yf.mk (yI);have af := bG (w := w) hg;have ae := bG (w := w) hg;replace HB := bS HB hb;clear hb yI hg;have PD := Fy aa;have PE := bf aa) | (go_at_call 63;(with_reducible refine (AJ.calls yj _ _ yg ym yn _ _ Aj Au Ah XN _ ?yB ?yC ?zI ?zJ A7.out).mono ?_);(case yB => exact CU zk);(case yC => exact zq.out);(case zI => exact CU Fa);(case zJ => exact Hy.out);rintro e w10 ⟨rfl,hb⟩;replace aa := bB aa hb;replace HB := bS HB hb;clear hb))
  go_ret
  exact ⟨by rfl,bO HB⟩
 rw [if_neg c6] at H;have Eu := decide_eq_false c6;clear c6;obtain rfl := Option.some.inj H
 go_enter Tryz.func50,Tryz.ntmps50
 go_wp2_with (((with_reducible refine yG (N := 3) rfl ?_);(try (refine AX (by rfl) ?_;dsimp only));refine yD rfl (N := 3) rfl (cs := #[.int .i64 yj,.slice yK yg.length yE,.int .i64 ym,.int .i64 yn,.slice Eg Aj.length Ea,.int .i64 Au,.int .i64 Ah]) (t := 65) (by go_simp) ?_;intro ag hg w11 yI hb;have aa := yf.mk (yI);have af := bG (w := w) hg;have ae := bG (w := w) hg;replace HB := bS HB hb;clear hb yI hg;have LP := Fy aa;have LV := bf aa))
 go_ret
 exact ⟨by rfl,bO HB⟩
end Go.Proofs.YtjonnfmoocijlaaGreat.P
namespace Go.Proofs.YtjonnfmoocijlaaGreat.P
open Go.RowKit Go.Proofs.YtjonnfmoocijlaaGreatKW.PrintWords Go.Proofs.YtjonnfmoocijlaaGreatKW.PrintLast Go.Proofs.YtjonnfmoocijlaaGreatKW.PrintMore
def Gc (p : Ih) : Value := .agg #[.int .i64 p.f0,.int .i64 p.f1]
def Gf : List AP → Nat → List MapEntry
 | [],_ => []
 | m :: l,i => { key := Gc m.f2,val := .bool true,born := i } :: Gf l (i + 1)
def DT (l : List AP) (i : Int) : Obj := .map (Gf (l.take i.toNat) 0).toArray i.toNat
def Es (p q : Ih) : Bool := p.f0 == q.f0 && p.f1 == q.f1
def Jf (l : List AP) (i : Int) : Bool := (l.take i.toNat).any fun m => Es (yh l i).f2 m.f2
theorem Oi (a : List AP) (m : AP) (i : Nat) : Gf (a ++ [m]) i = Gf a i ++ [{ key := Gc m.f2,val := .bool true,born := i + a.length }] := by
 induction a generalizing i with
 | nil => rfl
 | cons x a ih => simp only [List.cons_append,Gf,ih,List.length_cons];rw [show i + 1 + a.length = i + (a.length + 1) by omega]
theorem M8 (p q : Ih) (w : World) : (Op.equal 51 (Gc p) (Gc q)).run Tryz.prog w = .ok (Es p q) w := by
 show (Op.equalIn (9998 + 2) 51 (.agg #[.int .i64 p.f0,.int .i64 p.f1]) (.agg #[.int .i64 q.f0,.int .i64 q.f1])).run Tryz.prog w = _
 refine WF Tryz.underlying51 (by kernel_rfl) ?_
 refine Qr (by rfl) (by go_simp;rfl) (by go_simp;rfl) (by go_simp) ?_
 exact Qs (by rfl) (by go_simp;rfl) (by go_simp;rfl) (by go_simp)
theorem M7 (p : Ih) (em : Bool) (w : World) : (Instr.checkKey em 10000 51 (Gc p)).run Tryz.prog w = .ok () w := by
 rw [show (10000 : Nat) = 9998 + 1 + 1 from rfl,Instr.checkKey]
 simp only [Sem.run_bind,run_underlying Tryz.underlying51,Result.andThen_ok,Gc]
 have h0 : (part 3 #[Value.int IntKind.i64 p.f0,Value.int IntKind.i64 p.f1] 0).run Tryz.prog w = .ok (.int .i64 p.f0) w := by go_simp
 have h1 : (part 3 #[Value.int IntKind.i64 p.f0,Value.int IntKind.i64 p.f1] 1).run Tryz.prog w = .ok (.int .i64 p.f1) w := by go_simp
 have hc : ∀ x : Int,(Instr.checkKey em (9998 + 1) 3 (.int .i64 x)).run Tryz.prog w = .ok () w := fun x => by
  rw [Instr.checkKey]
  simp only [Sem.run_bind,run_underlying Tryz.underlying3,Result.andThen_ok,Sem.run_pure]
 rw [← Array.forIn_toList]
 simp [h0,h1,hc]
theorem Me (p : Ih) (w : World) : ∀ (l : List AP) (i j : Nat),∃ r,(Instr.findAsking 51 (Gc p) (Gf l j) i).run Tryz.prog w = .ok r w ∧ r.isSome = l.any (fun m => Es p m.f2) ∧ ∀ x,r = some x → x.2 = .bool true
 | [],i,j => ⟨none,by simp [Gf,Instr.findAsking],rfl,fun x h => by cases h⟩
 | m :: l,i,j => by
  cases hs : Es p m.f2 with
  | true => exact ⟨some (i,.bool true),by simp [Gf,Instr.findAsking,M8,hs],by simp [hs],fun x h => by cases h;rfl⟩
  | false =>
   obtain ⟨r,h1,h2,h3⟩ := Me p w l (i + 1) (j + 1)
   exact ⟨r,by simp [Gf,Instr.findAsking,M8,hs,h1],by simp [hs,h2],h3⟩
theorem OY (p : Ih) (w : World) (l : List AP) : ∃ r,(Instr.findKey 51 (Gc p) (Gf l 0)).run Tryz.prog w = .ok r w ∧ r.isSome = l.any (fun m => Es p m.f2) ∧ ∀ x,r = some x → x.2 = .bool true := by
 obtain ⟨r,h1,h2,h3⟩ := Me p w l 0 0
 refine ⟨r,?_,h2,h3⟩
 rw [run_findKey_eq w (by rw [Tryz.underlying51])]
 exact h1
theorem R7 (l : List AP) (i : Int) (g : Nat) (w : World) (hg : w.heap[g]? = some (DT l i)) : (Instr.lookup 91 (.map (some g)) (Gc (yh l i).f2) false).run Tryz.prog w = .ok (.bool (Jf l i)) w := by
 obtain ⟨r,h1,h2,h3⟩ := OY (yh l i).f2 w (l.take i.toNat)
 have hz : (zeroValue 4).run Tryz.prog w = .ok (.bool false) w := by go_simp
 have hck := fun em => M7 (yh l i).f2 em w
 have hgo := run_getObj_map (P := Tryz.prog) w g _ _ hg
 unfold Instr.lookup
 simp only [Sem.run_bind,run_underlying Tryz.underlying91,Result.andThen_ok,hgo,hck,Sem.run_pure]
 rw [h1]
 cases r with
 | none => simp [hz,Jf,← h2]
 | some x => obtain ⟨i,v⟩ := x;have := h3 _ rfl;simp at this;subst this;simp [Jf,← h2]
theorem R8 (l : List AP) (i : Nat) (hi : i < l.length) (g : Nat) (w : World) (hg : w.heap[g]? = some (DT l i)) (hn : Jf l i = false) :
    (Instr.mapUpdate 91 (.map (some g)) (Gc (yh l i).f2) (.bool true)).run Tryz.prog w = .ok () { w with heap := w.heap.setIfInBounds g (DT l ((i + 1 : Nat) : Int)) } := by
  obtain ⟨r,h1,h2,h3⟩ := OY (yh l i).f2 w (l.take i)
  have hck := fun em => M7 (yh l i).f2 em w
  have hr : r = none := by
    cases r with
    | none => rfl
    | some x => rw [Jf,Int.toNat_natCast] at hn;rw [hn] at h2;cases h2
  subst hr
  have hg' : w.heap[g]? = some (.map (Gf (l.take i) 0).toArray i) := by rw [hg,DT,Int.toNat_natCast]
  have hgo := run_getObj_map (P := Tryz.prog) w g _ _ hg'
  unfold Instr.mapUpdate
  simp only [Sem.run_bind,run_underlying Tryz.underlying91,Result.andThen_ok,hgo,hck,Sem.run_pure]
  rw [h1]
  simp only [Result.andThen_ok]
  have hlen : (l.take i).length = i := by rw [List.length_take,Nat.min_eq_left (Nat.le_of_lt hi)]
  have hobj : Obj.map ((Gf (l.take i) 0).toArray.push { key := Gc (yh l i).f2,val := .bool true,born := i }) (i + 1) = DT l ((i + 1 : Nat) : Int) := by
    have e : yh l i = l[i] := by unfold yh;rw [Int.toNat_natCast,getD_at _ _ _ hi]
    rw [DT,Int.toNat_natCast,List.take_succ_eq_append_getElem hi,Oi,hlen,Nat.zero_add,e]
    simp
  rw [hobj]
  have hlt : g < w.heap.size := (Array.getElem?_eq_some_iff.1 hg).1
  generalize DT l ((i + 1 : Nat) : Int) = o
  simp only [setObj,Sem.run,hg']
theorem Tf (w : World) (g : Nat) (o : Obj) : w.grownBy { w with heap := w.heap.setIfInBounds g o } (some g) :=
 ⟨rfl,rfl,rfl,by simp,fun k hk hne => by
  show (w.heap.setIfInBounds g o)[k]? = w.heap[k]?
  rw [Array.getElem?_setIfInBounds_ne (fun e => hne (by rw [e]))]⟩
theorem Vd (l : List AP) (x : Int) (h0 : 0 ≤ x) (h1 : x < (l.length : Int)) (hL : l.length ≤ 9223372036854775807) (g : Nat) (w : World) (hg : w.heap[g]? = some (DT l x)) (hn : Jf l x = false) :
    ∃ w',(Instr.mapUpdate 91 (.map (some g)) (.agg #[.int .i64 (yh l x).f2.f0,.int .i64 (yh l x).f2.f1]) (.bool true)).run Tryz.prog w = .ok () w' ∧ w'.heap[g]? = some (DT l (wrap64 (x + 1))) ∧ w.grownBy w' (some g) := by
  obtain ⟨i,rfl⟩ : ∃ i : Nat,x = (i : Int) := ⟨x.toNat,by omega⟩
  have hi : i < l.length := by omega
  rw [ww (x := (i : Int) + 1) (by omega) (by omega),show (i : Int) + 1 = ((i + 1 : Nat) : Int) by omega]
  refine ⟨_,R8 l i hi g w hg hn,?_,Tf _ _ _⟩
  show (w.heap.setIfInBounds g _)[g]? = _
  rw [Array.getElem?_setIfInBounds_self_of_lt (Array.getElem?_eq_some_iff.1 hg).1]
theorem yV {w : World} {g : Nat} {o : Obj} (h : w.heap[g]? = some o) {p : Addr} (hp : g ≠ p.block) (u : Value) : (w.setCell p u).heap[g]? = some o := (Below.heap_setCell w p u g hp).trans h
section
variable {P : Program} {ops : Array Oper} {rest : List Oper} {o : Oper} {a : Act} {Q : Exit → Act → World → Prop}
theorem UV {W : World} (hgd : o.guard = none) {N : Tmp} (_hd : o.dst = some N) (l : List AP)
    (hrun : (execOp a.eval o).run P W = .ok (.value (.map (some W.heap.size))) (W.alloc (.map #[] 0)))
    (h : ∀ g,g = W.heap.size → ∀ w1,w1.heap[g]? = some (DT l 0) → Below W.heap.size W w1 → wpList P ops Q rest (a.put o.dst (.map (some g))) w1) : wpList P ops Q (o :: rest) a W :=
  Kd.Ld hgd hrun (h _ rfl _ (Po W _) (Dr (Below.refl _ _) _))
end
end Go.Proofs.YtjonnfmoocijlaaGreat.P
