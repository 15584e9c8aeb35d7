/- Texts of a claim, packed. -/
import Derived.Test.YtjonnfmoocijlaaC32
import Derived.Test.YtjonnfmoocijlaaC34
set_option linter.all false
namespace Go.Proofs.Ytjonnfmoocijlaa.P
open Go.RowKit Go.Proofs.YtjonnfmoocijlaaKW.PrintWords Go.Proofs.YtjonnfmoocijlaaKW.PrintLast Go.Proofs.YtjonnfmoocijlaaKW.PrintMore
attribute [local go_sem] zO zP Aj Ak zC zD zQ zR
def Aq.j0 : Nat → List (AX) → Bool → Int → List (List Int) → Int → Int → Option ((List (AX)) × Int)
 | 0, _, _, _, _, _, _ => none
 | k + 1, x8, x29, ag, af, ae, aa => if x29 = true then (some (([] : List (AX)), 9)) else ((yj.f k ag af ae aa x8).bind fun a3y => (if a3y = true then (some (x8, 0)) else (some (([] : List (AX)), 1))))
def Aq.f (k : Nat) (yn : Int) (yh : List (List Int)) (yo : Int) (yu : Int) (l1 : List (AX)) (zn : Int) (zz : Int) (Bq : Int) (AZ : Int) : Option ((List (AX)) × Int) := (Bz.f yn yh yo yu zn zz).bind fun Yf => (if Yf = true then ((zq.f k l1 zn zz Bq AZ).bind fun JO => (if Bq = (-1) then (Aq.j0 k JO ((JO.length : Int) == (l1.length : Int)) yn yh yo yu) else (Aq.j0 k JO false yn yh yo yu))) else (some (([] : List (AX)), 2)))
set_option maxHeartbeats 8000000 in
set_option maxRecDepth 100000 in
theorem Aq.calls (k : Nat) (yn : Int) (yQ : Option Addr) (yM : Nat) (yh : List (List Int)) (yo : Int) (yu : Int) (A1 : Option Addr) (c1 : Nat) (l1 : List (AX)) (zn : Int) (zz : Int) (Bq : Int) (AZ : Int) (r1 : List (AX)) (r2 : Int) (w : World) (Ah : Kd.C (Kd.slice 3 (Kd.int .i64)) w yQ yh.length yh) (Ai : yh.length ≤ yM) (hr1 : Kd.C CS w A1 l1.length l1) (hc1 : l1.length ≤ c1) (h : Aq.f k yn yh yo yu l1 zn zz Bq AZ = some (r1, r2)) :
  Calls Try.prog 18 #[.agg #[.int .i64 yn, .slice yQ yh.length yM, .int .i64 yo, .int .i64 yu], .slice A1 l1.length c1, .agg #[.int .i64 zn, .int .i64 zz, .int .i64 Bq, .int .i64 AZ]] w fun e w' => ∃ GG : Value, e = .returned (.tuple #[GG, .int .i64 r2]) ∧ Kd.R CS 47 w' w.heap.size (fun _ => True) GG r1 ∧ Below w.heap.size w w' := by
 have FH := Try.underlying31;have LC := Try.underlying47;have zA := yf.mk Ah;have zK := yf.mk Ai;clear Ah Ai;have HR1 := yf.mk hr1;have GH := yf.mk hc1;clear hr1 hc1;have HB := yf.mk (Below.refl w.heap.size w)
 have H : ((Bz.f yn yh yo yu zn zz).bind fun Yf => (if Yf = true then ((zq.f k l1 zn zz Bq AZ).bind fun JO => (if Bq = (-1) then (Aq.j0 k JO ((JO.length : Int) == (l1.length : Int)) yn yh yo yu) else (Aq.j0 k JO false yn yh yo yu))) else (some (([] : List (AX)), 2)))) = some (r1, r2) := h
 clear h;obtain ⟨Yf, A4, H⟩ := bE H
 try dsimp only at H
 by_cases c5 : Yf = true
 rotate_left
 ·
  replace c5 := Bool.eq_false_iff.mpr c5;subst c5
  rw [if_neg (show ¬ (false = true) by decide)] at H
  simp only [Option.some.injEq, Prod.mk.injEq] at H;obtain ⟨rfl, rfl⟩ := H
  go_enter Try.func18, Try.ntmps18
  go_wp2_with (first | ((with_reducible refine yI (N := 3) rfl ?_); (try (refine Ab (by rfl) ?_; dsimp only)); refine yG rfl (N := 3) rfl (cs := #[.int .i64 yn, .slice yQ yh.length yM, .int .i64 yo, .int .i64 yu]) (t := 31) (by go_simp) ?_; intro ak hg w33 yJ hb; have aa := yf.mk (yJ); have ax := bG (w := w) hg; have ay := bG (w := w) hg; replace HB := bS HB hb; clear hb yJ hg) | ((with_reducible refine yI (N := 5) rfl ?_); (try (refine Ab (by rfl) ?_; dsimp only)); refine yG rfl (N := 5) rfl (cs := #[.int .i64 zn, .int .i64 zz, .int .i64 Bq, .int .i64 AZ]) (t := 47) (by go_simp) ?_; intro ai hg w34 yJ hb; have ae := yf.mk (yJ); have au := bG (w := w) hg; have av := bG (w := w) hg; have ag := Co aa hg; have af := Ar aa hg; replace aa := bB aa hb; replace HB := bS HB hb; clear hb yJ hg; have XC := ag.out; have XD := af.out; have QH := AP aa; have QI := bf aa; have KS := AP ae; have KT := bf ae) | ((with_reducible refine yw (f := 21) rfl ?_); refine gL (some 14) Try.func21 #[.agg #[.int .i64 yn, .slice yQ yh.length yM, .int .i64 yo, .int .i64 yu], .int .i64 zn, .int .i64 zz] ?_; (with_reducible refine (Bz.calls yn _ _ yh yo yu zn zz false _ ?yD ?yF A4.out).mono ?_); (case yD => exact Di zA); (case yF => exact zK.out); rintro e w38 ⟨rfl, hb⟩; refine ⟨_, rfl, ?_⟩; replace aa := bB aa hb; replace ae := bB ae hb; replace HB := bS HB hb; clear hb))
  go_ret2
  exact ⟨_, by rfl, by exact Kd.Er _ _ _ _ _, bO HB⟩
 subst c5;rw [if_pos rfl] at H;obtain ⟨JO, A6, H⟩ := bE H
 try dsimp only at H
 have Xp := yf.mk H;clear H
 go_enter Try.func18, Try.ntmps18
 go_upto_region 4 with (first | ((with_reducible refine yI (N := 3) rfl ?_); (try (refine Ab (by rfl) ?_; dsimp only)); refine yG rfl (N := 3) rfl (cs := #[.int .i64 yn, .slice yQ yh.length yM, .int .i64 yo, .int .i64 yu]) (t := 31) (by go_simp) ?_; intro ak hg w8 yJ hb; have aa := yf.mk (yJ); have ax := bG (w := w) hg; have ay := bG (w := w) hg; replace HB := bS HB hb; clear hb yJ hg) | ((with_reducible refine yI (N := 5) rfl ?_); (try (refine Ab (by rfl) ?_; dsimp only)); refine yG rfl (N := 5) rfl (cs := #[.int .i64 zn, .int .i64 zz, .int .i64 Bq, .int .i64 AZ]) (t := 47) (by go_simp) ?_; intro ai hg w9 yJ hb; have ae := yf.mk (yJ); have au := bG (w := w) hg; have av := bG (w := w) hg; have ag := Co aa hg; have af := Ar aa hg; replace aa := bB aa hb; replace HB := bS HB hb; clear hb yJ hg; have a0g := ag.out; have a0h := af.out; have Ma := AP aa; have Mc := bf aa; have NM := AP ae; have NN := bf ae) | ((with_reducible refine yw (f := 21) rfl ?_); refine gL (some 14) Try.func21 #[.agg #[.int .i64 yn, .slice yQ yh.length yM, .int .i64 yo, .int .i64 yu], .int .i64 zn, .int .i64 zz] ?_; (with_reducible refine (Bz.calls yn _ _ yh yo yu zn zz true _ ?yD ?yF A4.out).mono ?_); (case yD => exact Di zA); (case yF => exact zK.out); rintro e w13 ⟨rfl, hb⟩; refine ⟨_, rfl, ?_⟩; replace aa := bB aa hb; replace ae := bB ae hb; replace HB := bS HB hb; clear hb; have IV := AP ae; have IW := bf ae) | ((with_reducible refine yw (f := 47) rfl ?_); refine gL (some 18) Try.func47 #[.slice A1 l1.length c1, .agg #[.int .i64 zn, .int .i64 zz, .int .i64 Bq, .int .i64 AZ]] ?_; (with_reducible refine (zq.calls k _ _ l1 zn zz Bq AZ JO _ ?yD ?yF A6.out).mono ?_); (case yD => exact Di HR1); (case yF => exact GH.out); rintro e w15 ⟨v567, rfl, ho0, hb⟩; refine ⟨_, rfl, ?_⟩; have aj := yf.mk (Kd.Ay (Kd.ED ho0 (g := ai) (o := .cells #[.int .i64 zn, .int .i64 zz, .int .i64 Bq, .int .i64 AZ] 47 (0, 0)) (kk ae)) (yL (bO HB))); replace aa := bB aa hb; replace ae := bB ae hb; replace HB := bS HB hb; clear hb; clear ho0))
 (try simp only [pz])
 go_cut [29] (fun v29 wc => ∃ (kq : Nat) (ah : Bool), v29 = .bool ah ∧ yf (Aq.j0 kq JO ah yn yh yo yu = some (r1, r2)) ∧ yf (kq ≤ k) ∧ yf (Kd.R CS 47 wc w.heap.size (fun k_ => k_ ≠ ai) v567 JO) ∧ yf (wc.heap[ak]? = some (.cells #[.int .i64 yn, (.slice yQ yh.length yM), .int .i64 yo, .int .i64 yu] 31 (0, 0))) ∧ yf (wc.heap[ai]? = some (.cells #[.int .i64 zn, .int .i64 zz, .int .i64 Bq, .int .i64 AZ] 47 (0, 0))) ∧ yf (Below w.heap.size w wc))
 case first =>
  have H := Xp.out;clear Xp
  by_cases c16 : Bq = (-1)
  ·
   rw [if_pos c16] at H;have Fy := beq_iff_eq.mpr c16
   have Pn : (Bq != (-1)) = false := bne_eq_false_iff_eq.mpr c16
   clear c16
   (skip)
   have H' := yf.mk H;clear H;have WL := af.out;have WM := ag.out;have Ue := AP ae;have Uf := bf ae;obtain ⟨Nr, KL, Qa⟩ := Kd.zJ aj.out;subst Qa
   go_wp2
   go_meet
   case rel => exact ⟨_, (((JO.length : Int) == (l1.length : Int))), (by rfl), H', ⟨by omega⟩, ⟨by (with_reducible repeat (apply Kd.yZ)); exact Kd.yX aj.out (fun _ hk => hk.2)⟩, ⟨kk aa⟩, ⟨kk ae⟩, ⟨bO HB⟩⟩
  rw [if_neg c16] at H;have Fy := beq_eq_false_iff_ne.mpr c16;have Pn := bne_iff_ne.mpr c16
  (skip)
  have H' := yf.mk H;clear H;have XU := af.out;have XV := ag.out;have ND := AP ae;have NE := bf ae
  go_wp2
  go_meet
  case rel => exact ⟨_, (false), (by rfl), H', ⟨by omega⟩, ⟨by (with_reducible repeat (apply Kd.yZ)); exact Kd.yX aj.out (fun _ hk => hk.2)⟩, ⟨kk aa⟩, ⟨kk ae⟩, ⟨bO HB⟩⟩
 case rest =>
 clear Xp Ma NM IV Mc NN IW;obtain ⟨kq, ah, rfl, HA, Qv, Aa, aa, ae, HB⟩ := hcut
 cases kq with
 | zero => exact absurd HA.out (by simp [Aq.j0])
 | succ Vk =>
  have H := HA.out;clear HA;simp only [Aq.j0] at H
  by_cases Ih : ah = true
  ·
   subst Ih;rw [if_pos rfl] at H;simp only [Option.some.injEq, Prod.mk.injEq] at H;obtain ⟨rfl, rfl⟩ := H
   go_wp2
   go_ret2
   exact ⟨_, by rfl, by exact Kd.Er _ _ _ _ _, bO HB⟩
  ·
   replace Ih := Bool.eq_false_iff.mpr Ih;subst Ih
   rw [if_neg (show ¬ (false = true) by decide)] at H
   obtain ⟨a3y, A23, H⟩ := bE H
   try dsimp only at H
   by_cases c24 : a3y = true
   ·
    subst c24;rw [if_pos rfl] at H;simp only [Option.some.injEq, Prod.mk.injEq] at H;obtain ⟨rfl, rfl⟩ := H;have WX := ag.out;have WY := af.out;have Pq := AP aa;have Ps := bf aa;obtain ⟨Gv, Gw, Q0⟩ := Kd.zJ Aa.out;subst Q0
    go_wp2_with (((with_reducible refine yw (f := 27) rfl ?_); refine gL (some 32) Try.func27 #[.agg #[.int .i64 yn, .slice yQ yh.length yM, .int .i64 yo, .int .i64 yu], .slice Gv JO.length Gw] ?_; (with_reducible refine (yj.calls Vk yn _ _ yh yo yu _ _ JO true _ ?yD ?yF ?zw ?zx A23.out).mono ?_); (case yD => exact Di zA); (case yF => exact zK.out); (case zw => exact G7 Aa); (case zx => exact (Kd.yT Aa.out).2.1); rintro e w28 ⟨rfl, hb⟩; refine ⟨_, rfl, ?_⟩; replace Aa := BZ Aa hb; replace aa := bB aa hb; replace ae := bB ae hb; replace HB := bS HB hb; clear hb))
    go_ret2
    exact ⟨_, by rfl, by (with_reducible repeat (apply Kd.yZ)); exact Kd.yX Aa.out (fun _ hk => trivial), bO HB⟩
   ·
    replace c24 := Bool.eq_false_iff.mpr c24;subst c24
    rw [if_neg (show ¬ (false = true) by decide)] at H
    simp only [Option.some.injEq, Prod.mk.injEq] at H;obtain ⟨rfl, rfl⟩ := H;have Ri := ag.out;have Rj := af.out;have RN := AP aa;have RO := bf aa;obtain ⟨Yg, Yh, Yi⟩ := Kd.zJ Aa.out;subst Yi
    go_wp2_with (((with_reducible refine yw (f := 27) rfl ?_); refine gL (some 32) Try.func27 #[.agg #[.int .i64 yn, .slice yQ yh.length yM, .int .i64 yo, .int .i64 yu], .slice Yg JO.length Yh] ?_; (with_reducible refine (yj.calls Vk yn _ _ yh yo yu _ _ JO false _ ?yD ?yF ?zw ?zx A23.out).mono ?_); (case yD => exact Di zA); (case yF => exact zK.out); (case zw => exact G7 Aa); (case zx => exact (Kd.yT Aa.out).2.1); rintro e w32 ⟨rfl, hb⟩; refine ⟨_, rfl, ?_⟩; replace Aa := BZ Aa hb; replace aa := bB aa hb; replace ae := bB ae hb; replace HB := bS HB hb; clear hb))
    go_ret2
    exact ⟨_, by rfl, by exact Kd.Er _ _ _ _ _, bO HB⟩
end Go.Proofs.Ytjonnfmoocijlaa.P
