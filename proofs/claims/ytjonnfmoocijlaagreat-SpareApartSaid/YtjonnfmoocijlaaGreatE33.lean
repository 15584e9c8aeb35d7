/- Texts of a claim, packed. -/
import Derived.Test.YtjonnfmoocijlaaGreatE4
set_option linter.all false
namespace Go.Proofs.YtjonnfmoocijlaaGreat.P
open Go.RowKit Go.Proofs.YtjonnfmoocijlaaGreatKW.PrintWords Go.Proofs.YtjonnfmoocijlaaGreatKW.PrintLast Go.Proofs.YtjonnfmoocijlaaGreatKW.PrintMore
attribute [local go_sem] zN zP Af Ag zz zA zO zQ
mutual
def zi.l0 : Nat → List (AP) → List (AP) → Bool → Int → Int → Int → Int → Int → Option ((List (AP)))
 | 0,_,_,_,_,_,_,_,_ => none
 | k + 1,x0,x5,x6,x7,aa,ae,af,ag => if x7 < (x0.length : Int) then (if 0 ≤ x7 then (if ((yh x0 x7).f0) = aa then (zi.j1 k x0 x5 x6 x7 (((yh x0 x7).f1) == ae) aa ae af ag ((yh x0 x7).f0) ((yh x0 x7).f1) ((yh x0 x7).f2.f0) ((yh x0 x7).f2.f1)) else (zi.j1 k x0 x5 x6 x7 false aa ae af ag ((yh x0 x7).f0) ((yh x0 x7).f1) ((yh x0 x7).f2.f0) ((yh x0 x7).f2.f1))) else (none)) else (if x6 = true then (some x5) else (if x5.length < 4398046511104 then (some (x5 ++ [(⟨aa,ae,(⟨af,ag⟩ : Ih)⟩ : AP)])) else (none)))
def zi.j1 : Nat → List (AP) → List (AP) → Bool → Int → Bool → Int → Int → Int → Int → Int → Int → Int → Int → Option ((List (AP)))
 | 0,_,_,_,_,_,_,_,_,_,_,_,_,_ => none
 | k + 1,x0,x5,x6,x7,x34,aa,ae,af,ag,ah,ai,aj,ak => if x34 = true then (zi.l0 k x0 x5 x6 (wrap64 (x7 + 1)) aa ae af ag) else (if x6 = true then (zi.j2 k x0 x5 x6 x7 false aa ae af ag ah ai aj ak) else (if ah > aa then (zi.j2 k x0 x5 x6 x7 true aa ae af ag ah ai aj ak) else (if ah = aa then (zi.j2 k x0 x5 x6 x7 (decide (ai > ae)) aa ae af ag ah ai aj ak) else (zi.j2 k x0 x5 x6 x7 false aa ae af ag ah ai aj ak))))
def zi.j2 : Nat → List (AP) → List (AP) → Bool → Int → Bool → Int → Int → Int → Int → Int → Int → Int → Int → Option ((List (AP)))
 | 0,_,_,_,_,_,_,_,_,_,_,_,_,_ => none
 | k + 1,x0,x5,x6,x7,x57,aa,ae,af,ag,ah,ai,aj,ak => if x57 = true then (if x5.length < 4398046511104 then ((some (x5 ++ [(⟨aa,ae,(⟨af,ag⟩ : Ih)⟩ : AP)] : List (AP))).bind fun Ro => (if Ro.length < 4398046511104 then (zi.l0 k x0 (Ro ++ [(⟨ah,ai,(⟨aj,ak⟩ : Ih)⟩ : AP)]) true (wrap64 (x7 + 1)) aa ae af ag) else (none))) else (none)) else (if x5.length < 4398046511104 then (zi.l0 k x0 (x5 ++ [(⟨ah,ai,(⟨aj,ak⟩ : Ih)⟩ : AP)]) x6 (wrap64 (x7 + 1)) aa ae af ag) else (none))
end
def zi.f (k : Nat) (l0 : List (AP)) (Cz : Int) (CK : Int) (EN : Int) (F7 : Int) : Option ((List (AP))) := zi.l0 k l0 ([] : List (AP)) (EN == (-1)) 0 Cz CK EN F7
set_option maxHeartbeats 8000000 in
set_option maxRecDepth 100000 in
theorem zi.calls (k : Nat) (A0 : Option Addr) (c0 : Nat) (l0 : List (AP)) (Cz : Int) (CK : Int) (EN : Int) (F7 : Int) (r : List (AP)) (w : World) (hr0 : Kd.C DN w A0 l0.length l0) (hc0 : l0.length ≤ c0) (h : zi.f k l0 Cz CK EN F7 = some r) :
  Calls Tryz.prog 48 #[.slice A0 l0.length c0,.agg #[.int .i64 Cz,.int .i64 CK,.int .i64 EN,.int .i64 F7]] w fun e w' => ∃ G7 : Value,e = .returned (G7) ∧ Kd.R DN 60 w' w.heap.size (fun _ => True) G7 r ∧ Below w.heap.size w w' := by
 have Ob := Tryz.underlying60;have MS := yf.mk hr0;have Yy := yf.mk hc0;clear hr0 hc0;have HB := yf.mk (Below.refl w.heap.size w)
 have H : (zi.l0 k l0 ([] : List (AP)) (EN == (-1)) 0 Cz CK EN F7) = some r := h
 clear h;have H' := yf.mk H;clear H
 go_enter Tryz.func48,Tryz.ntmps48
 go_wp2_with (((with_reducible refine yG (N := 3) rfl ?_);refine yD rfl (N := 3) rfl (cs := #[.int .i64 Cz,.int .i64 CK,.int .i64 EN,.int .i64 F7]) (t := 60) (by go_simp) ?_;intro af hg w3 yI hb;have aa := yf.mk (yI);have bv := bG (w := w) hg;have bq := bG (w := w) hg;replace HB := bS HB hb;clear hb yI hg;have SG := AO aa;have SH := bf aa))
 go_loopg [5,6,7] k (fun kq v5 v6 v7 w' => ∃ (yP : List (AP)) (Bi : Bool) (Am : Int),v6 = .bool Bi ∧ v7 = .int .i64 Am ∧ yf (zi.l0 kq l0 yP Bi Am Cz CK EN F7 = some r) ∧ yf (kq ≤ k) ∧ yf (Kd.R DN 60 w' w.heap.size (fun k_ => k_ ≠ af) v5 yP) ∧ yf (w'.heap[af]? = some (.cells #[.int .i64 Cz,.int .i64 CK,.int .i64 EN,.int .i64 F7] 60 (0,0))) ∧ yf (Below w.heap.size w w'))
 case atStart => exact ⟨(([] : List (AP))),((EN == (-1))),(0),(by rfl),(by rfl),H',⟨Nat.le_refl _⟩,⟨by exact Kd.Dc _ _ _ _ _⟩,⟨kk aa⟩,⟨bO HB⟩⟩
 case round =>
 clear H' SG SH;obtain ⟨yP,Bi,Am,rfl,rfl,HA,Bn,Bo,aa,HB⟩ := hrel
 cases gk with
 | zero => exact absurd HA.out (by simp [zi.l0])
 | succ k1 =>
 have H := HA.out;clear HA;simp only [zi.l0] at H
 by_cases c5 : Am < (l0.length : Int)
 rotate_left
 ·
  rw [if_neg c5] at H;have ES := decide_eq_false c5;clear c5
  by_cases LH : Bi = true
  ·
   subst LH;rw [if_pos rfl] at H;obtain rfl := Option.some.inj H
   go_wp2
   go_ret
   exact ⟨_,by rfl,by (with_reducible repeat (apply Kd.zg));exact Kd.zf Bo.out (fun _ hk => trivial),bO HB⟩
  replace LH := Bool.eq_false_iff.mpr LH;subst LH
  rw [if_neg (show ¬ (false = true) by decide)] at H
  by_cases LJ : yP.length < 4398046511104
  rotate_left
  ·
   rw [if_neg LJ] at H;exact absurd H (by simp)
  rw [if_pos LJ] at H;have aW := yf.mk LJ;clear LJ;obtain ⟨bn,aI⟩ : ∃ y_ : List (AP),y_ = (yP ++ [(⟨Cz,CK,(⟨EN,F7⟩ : Ih)⟩ : AP)]) := ⟨_,rfl⟩
  replace H : (some bn) = some r := by (rw [aI];with_reducible exact H)
  have bg := yf.mk aI;clear aI;obtain rfl := Option.some.inj H;have TL := AO aa;have TS := bf aa
  go_wp2_with (((with_reducible refine Bf (b := .append) (xs := #[.tmp 68,.tmp 70]) rfl ?_);at_builtin;refine Kd.Dz DN (w0 := w) w.heap.size rfl (.tmp 68) (.tmp 70) 31 60 (.agg #[(.int .i64 0),(.int .i64 0),(.int .i64 0),(.int .i64 0)]) 32 rfl Tryz.underlying31 J8 rfl (by decide) (by omega) u5 yP (⟨Cz,CK,(⟨EN,F7⟩ : Ih)⟩ : AP) [.int .i64 Cz,.int .i64 CK,.int .i64 EN,.int .i64 F7] (fun k_ => k_ ≠ af) (fun _ => False) rfl rfl ?aP (fun _ hk => hk.elim) ?aF ?aO ?aB ?aS ?aL ?_;(case aP => exact Io _ _ _ (⟨Cz,CK,(⟨EN,F7⟩ : Ih)⟩ : AP));(case aB => exact (bO HB));(case aF => exact (fun k_ hk => Kd.Ac (g := af) (o := .cells #[.int .i64 Cz,.int .i64 CK,.int .i64 EN,.int .i64 F7] 60 (0,0)) (kk aa) k_ hk));(case aO => exact (kR Bo));(case aS => exact (yF (bO HB)));(case aL => have := aW.out;omega);intro v539 w47 ho hb hg hat;rw [← bg.out] at ho;have BR := yf.mk (zL (g := af) (o := .cells #[.int .i64 Cz,.int .i64 CK,.int .i64 EN,.int .i64 F7] 60 (0,0)) (kk aa) hg (Kd.FH Bo.out (fun _ hk => hk)));have BS := yf.mk (hb);have Ce := yf.mk (ho);clear aa;clear HB;clear Bo;have aa := BR;have HB := BS;have aQ := Ce;clear BR BS Ce;clear ho hb hg hat))
  go_ret
  exact ⟨_,by rfl,by (with_reducible repeat (apply Kd.zg));exact Kd.zf aQ.out (fun _ hk => trivial),bO HB⟩
 rw [if_pos c5] at H;have ES := decide_eq_true c5;clear c5
 by_cases c6 : 0 ≤ Am
 rotate_left
 ·
  rw [if_neg c6] at H;exact absurd H (by simp)
 rw [if_pos c6] at H;have Eu := decide_eq_true c6;clear c6;have HC7 := yf.mk H;clear H
 have ak : 0 ≤ (Am : Int) := of_decide_eq_true ‹_›
 have au : Am < (l0.length : Int) := of_decide_eq_true ‹_›
 obtain ⟨bC,bi,ay,az,aA,aC⟩ := Ck MS.out Am ak au;cases bi;replace ay := cB HB ay;replace az := cB HB az;replace aA := cB HB aA;replace aC := cB HB aC;replace ak := eq_true ak;replace au := eq_true au
 go_upto_region 7 with (((with_reducible refine yG (N := 8) rfl ?_);refine yD rfl (N := 8) rfl (cs := #[.int .i64 0,.int .i64 0,.int .i64 0,.int .i64 0]) (t := 60) (by go_simp) ?_;intro ag hg w8 yI hb;have ae := yf.mk (yI);have bA := bG (w := w) hg;have bu := bG (w := w) hg;have ah := Cq aa hg;have ai := Aq aa hg;replace Bo := yf.mk (Kd.Cj (Kd.FT (kR Bo) ag (Nat.le_of_eq hg.symm)) hb);replace aa := bB aa hb;replace HB := bS HB hb;clear hb yI hg;have a4z := ai.out;have a4T := ah.out;have Kr := AO ae;have Kz := bf ae))
 (try simp only [pz])
 go_cut [34] (fun v34 wc => ∃ (kq : Nat) (av : Bool),v34 = .bool av ∧ yf (zi.j1 kq l0 yP Bi Am av Cz CK EN F7 ((yh l0 Am).f0) ((yh l0 Am).f1) ((yh l0 Am).f2.f0) ((yh l0 Am).f2.f1) = some r) ∧ yf (kq ≤ k1) ∧ yf (Kd.R DN 60 wc w.heap.size (fun k_ => k_ ≠ af ∧ k_ ≠ ag) u5 yP) ∧ yf (wc.heap[af]? = some (.cells #[.int .i64 Cz,.int .i64 CK,.int .i64 EN,.int .i64 F7] 60 (0,0))) ∧ yf (wc.heap[ag]? = some (.cells #[.int .i64 ((yh l0 Am).f0),.int .i64 ((yh l0 Am).f1),.int .i64 ((yh l0 Am).f2.f0),.int .i64 ((yh l0 Am).f2.f1)] 60 (0,0))) ∧ yf (Below w.heap.size w wc))
 case first =>
  have H := HC7.out;clear HC7
  by_cases c11 : ((yh l0 Am).f0) = Cz
  ·
   rw [if_pos c11] at H;have Fv := beq_iff_eq.mpr c11
   have Oq : (((yh l0 Am).f0) != Cz) = false := bne_eq_false_iff_eq.mpr c11
   clear c11
   (skip)
   have H' := yf.mk H;clear H;have WY := ai.out;have Xd := ah.out;have Nw := AO ae;have ND := bf ae;have I6 := AO aa;have I7 := bf aa
   go_wp2
   go_meet
   case rel => exact ⟨_,((((yh l0 Am).f1) == CK)),(by rfl),H',⟨by have := Bn.out;omega⟩,⟨by (with_reducible repeat (apply Kd.zg));exact Kd.zf (GG (g := ag) (Kd.zf Bo.out (fun k_ hk => (⟨hk,hk.2⟩ : _ ∧ k_ ≠ ag))) (fun _ hk => hk.2)) (fun _ hk => ⟨hk.1.1,hk.1.2⟩)⟩,bK aa rfl,bK ae rfl,⟨bO HB⟩⟩
  rw [if_neg c11] at H;have Fv := beq_eq_false_iff_ne.mpr c11;have Oq := bne_iff_ne.mpr c11
  (skip)
  have H' := yf.mk H;clear H;have X0 := ai.out;have Xf := ah.out;have IA := AO ae;have IE := bf ae;have IB := AO aa;have IG := bf aa
  go_wp2
  go_meet
  case rel => exact ⟨_,(false),(by rfl),H',⟨by have := Bn.out;omega⟩,⟨by (with_reducible repeat (apply Kd.zg));exact Kd.zf (GG (g := ag) (Kd.zf Bo.out (fun k_ hk => (⟨hk,hk.2⟩ : _ ∧ k_ ≠ ag))) (fun _ hk => hk.2)) (fun _ hk => ⟨hk.1.1,hk.1.2⟩)⟩,bK aa rfl,bK ae rfl,⟨bO HB⟩⟩
 case rest =>
 clear HC7 ES Eu Kr Kz ay az aA aC ak au;obtain ⟨kq,av,rfl,HA,VB,Bo,aa,ae,HB⟩ := hcut
 cases kq with
 | zero => exact absurd HA.out (by simp [zi.j1])
 | succ kj6 =>
  have H := HA.out;clear HA;simp only [zi.j1] at H
  by_cases c18 : av = true
  ·
   subst c18;rw [if_pos rfl] at H;have H' := yf.mk H;clear H
   go_wp2
   go_roundg kj6
   case measure => have := Bn.out;have := VB.out;omega
   case rel => exact ⟨(yP),(Bi),(wrap64 (Am + 1)),(by rfl),(by rfl),H',⟨by have := Bn.out;have := VB.out;omega⟩,⟨by (with_reducible repeat (apply Kd.zg));exact Kd.zf Bo.out (fun _ hk => hk.1)⟩,⟨kk aa⟩,⟨bO HB⟩⟩
  ·
   replace c18 := Bool.eq_false_iff.mpr c18;subst c18
   rw [if_neg (show ¬ (false = true) by decide)] at H
   have RH := yf.mk H;clear H
   go_upto_region 8 with (fail)
   go_cut [57] (fun v57 wc => ∃ (kq : Nat) (ax : Bool),v57 = .bool ax ∧ yf (zi.j2 kq l0 yP Bi Am ax Cz CK EN F7 ((yh l0 Am).f0) ((yh l0 Am).f1) ((yh l0 Am).f2.f0) ((yh l0 Am).f2.f1) = some r) ∧ yf (kq ≤ kj6) ∧ yf (Kd.R DN 60 wc w.heap.size (fun k_ => k_ ≠ af ∧ k_ ≠ ag) u5 yP) ∧ yf (wc.heap[af]? = some (.cells #[.int .i64 Cz,.int .i64 CK,.int .i64 EN,.int .i64 F7] 60 (0,0))) ∧ yf (wc.heap[ag]? = some (.cells #[.int .i64 ((yh l0 Am).f0),.int .i64 ((yh l0 Am).f1),.int .i64 ((yh l0 Am).f2.f0),.int .i64 ((yh l0 Am).f2.f1)] 60 (0,0))) ∧ yf (Below w.heap.size w wc))
   case first =>
    have H := RH.out;clear RH
    by_cases c20 : Bi = true
    ·
     subst c20;rw [if_pos rfl] at H;have H' := yf.mk H;clear H
     go_wp2
     go_meet
     case rel => exact ⟨_,(false),(by rfl),H',⟨by have := Bn.out;have := VB.out;omega⟩,⟨kR Bo⟩,⟨kk aa⟩,⟨kk ae⟩,⟨bO HB⟩⟩
    ·
     replace c20 := Bool.eq_false_iff.mpr c20;subst c20
     rw [if_neg (show ¬ (false = true) by decide)] at H
     by_cases c21 : ((yh l0 Am).f0) > Cz
     ·
      rw [if_pos c21] at H;have Qj := decide_eq_true c21;clear c21
      (skip)
      have H' := yf.mk H;clear H;have bD := ai.out;have bF := ah.out;have a04 := AO ae;have a0h := bf ae;have Ny := AO aa;have NE := bf aa
      go_wp2
      go_meet
      case rel => exact ⟨_,(true),(by rfl),H',⟨by have := Bn.out;have := VB.out;omega⟩,⟨kR Bo⟩,⟨kk aa⟩,⟨kk ae⟩,⟨bO HB⟩⟩
     ·
      rw [if_neg c21] at H;have Qj := decide_eq_false c21;clear c21
      (skip)
      by_cases LF : ((yh l0 Am).f0) = Cz
      ·
       rw [if_pos LF] at H;have Ou := beq_iff_eq.mpr LF
       have ZQ : (((yh l0 Am).f0) != Cz) = false := bne_eq_false_iff_eq.mpr LF
       clear LF;have H' := yf.mk H;clear H;have TY := ai.out;have U9 := ah.out;have IC := AO ae;have II := bf ae;have TK := AO aa;have TR := bf aa
       go_wp2
       go_meet
       case rel => exact ⟨_,(decide (((yh l0 Am).f1) > CK)),(by rfl),H',⟨by have := Bn.out;have := VB.out;omega⟩,⟨kR Bo⟩,⟨kk aa⟩,⟨kk ae⟩,⟨bO HB⟩⟩
      ·
       rw [if_neg LF] at H;have Ou := beq_eq_false_iff_ne.mpr LF;have ZQ := bne_iff_ne.mpr LF;have H' := yf.mk H;clear H;have TZ := ai.out;have Ua := ah.out;have a05 := AO ae;have a0i := bf ae;have JI := AO aa;have JK := bf aa
       go_wp2
       go_meet
       case rel => exact ⟨_,(false),(by rfl),H',⟨by have := Bn.out;have := VB.out;omega⟩,⟨kR Bo⟩,⟨kk aa⟩,⟨kk ae⟩,⟨bO HB⟩⟩
   case rest =>
    clear RH;obtain ⟨kq,ax,rfl,HA,Pb,Bo,aa,ae,HB⟩ := hcut
    cases kq with
    | zero => exact absurd HA.out (by simp [zi.j2])
    | succ PM =>
     have H := HA.out;clear HA;simp only [zi.j2] at H
     by_cases c32 : ax = true
     ·
      subst c32;rw [if_pos rfl] at H
      by_cases VS : yP.length < 4398046511104
      ·
       rw [if_pos VS] at H;have aT := yf.mk VS;clear VS;obtain ⟨Ro,aD⟩ : ∃ y_ : List (AP),y_ = (yP ++ [(⟨Cz,CK,(⟨EN,F7⟩ : Ih)⟩ : AP)]) := ⟨_,rfl⟩
       replace H : (if Ro.length < 4398046511104 then (zi.l0 PM l0 (Ro ++ [(⟨((yh l0 Am).f0),((yh l0 Am).f1),(⟨((yh l0 Am).f2.f0),((yh l0 Am).f2.f1)⟩ : Ih)⟩ : AP)]) true (wrap64 (Am + 1)) Cz CK EN F7) else (none)) = some r := by (have H2_ := (Option.bind_some _ _).symm.trans H;rw [aD];with_reducible exact H2_)
       have aX := yf.mk aD;clear aD
       by_cases c34 : Ro.length < 4398046511104
       ·
        rw [if_pos c34] at H;have aU := yf.mk c34;clear c34;obtain ⟨aJ,aG⟩ : ∃ y_ : List (AP),y_ = (Ro ++ [(⟨((yh l0 Am).f0),((yh l0 Am).f1),(⟨((yh l0 Am).f2.f0),((yh l0 Am).f2.f1)⟩ : Ih)⟩ : AP)]) := ⟨_,rfl⟩
        replace H : (zi.l0 PM l0 aJ true (wrap64 (Am + 1)) Cz CK EN F7) = some r := by (rw [aG];with_reducible exact H)
        have aY := yf.mk aG;clear aG;have H' := yf.mk H;clear H;have U1 := ah.out;have Uc := ai.out;have NC := AO aa;have NH := bf aa
        go_wp2_with (first | ((with_reducible refine Bf (b := .append) (xs := #[.tmp 58,.tmp 60]) rfl ?_);at_builtin;refine Kd.Dz DN (w0 := w) w.heap.size rfl (.tmp 58) (.tmp 60) 31 60 (.agg #[(.int .i64 0),(.int .i64 0),(.int .i64 0),(.int .i64 0)]) 32 rfl Tryz.underlying31 J8 rfl (by decide) (by omega) u5 yP (⟨Cz,CK,(⟨EN,F7⟩ : Ih)⟩ : AP) [.int .i64 Cz,.int .i64 CK,.int .i64 EN,.int .i64 F7] (fun k_ => k_ ≠ af ∧ k_ ≠ ag) (fun _ => False) rfl rfl ?aP (fun _ hk => hk.elim) ?aF ?aO ?aB ?aS ?aL ?_;(case aP => exact Io _ _ _ (⟨Cz,CK,(⟨EN,F7⟩ : Ih)⟩ : AP));(case aB => exact (bO HB));(case aF => exact (fun k_ hk => ⟨Kd.Ac (g := af) (o := .cells #[.int .i64 Cz,.int .i64 CK,.int .i64 EN,.int .i64 F7] 60 (0,0)) (kk aa) k_ hk,Kd.Ac (g := ag) (o := .cells #[.int .i64 ((yh l0 Am).f0),.int .i64 ((yh l0 Am).f1),.int .i64 ((yh l0 Am).f2.f0),.int .i64 ((yh l0 Am).f2.f1)] 60 (0,0)) (kk ae) k_ hk⟩));(case aO => exact (kR Bo));(case aS => exact (yF (bO HB)));(case aL => have := aT.out;omega);intro v530 w37 ho hb hg hat;rw [← aX.out] at ho;have BR := yf.mk (zL (g := af) (o := .cells #[.int .i64 Cz,.int .i64 CK,.int .i64 EN,.int .i64 F7] 60 (0,0)) (kk aa) hg (Kd.FH Bo.out (fun _ hk => hk.1)));have BS := yf.mk (zL (g := ag) (o := .cells #[.int .i64 ((yh l0 Am).f0),.int .i64 ((yh l0 Am).f1),.int .i64 ((yh l0 Am).f2.f0),.int .i64 ((yh l0 Am).f2.f1)] 60 (0,0)) (kk ae) hg (Kd.FH Bo.out (fun _ hk => hk.2)));have Ce := yf.mk (hb);have CZ := yf.mk (ho);clear aa;clear ae;clear HB;clear Bo;have aa := BR;have ae := BS;have HB := Ce;have aj := CZ;clear BR BS Ce CZ;clear ho hb hg hat;have a3J := AO ae;have a3X := bf ae) | ((with_reducible refine Bf (b := .append) (xs := #[.tmp 62,.tmp 64]) rfl ?_);at_builtin;refine Kd.Dz DN (w0 := w) w.heap.size rfl (.tmp 62) (.tmp 64) 31 60 (.agg #[(.int .i64 0),(.int .i64 0),(.int .i64 0),(.int .i64 0)]) 32 rfl Tryz.underlying31 J8 rfl (by decide) (by omega) v530 Ro (⟨((yh l0 Am).f0),((yh l0 Am).f1),(⟨((yh l0 Am).f2.f0),((yh l0 Am).f2.f1)⟩ : Ih)⟩ : AP) [.int .i64 ((yh l0 Am).f0),.int .i64 ((yh l0 Am).f1),.int .i64 ((yh l0 Am).f2.f0),.int .i64 ((yh l0 Am).f2.f1)] (fun k_ => k_ ≠ af ∧ k_ ≠ ag) (fun _ => False) rfl rfl ?aP (fun _ hk => hk.elim) ?aF ?aO ?aB ?aS ?aL ?_;(case aP => exact Io _ _ _ (⟨((yh l0 Am).f0),((yh l0 Am).f1),(⟨((yh l0 Am).f2.f0),((yh l0 Am).f2.f1)⟩ : Ih)⟩ : AP));(case aB => exact (bO HB));(case aF => exact (fun k_ hk => ⟨Kd.Ac (g := af) (o := .cells #[.int .i64 Cz,.int .i64 CK,.int .i64 EN,.int .i64 F7] 60 (0,0)) (kk aa) k_ hk,Kd.Ac (g := ag) (o := .cells #[.int .i64 ((yh l0 Am).f0),.int .i64 ((yh l0 Am).f1),.int .i64 ((yh l0 Am).f2.f0),.int .i64 ((yh l0 Am).f2.f1)] 60 (0,0)) (kk ae) k_ hk⟩));(case aO => exact (kR aj));(case aS => exact (yF (bO HB)));(case aL => have := aU.out;omega);intro v533 w39 ho hb hg hat;rw [← aY.out] at ho;have BR := yf.mk (zL (g := af) (o := .cells #[.int .i64 Cz,.int .i64 CK,.int .i64 EN,.int .i64 F7] 60 (0,0)) (kk aa) hg (Kd.FH aj.out (fun _ hk => hk.1)));have BS := yf.mk (zL (g := ag) (o := .cells #[.int .i64 ((yh l0 Am).f0),.int .i64 ((yh l0 Am).f1),.int .i64 ((yh l0 Am).f2.f0),.int .i64 ((yh l0 Am).f2.f1)] 60 (0,0)) (kk ae) hg (Kd.FH aj.out (fun _ hk => hk.2)));have Ce := yf.mk (hb);have CZ := yf.mk (ho);clear aa;clear ae;clear HB;clear aj;have aa := BR;have ae := BS;have HB := Ce;have aM := CZ;clear BR BS Ce CZ;clear ho hb hg hat))
        go_roundg PM
        case measure => have := Bn.out;have := VB.out;have := Pb.out;omega
        case rel => exact ⟨(aJ),(true),(wrap64 (Am + 1)),(by rfl),(by rfl),H',⟨by have := Bn.out;have := VB.out;have := Pb.out;omega⟩,⟨by (with_reducible repeat (apply Kd.zg));exact Kd.zf aM.out (fun _ hk => hk.1)⟩,⟨kk aa⟩,⟨bO HB⟩⟩
       ·
        rw [if_neg c34] at H;exact absurd H (by simp)
      ·
       rw [if_neg VS] at H;exact absurd H (by simp)
     ·
      replace c32 := Bool.eq_false_iff.mpr c32;subst c32
      rw [if_neg (show ¬ (false = true) by decide)] at H
      by_cases c40 : yP.length < 4398046511104
      ·
       rw [if_pos c40] at H;have aV := yf.mk c40;clear c40;obtain ⟨aK,aH⟩ : ∃ y_ : List (AP),y_ = (yP ++ [(⟨((yh l0 Am).f0),((yh l0 Am).f1),(⟨((yh l0 Am).f2.f0),((yh l0 Am).f2.f1)⟩ : Ih)⟩ : AP)]) := ⟨_,rfl⟩
       replace H : (zi.l0 PM l0 aK Bi (wrap64 (Am + 1)) Cz CK EN F7) = some r := by (rw [aH];with_reducible exact H)
       have aZ := yf.mk aH;clear aH;have H' := yf.mk H;clear H;have a4l := ai.out;have a4F := ah.out;have QA := AO ae;have QG := bf ae
       go_wp2_with (((with_reducible refine Bf (b := .append) (xs := #[.tmp 62,.tmp 64]) rfl ?_);at_builtin;refine Kd.Dz DN (w0 := w) w.heap.size rfl (.tmp 62) (.tmp 64) 31 60 (.agg #[(.int .i64 0),(.int .i64 0),(.int .i64 0),(.int .i64 0)]) 32 rfl Tryz.underlying31 J8 rfl (by decide) (by omega) u5 yP (⟨((yh l0 Am).f0),((yh l0 Am).f1),(⟨((yh l0 Am).f2.f0),((yh l0 Am).f2.f1)⟩ : Ih)⟩ : AP) [.int .i64 ((yh l0 Am).f0),.int .i64 ((yh l0 Am).f1),.int .i64 ((yh l0 Am).f2.f0),.int .i64 ((yh l0 Am).f2.f1)] (fun k_ => k_ ≠ af ∧ k_ ≠ ag) (fun _ => False) rfl rfl ?aP (fun _ hk => hk.elim) ?aF ?aO ?aB ?aS ?aL ?_;(case aP => exact Io _ _ _ (⟨((yh l0 Am).f0),((yh l0 Am).f1),(⟨((yh l0 Am).f2.f0),((yh l0 Am).f2.f1)⟩ : Ih)⟩ : AP));(case aB => exact (bO HB));(case aF => exact (fun k_ hk => ⟨Kd.Ac (g := af) (o := .cells #[.int .i64 Cz,.int .i64 CK,.int .i64 EN,.int .i64 F7] 60 (0,0)) (kk aa) k_ hk,Kd.Ac (g := ag) (o := .cells #[.int .i64 ((yh l0 Am).f0),.int .i64 ((yh l0 Am).f1),.int .i64 ((yh l0 Am).f2.f0),.int .i64 ((yh l0 Am).f2.f1)] 60 (0,0)) (kk ae) k_ hk⟩));(case aO => exact (kR Bo));(case aS => exact (yF (bO HB)));(case aL => have := aV.out;omega);intro v536 w43 ho hb hg hat;rw [← aZ.out] at ho;have BR := yf.mk (zL (g := af) (o := .cells #[.int .i64 Cz,.int .i64 CK,.int .i64 EN,.int .i64 F7] 60 (0,0)) (kk aa) hg (Kd.FH Bo.out (fun _ hk => hk.1)));have BS := yf.mk (zL (g := ag) (o := .cells #[.int .i64 ((yh l0 Am).f0),.int .i64 ((yh l0 Am).f1),.int .i64 ((yh l0 Am).f2.f0),.int .i64 ((yh l0 Am).f2.f1)] 60 (0,0)) (kk ae) hg (Kd.FH Bo.out (fun _ hk => hk.2)));have Ce := yf.mk (hb);have CZ := yf.mk (ho);clear aa;clear ae;clear HB;clear Bo;have aa := BR;have ae := BS;have HB := Ce;have aN := CZ;clear BR BS Ce CZ;clear ho hb hg hat))
       go_roundg PM
       case measure => have := Bn.out;have := VB.out;have := Pb.out;omega
       case rel => exact ⟨(aK),(Bi),(wrap64 (Am + 1)),(by rfl),(by rfl),H',⟨by have := Bn.out;have := VB.out;have := Pb.out;omega⟩,⟨by (with_reducible repeat (apply Kd.zg));exact Kd.zf aN.out (fun _ hk => hk.1)⟩,⟨kk aa⟩,⟨bO HB⟩⟩
      ·
       rw [if_neg c40] at H;exact absurd H (by simp)
end Go.Proofs.YtjonnfmoocijlaaGreat.P
