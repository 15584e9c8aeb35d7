/- Texts of a claim, packed. -/
import Derived.Test.YtjonnfmoocijlaaGreatE11
import Derived.Test.YtjonnfmoocijlaaGreatE15
set_option linter.all false
namespace Go.Proofs.YtjonnfmoocijlaaGreat.P
open Go.RowKit Go.Proofs.YtjonnfmoocijlaaGreatKW.PrintWords Go.Proofs.YtjonnfmoocijlaaGreatKW.PrintLast Go.Proofs.YtjonnfmoocijlaaGreatKW.PrintMore
theorem UM {d : Int} {l : List (List Int)} (h : DF d l) (i : Nat) (hi : i < l.length) {g : List Int} (hg : g = l.getD i []) : g.length = (l.getD 0 []).length ∧ (∀ p,p < g.length → ∃ x : Nat,rd g (p : Int) = (x : Int) ∧ (x : Int) < d) ∧ (∀ p,p + 1 < g.length → rd g (p : Int) < rd g ((p + 1 : Nat) : Int)) := by
  obtain ⟨h1,h2,_,_,_,h5⟩ := h
  rw [getD_at _ _ _ hi] at hg
  subst hg
  have h6 := (List.all_eq_true.1 h5) _ (List.getElem_mem hi)
  have h7 := of_decide_eq_true h6
  refine ⟨h7.1,fun p hp => ?_,fun p hp => ?_⟩
  · have h8 := h7.2.1 _ (List.getElem_mem hp)
    exact ⟨(l[i][p]).toNat,by rw [IJ _ _ hp];omega,by omega⟩
  · have h9 := h7.2.2
    rw [List.pairwise_iff_getElem] at h9
    rw [IJ _ _ (by omega),IJ _ _ hp]
    exact h9 p (p + 1) (by omega) hp (by omega)
set_option maxHeartbeats 1000000 in
set_option maxRecDepth 100000 in
theorem V6.tst (yj : Int) (yK : Option Addr) (yE : Nat) (yg : List (List Int)) (w : World) (zS : Kd.C (Kd.slice 3 (Kd.int .i64)) w yK yg.length yg) (zT : yg.length ≤ yE) (hF : DF yj yg) (hbal : ZB yj yg = true) :
    Calls Tryz.prog 59 #[.agg #[.int .i64 yj,.slice yK yg.length yE]] w fun e w' => e = .returned (.tuple #[.int .i64 (AB yg 0 0),.int .i64 (AB yg 0 1),.bool (decide (0 < AB yg 0 1))]) ∧ Below w.heap.size w w' := by
  have ET := Tryz.underlying27
  have a5a := Tryz.underlying130
  have a4Z := Tryz.underlying129
  have HR := yf.mk zS
  have HC := yf.mk zT
  have HD := yf.mk hF
  have HBL := yf.mk hbal
  clear zS zT hF hbal
  have HB := yf.mk (Below.refl w.heap.size w)
  have d1 : decide (yj < 2) = false := decide_eq_false (by have := HD.out.1;omega)
  have d2 : decide (60 < yj) = false := decide_eq_false (by have := HD.out.2.1;omega)
  have d3 : decide ((yg.length : Int) < 1) = false := decide_eq_false (by have := HD.out.2.2.1;omega)
  have d4 : decide (4096 < (yg.length : Int)) = false := decide_eq_false (by have := HD.out.2.2.2.1;omega)
  go_enter Tryz.func59,Tryz.ntmps59
  go_wp2_with (first
    | ((with_reducible refine yG (N := 1) rfl ?_);refine yD ?hg (N := 1) ?hd (cs := #[.int .i64 yj,.slice yK yg.length yE]) (t := 27) ?hr ?_;(case hd => rfl);(case hg => rfl);(case hr => first | (go_simp;done) | (go_simp;rfl));intro gb hg w8 yI hb;have BK := yf.mk yI;have GE := bG (w := w) hg;replace HB := bS HB hb;clear hb yI hg;have hcz := bc2 BK;have hfz := bf BK)
    | ((with_reducible refine yG (N := 5) rfl ?_);refine yD ?hg (N := 5) ?hd (cs := Ie) (t := 130) ?hr ?_;(case hd => rfl);(case hg => rfl);(case hr => exact by unfold execOp;rfl);intro gm hg w10 yI hb;have BM := yf.mk (LC.zeros yI);have GM := bG (w := w) hg;have NB := Cq BK hg;replace BK := bB BK hb;replace HB := bS HB hb;clear hb yI hg hcz hfz;have hcz := bc2 BK;have hfz := bf BK))
  clear d1 d2 d3 d4
  go_loopg [6] yg.length (fun kq v6 w' => ∃ i : Nat,v6 = .int .i64 (i : Int) ∧ yf (i ≤ yg.length ∧ kq = yg.length - i) ∧ yf (LC w' gm 130 (AB (yg.take i))) ∧ yf (w'.heap[gb]? = some (.cells #[.int .i64 yj,.slice yK yg.length yE] 27 (0,0))) ∧ yf (Below w.heap.size w w'))
  case atStart => exact ⟨0,rfl,⟨Nat.zero_le _,by omega⟩,BM,BK,HB⟩
  case round =>
    clear BM BK HB hcz hfz
    obtain ⟨i,rfl,HI,BM,BK,HB⟩ := hrel
    have hcz := bc2 BK
    have hfz := bf BK
    by_cases c1 : i < yg.length
    · have c1b : decide ((i : Int) < (yg.length : Int)) = true := decide_eq_true (by omega)
      have p1 : 0 ≤ (i : Int) := by omega
      have q1 : (i : Int) < (yg.length : Int) := by omega
      have q0 : (0 : Int) < (yg.length : Int) := by omega
      have HL := yf.mk c1
      obtain ⟨k1,rfl⟩ : ∃ k1,gk = k1 + 1 := ⟨gk - 1,by have := HI.out.2;omega⟩
      clear c1
      obtain ⟨ad1,A1,n1,e1,hx1,hl1,hr1⟩ := Ec HR.out (i : Int) p1 q1
      obtain ⟨ad0,A2,n2,e0,hx0,hl0,hr0⟩ := Ec HR.out (0 : Int) (Int.le_refl _) q0
      cases e1
      cases e0
      have qi : (0 < yg.length) = True := eq_true (by omega)
      rw [Int.toNat_natCast] at hx1
      rw [show ((0 : Int)).toNat = 0 from rfl,Addr.add_zero'] at hx0
      replace hx1 := (HB.out.cell (World.block_lt_of_cell? w _ hx1)).trans hx1
      replace hx0 := (HB.out.cell (World.block_lt_of_cell? w _ hx0)).trans hx0
      have HRG := yf.mk hr1
      have ae := yf.mk hr0
      clear hr1 hl1 hr0 hl0
      replace p1 := eq_true p1
      replace q1 := eq_true q1
      replace q0 := eq_true q0
      obtain ⟨g,hg⟩ : ∃ g,yX yg (i : Int) = g := ⟨_,rfl⟩
      obtain ⟨g0,hg0⟩ : ∃ g,yX yg 0 = g := ⟨_,rfl⟩
      rw [hg] at hx1
      rw [hg0] at hx0
      replace HRG : yf ((Kd.int .i64).C w A1 g.length g) := ⟨hg ▸ HRG.out⟩
      replace ae : yf ((Kd.int .i64).C w A2 g0.length g0) := ⟨hg0 ▸ ae.out⟩
      have HG := yf.mk hg
      clear hg
      have HGOK := yf.mk (Qy HD.out i HL.out (g := g) (HG.out.symm.trans rfl))
      have aa := yf.mk (UM HD.out i HL.out (g := g) (HG.out.symm.trans rfl))
      have hw0 : g0.length = (yg.getD 0 []).length := by rw [← hg0];rfl
      have d1 : decide ((g.length : Int) < 2) = false := decide_eq_false (by have := aa.out.1;have := HD.out.2.2.2.2.1;omega)
      have d2 : ((g.length : Int) != (g0.length : Int)) = false := by rw [bne_eq_false_iff_eq];have := aa.out.1;omega
      clear hg0 hw0
      go_wp2
      clear d1 d2 hx0 hx1 hcz hfz qi
      go_loopg [8] g.length (fun kq v8 w' => ∃ p : Nat,v8 = .int .i64 (p : Int) ∧ yf (p ≤ g.length ∧ kq = g.length - p) ∧ yf (LC w' gm 130 (AB (yg.take i))) ∧ yf (w'.heap[gb]? = some (.cells #[.int .i64 yj,.slice (some ad1) yg.length yE] 27 (0,0))) ∧ yf (Below w.heap.size w w'))
      case atStart => exact ⟨0,rfl,⟨Nat.zero_le _,by omega⟩,BM,BK,HB⟩
      case round =>
        clear BM BK HB
        obtain ⟨p,rfl,HP,BM,BK,HB⟩ := hrel
        have hcz := bc2 BK
        have hfz := bf BK
        by_cases c2 : p < g.length
        · have c2b : decide ((p : Int) < (g.length : Int)) = true := decide_eq_true (by omega)
          have p2 : 0 ≤ (p : Int) := by omega
          have q2 : (p : Int) < (g.length : Int) := by omega
          have HPL := yf.mk c2
          obtain ⟨k2,rfl⟩ : ∃ k2,gk = k2 + 1 := ⟨gk - 1,by have := HP.out.2;omega⟩
          clear c2
          obtain ⟨x,hx,hxd⟩ := aa.out.2.1 p HPL.out
          obtain ⟨ad2,e2,hx2⟩ := Kd.BG HRG.out (p : Int) p2 q2
          cases e2
          rw [Int.toNat_natCast,hx] at hx2
          have HX := yf.mk hx
          clear hx
          replace hx2 := (HB.out.cell (World.block_lt_of_cell? w _ hx2)).trans hx2
          replace p2 := eq_true p2
          replace q2 := eq_true q2
          have d1 : decide ((x : Int) < 0) = false := decide_eq_false (by omega)
          have d2 : decide (yj ≤ (x : Int)) = false := decide_eq_false (by omega)
          clear hxd
          rcases Nat.eq_zero_or_pos p with h0 | h0
          · have d3 : decide ((0 : Int) < (p : Int)) = false := decide_eq_false (by omega)
            have d3n : decide (0 < p) = false := decide_eq_false (by omega)
            clear h0
            go_wp2
            go_quiet (fail)
            go_wp2
            go_roundg k2
            case measure => exact Nat.lt_succ_self _
            case rel => exact ⟨p + 1,vi HPL.out HRG.out.2.1,⟨by have := HPL.out;omega,by have := HP.out.2;have := HPL.out;omega⟩,BM,BK,⟨CJ HB.out _⟩⟩
          · have d3 : decide ((0 : Int) < (p : Int)) = true := decide_eq_true (by omega)
            have d3n : decide (0 < p) = true := decide_eq_true (by omega)
            obtain ⟨p',hp'⟩ : ∃ p',p = p' + 1 := ⟨p - 1,by omega⟩
            have p3 : 0 ≤ (p' : Int) := by omega
            have q3 : (p' : Int) < (g.length : Int) := by have := HPL.out;omega
            obtain ⟨ad3,e3,hx3⟩ := Kd.BG HRG.out (p' : Int) p3 q3
            cases e3
            rw [Int.toNat_natCast] at hx3
            obtain ⟨y,hy⟩ : ∃ y,rd g (p' : Int) = y := ⟨_,rfl⟩
            rw [hy] at hx3
            replace hx3 := (HB.out.cell (World.block_lt_of_cell? w _ hx3)).trans hx3
            have d4 : decide ((x : Int) ≤ y) = false := decide_eq_false (by subst hp';have := aa.out.2.2 p' HPL.out;rw [hy,HX.out] at this;omega)
            have d5 : wrap64 ((p : Int) - 1) = (p' : Int) := by rw [ww (by have := HPL.out;have := HRG.out.2.1;omega) (by have := HPL.out;have := HRG.out.2.1;omega)];omega
            replace p3 := eq_true p3
            replace q3 := eq_true q3
            clear hy hp' h0
            go_wp2
            go_quiet (fail)
            go_wp2
            go_roundg k2
            case measure => exact Nat.lt_succ_self _
            case rel => exact ⟨p + 1,vi HPL.out HRG.out.2.1,⟨by have := HPL.out;omega,by have := HP.out.2;have := HPL.out;omega⟩,BM,BK,⟨CJ HB.out _⟩⟩
        · have c2b : decide ((p : Int) < (g.length : Int)) = false := decide_eq_false (by omega)
          obtain rfl : p = g.length := by have := HP.out.1;omega
          clear c2
          go_wp2
          clear hcz hfz
          go_loopg [9] g.length (fun kq v9 w' => ∃ p : Nat,v9 = .int .i64 (p : Int) ∧ yf (p ≤ g.length ∧ kq = g.length - p) ∧ yf (LC w' gm 130 (Fb (AB (yg.take i)) g p 0)) ∧ yf (w'.heap[gb]? = some (.cells #[.int .i64 yj,.slice (some ad1) yg.length yE] 27 (0,0))) ∧ yf (Below w.heap.size w w'))
          case atStart => exact ⟨0,rfl,⟨Nat.zero_le _,by omega⟩,⟨BM.out.congr fun a b _ _ => (M6 _ _ _ _).symm⟩,BK,HB⟩
          case round =>
            clear BM BK HB HP
            obtain ⟨p,rfl,HP,BM,BK,HB⟩ := hrel
            by_cases c2 : p < g.length
            · have c2b : decide ((p : Int) < (g.length : Int)) = true := decide_eq_true (by omega)
              have p2 : 0 ≤ (p : Int) := by omega
              have q2 : (p : Int) < (g.length : Int) := by omega
              have HPL := yf.mk c2
              obtain ⟨k2,rfl⟩ : ∃ k2,gk = k2 + 1 := ⟨gk - 1,by have := HP.out.2;omega⟩
              clear c2
              obtain ⟨x,hx,SN⟩ := HGOK.out.2 p HPL.out
              obtain ⟨ad2,e2,hx2⟩ := Kd.BG HRG.out (p : Int) p2 q2
              cases e2
              rw [Int.toNat_natCast,hx] at hx2
              have HX := yf.mk hx
              have Pd := yf.mk SN
              have af := yf.mk hx2
              clear hx SN hx2
              replace p2 := eq_true p2
              replace q2 := eq_true q2
              go_wp2
              go_loopg [10] g.length (fun kq v10 w' => ∃ q : Nat,v10 = .int .i64 (q : Int) ∧ yf (q ≤ g.length ∧ kq = g.length - q) ∧ yf (LC w' gm 130 (Fb (AB (yg.take i)) g p q)) ∧ yf (w'.heap[gb]? = some (.cells #[.int .i64 yj,.slice (some ad1) yg.length yE] 27 (0,0))) ∧ yf (Below w.heap.size w w'))
              case atStart => exact ⟨0,rfl,⟨Nat.zero_le _,by omega⟩,BM,BK,HB⟩
              case round =>
                clear BM BK HB
                obtain ⟨q,rfl,HQ,BM,BK,HB⟩ := hrel
                by_cases c3 : q < g.length
                · have c3b : decide ((q : Int) < (g.length : Int)) = true := decide_eq_true (by omega)
                  have p3 : 0 ≤ (q : Int) := by omega
                  have q3 : (q : Int) < (g.length : Int) := by omega
                  have HQL := yf.mk c3
                  obtain ⟨k3,rfl⟩ : ∃ k3,gk = k3 + 1 := ⟨gk - 1,by have := HQ.out.2;omega⟩
                  clear c3
                  obtain ⟨y,hy,SQ⟩ := HGOK.out.2 q HQL.out
                  obtain ⟨ad3,e3,hx3⟩ := Kd.BG HRG.out (q : Int) p3 q3
                  cases e3
                  rw [Int.toNat_natCast,hy] at hx3
                  have HY := yf.mk hy
                  replace hx3 := (HB.out.cell (World.block_lt_of_cell? w _ hx3)).trans hx3
                  have hx2 := (HB.out.cell (World.block_lt_of_cell? w _ af.out)).trans af.out
                  replace p3 := eq_true p3
                  replace q3 := eq_true q3
                  have SN := Pd.out
                  have hcell := (BM.out.at_ x y Pd.out SQ).1
                  have hfr := (BM.out.at_ x y Pd.out SQ).2
                  obtain ⟨v,hv⟩ : ∃ v,Fb (AB (yg.take i)) g p q x y = v := ⟨_,rfl⟩
                  rw [hv] at hcell
                  have HV := yf.mk hv
                  clear hv hy
                  have hv0 : 0 ≤ v := HV.out ▸ (KL HD.out i (Nat.le_of_lt HL.out) g HGOK.out.1 p q x y).1
                  have hv1 : v ≤ 10000 := HV.out ▸ (KL HD.out i (Nat.le_of_lt HL.out) g HGOK.out.1 p q x y).2
                  go_wp2
                  go_region
                  go_wp2
                  go_roundg k3
                  case measure => exact Nat.lt_succ_self _
                  case rel =>
                    refine ⟨q + 1,vi HQL.out HRG.out.2.1,⟨by have := HQL.out;omega,by have := HQ.out.2;have := HQL.out;omega⟩,⟨?_⟩,⟨Gp BK.out NB.out _⟩,⟨zt (Dw HB.out GM.out)⟩⟩
                    refine (BM.out.put x y Pd.out SQ (v + 1)).congr fun a b _ _ => ?_
                    rw [← HV.out]
                    exact NQ _ g p q HPL.out HQL.out x y HX.out HY.out a b
                · have c3b : decide ((q : Int) < (g.length : Int)) = false := decide_eq_false (by omega)
                  obtain rfl : q = g.length := by have := HQ.out.1;omega
                  clear c3
                  go_wp2
                  go_roundg k2
                  case measure => exact Nat.lt_succ_self _
                  case rel => exact ⟨p + 1,vi HPL.out HRG.out.2.1,⟨by have := HPL.out;omega,by have := HP.out.2;have := HPL.out;omega⟩,⟨BM.out.congr fun a b _ _ => NP _ g p HPL.out a b (by omega)⟩,BK,HB⟩
            · have c2b : decide ((p : Int) < (g.length : Int)) = false := decide_eq_false (by omega)
              obtain rfl : p = g.length := by have := HP.out.1;omega
              clear c2
              go_wp2
              go_roundg k1
              case measure => exact Nat.lt_succ_self _
              case rel => exact ⟨i + 1,vi HL.out HR.out.2.1,⟨by have := HL.out;omega,by have := HI.out.2;have := HL.out;omega⟩,⟨BM.out.congr fun a b _ _ => OW yg i HL.out g ((getD_at yg [] i HL.out).symm.trans HG.out) a b⟩,BK,HB⟩
    · have c1b : decide ((i : Int) < (yg.length : Int)) = false := decide_eq_false (by omega)
      obtain rfl : i = yg.length := by have := HI.out.1;omega
      clear c1 HI
      rw [List.take_length] at BM
      go_wp2
      clear hcz hfz
      go_loopg [11] yj.toNat (fun kq v11 w' => ∃ i : Nat,v11 = .int .i64 (i : Int) ∧ yf (i ≤ yj.toNat ∧ kq = yj.toNat - i) ∧ yf (LC w' gm 130 (AB yg)) ∧ yf (w'.heap[gb]? = some (.cells #[.int .i64 yj,.slice yK yg.length yE] 27 (0,0))) ∧ yf (Below w.heap.size w w'))
      case atStart => exact ⟨0,rfl,⟨Nat.zero_le _,by omega⟩,BM,BK,HB⟩
      case round =>
        clear BM BK HB
        obtain ⟨i,rfl,HI,BM,BK,HB⟩ := hrel
        have hcz := bc2 BK
        have hd0 := HD.out.1
        have a6d := HD.out.2.1
        obtain ⟨rr,hrr⟩ : ∃ x,AB yg 0 0 = x := ⟨_,rfl⟩
        obtain ⟨lm,hlm⟩ : ∃ x,AB yg 0 1 = x := ⟨_,rfl⟩
        have HRR := yf.mk hrr
        have HLM := yf.mk hlm
        clear hrr hlm
        by_cases c1 : i < yj.toNat
        · have c1b : decide ((i : Int) < yj) = true := decide_eq_true (by omega)
          have HL := yf.mk c1
          obtain ⟨k1,rfl⟩ : ∃ k1,gk = k1 + 1 := ⟨gk - 1,by have := HI.out.2;omega⟩
          clear c1
          go_wp2
          go_loopg [12] yj.toNat (fun kq v12 w' => ∃ j : Nat,v12 = .int .i64 (j : Int) ∧ yf (j ≤ yj.toNat ∧ kq = yj.toNat - j) ∧ yf (LC w' gm 130 (AB yg)) ∧ yf (w'.heap[gb]? = some (.cells #[.int .i64 yj,.slice yK yg.length yE] 27 (0,0))) ∧ yf (Below w.heap.size w w'))
          case atStart => exact ⟨0,rfl,⟨Nat.zero_le _,by omega⟩,BM,BK,HB⟩
          case round =>
            clear BM BK HB hcz
            obtain ⟨j,rfl,HJ,BM,BK,HB⟩ := hrel
            have hcz := bc2 BK
            by_cases c2 : j < yj.toNat
            · have c2b : decide ((j : Int) < yj) = true := decide_eq_true (by omega)
              obtain ⟨k2,rfl⟩ : ∃ k2,gk = k2 + 1 := ⟨gk - 1,by have := HJ.out.2;omega⟩
              have HJL := yf.mk c2
              have p1 : i < 60 := by have := HL.out;omega
              have p2 : j < 60 := by omega
              have a2i : wr.cell? ⟨gm,0,none⟩ = some (.int .i64 rr) := HRR.out ▸ (BM.out.at_ 0 0 (by omega) (by omega)).1
              have a2j : wr.cell? ⟨gm,1,none⟩ = some (.int .i64 lm) := HLM.out ▸ (BM.out.at_ 0 1 (by omega) (by omega)).1
              clear c2
              by_cases c3 : i = j
              · subst c3
                have hcell : wr.cell? ⟨gm,i * 60 + i,none⟩ = some (.int .i64 rr) := (BM.out.at_ i i (by omega) (by omega)).1.trans (by rw [Pn HBL.out i i HL.out HL.out,if_pos rfl,HRR.out])
                have c4b : (rr != rr) = false := by simp
                have c4c : ((i : Int) == (i : Int)) = true := by simp
                have c4d : ((i : Int) != (i : Int)) = false := by simp
                go_wp2
                go_quiet (fail)
                go_wp2
                go_roundg k2
                case measure => exact Nat.lt_succ_self _
                case rel => exact ⟨i + 1,by go_num,⟨by have := HJL.out;omega,by have := HJ.out.2;have := HJL.out;omega⟩,BM,BK,⟨CJ HB.out _⟩⟩
              · have hcell : wr.cell? ⟨gm,i * 60 + j,none⟩ = some (.int .i64 lm) := (BM.out.at_ i j (by omega) (by omega)).1.trans (by rw [Pn HBL.out i j HL.out HJL.out,if_neg c3,HLM.out])
                have c4b : (lm != lm) = false := by simp
                have c4c : ((i : Int) == (j : Int)) = false := by simp;omega
                have c4d : ((i : Int) != (j : Int)) = true := by simp;omega
                clear c3
                go_wp2
                go_quiet (fail)
                go_wp2
                go_roundg k2
                case measure => exact Nat.lt_succ_self _
                case rel => exact ⟨j + 1,by go_num,⟨by have := HJL.out;omega,by have := HJ.out.2;have := HJL.out;omega⟩,BM,BK,⟨CJ HB.out _⟩⟩
            · have c2b : decide ((j : Int) < yj) = false := decide_eq_false (by omega)
              clear c2
              go_wp2
              go_roundg k1
              case measure => exact Nat.lt_succ_self _
              case rel => exact ⟨i + 1,vi (n := yj.toNat) HL.out (by omega),⟨by have := HL.out;omega,by have := HI.out.2;have := HL.out;omega⟩,BM,BK,HB⟩
        · have c1b : decide ((i : Int) < yj) = false := decide_eq_false (by omega)
          clear c1
          have a2i : wr.cell? ⟨gm,0,none⟩ = some (.int .i64 rr) := HRR.out ▸ (BM.out.at_ 0 0 (by omega) (by omega)).1
          have a2j : wr.cell? ⟨gm,1,none⟩ = some (.int .i64 lm) := HLM.out ▸ (BM.out.at_ 0 1 (by omega) (by omega)).1
          go_wp2
          go_region
          go_wp2
          go_ret3
          exact ⟨by rw [HRR.out,HLM.out];rfl,zt HB.out⟩
def BP.f (a0 : Int) (l : List (List Int)) : Option (Int × Int × Bool) := if DF a0 l ∧ ZB a0 l = true then some (AB l 0 0,AB l 0 1,decide (0 < AB l 0 1)) else none
theorem BP.calls (yj : Int) (yK : Option Addr) (yE : Nat) (yg : List (List Int)) (r1 r2 : Int) (r3 : Bool) (w : World) (zS : Kd.C (Kd.slice 3 (Kd.int .i64)) w yK yg.length yg) (zT : yg.length ≤ yE) (h : BP.f yj yg = some (r1,r2,r3)) :
    Calls Tryz.prog 59 #[.agg #[.int .i64 yj,.slice yK yg.length yE]] w fun e w' => e = .returned (.tuple #[.int .i64 r1,.int .i64 r2,.bool r3]) ∧ Below w.heap.size w w' := by
  unfold BP.f at h
  by_cases hF : DF yj yg ∧ ZB yj yg = true
  · rw [if_pos hF] at h
    have h1 := Option.some.inj h
    simp only [Prod.mk.injEq] at h1
    obtain ⟨rfl,rfl,rfl⟩ := h1
    exact V6.tst yj yK yE yg w zS zT hF.1 hF.2
  · rw [if_neg hF] at h
    cases h
end Go.Proofs.YtjonnfmoocijlaaGreat.P
namespace Go.Proofs.YtjonnfmoocijlaaGreat.P
open Go.RowKit Go.Proofs.YtjonnfmoocijlaaGreatKW.PrintWords
set_option maxRecDepth 100000
def Ed (L : List (List Int)) (w n r : Nat) (g i : Nat) : Int × Int :=
 let x := (L.getD (g % n) []).getD ((i + g / n) % w) 0
 (x,((g / n * r + ((L.take (g % n)).filter fun l => decide (x ∈ l)).length : Nat) : Int))
structure LB (d : Int) (L : List (List Int)) (w n r : Nat) : Prop where
 len : L.length = n
 n1 : 1 ≤ n ∧ n ≤ 21
 w1 : 4 ≤ w ∧ w ≤ 5
 d1 : 4 ≤ d ∧ d ≤ 13
 r1 : 1 ≤ r ∧ r ≤ 15
 width : ∀ g ∈ L,g.length = w
 nodup : ∀ g ∈ L,g.Nodup
 rng : ∀ g ∈ L,∀ x ∈ g,0 ≤ x ∧ x < d
 check : ∃ lam,Dn.f d L = some ((r : Int),lam,0)
 checkR : ∃ lam,BP.f d L = some ((r : Int),lam,true)
 home : ∀ T S : Int,(List.range (5 * n)).all (fun g => (List.range w).all fun i => decide (yU.f 400 d L T S (g : Int) (i : Int) = some (Ed L w n r g i))) = true
 homeN : ∀ T S H C : Int,(List.range (5 * n)).all (fun g => (List.range w).all fun i => decide (zG.f d L T S (w : Int) (r : Int) (n : Int) (GH d.toNat L).2 (GH d.toNat L).1 H C (g : Int) (i : Int) = some (Ed L w n r g i))) = true
def ds0 : List (List Int) := [[0,1,2,3],[0,1,2,4],[0,1,3,4],[0,2,3,4],[1,2,3,4]]
theorem a5e : LB 5 ds0 4 5 4 where
 len := rfl
 n1 := by decide
 w1 := by decide
 d1 := by decide
 r1 := by decide
 width := by decide
 nodup := by decide
 rng := by decide
 check := ⟨3,by kernel_rfl⟩
 checkR := ⟨3,by kernel_rfl⟩
 home := fun T S => by kernel_rfl
 homeN := fun T S H C => by kernel_rfl
def ds1 : List (List Int) := [[0,1,2,3],[0,1,2,4],[0,1,2,5],[0,1,3,4],[0,1,3,5],[0,1,4,5],[0,2,3,4],[0,2,3,5],[0,2,4,5],[0,3,4,5],[1,2,3,4],[1,2,3,5],[1,2,4,5],[1,3,4,5],[2,3,4,5]]
theorem a6i : LB 6 ds1 4 15 10 where
 len := rfl
 n1 := by decide
 w1 := by decide
 d1 := by decide
 r1 := by decide
 width := by decide
 nodup := by decide
 rng := by decide
 check := ⟨6,by kernel_rfl⟩
 checkR := ⟨6,by kernel_rfl⟩
 home := fun T S => by kernel_rfl
 homeN := fun T S H C => by kernel_rfl
def ds2 : List (List Int) := [[0,1,2,3,4],[0,1,2,3,5],[0,1,2,4,5],[0,1,3,4,5],[0,2,3,4,5],[1,2,3,4,5]]
theorem a6j : LB 6 ds2 5 6 5 where
 len := rfl
 n1 := by decide
 w1 := by decide
 d1 := by decide
 r1 := by decide
 width := by decide
 nodup := by decide
 rng := by decide
 check := ⟨4,by kernel_rfl⟩
 checkR := ⟨4,by kernel_rfl⟩
 home := fun T S => by kernel_rfl
 homeN := fun T S H C => by kernel_rfl
def ds3 : List (List Int) := [[0,1,2,3]]
theorem a6k : LB 4 ds3 4 1 1 where
 len := rfl
 n1 := by decide
 w1 := by decide
 d1 := by decide
 r1 := by decide
 width := by decide
 nodup := by decide
 rng := by decide
 check := ⟨1,by kernel_rfl⟩
 checkR := ⟨1,by kernel_rfl⟩
 home := fun T S => by kernel_rfl
 homeN := fun T S H C => by kernel_rfl
def ds4 : List (List Int) := [[0,1,2,3,4]]
theorem a6l : LB 5 ds4 5 1 1 where
 len := rfl
 n1 := by decide
 w1 := by decide
 d1 := by decide
 r1 := by decide
 width := by decide
 nodup := by decide
 rng := by decide
 check := ⟨1,by kernel_rfl⟩
 checkR := ⟨1,by kernel_rfl⟩
 home := fun T S => by kernel_rfl
 homeN := fun T S H C => by kernel_rfl
def ds5 : List (List Int) := [[1,4,7,10],[0,4,5,6],[3,4,9,11],[2,4,8,12],[0,1,2,3],[1,6,9,12],[1,5,8,11],[0,10,11,12],[3,6,8,10],[2,5,9,10],[0,7,8,9],[2,6,7,11],[3,5,7,12]]
theorem a6m : LB 13 ds5 4 13 4 where
 len := rfl
 n1 := by decide
 w1 := by decide
 d1 := by decide
 r1 := by decide
 width := by decide
 nodup := by decide
 rng := by decide
 check := ⟨1,by kernel_rfl⟩
 checkR := ⟨1,by kernel_rfl⟩
 home := fun T S => by kernel_rfl
 homeN := fun T S H C => by kernel_rfl
def ds6 : List (List Int) := [[0,1,2,3,4],[0,1,2,3,5],[0,1,2,3,6],[0,1,2,4,5],[0,1,2,4,6],[0,1,2,5,6],[0,1,3,4,5],[0,1,3,4,6],[0,1,3,5,6],[0,1,4,5,6],[0,2,3,4,5],[0,2,3,4,6],[0,2,3,5,6],[0,2,4,5,6],[0,3,4,5,6],[1,2,3,4,5],[1,2,3,4,6],[1,2,3,5,6],[1,2,4,5,6],[1,3,4,5,6],[2,3,4,5,6]]
theorem a6n : LB 7 ds6 5 21 15 where
 len := rfl
 n1 := by decide
 w1 := by decide
 d1 := by decide
 r1 := by decide
 width := by decide
 nodup := by decide
 rng := by decide
 check := ⟨10,by kernel_rfl⟩
 checkR := ⟨10,by kernel_rfl⟩
 home := fun T S => by kernel_rfl
 homeN := fun T S H C => by kernel_rfl
theorem cmp0 : yo.f 1500 5 4 = some (5,ds0) := by kernel_rfl
theorem a5M : yo.f 1500 6 4 = some (6,ds1) := by kernel_rfl
theorem a5N : yo.f 1500 6 5 = some (6,ds2) := by kernel_rfl
theorem a5O : yo.f 1500 4 4 = some (4,ds3) := by kernel_rfl
theorem a5P : yo.f 1500 5 5 = some (5,ds4) := by kernel_rfl
theorem a5Q : yA.f 1500 3 = some (13,ds5) := by kernel_rfl
theorem a5R : yo.f 1500 7 5 = some (7,ds6) := by kernel_rfl
end Go.Proofs.YtjonnfmoocijlaaGreat.P
