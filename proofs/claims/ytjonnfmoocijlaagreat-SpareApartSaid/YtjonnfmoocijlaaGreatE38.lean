/- Texts of a claim, packed. -/
import Derived.Lib.Overlaps
import Derived.Lib.AppendZerosOnto
import Derived.Laws.NewBlocks
import Derived.Test.YtjonnfmoocijlaaGreatE37
set_option linter.all false
namespace Go.Proofs.YtjonnfmoocijlaaGreat.P
open Go.RowKit Go.Proofs.YtjonnfmoocijlaaGreatKW.PrintWords Go.Proofs.YtjonnfmoocijlaaGreatKW.PrintLast Go.Proofs.YtjonnfmoocijlaaGreatKW.PrintMore
theorem Im (W : World) (ty : TypeId) (b o dLen dCap : Nat) (ad : Addr) (sLen sCap : Nat) (cs : List Value) (hn : cs.length = Nat.min sLen dLen * 4)
    (hsrc : ∀ j v,cs[j]? = some v → W.cell? (ad.add j) = some v) (hc : ∀ j,j < cs.length → (W.cell? ⟨b,o + j,none⟩).isSome = true) (hf : ∀ j,j < cs.length → W.frozen? ⟨b,o + j,none⟩ = false) (h1 : ∀ v ∈ cs,v.oneCell' = true) :
    (Builtin.copy_ #[31,31] ty #[.slice (some ⟨b,o,none⟩) dLen dCap,.slice (some ad) sLen sCap]).run Tryz.prog W = .ok (goInt (Nat.min sLen dLen)) (W.setCells b o cs) := by
  have hl := run_loadCells_list (P := Tryz.prog) W ad cs hsrc
  have hst := run_storeCells_cells (P := Tryz.prog) b o cs 0 W (by simpa using hc) (by simpa using hf) h1
  have hz : ∀ w,(sizeOf 60).run Tryz.prog w = .ok 4 w := Tryz.sizeOf60
  simp [Builtin.copy_,run_underlying Tryz.underlying31,Builtin.lenOf,Builtin.firstCells,hz,← hn,hl,hst]
theorem NV {ops : Array Oper} {o : Oper} {a : Act} {w : World} {K : Act → World → Prop} {Q : Exit → Act → World → Prop} {E : Prop}
    (hg : o.guard = none) (d x : Operand) (dT sT : TypeId) (hop : o.op = Op.call { callee := Callee.builtin Builtin.copy,args := #[d,x],argTypes := #[dT,sT] })
    (v u : Value) (hd : a.eval d = v) (hx : a.eval x = u) {v' : Value} {w' : World} (hr : (Builtin.copy_ #[dT,sT] o.type #[v,u]).run Tryz.prog w = .ok v' w') (hK : K (a.put o.dst v') w') :
    if Region.wanted o (yielded ops a.tmps) = true then Oper.wp Tryz.prog o a w K Q else E := by
  have hw : Region.wanted o (yielded ops a.tmps) = true := by simp [Region.wanted,hg]
  rw [if_pos hw]
  unfold Oper.wp
  simp [execOp,hop,resolve,invoke,builtin,hd,hx,hr,Result.andThen]
  exact hK
theorem Q3 (w : World) {ops : Array Oper} {rest : List Oper} {o : Oper} {a : Act} {Q : Exit → Act → World → Prop} (hgd : o.guard = none) (d s : Operand) (t t' : TypeId)
    (ho : o.op = .call { callee := .builtin .copy,args := #[d,s],argTypes := #[t,t'] }) (v u : Value) (hd : a.eval d = v) (hs : a.eval s = u) {v' : Value} {w' : World}
    (hr : (Builtin.copy_ #[t,t'] o.type #[v,u]).run Tryz.prog w = .ok v' w') (h : wpList Tryz.prog ops Q rest (a.put o.dst v') w') : wpList Tryz.prog ops Q (o :: rest) a w := by
  refine wpList_plain hgd fun K hK => ?_
  unfold Oper.wp execOp
  simp only [ho,resolve,invoke,builtin,Sem.run_bind,Sem.run_pure,Result.andThen_ok,List.map_toArray,List.map_cons,List.map_nil,hd,hs,hr]
  exact hK _ _ h
theorem wr1 {i : Nat} (h : i < 4398046511105) : wrap64 ((i : Int) + 1) = (i : Int) + 1 := ww (by omega) (by omega)
theorem a5m {i : Nat} (h : i < 4398046511105) : IntKind.i64.wrap ((i : Int) + 1) = (i : Int) + 1 := by rw [IntKind.wrap_i64];omega
theorem wr2 {n i : Nat} (h : n < 4398046511104) (hi : i < n) : wrap64 ((n : Int) + 1 - (i : Int)) = (n : Int) + 1 - (i : Int) := ww (by omega) (by omega)
theorem wr2' {n i : Nat} (h : n < 4398046511104) (hi : i < n) : IntKind.i64.wrap ((n : Int) + 1 - (i : Int)) = (n : Int) + 1 - (i : Int) := by rw [IntKind.wrap_i64];omega
theorem OZ {w : World} {g t : Nat} {cs : Array Value} (h : w.heap[g]? = some (.cells cs t (0,0))) : w.shape? g = some (t,cs.size) := by simp [World.shape?,h]
theorem NS {w : World} {g : Nat} {cur : Array Value} {l : List AP} {cap : Nat} (hh : w.heap[g]? = some (.cells cur 60 (0,0))) (h1 : l.length ≤ cap) (h3 : cur.size = cap * 4) (h4 : cur.toList.take (l.length * 4) = AR l) (j : Nat) (v : Value) (hj : (AR l)[j]? = some v) : w.cell? ⟨g,j,none⟩ = some v := by
 rw [yx hh,← hj,← h4,List.getElem?_take,if_pos,Array.getElem?_toList]
 have := (List.getElem?_eq_some_iff.1 hj).1
 rwa [El] at this
set_option maxHeartbeats 1000000 in
set_option maxRecDepth 100000 in
theorem PL (g cap vb vc i n : Nat) (cur curv : Array Value) (l vs : List AP) (w : World) (hi : i < n) (hroom : n + 1 ≤ cap) (hc63 : cap ≤ 9223372036854775807) (hvb : vb ≠ g) (hn : l.length = n) (hv : vs.length = 1)
    (hh : w.heap[g]? = some (.cells cur 60 (0,0))) (h3 : cur.size = cap * 4) (h4 : cur.toList.take (l.length * 4) = AR l)
    (hhv : w.heap[vb]? = some (.cells curv 60 (0,0))) (hv1 : 1 ≤ vc) (h3v : curv.size = vc * 4) (h4v : curv.toList.take (vs.length * 4) = AR vs) :
    Calls Tryz.prog 41 #[.slice (some ⟨g,0,none⟩) n cap,.int .i64 i,.slice (some ⟨vb,0,none⟩) 1 vc] w fun e w' =>
      e = .returned (.slice (some ⟨g,0,none⟩) (n + 1) cap) ∧ w' = (w.drew.setCells g ((i + 1) * 4) (AR (l.drop i))).setCells g (i * 4) (AR vs) := by
  have hov : ∀ lb cb,(callFunc 65 #[.slice (some ⟨vb,0,none⟩) 1 vc,.slice (some ⟨g,(i + 1) * 4,none⟩) lb cb]).run Tryz.prog w = .ok (.value (.bool false)) w := fun lb cb => by
    rw [run_callFunc_extern Tryz.func65 (by kernel_rfl) (by kernel_rfl) (by kernel_rfl) (e := Extern.SlicesOverlaps.overlaps #[31,31] #[4]) (by kernel_rfl),
      Lib.run_overlaps_apart w 31 4 60 Tryz.underlying31 4 Tryz.sizeOf60 ⟨vb,0,none⟩ ⟨g,(i + 1) * 4,none⟩ 1 vc lb cb hvb _ _ _ _ (OZ hhv) (OZ hh) (by omega) (zy hhv _) (zy hhv _)]
    rfl
  have hdl : (AR (l.drop i)).length = (n - i) * 4 := by rw [El,List.length_drop,hn]
  have hvl : (AR vs).length = 4 := by rw [El,hv]
  have hcp1 : ∀ ty dc sc,(Builtin.copy_ #[31,31] ty #[.slice (some ⟨g,(i + 1) * 4,none⟩) (n - i) dc,.slice (some ⟨g,i * 4,none⟩) (n + 1 - i) sc]).run Tryz.prog w.drew = .ok (goInt (Nat.min (n + 1 - i) (n - i))) (w.drew.setCells g ((i + 1) * 4) (AR (l.drop i))) := fun ty dc sc =>
    Im w.drew ty g ((i + 1) * 4) (n - i) dc ⟨g,i * 4,none⟩ (n + 1 - i) sc (AR (l.drop i)) (by rw [hdl];simp only [Nat.min_def];split <;> omega)
      (fun j v hj => by rw [Addr.add_lit];exact NS (w := w) hh (by omega) h3 h4 (i * 4 + j) v (by rwa [JW,List.getElem?_drop] at hj))
      (fun j hj => by show (w.cell? _).isSome = true;rw [yx hh,Array.getElem?_eq_getElem (by omega)];rfl) (fun j hj => zy (w := w) hh _) (fun v hv => Jp v _ hv)
  obtain ⟨W1,hW1⟩ : ∃ W1,W1 = w.drew.setCells g ((i + 1) * 4) (AR (l.drop i)) := ⟨_,rfl⟩
  obtain ⟨aa,k1,k2,k3⟩ := Dt g 60 (AR (l.drop i)) ((i + 1) * 4) w.drew cur hh (by omega)
  rw [← hW1] at k1
  have hv2 : W1.heap[vb]? = some (.cells curv 60 (0,0)) := by
    rw [hW1,(Du g (AR (l.drop i)) ((i + 1) * 4) w.drew).block vb (ED hhv) (by simpa using hvb)]
    exact hhv
  have hcp2 : ∀ ty dc,(Builtin.copy_ #[31,31] ty #[.slice (some ⟨g,i * 4,none⟩) (n + 1 - i) dc,.slice (some ⟨vb,0,none⟩) 1 vc]).run Tryz.prog W1 = .ok (goInt (Nat.min 1 (n + 1 - i))) (W1.setCells g (i * 4) (AR vs)) := fun ty dc =>
    Im W1 ty g (i * 4) (n + 1 - i) dc ⟨vb,0,none⟩ 1 vc (AR vs) (by rw [hvl];simp only [Nat.min_def];split <;> omega)
      (fun j v hj => by rw [Addr.add_lit,Nat.zero_add];exact NS hv2 (by omega) h3v h4v j v hj)
      (fun j hj => by rw [yx k1,Array.getElem?_eq_getElem (by omega)];rfl) (fun j hj => zy k1 _) (fun v hv => Jp v _ hv)
  rw [← hW1] at hcp1 ⊢
  have HW1 := yf.mk hW1
  clear hW1 k1 k2 k3 hv2 hdl hvl hh hhv h3 h4 h3v h4v
  have t1 : ((i : Int) == (n : Int)) = false := by simp;omega
  have t2 : decide ((cap : Int) < (n : Int) + 1) = false := decide_eq_false (by omega)
  have hw1 : wrap64 ((i : Int) + 1) = (i : Int) + 1 := ww (by omega) (by omega)
  have hw3 : IntKind.i64.wrap ((i : Int) + 1) = (i : Int) + 1 := by rw [IntKind.wrap_i64];omega
  have hw2 : wrap64 ((n : Int) + 1) = (n : Int) + 1 := ww (by omega) (by omega)
  have hz2 : ¬ ((i : Int) = (n : Int)) := by omega
  have hb1 : (0 : Int) ≤ (i : Int) + 1 := by omega
  have hb1' : (0 : Int) ≤ (n : Int) + 1 := by omega
  have hin : i ≤ n := by omega
  have htn : ((i : Int) + 1).toNat = i + 1 := by omega
  have htn' : ((n : Int) + 1).toNat = n + 1 := by omega
  have hb2 : ¬ (cap = i + 1) := by omega
  have hb3 : (i : Int) ≤ (n : Int) + 1 := by omega
  have hb3' : (i : Int) + 1 ≤ (n : Int) + 1 := by omega
  have hb4 : ¬ (cap = i) := by omega
  have hb5 : (n : Int) + 1 ≤ (cap : Int) := by omega
  go_enter Tryz.func41,Tryz.ntmps41
  go_wp2_with (simp only [hov])
  go_region_law (refine NV rfl _ _ 31 31 rfl _ _ (by simp [Act.eval,Act.put]) (by simp [Act.eval,Act.put]) (hcp1 _ _ _) ?_)
  go_wp2_with (at_builtin;refine Q3 _ rfl _ _ 31 31 rfl _ _ rfl rfl (hcp2 _ _) ?_)
  go_ret
  exact ⟨rfl,rfl⟩
set_option maxHeartbeats 1000000 in
set_option maxRecDepth 100000 in
theorem QU (g cap vb vc i n : Nat) (cur curv : Array Value) (l vs : List AP) (w : World) (hi : i < n) (hnc : n ≤ cap) (hroom : cap < n + 1) (hbig : n < 4398046511104) (hn : l.length = n) (hv : vs.length = 1)
    (hh : w.heap[g]? = some (.cells cur 60 (0,0))) (h3 : cur.size = cap * 4) (h4 : cur.toList.take (l.length * 4) = AR l)
    (hhv : w.heap[vb]? = some (.cells curv 60 (0,0))) (hv1 : 1 ≤ vc) (h3v : curv.size = vc * 4) (h4v : curv.toList.take (vs.length * 4) = AR vs) :
    Calls Tryz.prog 41 #[.slice (some ⟨g,0,none⟩) n cap,.int .i64 i,.slice (some ⟨vb,0,none⟩) 1 vc] w fun e w' =>
      ∃ G row,e = .returned (.slice (some ⟨w.heap.size,0,none⟩) (n + 1) G) ∧ n + 1 ≤ G ∧ G ≤ maxLen ∧ row.size = G * 4 ∧ row.toList.take (i * 4) = AR (l.take i) ∧
        w' = ((w.drew.alloc (.cells row 60)).setCells w.heap.size (i * 4) (AR vs)).drew.setCells w.heap.size ((i + 1) * 4) (AR (l.drop i)) := by
  obtain ⟨i0,hi0,hzz⟩ := Option.map_eq_some_iff.1 J8
  simp only [Prod.mk.injEq] at hzz
  obtain ⟨hz0,hz1,hz2⟩ := hzz
  have hzc : (Value.agg #[(.int .i64 0),(.int .i64 0),(.int .i64 0),(.int .i64 0)]).cells.size = 4 := rfl
  have hdl : (AR (l.drop i)).length = (n - i) * 4 := by rw [El,List.length_drop,hn]
  have hvl : (AR vs).length = 4 := by rw [El,hv]
  have htl : (AR (l.take i)).length = i * 4 := by rw [El,List.length_take,hn,Nat.min_eq_left (by omega)]
  have hat : ∀ j v,(AR l)[j]? = some v → w.cell? ⟨g,j,none⟩ = some v := fun j v hj => NS (w := w) hh (by omega) h3 h4 j v hj
  have hgw : g < w.heap.size := ED hh
  have hvw : vb < w.heap.size := ED hhv
  have hold : (Builtin.firstCells i0.size i (.slice (some ⟨g,0,none⟩) i cap)).run Tryz.prog w.drew = .ok (AR (l.take i)).toArray w.drew := by
    rw [hz1]
    exact run_firstCells_some w.drew 4 i ⟨g,0,none⟩ i cap (AR (l.take i)) htl (fun j v hj => by
      rw [Addr.add_lit,Nat.zero_add]
      refine hat j v ?_
      rw [Nr,List.getElem?_take] at hj
      split at hj
      · exact hj
      · cases hj)
  have hrz := fun ty => Lib.run_append_grow_zeros (P := Tryz.prog) w 31 3 ty 60 i0 _ .i64 .i64 Tryz.underlying31 Tryz.underlying3 hi0 hz0 (some ⟨g,0,none⟩) i cap (AR (l.take i)) hold (n + 1 - i) (by omega) (by omega) (by omega) (by omega) (by rw [hz2];omega) (by rw [hz2];exact growslice_fits (by omega) (by omega))
  have hik : i + (n + 1 - i) = n + 1 := by omega
  rw [hik] at hrz
  have hkk : ((n + 1 - i : Nat) : Int) = (n : Int) + 1 - (i : Int) := by omega
  rw [hkk] at hrz
  have hGn : n + 1 ≤ grownCap w (n + 1) cap 60 := grownCap_ge w _ _ _
  have hGm : grownCap w (n + 1) cap 60 ≤ maxLen := grownCap_le_maxLen w (n + 1) cap 60 (by unfold maxLen;omega)
  obtain ⟨G,hG⟩ : ∃ G,G = grownCap w (n + 1) cap 60 := ⟨_,rfl⟩
  rw [← hG] at hrz hGn hGm
  obtain ⟨ROW,hROW⟩ : ∃ ROW : Array Value,ROW = (AR (l.take i)).toArray ++ Builtin.zeroCells (Value.agg #[(.int .i64 0),(.int .i64 0),(.int .i64 0),(.int .i64 0)]).cells (n + 1 - i) ++ Builtin.zeroCells (Value.agg #[(.int .i64 0),(.int .i64 0),(.int .i64 0),(.int .i64 0)]).cells (G - (n + 1)) := ⟨_,rfl⟩
  rw [← hROW] at hrz
  have hRs : ROW.size = G * 4 := by
    rw [hROW,Array.size_append,Array.size_append,List.size_toArray,htl]
    simp only [Builtin.zeroCells,hzc,Array.size_map,Array.size_range]
    omega
  have hRt : ROW.toList.take (i * 4) = AR (l.take i) := by
    rw [hROW,Array.toList_append,Array.toList_append,List.append_assoc,List.take_left' htl]
  suffices hC : Calls Tryz.prog 41 #[.slice (some ⟨g,0,none⟩) n cap,.int .i64 i,.slice (some ⟨vb,0,none⟩) 1 vc] w fun e w' => e = .returned (.slice (some ⟨w.heap.size,0,none⟩) (n + 1) G) ∧ w' = ((w.drew.alloc (.cells ROW 60)).setCells w.heap.size (i * 4) (AR vs)).drew.setCells w.heap.size ((i + 1) * 4) (AR (l.drop i)) from hC.mono (fun e w' h => ⟨G,ROW,h.1,hGn,hGm,hRs,hRt,h.2⟩)
  obtain ⟨W1,hW1⟩ : ∃ W1,W1 = w.drew.alloc (.cells ROW 60) := ⟨_,rfl⟩
  have hN : W1.heap[w.heap.size]? = some (.cells ROW 60 (0,0)) := by
    rw [hW1]
    show (w.heap.push _)[w.heap.size]? = _
    simp
  have hO : ∀ k,k < w.heap.size → W1.heap[k]? = w.heap[k]? := fun k hk => by
    rw [hW1]
    show (w.heap.push _)[k]? = _
    rw [Array.getElem?_push,if_neg (by omega)]
  rw [← hW1] at hrz ⊢
  obtain ⟨r1,k1,k2,k3⟩ := Dt w.heap.size 60 (AR vs) (i * 4) W1 ROW hN (by omega)
  have hcpA : ∀ ty dc,(Builtin.copy_ #[31,31] ty #[.slice (some ⟨w.heap.size,i * 4,none⟩) (n + 1 - i) dc,.slice (some ⟨vb,0,none⟩) 1 vc]).run Tryz.prog W1 = .ok (goInt (Nat.min 1 (n + 1 - i))) (W1.setCells w.heap.size (i * 4) (AR vs)) := fun ty dc =>
    Im W1 ty w.heap.size (i * 4) (n + 1 - i) dc ⟨vb,0,none⟩ 1 vc (AR vs) (by rw [hvl];simp only [Nat.min_def];split <;> omega)
      (fun j v hj => by rw [Addr.add_lit,Nat.zero_add];exact NS ((hO vb hvw).trans hhv) (by omega) h3v h4v j v hj)
      (fun j hj => by rw [yx hN,Array.getElem?_eq_getElem (by omega)];rfl) (fun j hj => zy hN _) (fun v hv => Jp v _ hv)
  obtain ⟨W2,hW2⟩ : ∃ W2,W2 = W1.setCells w.heap.size (i * 4) (AR vs) := ⟨_,rfl⟩
  rw [← hW2] at hcpA k1 ⊢
  have hO2 : W2.heap[g]? = some (.cells cur 60 (0,0)) := by
    rw [hW2,(Du w.heap.size (AR vs) (i * 4) W1).block g (by rw [hW1];show g < (w.heap.push _).size;rw [Array.size_push];omega) (by simp;omega),hO g hgw]
    exact hh
  have hcpB : ∀ ty dc sc,(Builtin.copy_ #[31,31] ty #[.slice (some ⟨w.heap.size,(i + 1) * 4,none⟩) (n - i) dc,.slice (some ⟨g,i * 4,none⟩) (n - i) sc]).run Tryz.prog W2.drew = .ok (goInt (Nat.min (n - i) (n - i))) (W2.drew.setCells w.heap.size ((i + 1) * 4) (AR (l.drop i))) := fun ty dc sc =>
    Im W2.drew ty w.heap.size ((i + 1) * 4) (n - i) dc ⟨g,i * 4,none⟩ (n - i) sc (AR (l.drop i)) (by rw [hdl];simp only [Nat.min_def];split <;> omega)
      (fun j v hj => by rw [Addr.add_lit];exact NS (w := W2) hO2 (by omega) h3 h4 (i * 4 + j) v (by rwa [JW,List.getElem?_drop] at hj))
      (fun j hj => by show (W2.cell? _).isSome = true;rw [yx k1,Array.getElem?_eq_getElem (by omega)];rfl) (fun j hj => zy (w := W2) k1 _) (fun v hv => Jp v _ hv)
  obtain ⟨W3,hW3⟩ : ∃ W3,W3 = W2.drew.setCells w.heap.size ((i + 1) * 4) (AR (l.drop i)) := ⟨_,rfl⟩
  rw [← hW3] at hcpB ⊢
  obtain ⟨N,hNN⟩ : ∃ N,w.heap.size = N := ⟨_,rfl⟩
  rw [hNN] at hrz hcpA hcpB ⊢
  have HA := yf.mk hRs
  have HB := yf.mk hRt
  have HC := yf.mk hGm
  have hG63 : G ≤ 9223372036854775807 := hGm
  clear hW1 hW2 hW3 hN hO k1 k2 k3 hO2 hdl hvl htl hat hh hhv h3 h4 h3v h4v hold hRs hRt hROW hG hkk hik hGm hgw hvw
  have hb1 : (0 : Int) ≤ (i : Int) + 1 := by omega
  have hin : i ≤ n := Nat.le_of_lt hi
  have hin1 : i ≤ n + 1 := Nat.le_succ_of_le hin
  have hic : i ≤ cap := Nat.le_trans hin hnc
  have htn : ((i : Int) + 1).toNat = i + 1 := by omega
  have hb5 : (i : Int) ≤ (n : Int) := Int.ofNat_le.2 hin
  have hb3 : (i : Int) ≤ (n : Int) + 1 := Int.le_trans hb5 (Int.le_of_lt (Int.lt_succ _))
  have hb3' : (i : Int) + 1 ≤ (n : Int) + 1 := Int.add_le_add_right hb5 1
  have t2 : decide ((cap : Int) < (n : Int) + 1) = true := decide_eq_true (Int.ofNat_lt.2 hroom)
  have hil : i < 4398046511105 := Nat.lt_trans hi (Nat.lt_succ_of_lt hbig)
  have hnl : n < 4398046511105 := Nat.lt_succ_of_lt hbig
  have hw1 := wr1 hil
  have hw3 := a5m hil
  have hw2 := wr1 hnl
  have hw2' := a5m hnl
  have hw4 := wr2 hbig hi
  have hw4' := wr2' hbig hi
  clear hil hnl
  have hz2 : ¬ ((i : Int) = (n : Int)) := fun h => Nat.ne_of_lt hi (Int.ofNat.inj h)
  have t1 : ((i : Int) == (n : Int)) = false := beq_false_of_ne hz2
  have hGi : ¬ (G = i) := Nat.ne_of_gt (Nat.lt_of_lt_of_le (Nat.lt_succ_of_lt hi) hGn)
  have hGim : ¬ (G = i + 1) := Nat.ne_of_gt (Nat.lt_of_lt_of_le (Nat.succ_lt_succ hi) hGn)
  have hb4 : ¬ (cap = i) := Nat.ne_of_gt (Nat.lt_of_lt_of_le hi hnc)
  replace hrz := yf.mk hrz
  replace hcpA := yf.mk hcpA
  replace hcpB := yf.mk hcpB
  clear hzc hz0 hz1 hi0 hbig hG63 hnc hroom hn hv hNN hi
  go_enter Tryz.func41,Tryz.ntmps41
  go_wp2_with (first
    | ((with_reducible refine Bf (b := .append) (xs := #[.tmp 34,.tmp 39]) rfl ?_);at_builtin;refine Lib.wpList_append_run _ rfl _ _ _ _ rfl _ _ rfl rfl _ _ (hrz.out _) ?_))
  rw [hcpA.out]
  go_wp2
  replace hcpB := hcpB.out
  go_region_law (refine NV rfl _ _ 31 31 rfl _ _ (by simp [Act.eval,Act.put]) (by simp [Act.eval,Act.put]) (hcpB _ _ _) ?_)
  go_wp2
  go_ret
  exact ⟨rfl,rfl⟩
set_option maxHeartbeats 1000000 in
set_option maxRecDepth 100000 in
theorem SV (Ig : Nat → Prop) (u : Value) (l vs : List AP) (A2 : Option Addr) (c2 : Nat) (w0 w : World) (hB : Below w0.heap.size w0 w) (ho0 : Kd.R DN 60 w w0.heap.size Ig u l)
    (hr2 : Kd.C DN w A2 vs.length vs) (ha2 : ∀ k,(Value.slice A2 vs.length c2).ownBlock = some k → ¬ Ig k) (hv : vs.length = 1) (hl : l.length < 4398046511104) :
    Calls Tryz.prog 41 #[u,.int .i64 (l.length : Int),.slice A2 vs.length c2] w fun e w' => ∃ G7 : Value,e = .returned G7 ∧ Kd.R DN 60 w' w0.heap.size (fun k_ => (Ig k_ ∨ w.heap.size ≤ k_)) G7 (l ++ vs) ∧ Below w0.heap.size w0 w' ∧ Kept w w' (fun k_ => Ig k_) := by
  have HR2 := yf.mk hr2
  have HB := yf.mk hB
  have HO := yf.mk ho0
  have HL := yf.mk hl
  have HV := yf.mk hv
  have hvi : ((vs.length : Nat) : Int) = 1 := by omega
  have HOm := yf.mk (Kd.zf ho0 (ok' := fun k_ => (Ig k_ ∨ w.heap.size ≤ k_)) (fun k h => .inl h))
  have HF := yf.mk ho0.1
  rcases I8 ho0 with ⟨hu,hl0⟩ | ⟨g,cap,cur,hu,hP,hb,hh,h1,h2,h3,h4⟩
  · obtain ⟨n,hn⟩ : ∃ n,l.length = n := ⟨_,rfl⟩
    have hn0 : n = 0 := by rw [← hn,hl0];rfl
    have HN := yf.mk hn
    rw [hn,hn0]
    subst hu
    clear hr2 hB ho0 hl hl0 hn hn0
    rw [hv]
    go_enter Tryz.func41,Tryz.ntmps41
    go_wp2_with (first
      | ((with_reducible refine Bf (b := .append) (xs := #[.tmp 23,.tmp 24]) rfl ?_);at_builtin;refine Kd.Hg DN (w0 := w0) w0.heap.size rfl (.tmp 23) (.tmp 24) 31 60 (.agg #[(.int .i64 0),(.int .i64 0),(.int .i64 0),(.int .i64 0)]) 32 rfl Tryz.underlying31 J8 rfl (by decide) (by omega) _ l vs A2 1 c2 (fun k_ => (Ig k_ ∨ w.heap.size ≤ k_)) (fun _ => False) rfl rfl HOm.out (by have := HR2.out;rw [HV.out] at this;exact this) (fun _ _ h => h) (fun _ h => h.elim) (fun _ h => .inr h) HB.out HB.out.size (by have := HL.out;omega) ?_;intro v1 w1 ho hb hg hat;have HO1 := yf.mk ho;have HB1 := yf.mk hb;have Yk := yf.mk hg;clear ho hb hg hat))
    go_ret
    exact ⟨_,rfl,HO1.out,HB1.out,⟨Yk.out.size,fun j hj hn => Yk.out.block j hj (fun e => hn (HF.out _ e.symm))⟩⟩
  · subst hu
    obtain ⟨n,hn⟩ : ∃ n,l.length = n := ⟨_,rfl⟩
    rw [hn] at HOm HF h1 ⊢
    have HN := yf.mk hn
    have hcap : cap ≤ 9223372036854775807 := h2
    clear hr2 hB ho0 hl hn hP hb hh h3 h4 h2
    rw [hv]
    by_cases hc : cap = n
    all_goals
      go_enter Tryz.func41,Tryz.ntmps41
      go_wp2_with (first
        | ((with_reducible refine Bf (b := .append) (xs := #[.tmp 23,.tmp 24]) rfl ?_);at_builtin;refine Kd.Hg DN (w0 := w0) w0.heap.size rfl (.tmp 23) (.tmp 24) 31 60 (.agg #[(.int .i64 0),(.int .i64 0),(.int .i64 0),(.int .i64 0)]) 32 rfl Tryz.underlying31 J8 rfl (by decide) (by omega) _ l vs A2 1 c2 (fun k_ => (Ig k_ ∨ w.heap.size ≤ k_)) (fun _ => False) rfl rfl HOm.out (by have := HR2.out;rw [HV.out] at this;exact this) (fun _ _ h => h) (fun _ h => h.elim) (fun _ h => .inr h) HB.out HB.out.size (by have := HL.out;omega) ?_;intro v1 w1 ho hb hg hat;have HO1 := yf.mk ho;have HB1 := yf.mk hb;have Yk := yf.mk hg;clear ho hb hg hat))
      go_ret
      exact ⟨_,rfl,HO1.out,HB1.out,⟨Yk.out.size,fun j hj hn => Yk.out.block j hj (fun e => hn (HF.out _ e.symm))⟩⟩
def CL.f (l : List AP) (i : Int) (vs : List AP) : Option (List AP) :=
 if vs.length = 1 ∧ 0 ≤ i ∧ i.toNat ≤ l.length ∧ l.length < 4398046511104 then some (l.take i.toNat ++ vs ++ l.drop i.toNat) else none
theorem QT (X A B C D : List Value) (p q r : Nat) (ha : A.length = p) (hb : B.length = q) (hc : C.length = r) (hX : X = A ++ B ++ (C ++ D)) : X.take (p + q + r) = A ++ B ++ C := by
 subst hX
 rw [← List.append_assoc,List.take_left' (by simp only [List.length_append];omega)]
theorem Uk (l vs : List AP) (i : Nat) : AR (l.take i ++ vs ++ l.drop i) = AR (l.take i) ++ AR vs ++ AR (l.drop i) := by rw [Kq,Kq]
theorem JX (w : World) (row : Option Nat) : w.grownBy w.drew row := ⟨rfl,rfl,rfl,Nat.le_refl _,fun _ _ _ => rfl⟩
theorem SF (w : World) (o : Obj) (vs : List Value) (j : Nat) : w.grownBy ((w.drew.alloc o).setCells w.heap.size j vs) (some w.heap.size) :=
 (JX w _).trans <| World.grownBy.trans (World.grownBy_alloc w.drew o (some w.heap.size)) (Du w.heap.size vs j _)
theorem CL.calls (Ig : Nat → Prop) (EK : Value) (l0 : List AP) (a1 : Int) (A2 : Option Addr) (c2 : Nat) (l2 : List AP) (r : List AP) (w0 w : World) (hB : Below w0.heap.size w0 w) (ho0 : Kd.R DN 60 w w0.heap.size Ig EK l0)
    (hr2 : ∃ b_ aa,Kd.R DN 60 w b_ aa (.slice A2 l2.length c2) l2 ∧ ∀ k,(Value.slice A2 l2.length c2).ownBlock = some k → aa k → ¬ Ig k) (hc2 : l2.length ≤ c2) (h : CL.f l0 a1 l2 = some r) :
    Calls Tryz.prog 41 #[EK,.int .i64 a1,.slice A2 l2.length c2] w fun e w' => ∃ G7 : Value,e = .returned G7 ∧ Kd.R DN 60 w' w0.heap.size (fun k_ => (Ig k_ ∨ w.heap.size ≤ k_)) G7 r ∧ Below w0.heap.size w0 w' ∧ Kept w w' (fun k_ => Ig k_) := by
  unfold CL.f at h
  split at h
  case isFalse => cases h
  rename_i hc
  obtain ⟨hv,ha0,ha1,hl⟩ := hc
  obtain rfl := Option.some.inj h
  obtain ⟨b_,aa,hR2,hne⟩ := hr2
  have hne' : ∀ k,(Value.slice A2 l2.length c2).ownBlock = some k → ¬ Ig k := fun k hk => hne k hk (hR2.1 k hk)
  obtain ⟨i,rfl⟩ : ∃ i : Nat,a1 = (i : Int) := ⟨a1.toNat,by omega⟩
  rw [Int.toNat_natCast] at ha1 ⊢
  rcases Nat.eq_or_lt_of_le ha1 with rfl | hi
  · have := SV Ig EK l0 l2 A2 c2 w0 w hB ho0 (Kd.zb hR2).2.2 hne' hv hl
    rwa [List.take_of_length_le (Nat.le_refl _),List.drop_of_length_le (Nat.le_refl _),List.append_nil]
  have hvl : (AR l2).length = 4 := by rw [El,hv]
  have htl : (AR (l0.take i)).length = i * 4 := by rw [El,List.length_take,Nat.min_eq_left (by omega)]
  have hdl : (AR (l0.drop i)).length = (l0.length - i) * 4 := by rw [El,List.length_drop]
  have hrl : (l0.take i ++ l2 ++ l0.drop i).length = l0.length + 1 := by simp only [List.length_append,List.length_take,List.length_drop,hv];omega
  rcases I8 ho0 with ⟨rfl,rfl⟩ | ⟨g,cap,cur,rfl,hP,hb,hh,h1,h2,h3,h4⟩
  · simp at hi
  rcases I8 hR2 with ⟨h9,rfl⟩ | ⟨vb,vc,curv,h9,hokv,hbv,hhv,h1v,h2v,h3v,h4v⟩
  · simp at hv
  injection h9 with h9 _ h10
  subst h9;subst h10
  have hvb : vb ≠ g := fun e => hne' vb rfl (e ▸ hP)
  rcases Nat.lt_or_ge cap (l0.length + 1) with hroom | hroom
  · have hC := QU g cap vb c2 i l0.length cur curv l0 l2 w hi h1 hroom hl rfl hv hh h3 h4 hhv (by omega) h3v h4v
    rw [hv]
    refine hC.mono ?_
    rintro e w' ⟨G,row,rfl,hG1,hG2,hrs,hrt,rfl⟩
    obtain ⟨c1,k1,k2,k3⟩ := Dt w.heap.size 60 (AR l2) (i * 4) (w.drew.alloc (.cells row 60)) row (by show (w.heap.push _)[w.heap.size]? = _;simp) (by rw [hvl,hrs];omega)
    obtain ⟨c2,k4,k5,k6⟩ := Dt w.heap.size 60 (AR (l0.drop i)) ((i + 1) * 4) ((w.drew.alloc (.cells row 60)).setCells w.heap.size (i * 4) (AR l2)).drew c1 k1 (by rw [hdl,k2,hrs];omega)
    have hg : w.grownBy ((((w.drew.alloc (.cells row 60)).setCells w.heap.size (i * 4) (AR l2)).drew).setCells w.heap.size ((i + 1) * 4) (AR (l0.drop i))) (some w.heap.size) :=
      (SF w _ _ _).trans <| (JX _ _).trans <| (Du w.heap.size _ _ _)
    have hrow := PO (w := _) (base := w0.heap.size) (ok := fun k_ => (Ig k_ ∨ w.heap.size ≤ k_)) (l := l0.take i ++ l2 ++ l0.drop i) (cap := G) (.inr (Nat.le_refl _)) hB.size k4 (by rw [hrl];exact hG1) hG2 (by rw [k5,k2,hrs]) (by
      rw [hrl,Uk,show (l0.length + 1) * 4 = i * 4 + 4 + (l0.length - i) * 4 by omega]
      refine QT _ _ _ _ (c1.toList.drop ((i + 1) * 4 + (AR (l0.drop i)).length)) _ _ _ htl hvl hdl ?_
      rw [k6,k3,← hrt,List.append_assoc,List.take_left' (by simp only [List.length_append,List.length_take,Array.length_toList,hvl,hrs];omega),List.append_assoc])
    rw [hrl] at hrow
    exact ⟨_,rfl,hrow,hB.grown hg hB.size (fun k hk => by injection hk with hk;subst hk;exact hB.size),⟨hg.size,fun j hj hn => hg.block j hj (fun e => by injection e with e;omega)⟩⟩
  · have hC := PL g cap vb c2 i l0.length cur curv l0 l2 w hi hroom h2 hvb rfl hv hh h3 h4 hhv (by omega) h3v h4v
    rw [hv]
    refine hC.mono ?_
    rintro e w' ⟨rfl,rfl⟩
    obtain ⟨c1,k1,k2,k3⟩ := Dt g 60 (AR (l0.drop i)) ((i + 1) * 4) w.drew cur hh (by rw [hdl,h3];omega)
    obtain ⟨c2,k4,k5,k6⟩ := Dt g 60 (AR l2) (i * 4) _ c1 k1 (by rw [hvl,k2,h3];omega)
    have hg : w.grownBy ((w.drew.setCells g ((i + 1) * 4) (AR (l0.drop i))).setCells g (i * 4) (AR l2)) (some g) :=
      (JX w _).trans <| (Du g _ _ _).trans <| (Du g _ _ _)
    have hrow := PO (w := _) (base := w0.heap.size) (ok := fun k_ => (Ig k_ ∨ w.heap.size ≤ k_)) (l := l0.take i ++ l2 ++ l0.drop i) (cap := cap) (.inl hP) hb k4 (by rw [hrl];exact hroom) h2 (by rw [k5,k2,h3]) (by
      rw [hrl,Uk,show (l0.length + 1) * 4 = i * 4 + 4 + (l0.length - i) * 4 by omega]
      refine QT _ _ _ _ (cur.toList.drop ((i + 1) * 4 + (AR (l0.drop i)).length)) _ _ _ htl hvl hdl ?_
      rw [k6,k3,hvl,List.append_assoc (cur.toList.take _),List.take_append_of_le_length (by simp only [List.length_take,Array.length_toList,h3];omega),List.take_take,Nat.min_eq_left (by omega),Nr,← h4,List.take_take,Nat.min_eq_left (by omega),List.drop_left' (by simp only [List.length_take,Array.length_toList,h3];omega)])
    rw [hrl] at hrow
    exact ⟨_,rfl,hrow,hB.grown hg hB.size (fun k hk => by injection hk with hk;subst hk;exact hb),⟨hg.size,fun j hj hn => hg.block j hj (fun e => by injection e with e;exact hn (e ▸ hP))⟩⟩
end Go.Proofs.YtjonnfmoocijlaaGreat.P
