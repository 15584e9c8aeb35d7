/- Texts of a claim, packed. -/
import Derived.Test.YtjonnfmoocijlaaProg
import Derived.Test.YtjonnfmoocijlaaC3
set_option linter.all false
namespace Go.Proofs.YtjonnfmoocijlaaKW.PrintWords
open Go.RowKit
theorem bE {α β : Type} {x : Option α} {f : α → Option β} {r : β} (h : x.bind f = some r) : ∃ a, yf (x = some a) ∧ f a = some r := by
 obtain ⟨a, h1, h2⟩ := Option.bind_eq_some_iff.mp h
 exact ⟨a, ⟨h1⟩, h2⟩
theorem cB {w W : World} {a : Addr} {v : Value} (HB : yf (Below w.heap.size w W)) (h : w.cell? a = some v) : W.cell? a = some v := (HB.out.cell (World.block_lt_of_cell? w _ h)).trans h
class Sa (l : List Value) (j : Nat) (v : Value) (l' : outParam (List Value)) : Prop where out : l.set j v = l'
instance Sa.z (a v : Value) (l : List Value) : Sa (a :: l) 0 v (v :: l) := ⟨rfl⟩
instance Sa.s (a v : Value) (l l' : List Value) (j : Nat) [h : Sa l j v l'] : Sa (a :: l) (j + 1) v (a :: l') := ⟨by rw [List.set_cons_succ, h.out]⟩
class Pt (W X : World) (g : Nat) (l : List Value) (l' : outParam (List Value)) : Prop where out : ∀ t, W.heap[g]? = some (.cells l.toArray t (0, 0)) → X.heap[g]? = some (.cells l'.toArray t (0, 0))
instance Pt.r (W : World) (g : Nat) (l : List Value) : Pt W W g l l := ⟨fun _ h => h⟩
instance Pt.a (W X : World) (o : Obj) (g : Nat) (l l' : List Value) [h : Pt W X g l l'] : Pt W (X.alloc o) g l l' := ⟨fun t k => kp (h.out t k)⟩
instance Pt.d (W X : World) (g : Nat) (l l' : List Value) [h : Pt W X g l l'] : Pt W X.drew g l l' := ⟨fun t k => kp (h.out t k)⟩
instance Pt.n (W X : World) (n : Nat) (g : Nat) (l l' : List Value) [h : Pt W X g l l'] : Pt W (X.drewN n) g l l' := ⟨fun t k => kp (h.out t k)⟩
instance Pt.f (W X : World) (g g' j : Nat) (v : Value) (l l' : List Value) [h : Pt W X g l l'] [k : yf (g ≠ g')] : Pt W (X.setCell ⟨g', j, none⟩ v) g l l' := ⟨fun t q => GI (h.out t q) k.out v⟩
instance Pt.s (W X : World) (g j : Nat) (v : Value) (l l' l2 : List Value) [h : Pt W X g l l'] [s : Sa l' j v l2] : Pt W (X.setCell ⟨g, j, none⟩ v) g l l2 := ⟨fun t q => by have := ML (h.out t q) j v; rwa [List.setIfInBounds_toArray, s.out] at this⟩
theorem CJ {W X : World} {g : Nat} {l l' d : List Value} {t : TypeId} (h : yf (W.heap[g]? = some (.cells l.toArray t (0, 0)))) [p : Pt W X g l l'] (e : l' = d) : X.heap[g]? = some (.cells d.toArray t (0, 0)) := e ▸ p.out t h.out
theorem bK {W X : World} {g : Nat} {l l' d : List Value} {t : TypeId} (h : yf (W.heap[g]? = some (.cells l.toArray t (0, 0)))) [p : Pt W X g l l'] (e : l' = d) : yf (X.heap[g]? = some (.cells d.toArray t (0, 0))) := ⟨CJ h e⟩
theorem bb1 {W : World} {g : Nat} {t : TypeId} {a : Value} {p : Prop} (h : yf (W.heap[g]? = some (.cells #[a] t (0, 0)))) (q : p) : W.cell? ⟨g, 0, none⟩ = some a ∧ p := ⟨bc1 h, q⟩
theorem bb2 {W : World} {g : Nat} {t : TypeId} {a b : Value} {p : Prop} (h : yf (W.heap[g]? = some (.cells #[a, b] t (0, 0)))) (q : p) : W.cell? ⟨g, 0, none⟩ = some a ∧ W.cell? ⟨g, 1, none⟩ = some b ∧ p := ⟨(bc2 h).1, (bc2 h).2, q⟩
theorem K6 {W : World} {g : Nat} {t : TypeId} {a b c d : Value} {p : Prop} (h : yf (W.heap[g]? = some (.cells #[a, b, c, d] t (0, 0)))) (q : p) : W.cell? ⟨g, 0, none⟩ = some a ∧ W.cell? ⟨g, 1, none⟩ = some b ∧ W.cell? ⟨g, 2, none⟩ = some c ∧ W.cell? ⟨g, 3, none⟩ = some d ∧ p := ⟨(AP h).1, (AP h).2.1, (AP h).2.2.1, (AP h).2.2.2, q⟩
section
open Go.Proofs.YtjonnfmoocijlaaKW.PrintLast
variable {P : Program} {ops : Array Oper} {Q : Exit → Act → World → Prop}
theorem gL {rest : List Oper} {oi : Oper} {a : Act} {w : World} (N : Option Tmp) {f : FuncId} {fn : Func} {os : Array Operand} {ts : Array TypeId} (hf : P.funcs[f]? = some fn) (args : Array Value)
 (h : Calls P f args w fun e w' => ∃ v, e = .returned v ∧ wpList P ops Q rest (a.put N v) w') (hd : oi.dst = N := by rfl) (hg : oi.guard = none := by rfl) (hop : oi.op = .call { callee := .value (.func f), args := os, argTypes := ts } := by rfl)
 (hname : (fn.name == "runtime.NumGoroutine") = false := by kernel_rfl) (hb : fn.body.isSome = true := by rfl) (hargs : os.map a.eval = args := by (try simp only [pm]); first | done | rfl) : wpList P ops Q (oi :: rest) a w := N8 N hd hg hf hname hb args hop hargs h
theorem gO {oi : Oper} {N : Option Tmp} {a : Act} {w : World} {K : Act → World → Prop} {f : FuncId} {fn : Func} {os : Array Operand} {ts : Array TypeId} (hf : P.funcs[f]? = some fn) (args : Array Value)
 (h : Calls P f args w fun e w' => ∃ v, e = .returned v ∧ K (a.put N v) w') (hw : Region.wanted oi (yielded ops a.tmps) = true := by rfl) (hN : oi.dst = N := by rfl) (hop : oi.op = .call { callee := .value (.func f), args := os, argTypes := ts } := by rfl)
 (hname : (fn.name == "runtime.NumGoroutine") = false := by kernel_rfl) (hb : fn.body.isSome = true := by rfl) (hargs : os.map a.eval = args := by (try simp only [pm]); first | done | rfl) : if Region.wanted oi (yielded ops a.tmps) = true then Oper.wp P oi a w K Q else K (a.put N undef) w := ZR hf hname hb args hw hN hop hargs h
end
section
open Go.Proofs.YtjonnfmoocijlaaKW.PrintLast
variable {P : Program} {md : Region.Mode} {ops : Array Oper} {Q : Exit → Act → World → Prop} {S : World → Prop} {ds : List Nat} {T : Bool × List (List Nat × List Nat)} {B : List Nat} {oi : Oper} {v : Value} {fuel : Nat} {l : Array Bool} {a a' : Act} {w : World}
theorem BO (i d n m : Nat) (hT : yf (CZ md ops = T)) (hB : yf (BD T.2 B = true)) (hH : S w) (h : Ae P md ops Q S ds fuel (bz n m) a' w) (hi : ops[i]? = some oi := by rfl) (hN : oi.dst = some d := by rfl) (hc : U5 T B ds l.toList (bz n m).toList i = true := by kernel_rfl) (hQ : ∀ c a w, Q (.panic c) (a.put oi.dst v) w → Q (.panic c) a w := by exact fun _ _ _ h => h)
 (hw : Region.wanted oi (yielded ops a.tmps) = true := by rfl) (hv : ∀ w, S w → (execOp a.eval oi).run P w = .ok (.value v) w := by intro _ h_; (try dsimp only at h_); (repeat (have g_ := And.left h_; replace h_ := And.right h_)); go_simp; with_reducible rfl) (ha : a.put (some d) v = a' := by simp only [pz]; rfl) : Ae P md ops Q S ds (fuel + 1) l a w := Qx (bz n m) hi hN (QB hT.out hB.out hc) hQ (.inl ⟨hw, hv⟩) hH ha h
theorem Gu (h : Ae P md ops Q S ds fuel l a' w) (ha : a = a' := by simp only [J6, Act.put, List.setIfInBounds_toArray, List.set_cons_zero, List.set_cons_succ]) : Ae P md ops Q S ds fuel l a w := AR ha h
end
end Go.Proofs.YtjonnfmoocijlaaKW.PrintWords
namespace Go.Proofs.Ytjonnfmoocijlaa.P
open Go.RowKit Go.Proofs.YtjonnfmoocijlaaKW.PrintWords Go.Proofs.YtjonnfmoocijlaaKW.PrintLast Go.Proofs.YtjonnfmoocijlaaKW.PrintMore
attribute [local go_sem] zO zP Aj Ak zC zD zQ zR
theorem info3 : (Try.prog.info? 3).map (fun i => (i.zero, i.size, i.bytes)) = some (some (.int .i64 0), 1, 8) := by kernel_rfl
theorem ZX : (Try.prog.info? 4).map (fun i => (i.zero, i.size, i.bytes)) = some (some (.bool false), 1, 1) := by kernel_rfl
theorem GY : (Try.prog.info? 47).map (fun i => (i.zero, i.size, i.bytes)) = some (some (.agg #[(.int .i64 0), (.int .i64 0), (.int .i64 0), (.int .i64 0)]), 4, 32) := by kernel_rfl
theorem PW : (Try.prog.info? 63).map (fun i => (i.zero, i.size, i.bytes)) = some (some (.slice none 0 0), 1, 24) := by kernel_rfl
theorem a1X : (Try.prog.info? 98).map (fun i => (i.zero, i.size, i.bytes)) = some (some (.agg #[(.int .i64 0), (.int .i64 0), (.int .i64 0)]), 3, 24) := by kernel_rfl
structure JS where
 f0 : Int
 f1 : Int
 f2 : Int
def z98 : JS := ⟨(0 : Int), (0 : Int), (0 : Int)⟩
def VG : Kd JS := Kd.iso (Kd.pair (Kd.int .i64) (Kd.pair (Kd.int .i64) (Kd.int .i64))) (fun x : JS => (x.f0, x.f1, x.f2))
theorem W9 {w : World} {x : JS} {cs : List Value} (h : VG.K w x cs) : cs = [.int .i64 x.f0, .int .i64 x.f1, .int .i64 x.f2] := by
 obtain ⟨_, _, rfl, rfl, ⟨_, _, rfl, rfl, rfl⟩⟩ := h
 exact rfl
theorem Za (w : World) (base : Nat) (ok : Nat → Prop) (x : JS)  : VG.M w base ok x [.int .i64 x.f0, .int .i64 x.f1, .int .i64 x.f2] := ⟨[.int .i64 x.f0], [.int .i64 x.f1, .int .i64 x.f2], rfl, rfl, ⟨[.int .i64 x.f1], [.int .i64 x.f2], rfl, rfl, rfl⟩⟩
def Cm (xs : List JS) (i : Int) : JS := xs.getD i.toNat z98
theorem Lu {w : World} {A : Option Addr} {n : Nat} {xs : List JS} (h : Kd.C VG w A n xs) (i : Int) (h0 : 0 ≤ i) (h1 : i < n) : ∃ ad , A = some ad ∧ w.cell? (ad.add (i.toNat * 3)) = some (.int .i64 (Cm xs i).f0) ∧ w.cell? ⟨(ad.add (i.toNat * 3)).block, (ad.add (i.toNat * 3)).off + 1, none⟩ = some (.int .i64 (Cm xs i).f1) ∧ w.cell? ⟨(ad.add (i.toNat * 3)).block, (ad.add (i.toNat * 3)).off + 2, none⟩ = some (.int .i64 (Cm xs i).f2) := by
 obtain ⟨ad, c, e, _, hK, hc0⟩ := Kd.OJ h z98 i h0 h1
 have hc : ∀ j u, c[j]? = some u → w.cell? (ad.add (i.toNat * 3 + j)) = some u := hc0
 obtain rfl := W9 hK
 exact ⟨ad, e, hc 0 _ rfl, by rw [← Ia _ _ 1 (by omega)]; exact hc 1 _ rfl, by rw [← Ia _ _ 2 (by omega)]; exact hc 2 _ rfl⟩
structure GU where
 f0 : Int
 f1 : Int
def z38 : GU := ⟨(0 : Int), (0 : Int)⟩
def k38 : Kd GU := Kd.iso (Kd.pair (Kd.int .i64) (Kd.int .i64)) (fun x : GU => (x.f0, x.f1))
theorem Wd : Kd.Heap k38 := Kd.QD _ (Kd.Lt (Kd.Dj .i64) (Kd.Dj .i64))
theorem We {w : World} {x : GU} {cs : List Value} (h : k38.K w x cs) : cs = [.int .i64 x.f0, .int .i64 x.f1] := by
 obtain ⟨_, _, rfl, rfl, rfl⟩ := h
 exact rfl
theorem V4 {w : World} {base : Nat} {ok : Nat → Prop} {x : GU} {cs : List Value} (h : k38.M w base ok x cs) : cs = [.int .i64 x.f0, .int .i64 x.f1] := by
 obtain ⟨_, _, rfl, rfl, rfl⟩ := h
 exact rfl
theorem Zb (w : World) (base : Nat) (ok : Nat → Prop) (x : GU)  : k38.M w base ok x [.int .i64 x.f0, .int .i64 x.f1] := ⟨[.int .i64 x.f0], [.int .i64 x.f1], rfl, rfl, rfl⟩
structure AX where
 f0 : Int
 f1 : Int
 f2 : GU
def z47 : AX := ⟨(0 : Int), (0 : Int), z38⟩
def CS : Kd AX := Kd.iso (Kd.pair (Kd.int .i64) (Kd.pair (Kd.int .i64) k38)) (fun x : AX => (x.f0, x.f1, x.f2))
theorem FN : Kd.Heap CS := Kd.QD _ (Kd.Lt (Kd.Dj .i64) (Kd.Lt (Kd.Dj .i64) Wd))
theorem Wh {w : World} {x : AX} {cs : List Value} (h : CS.K w x cs) : cs = [.int .i64 x.f0, .int .i64 x.f1, .int .i64 x.f2.f0, .int .i64 x.f2.f1] := by
 obtain ⟨_, _, rfl, rfl, ⟨_, _, rfl, rfl, s2⟩⟩ := h;obtain rfl := We s2
 exact rfl
theorem Lv {w : World} {base : Nat} {ok : Nat → Prop} {x : AX} {cs : List Value} (h : CS.M w base ok x cs) : cs = [.int .i64 x.f0, .int .i64 x.f1, .int .i64 x.f2.f0, .int .i64 x.f2.f1] := by
 obtain ⟨_, _, rfl, rfl, ⟨_, _, rfl, rfl, s2⟩⟩ := h;obtain rfl := V4 s2
 exact rfl
theorem GL (w : World) (base : Nat) (ok : Nat → Prop) (x : AX)  : CS.M w base ok x [.int .i64 x.f0, .int .i64 x.f1, .int .i64 x.f2.f0, .int .i64 x.f2.f1] := ⟨[.int .i64 x.f0], [.int .i64 x.f1, .int .i64 x.f2.f0, .int .i64 x.f2.f1], rfl, rfl, ⟨[.int .i64 x.f1], [.int .i64 x.f2.f0, .int .i64 x.f2.f1], rfl, rfl, (Zb w base ok x.f2 )⟩⟩
def yg (xs : List AX) (i : Int) : AX := xs.getD i.toNat z47
theorem BU {w : World} {A : Option Addr} {n : Nat} {xs : List AX} (h : Kd.C CS w A n xs) (i : Int) (h0 : 0 ≤ i) (h1 : i < n) : ∃ ad , A = some ad ∧ w.cell? (ad.add (i.toNat * 4)) = some (.int .i64 (yg xs i).f0) ∧ w.cell? ⟨(ad.add (i.toNat * 4)).block, (ad.add (i.toNat * 4)).off + 1, none⟩ = some (.int .i64 (yg xs i).f1) ∧ w.cell? ⟨(ad.add (i.toNat * 4)).block, (ad.add (i.toNat * 4)).off + 2, none⟩ = some (.int .i64 (yg xs i).f2.f0) ∧ w.cell? ⟨(ad.add (i.toNat * 4)).block, (ad.add (i.toNat * 4)).off + 3, none⟩ = some (.int .i64 (yg xs i).f2.f1) := by
 obtain ⟨ad, c, e, _, hK, hc0⟩ := Kd.OJ h z47 i h0 h1
 have hc : ∀ j u, c[j]? = some u → w.cell? (ad.add (i.toNat * 4 + j)) = some u := hc0
 obtain rfl := Wh hK
 exact ⟨ad, e, hc 0 _ rfl, by rw [← Ia _ _ 1 (by omega)]; exact hc 1 _ rfl, by rw [← Ia _ _ 2 (by omega)]; exact hc 2 _ rfl, by rw [← Ia _ _ 3 (by omega)]; exact hc 3 _ rfl⟩
def zt (xs : List (List Int)) (i : Int) : (List Int) := xs.getD i.toNat ([] : List Int)
theorem EC {w : World} {A : Option Addr} {n : Nat} {xs : List (List Int)} (h : Kd.C (Kd.slice 3 (Kd.int .i64)) w A n xs) (i : Int) (h0 : 0 ≤ i) (h1 : i < n) : ∃ ad A0 c0, A = some ad ∧ w.cell? (ad.add i.toNat) = some (.slice A0 (zt xs i).length c0) ∧ (zt xs i).length ≤ c0 ∧ (Kd.int .i64).C w A0 (zt xs i).length (zt xs i) := by
 obtain ⟨ad, c, e, _, hK, hc0⟩ := Kd.OJ h ([] : List Int) i h0 h1
 have hc : ∀ j u, c[j]? = some u → w.cell? (ad.add (i.toNat * 1 + j)) = some u := hc0
 obtain ⟨A0, c0, rfl, l0, g0⟩ := hK
 exact ⟨ad, A0, c0, e, by have hq := hc 0 _ rfl; rwa [Nat.mul_one, Nat.add_zero] at hq, l0, g0⟩
end Go.Proofs.Ytjonnfmoocijlaa.P
