/- Texts of a claim, packed. -/
import Derived.Test.YtjonnfmoocijlaaGreatProg
import Derived.Test.YtjonnfmoocijlaaGreatE3
set_option linter.all false
namespace Go.Proofs.YtjonnfmoocijlaaGreatKW.PrintWords
open Go.RowKit
theorem bE {α β : Type} {x : Option α} {f : α → Option β} {r : β} (h : x.bind f = some r) : ∃ a,yf (x = some a) ∧ f a = some r := by
 obtain ⟨a,h1,h2⟩ := Option.bind_eq_some_iff.mp h
 exact ⟨a,⟨h1⟩,h2⟩
theorem cB {w W : World} {a : Addr} {v : Value} (HB : yf (Below w.heap.size w W)) (h : w.cell? a = some v) : W.cell? a = some v := (HB.out.cell (World.block_lt_of_cell? w _ h)).trans h
class Sa (l : List Value) (j : Nat) (v : Value) (l' : outParam (List Value)) : Prop where out : l.set j v = l'
instance Sa.z (a v : Value) (l : List Value) : Sa (a :: l) 0 v (v :: l) := ⟨rfl⟩
instance Sa.s (a v : Value) (l l' : List Value) (j : Nat) [h : Sa l j v l'] : Sa (a :: l) (j + 1) v (a :: l') := ⟨by rw [List.set_cons_succ,h.out]⟩
class Pt (W X : World) (g : Nat) (l : List Value) (l' : outParam (List Value)) : Prop where out : ∀ t,W.heap[g]? = some (.cells l.toArray t (0,0)) → X.heap[g]? = some (.cells l'.toArray t (0,0))
instance Pt.r (W : World) (g : Nat) (l : List Value) : Pt W W g l l := ⟨fun _ h => h⟩
instance Pt.a (W X : World) (o : Obj) (g : Nat) (l l' : List Value) [h : Pt W X g l l'] : Pt W (X.alloc o) g l l' := ⟨fun t k => kp (h.out t k)⟩
instance Pt.d (W X : World) (g : Nat) (l l' : List Value) [h : Pt W X g l l'] : Pt W X.drew g l l' := ⟨fun t k => kp (h.out t k)⟩
instance Pt.n (W X : World) (n : Nat) (g : Nat) (l l' : List Value) [h : Pt W X g l l'] : Pt W (X.drewN n) g l l' := ⟨fun t k => kp (h.out t k)⟩
instance Pt.f (W X : World) (g g' j : Nat) (v : Value) (l l' : List Value) [h : Pt W X g l l'] [k : yf (g ≠ g')] : Pt W (X.setCell ⟨g',j,none⟩ v) g l l' := ⟨fun t q => Gp (h.out t q) k.out v⟩
instance Pt.s (W X : World) (g j : Nat) (v : Value) (l l' l2 : List Value) [h : Pt W X g l l'] [s : Sa l' j v l2] : Pt W (X.setCell ⟨g,j,none⟩ v) g l l2 := ⟨fun t q => by have := MC (h.out t q) j v;rwa [List.setIfInBounds_toArray,s.out] at this⟩
theorem CY {W X : World} {g : Nat} {l l' d : List Value} {t : TypeId} (h : yf (W.heap[g]? = some (.cells l.toArray t (0,0)))) [p : Pt W X g l l'] (e : l' = d) : X.heap[g]? = some (.cells d.toArray t (0,0)) := e ▸ p.out t h.out
theorem bK {W X : World} {g : Nat} {l l' d : List Value} {t : TypeId} (h : yf (W.heap[g]? = some (.cells l.toArray t (0,0)))) [p : Pt W X g l l'] (e : l' = d) : yf (X.heap[g]? = some (.cells d.toArray t (0,0))) := ⟨CY h e⟩
theorem bb1 {W : World} {g : Nat} {t : TypeId} {a : Value} {p : Prop} (h : yf (W.heap[g]? = some (.cells #[a] t (0,0)))) (q : p) : W.cell? ⟨g,0,none⟩ = some a ∧ p := ⟨bc1 h,q⟩
theorem bb2 {W : World} {g : Nat} {t : TypeId} {a b : Value} {p : Prop} (h : yf (W.heap[g]? = some (.cells #[a,b] t (0,0)))) (q : p) : W.cell? ⟨g,0,none⟩ = some a ∧ W.cell? ⟨g,1,none⟩ = some b ∧ p := ⟨(bc2 h).1,(bc2 h).2,q⟩
theorem MZ {W : World} {g : Nat} {t : TypeId} {a b c d : Value} {p : Prop} (h : yf (W.heap[g]? = some (.cells #[a,b,c,d] t (0,0)))) (q : p) : W.cell? ⟨g,0,none⟩ = some a ∧ W.cell? ⟨g,1,none⟩ = some b ∧ W.cell? ⟨g,2,none⟩ = some c ∧ W.cell? ⟨g,3,none⟩ = some d ∧ p := ⟨(AO h).1,(AO h).2.1,(AO h).2.2.1,(AO h).2.2.2,q⟩
section
open Go.Proofs.YtjonnfmoocijlaaGreatKW.PrintLast
variable {P : Program} {ops : Array Oper} {Q : Exit → Act → World → Prop}
theorem gL {rest : List Oper} {oi : Oper} {a : Act} {w : World} (N : Option Tmp) {f : FuncId} {fn : Func} {os : Array Operand} {ts : Array TypeId} (hf : P.funcs[f]? = some fn) (args : Array Value)
 (h : Calls P f args w fun e w' => ∃ v,e = .returned v ∧ wpList P ops Q rest (a.put N v) w') (hd : oi.dst = N := by rfl) (hg : oi.guard = none := by rfl) (hop : oi.op = .call { callee := .value (.func f),args := os,argTypes := ts } := by rfl)
 (hname : (fn.name == "runtime.NumGoroutine") = false := by kernel_rfl) (hb : fn.body.isSome = true := by rfl) (hargs : os.map a.eval = args := by (try simp only [pm]);first | done | rfl) : wpList P ops Q (oi :: rest) a w := Le N hd hg hf hname hb args hop hargs h
theorem gO {oi : Oper} {N : Option Tmp} {a : Act} {w : World} {K : Act → World → Prop} {f : FuncId} {fn : Func} {os : Array Operand} {ts : Array TypeId} (hf : P.funcs[f]? = some fn) (args : Array Value)
 (h : Calls P f args w fun e w' => ∃ v,e = .returned v ∧ K (a.put N v) w') (hw : Region.wanted oi (yielded ops a.tmps) = true := by rfl) (hN : oi.dst = N := by rfl) (hop : oi.op = .call { callee := .value (.func f),args := os,argTypes := ts } := by rfl)
 (hname : (fn.name == "runtime.NumGoroutine") = false := by kernel_rfl) (hb : fn.body.isSome = true := by rfl) (hargs : os.map a.eval = args := by (try simp only [pm]);first | done | rfl) : if Region.wanted oi (yielded ops a.tmps) = true then Oper.wp P oi a w K Q else K (a.put N undef) w := a03 hf hname hb args hw hN hop hargs h
end
section
open Go.Proofs.YtjonnfmoocijlaaGreatKW.PrintLast
variable {P : Program} {md : Region.Mode} {ops : Array Oper} {Q : Exit → Act → World → Prop} {S : World → Prop} {ds : List Nat} {T : Bool × List (List Nat × List Nat)} {B : List Nat} {oi : Oper} {v : Value} {fuel : Nat} {l : Array Bool} {a a' : Act} {w : World}
theorem Co (i d n m : Nat) (hT : yf (Dv md ops = T)) (hB : yf (BH T.2 B = true)) (hH : S w) (h : Aa P md ops Q S ds fuel (bz n m) a' w) (hi : ops[i]? = some oi := by rfl) (hN : oi.dst = some d := by rfl) (hc : Uq T B ds l.toList (bz n m).toList i = true := by kernel_rfl) (hQ : ∀ c a w,Q (.panic c) (a.put oi.dst v) w → Q (.panic c) a w := by exact fun _ _ _ h => h)
 (hw : Region.wanted oi (yielded ops a.tmps) = true := by rfl) (hv : ∀ w,S w → (execOp a.eval oi).run P w = .ok (.value v) w := by intro _ h_;(try dsimp only at h_);(repeat (have g_ := And.left h_;replace h_ := And.right h_));go_simp;with_reducible rfl) (ha : a.put (some d) v = a' := by simp only [pz];rfl) : Aa P md ops Q S ds (fuel + 1) l a w := Rj (bz n m) hi hN (Rk hT.out hB.out hc) hQ (.inl ⟨hw,hv⟩) hH ha h
theorem Gb (h : Aa P md ops Q S ds fuel l a' w) (ha : a = a' := by simp only [Jd,Act.put,List.setIfInBounds_toArray,List.set_cons_zero,List.set_cons_succ]) : Aa P md ops Q S ds fuel l a w := AU ha h
end
end Go.Proofs.YtjonnfmoocijlaaGreatKW.PrintWords
namespace Go.Proofs.YtjonnfmoocijlaaGreat.P
open Go.RowKit Go.Proofs.YtjonnfmoocijlaaGreatKW.PrintWords Go.Proofs.YtjonnfmoocijlaaGreatKW.PrintLast Go.Proofs.YtjonnfmoocijlaaGreatKW.PrintMore
attribute [local go_sem] zN zP Af Ag zz zA zO zQ
theorem info3 : (Tryz.prog.info? 3).map (fun i => (i.zero,i.size,i.bytes)) = some (some (.int .i64 0),1,8) := by kernel_rfl
theorem a14 : (Tryz.prog.info? 4).map (fun i => (i.zero,i.size,i.bytes)) = some (some (.bool false),1,1) := by kernel_rfl
theorem PK : (Tryz.prog.info? 37).map (fun i => (i.zero,i.size,i.bytes)) = some (some (.slice none 0 0),1,24) := by kernel_rfl
theorem SS : (Tryz.prog.info? 45).map (fun i => (i.zero,i.size,i.bytes)) = some (some (.agg #[(.int .i64 0),(.int .i64 0)]),2,16) := by kernel_rfl
theorem a2C : (Tryz.prog.info? 46).map (fun i => (i.zero,i.size,i.bytes)) = some (some (.agg #[(.int .i64 0),(.int .i64 0)]),2,16) := by kernel_rfl
theorem J8 : (Tryz.prog.info? 60).map (fun i => (i.zero,i.size,i.bytes)) = some (some (.agg #[(.int .i64 0),(.int .i64 0),(.int .i64 0),(.int .i64 0)]),4,32) := by kernel_rfl
theorem a2D : (Tryz.prog.info? 88).map (fun i => (i.zero,i.size,i.bytes)) = some (some (.agg #[(.int .i64 0),(.int .i64 0),(.int .i64 0)]),3,24) := by kernel_rfl
structure JD where
 f0 : Int
 f1 : Int
 f2 : Int
def z88 : JD := ⟨(0 : Int),(0 : Int),(0 : Int)⟩
def Vr : Kd JD := Kd.iso (Kd.pair (Kd.int .i64) (Kd.pair (Kd.int .i64) (Kd.int .i64))) (fun x : JD => (x.f0,x.f1,x.f2))
theorem Xy {w : World} {x : JD} {cs : List Value} (h : Vr.K w x cs) : cs = [.int .i64 x.f0,.int .i64 x.f1,.int .i64 x.f2] := by
 obtain ⟨_,_,rfl,rfl,⟨_,_,rfl,rfl,rfl⟩⟩ := h
 exact rfl
theorem Zg (w : World) (base : Nat) (ok : Nat → Prop) (x : JD)  : Vr.M w base ok x [.int .i64 x.f0,.int .i64 x.f1,.int .i64 x.f2] := ⟨[.int .i64 x.f0],[.int .i64 x.f1,.int .i64 x.f2],rfl,rfl,⟨[.int .i64 x.f1],[.int .i64 x.f2],rfl,rfl,rfl⟩⟩
def C9 (xs : List JD) (i : Int) : JD := xs.getD i.toNat z88
theorem KY {w : World} {A : Option Addr} {n : Nat} {xs : List JD} (h : Kd.C Vr w A n xs) (i : Int) (h0 : 0 ≤ i) (h1 : i < n) : ∃ ad ,A = some ad ∧ w.cell? (ad.add (i.toNat * 3)) = some (.int .i64 (C9 xs i).f0) ∧ w.cell? ⟨(ad.add (i.toNat * 3)).block,(ad.add (i.toNat * 3)).off + 1,none⟩ = some (.int .i64 (C9 xs i).f1) ∧ w.cell? ⟨(ad.add (i.toNat * 3)).block,(ad.add (i.toNat * 3)).off + 2,none⟩ = some (.int .i64 (C9 xs i).f2) := by
 obtain ⟨ad,c,e,_,hK,hc0⟩ := Kd.Lt h z88 i h0 h1
 have hc : ∀ j u,c[j]? = some u → w.cell? (ad.add (i.toNat * 3 + j)) = some u := hc0
 obtain rfl := Xy hK
 exact ⟨ad,e,hc 0 _ rfl,by rw [← FI _ _ 1 (by omega)];exact hc 1 _ rfl,by rw [← FI _ _ 2 (by omega)];exact hc 2 _ rfl⟩
structure Ih where
 f0 : Int
 f1 : Int
def z51 : Ih := ⟨(0 : Int),(0 : Int)⟩
def k51 : Kd Ih := Kd.iso (Kd.pair (Kd.int .i64) (Kd.int .i64)) (fun x : Ih => (x.f0,x.f1))
theorem Xv : Kd.Heap k51 := Kd.QE _ (Kd.Lf (Kd.BV .i64) (Kd.BV .i64))
theorem Xw {w : World} {x : Ih} {cs : List Value} (h : k51.K w x cs) : cs = [.int .i64 x.f0,.int .i64 x.f1] := by
 obtain ⟨_,_,rfl,rfl,rfl⟩ := h
 exact rfl
theorem UU {w : World} {base : Nat} {ok : Nat → Prop} {x : Ih} {cs : List Value} (h : k51.M w base ok x cs) : cs = [.int .i64 x.f0,.int .i64 x.f1] := by
 obtain ⟨_,_,rfl,rfl,rfl⟩ := h
 exact rfl
theorem Zf (w : World) (base : Nat) (ok : Nat → Prop) (x : Ih)  : k51.M w base ok x [.int .i64 x.f0,.int .i64 x.f1] := ⟨[.int .i64 x.f0],[.int .i64 x.f1],rfl,rfl,rfl⟩
structure AP where
 f0 : Int
 f1 : Int
 f2 : Ih
def z60 : AP := ⟨(0 : Int),(0 : Int),z51⟩
def DN : Kd AP := Kd.iso (Kd.pair (Kd.int .i64) (Kd.pair (Kd.int .i64) k51)) (fun x : AP => (x.f0,x.f1,x.f2))
theorem Em : Kd.Heap DN := Kd.QE _ (Kd.Lf (Kd.BV .i64) (Kd.Lf (Kd.BV .i64) Xv))
theorem Xx {w : World} {x : AP} {cs : List Value} (h : DN.K w x cs) : cs = [.int .i64 x.f0,.int .i64 x.f1,.int .i64 x.f2.f0,.int .i64 x.f2.f1] := by
 obtain ⟨_,_,rfl,rfl,⟨_,_,rfl,rfl,s2⟩⟩ := h;obtain rfl := Xw s2
 exact rfl
theorem Li {w : World} {base : Nat} {ok : Nat → Prop} {x : AP} {cs : List Value} (h : DN.M w base ok x cs) : cs = [.int .i64 x.f0,.int .i64 x.f1,.int .i64 x.f2.f0,.int .i64 x.f2.f1] := by
 obtain ⟨_,_,rfl,rfl,⟨_,_,rfl,rfl,s2⟩⟩ := h;obtain rfl := UU s2
 exact rfl
theorem Io (w : World) (base : Nat) (ok : Nat → Prop) (x : AP)  : DN.M w base ok x [.int .i64 x.f0,.int .i64 x.f1,.int .i64 x.f2.f0,.int .i64 x.f2.f1] := ⟨[.int .i64 x.f0],[.int .i64 x.f1,.int .i64 x.f2.f0,.int .i64 x.f2.f1],rfl,rfl,⟨[.int .i64 x.f1],[.int .i64 x.f2.f0,.int .i64 x.f2.f1],rfl,rfl,(Zf w base ok x.f2 )⟩⟩
def yh (xs : List AP) (i : Int) : AP := xs.getD i.toNat z60
theorem Ck {w : World} {A : Option Addr} {n : Nat} {xs : List AP} (h : Kd.C DN w A n xs) (i : Int) (h0 : 0 ≤ i) (h1 : i < n) : ∃ ad ,A = some ad ∧ w.cell? (ad.add (i.toNat * 4)) = some (.int .i64 (yh xs i).f0) ∧ w.cell? ⟨(ad.add (i.toNat * 4)).block,(ad.add (i.toNat * 4)).off + 1,none⟩ = some (.int .i64 (yh xs i).f1) ∧ w.cell? ⟨(ad.add (i.toNat * 4)).block,(ad.add (i.toNat * 4)).off + 2,none⟩ = some (.int .i64 (yh xs i).f2.f0) ∧ w.cell? ⟨(ad.add (i.toNat * 4)).block,(ad.add (i.toNat * 4)).off + 3,none⟩ = some (.int .i64 (yh xs i).f2.f1) := by
 obtain ⟨ad,c,e,_,hK,hc0⟩ := Kd.Lt h z60 i h0 h1
 have hc : ∀ j u,c[j]? = some u → w.cell? (ad.add (i.toNat * 4 + j)) = some u := hc0
 obtain rfl := Xx hK
 exact ⟨ad,e,hc 0 _ rfl,by rw [← FI _ _ 1 (by omega)];exact hc 1 _ rfl,by rw [← FI _ _ 2 (by omega)];exact hc 2 _ rfl,by rw [← FI _ _ 3 (by omega)];exact hc 3 _ rfl⟩
def yX (xs : List (List Int)) (i : Int) : (List Int) := xs.getD i.toNat ([] : List Int)
theorem Ec {w : World} {A : Option Addr} {n : Nat} {xs : List (List Int)} (h : Kd.C (Kd.slice 3 (Kd.int .i64)) w A n xs) (i : Int) (h0 : 0 ≤ i) (h1 : i < n) : ∃ ad A0 c0,A = some ad ∧ w.cell? (ad.add i.toNat) = some (.slice A0 (yX xs i).length c0) ∧ (yX xs i).length ≤ c0 ∧ (Kd.int .i64).C w A0 (yX xs i).length (yX xs i) := by
 obtain ⟨ad,c,e,_,hK,hc0⟩ := Kd.Lt h ([] : List Int) i h0 h1
 have hc : ∀ j u,c[j]? = some u → w.cell? (ad.add (i.toNat * 1 + j)) = some u := hc0
 obtain ⟨A0,c0,rfl,l0,g0⟩ := hK
 exact ⟨ad,A0,c0,e,by have hq := hc 0 _ rfl;rwa [Nat.mul_one,Nat.add_zero] at hq,l0,g0⟩
structure Ff where
 f0 : Int
 f1 : Int
def z45 : Ff := ⟨(0 : Int),(0 : Int)⟩
def NJ : Kd Ff := Kd.iso (Kd.pair (Kd.int .i64) (Kd.int .i64)) (fun x : Ff => (x.f0,x.f1))
theorem Xt {w : World} {x : Ff} {cs : List Value} (h : NJ.K w x cs) : cs = [.int .i64 x.f0,.int .i64 x.f1] := by
 obtain ⟨_,_,rfl,rfl,rfl⟩ := h
 exact rfl
theorem UT {w : World} {base : Nat} {ok : Nat → Prop} {x : Ff} {cs : List Value} (h : NJ.M w base ok x cs) : cs = [.int .i64 x.f0,.int .i64 x.f1] := by
 obtain ⟨_,_,rfl,rfl,rfl⟩ := h
 exact rfl
theorem MF (w : World) (base : Nat) (ok : Nat → Prop) (x : Ff)  : NJ.M w base ok x [.int .i64 x.f0,.int .i64 x.f1] := ⟨[.int .i64 x.f0],[.int .i64 x.f1],rfl,rfl,rfl⟩
def BC (xs : List Ff) (i : Int) : Ff := xs.getD i.toNat z45
theorem JS {w : World} {A : Option Addr} {n : Nat} {xs : List Ff} (h : Kd.C NJ w A n xs) (i : Int) (h0 : 0 ≤ i) (h1 : i < n) : ∃ ad ,A = some ad ∧ w.cell? (ad.add (i.toNat * 2)) = some (.int .i64 (BC xs i).f0) ∧ w.cell? ⟨(ad.add (i.toNat * 2)).block,(ad.add (i.toNat * 2)).off + 1,none⟩ = some (.int .i64 (BC xs i).f1) := by
 obtain ⟨ad,c,e,_,hK,hc0⟩ := Kd.Lt h z45 i h0 h1
 have hc : ∀ j u,c[j]? = some u → w.cell? (ad.add (i.toNat * 2 + j)) = some u := hc0
 obtain rfl := Xt hK
 exact ⟨ad,e,hc 0 _ rfl,by rw [← FI _ _ 1 (by omega)];exact hc 1 _ rfl⟩
structure KX where
 f0 : Int
 f1 : Int
def z46 : KX := ⟨(0 : Int),(0 : Int)⟩
def Zd : Kd KX := Kd.iso (Kd.pair (Kd.int .i64) (Kd.int .i64)) (fun x : KX => (x.f0,x.f1))
theorem Xu {w : World} {x : KX} {cs : List Value} (h : Zd.K w x cs) : cs = [.int .i64 x.f0,.int .i64 x.f1] := by
 obtain ⟨_,_,rfl,rfl,rfl⟩ := h
 exact rfl
theorem Ze (w : World) (base : Nat) (ok : Nat → Prop) (x : KX)  : Zd.M w base ok x [.int .i64 x.f0,.int .i64 x.f1] := ⟨[.int .i64 x.f0],[.int .i64 x.f1],rfl,rfl,rfl⟩
def Hq (xs : List KX) (i : Int) : KX := xs.getD i.toNat z46
theorem VG {w : World} {A : Option Addr} {n : Nat} {xs : List KX} (h : Kd.C Zd w A n xs) (i : Int) (h0 : 0 ≤ i) (h1 : i < n) : ∃ ad ,A = some ad ∧ w.cell? (ad.add (i.toNat * 2)) = some (.int .i64 (Hq xs i).f0) ∧ w.cell? ⟨(ad.add (i.toNat * 2)).block,(ad.add (i.toNat * 2)).off + 1,none⟩ = some (.int .i64 (Hq xs i).f1) := by
 obtain ⟨ad,c,e,_,hK,hc0⟩ := Kd.Lt h z46 i h0 h1
 have hc : ∀ j u,c[j]? = some u → w.cell? (ad.add (i.toNat * 2 + j)) = some u := hc0
 obtain rfl := Xu hK
 exact ⟨ad,e,hc 0 _ rfl,by rw [← FI _ _ 1 (by omega)];exact hc 1 _ rfl⟩
end Go.Proofs.YtjonnfmoocijlaaGreat.P
