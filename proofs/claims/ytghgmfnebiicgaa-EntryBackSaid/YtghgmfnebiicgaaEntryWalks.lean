/- What the functions of package entry, of its reference and awake of jetonlaw05 come to, each for all arguments. -/
import Derived.Test.YtghgmfnebiicgaaProg
import Derived.WalkKit
import Derived.Below
import Derived.RegionTactic
import Derived.ChangeAlike
import Derived.Deep.RegionHeld3
import Derived.Deep.DrawnRows
import Derived.BigRegion
import Derived.Test.YtghgmfnebiicgaaWEqStruct
import Derived.Test.YtghgmfnebiicgaaWMore
import Derived.Test.YtghgmfnebiicgaaWLast
namespace Go.Proofs.Ytghgmfnebiicgaa.Entry
open Go.RowKit Go.Proofs.YtghgmfnebiicgaaW.PrintWords Go.Proofs.YtghgmfnebiicgaaW.PrintLast Go.Proofs.YtghgmfnebiicgaaW.PrintMore
/-- Is an entry legal, by a world's nodes and blocks? -/
def legalB (n m k a b c : Int) : Bool :=
  if k = 1 then decide (0 ≤ a) && (decide (a < n) && (decide (0 ≤ b) && (decide (b < m) && (decide (c = 0) || decide (c = 1)))))
  else if k = 2 then decide (0 ≤ a) else if k = 3 then decide (0 ≤ a) else decide (k = 4)
/-- A bool is told, and what was there is as it was. -/
def RB (b : Bool) (w : World) (e : Ending) (w' : World) : Prop := e = .returned (.bool b) ∧ Below w.heap.size w w'
theorem rb {b b' : Bool} {w w' : World} (h : b = b') (hb : Below w.heap.size w w') : RB b' w (.returned (.bool b)) w' := ⟨by rw [h], hb⟩
theorem bl_alloc {w W : World} (h : Below w.heap.size w W) (o : Obj) : Below w.heap.size w (W.alloc o) := h.alloc h.size o
theorem bl_drew {w W : World} (h : Below w.heap.size w W) : Below w.heap.size w W.drew := h.drew
theorem bl_setCell {w W : World} (h : Below w.heap.size w W) {p : Addr} (hp : w.heap.size ≤ p.block) (v : Value) : Below w.heap.size w (W.setCell p v) := h.setCell hp v
theorem bcell {W w1 : World} (hb : Below W.heap.size W w1) : (∀ b o, b < W.heap.size → w1.cell? ⟨b, o, none⟩ = W.cell? ⟨b, o, none⟩) ∧ (∀ b o, b < W.heap.size → w1.frozen? ⟨b, o, none⟩ = W.frozen? ⟨b, o, none⟩) :=
  ⟨fun b o h => hb.cell (p := ⟨b, o, none⟩) h, fun b o h => hb.frozen (p := ⟨b, o, none⟩) h⟩
set_option maxHeartbeats 1000000 in
set_option maxRecDepth 100000 in
theorem legal_any (c0 c1 c2 c3 c4 c5 c6 c7 c8 k a b c d : Int) (w : World) :
    Calls Try.prog 20 #[.agg #[.int .i64 c0, .int .i64 c1, .int .i64 c2, .int .i64 c3, .int .i64 c4, .int .i64 c5, .int .i64 c6, .int .i64 c7, .int .i64 c8], .agg #[.int .i64 k, .int .i64 a, .int .i64 b, .int .i64 c, .int .i64 d]] w (RB (legalB c0 c1 k a b c) w) := by
  go_enter Try.func20, Try.ntmps20
  go_wp2
  all_goals
    go_ret
    refine rb ?_ (by repeat (first | exact Below.refl _ _ | apply bl_alloc))
    rw [Bool.eq_iff_iff]
    simp only [beq_iff_eq, beq_eq_false_iff_ne, ne_eq] at *
    first
      | (simp [legalB, *]; done)
      | (simp [legalB, *]; omega)
      | (simp [legalB]; omega)
set_option maxHeartbeats 1000000 in
set_option maxRecDepth 100000 in
theorem refLegal_any (c0 c1 c2 c3 c4 c5 c6 c7 c8 k a b c d : Int) (w : World) :
    Calls Try.prog 21 #[.agg #[.int .i64 c0, .int .i64 c1, .int .i64 c2, .int .i64 c3, .int .i64 c4, .int .i64 c5, .int .i64 c6, .int .i64 c7, .int .i64 c8], .agg #[.int .i64 k, .int .i64 a, .int .i64 b, .int .i64 c, .int .i64 d]] w (RB (legalB c0 c1 k a b c) w) := by
  go_enter Try.func21, Try.ntmps21
  go_wp2
  all_goals
    go_ret
    refine rb ?_ (by repeat (first | exact Below.refl _ _ | apply bl_alloc))
    rw [Bool.eq_iff_iff]
    simp only [beq_iff_eq, beq_eq_false_iff_ne, ne_eq] at *
    first
      | (simp [legalB, *]; done)
      | (simp [legalB, *]; omega)
      | (simp [legalB]; omega)
/-- What an entry has a processor do: a store? of what? -/
def opW (c : Int) : Bool := decide (c = 1)
def opV (c d : Int) : Int := if c = 1 then d else 0
/-- An operation's entry: its C, its D. -/
def mkC (wr : Bool) : Int := if wr = true then 1 else 0
def mkD (wr : Bool) (d : Int) : Int := if wr = true then d else 0
/-- A struct is told, and what was there is as it was. -/
def RA (v : Array Value) (w : World) (e : Ending) (w' : World) : Prop := e = .returned (.agg v) ∧ Below w.heap.size w w'
set_option maxHeartbeats 1000000 in
set_option maxRecDepth 100000 in
theorem op_any (k a b c d : Int) (w : World) :
    Calls Try.prog 22 #[.agg #[.int .i64 k, .int .i64 a, .int .i64 b, .int .i64 c, .int .i64 d]] w (RA #[.int .i64 b, .bool (opW c), .int .i64 (opV c d)] w) := by
  by_cases hc : c = 1
  · have h1 : (c == 1) = true := beq_iff_eq.2 hc
    rw [show opW c = true from decide_eq_true hc, show opV c d = d from if_pos hc]
    clear hc
    go_enter Try.func22, Try.ntmps22
    go_wp2
    exact bodyPost_ret (v := .agg #[.int .i64 b, .bool true, .int .i64 d]) (by simp [results, Try.results22, go_sem]) rfl ⟨rfl, by repeat (first | exact Below.refl _ _ | apply bl_alloc)⟩
  · have h1 : (c == 1) = false := beq_eq_false_iff_ne.2 hc
    rw [show opW c = false from decide_eq_false hc, show opV c d = 0 from if_neg hc]
    clear hc
    go_enter Try.func22, Try.ntmps22
    go_wp2
    exact bodyPost_ret (v := .agg #[.int .i64 b, .bool false, .int .i64 0]) (by simp [results, Try.results22, go_sem]) rfl ⟨rfl, by repeat (first | exact Below.refl _ _ | apply bl_alloc)⟩
set_option maxHeartbeats 1000000 in
set_option maxRecDepth 100000 in
theorem refOp_any (k a b c d : Int) (w : World) :
    Calls Try.prog 23 #[.agg #[.int .i64 k, .int .i64 a, .int .i64 b, .int .i64 c, .int .i64 d]] w (RA #[.int .i64 b, .bool (opW c), .int .i64 (opV c d)] w) := by
  by_cases hc : c = 1
  · have h1 : (c == 1) = true := beq_iff_eq.2 hc
    rw [show opW c = true from decide_eq_true hc, show opV c d = d from if_pos hc]
    clear hc
    go_enter Try.func23, Try.ntmps23
    go_wp2
    exact bodyPost_ret (v := .agg #[.int .i64 b, .bool true, .int .i64 d]) (by simp [results, Try.results23, go_sem]) rfl ⟨rfl, by repeat (first | exact Below.refl _ _ | apply bl_alloc)⟩
  · have h1 : (c == 1) = false := beq_eq_false_iff_ne.2 hc
    rw [show opW c = false from decide_eq_false hc, show opV c d = 0 from if_neg hc]
    clear hc
    go_enter Try.func23, Try.ntmps23
    go_wp2
    exact bodyPost_ret (v := .agg #[.int .i64 b, .bool false, .int .i64 0]) (by simp [results, Try.results23, go_sem]) rfl ⟨rfl, by repeat (first | exact Below.refl _ _ | apply bl_alloc)⟩
set_option maxHeartbeats 1000000 in
set_option maxRecDepth 100000 in
theorem make_any (a b d : Int) (wr : Bool) (hd : -9223372036854775808 ≤ d ∧ d ≤ 9223372036854775807) (w : World) :
    Calls Try.prog 24 #[.int .i64 a, .agg #[.int .i64 b, .bool wr, .int .i64 d]] w (RA #[.int .i64 1, .int .i64 a, .int .i64 b, .int .i64 (mkC wr), .int .i64 (mkD wr d)] w) := by
  obtain ⟨hd0, hd1⟩ := hd
  cases wr
  · rw [show mkC false = 0 from rfl, show mkD false d = 0 from rfl]
    go_enter Try.func24, Try.ntmps24
    go_wp2
    exact bodyPost_ret (v := .agg #[.int .i64 1, .int .i64 a, .int .i64 b, .int .i64 0, .int .i64 0]) (by simp [results, Try.results24, go_sem]) rfl ⟨rfl, by repeat (first | exact Below.refl _ _ | apply bl_alloc)⟩
  · rw [show mkC true = 1 from rfl, show mkD true d = d from rfl]
    go_enter Try.func24, Try.ntmps24
    go_wp2
    go_region
    all_goals
      go_wp2
      exact bodyPost_ret (v := .agg #[.int .i64 1, .int .i64 a, .int .i64 b, .int .i64 1, .int .i64 d]) (by simp [results, Try.results24, go_sem]) rfl ⟨rfl, by repeat (first | exact Below.refl _ _ | apply bl_alloc | apply bl_drew)⟩
set_option maxHeartbeats 1000000 in
set_option maxRecDepth 100000 in
theorem refMake_any (a b d : Int) (wr : Bool) (hd : -9223372036854775808 ≤ d ∧ d ≤ 9223372036854775807) (w : World) :
    Calls Try.prog 25 #[.int .i64 a, .agg #[.int .i64 b, .bool wr, .int .i64 d]] w (RA #[.int .i64 1, .int .i64 a, .int .i64 b, .int .i64 (mkC wr), .int .i64 (mkD wr d)] w) := by
  obtain ⟨hd0, hd1⟩ := hd
  cases wr
  · rw [show mkC false = 0 from rfl, show mkD false d = 0 from rfl]
    go_enter Try.func25, Try.ntmps25
    go_wp2
    exact bodyPost_ret (v := .agg #[.int .i64 1, .int .i64 a, .int .i64 b, .int .i64 0, .int .i64 0]) (by simp [results, Try.results25, go_sem]) rfl ⟨rfl, by repeat (first | exact Below.refl _ _ | apply bl_alloc)⟩
  · rw [show mkC true = 1 from rfl, show mkD true d = d from rfl]
    go_enter Try.func25, Try.ntmps25
    go_wp2
    exact bodyPost_ret (v := .agg #[.int .i64 1, .int .i64 a, .int .i64 b, .int .i64 1, .int .i64 d]) (by simp [results, Try.results25, go_sem]) rfl ⟨rfl, by repeat (first | exact Below.refl _ _ | apply bl_alloc)⟩
theorem eqA29 (d : Nat) (w : World) (x0 y0 : Int) (x1 y1 : Bool) (x2 y2 : Int) :
    (Op.equalIn (d + 2) 29 (.agg #[.int .i64 x0, .bool x1, .int .i64 x2]) (.agg #[.int .i64 y0, .bool y1, .int .i64 y2])).run Try.prog w = .ok (x0 == y0 && (x1 == y1 && (x2 == y2))) w := by
  refine eqA_of Try.underlying29 (by kernel_rfl) ?_
  refine eqf_cons (by rfl) (by go_simp; rfl) (by go_simp; rfl) (by go_simp) ?_
  refine eqf_cons (by rfl) (by go_simp; rfl) (by go_simp; rfl) (by go_simp) ?_
  exact eqf_last (by rfl) (by go_simp; rfl) (by go_simp; rfl) (by go_simp)

theorem eqA25 (d : Nat) (w : World) (x0 y0 x1 y1 x2 y2 x3 y3 x4 y4 : Int) :
    (Op.equalIn (d + 2) 25 (.agg #[.int .i64 x0, .int .i64 x1, .int .i64 x2, .int .i64 x3, .int .i64 x4]) (.agg #[.int .i64 y0, .int .i64 y1, .int .i64 y2, .int .i64 y3, .int .i64 y4])).run Try.prog w = .ok (x0 == y0 && (x1 == y1 && (x2 == y2 && (x3 == y3 && (x4 == y4))))) w := by
  refine eqA_of Try.underlying25 (by kernel_rfl) ?_
  refine eqf_cons (by rfl) (by go_simp; rfl) (by go_simp; rfl) (by go_simp) ?_
  refine eqf_cons (by rfl) (by go_simp; rfl) (by go_simp; rfl) (by go_simp) ?_
  refine eqf_cons (by rfl) (by go_simp; rfl) (by go_simp; rfl) (by go_simp) ?_
  refine eqf_cons (by rfl) (by go_simp; rfl) (by go_simp; rfl) (by go_simp) ?_
  exact eqf_last (by rfl) (by go_simp; rfl) (by go_simp; rfl) (by go_simp)
section
attribute [local go_sem high] eqA29 eqA25
set_option maxHeartbeats 1000000 in
set_option maxRecDepth 100000 in
theorem awake_any (w : World) : Calls Try.prog 19 #[] w (RB true w) := by
  have e1 : legalB 2 2 1 0 1 1 = true := rfl
  have e2 : legalB 2 2 1 0 1 2 = false := rfl
  have e3 : legalB 2 2 4 (-1) 0 0 = true := rfl
  have e4 : legalB 2 2 0 0 0 0 = false := rfl
  have e5 : opW 1 = true := rfl
  have e6 : opV 1 7 = 7 := rfl
  have e7 : mkC true = 1 := rfl
  have e8 : mkD true 7 = 7 := rfl
  go_enter Try.func19, Try.ntmps19
  go_wp2_with fail
  go_region_held3 (fun w' => w'.cell? ⟨w.heap.size, 0, none⟩ = some (.int .i64 2) ∧ w'.cell? ⟨w.heap.size, 1, none⟩ = some (.int .i64 2) ∧ w'.cell? ⟨w.heap.size, 2, none⟩ = some (.int .i64 0) ∧
     w'.cell? ⟨w.heap.size, 3, none⟩ = some (.int .i64 0) ∧ w'.cell? ⟨w.heap.size, 4, none⟩ = some (.int .i64 0) ∧ w'.cell? ⟨w.heap.size, 5, none⟩ = some (.int .i64 0) ∧
     w'.cell? ⟨w.heap.size, 6, none⟩ = some (.int .i64 0) ∧ w'.cell? ⟨w.heap.size, 7, none⟩ = some (.int .i64 0) ∧ w'.cell? ⟨w.heap.size, 8, none⟩ = some (.int .i64 0) ∧
     w'.cell? ⟨w.heap.size + 1, 0, none⟩ = some (.int .i64 1) ∧ w'.cell? ⟨w.heap.size + 1, 1, none⟩ = some (.int .i64 0) ∧ w'.cell? ⟨w.heap.size + 1, 2, none⟩ = some (.int .i64 1) ∧
     w'.cell? ⟨w.heap.size + 1, 3, none⟩ = some (.int .i64 1) ∧ w'.cell? ⟨w.heap.size + 1, 4, none⟩ = some (.int .i64 7) ∧ w.heap.size + 1 < w'.heap.size ∧ Below w.heap.size w w')
    (first
      | (go_split_ands; refine ⟨?_, ?_, ?_, ?_, ?_, ?_, ?_, ?_, ?_, ?_, ?_, ?_, ?_, ?_, ?_, ?_⟩ <;> first | (rw [(bcell hb).1 _ _ (by omega)]; assumption) | (have := hb.size; omega) | exact Below.trans (by assumption) (hb.mono (by omega)))
      | (refine ⟨?_, ?_, ?_, ?_, ?_, ?_, ?_, ?_, ?_, ?_, ?_, ?_, ?_, ?_, ?_, ?_⟩ <;> first | (go_simp; done) | (simp; done) | (repeat (first | exact Below.refl _ _ | apply bl_alloc | apply bl_drew))))
    (first
      | (go_at_call 20; refine (legal_any _ _ _ _ _ _ _ _ _ _ _ _ _ _ _).mono ?_; rintro e w' ⟨rfl, hb⟩)
      | (go_at_call 22; refine (op_any _ _ _ _ _ _).mono ?_; rintro e w' ⟨rfl, hb⟩)
      | (go_at_call 24; refine (make_any _ _ _ _ (by omega) _).mono ?_; rintro e w' ⟨rfl, hb⟩))
  go_split_ands
  go_wp2
  go_ret
  exact ⟨rfl, by assumption⟩
end
end Go.Proofs.Ytghgmfnebiicgaa.Entry
