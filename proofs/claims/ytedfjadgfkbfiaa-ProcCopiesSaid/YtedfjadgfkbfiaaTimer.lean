/- What the functions of package timer come to, each for all arguments. -/
import Derived.Test.YtedfjadgfkbfiaaPProcPlaysx1
import Derived.Test.YtedfjadgfkbfiaaAid
namespace Go.Proofs.Ytedfjadgfkbfiaa.Timer
open Go.RowKit Go.Proofs.YtedfjadgfkbfiaaW.PrintWords Go.Proofs.YtedfjadgfkbfiaaW.PrintLast Go.Proofs.YtedfjadgfkbfiaaW.PrintMore Go.Proofs.Ytedfjadgfkbfiaa.Aid
section
open Go.Proofs.Ytedfjadgfkbfiaa.PProcPlays
theorem Timer_loop (most : Int) (hm : most ≤ 9223372036854775807) (T : Int) (hT : T ≤ 64) (d : Nat) : ∀ (k : Nat) (n i : Int), 0 ≤ n → n ≤ most → 0 ≤ i → T - i = d → d < k →
    num_Double.l0 k n most T i = some (dbl d n most) := by
  induction d with
  | zero =>
    intro k n i h0 h1 hi hd hk
    obtain ⟨k, rfl⟩ : ∃ m, k = m + 1 := ⟨k - 1, by omega⟩
    simp only [num_Double.l0, dbl]
    rw [if_neg (by omega)]
    unfold mn; rw [if_neg (by omega)]
  | succ d ih =>
    intro k n i h0 h1 hi hd hk
    obtain ⟨k, rfl⟩ : ∃ m, k = m + 1 := ⟨k - 1, by omega⟩
    simp only [num_Double.l0, dbl]
    rw [if_pos (by omega), w64 (n := most - n) (by omega) (by omega)]
    by_cases h : 2 * n > most
    · rw [if_pos (by omega), if_pos h]
    · rw [if_neg (by omega), if_neg h, w64 (n := n + n) (by omega) (by omega), w64 (n := i + 1) (by omega) (by omega), show n + n = 2 * n by omega]
      exact ih _ _ _ (by omega) (by omega) (by omega) (by omega) (by omega)

theorem Timer_double (n times most : Int) (hn : n ≤ 9223372036854775807) (hm : most ≤ 9223372036854775807) (k : Nat) (hk : 64 < k) : num_Double.f k n times most = some (Dbl n times most) := by
  unfold num_Double.f Dbl
  simp only [show ∀ x, mx x 0 = (if x < 0 then 0 else x) from fun x => rfl]
  generalize hn' : (if n < 0 then 0 else n) = n'
  generalize hm' : (if most < 0 then 0 else most) = m'
  have a0 : 0 ≤ n' ∧ n' ≤ 9223372036854775807 := by subst hn'; split <;> omega
  have a1 : 0 ≤ m' ∧ m' ≤ 9223372036854775807 := by subst hm'; split <;> omega
  have a2 : ∃ T : Nat, mn (if times < 0 then 0 else times) 64 = T ∧ T ≤ 64 ∧ (T < 64 → (if times < 0 then 0 else times.toNat) = T) ∧ (T = 64 → 64 ≤ (if times < 0 then 0 else times.toNat)) := by
    refine ⟨(mn (if times < 0 then 0 else times) 64).toNat, ?_, ?_, ?_, ?_⟩ <;> unfold mn <;> (repeat' split) <;> omega
  obtain ⟨T, e, hT, s1, s2⟩ := a2
  rw [e]
  by_cases h : n' > m'
  · rw [if_pos h]
    obtain ⟨k, rfl⟩ : ∃ m, k = m + 1 := ⟨k - 1, by omega⟩
    simp only [num_Double.l0]
    rw [w64 (n := m' - n') (by omega) (by omega)]
    by_cases hz : (0 : Int) < T
    · rw [if_pos hz, if_pos (by omega)]
    · rw [if_neg hz]; unfold mn; rw [if_pos (by omega)]
  · rw [if_neg h, Timer_loop m' a1.2 T (by omega) T k n' 0 a0.1 (by omega) (by omega) (by omega) (by omega)]
    by_cases ht : T = 64
    · rw [dbl_stable T (if times < 0 then 0 else times.toNat) n' m' a0.1 (by omega) a1.2 (by omega) (by have := s2 ht; omega)]
    · rw [s1 (by omega)]

end
theorem Dbl_le (n a m : Int) (hm : m ≤ 9223372036854775807) : Dbl n a m ≤ 9223372036854775807 := by
  unfold Dbl
  simp only []
  generalize hn : (if n < 0 then 0 else n) = n'
  generalize hm' : (if m < 0 then 0 else m) = m'
  have n0 : 0 ≤ n' := by subst hn; split <;> omega
  have m0 : 0 ≤ m' ∧ m' ≤ 9223372036854775807 := by subst hm'; split <;> omega
  by_cases h : n' > m'
  · rw [if_pos h]; omega
  · rw [if_neg h]; have q := dbl_bounds (if a < 0 then 0 else a.toNat) n' m' n0 (by omega); omega

/-- A timer behind a tick: its Left, its Tries, is it over, what is to be done. -/
def tL (l t : Int) (o : Bool) (w n : Int) : Int := if o = true then l else if l > 1 then l - 1 else if t < n then (let d := Dbl w (t + 1) 1048576; if d < 1 then 1 else d) else 0
def tT (l t : Int) (o : Bool) (n : Int) : Int := if o = true then t else if l > 1 then t else if t < n then t + 1 else t
def tO (l t : Int) (o : Bool) (n : Int) : Bool := if o = true then true else if l > 1 then false else if t < n then false else true
def tW (l t : Int) (o : Bool) (n : Int) : Int := if o = true then 0 else if l > 1 then 0 else if t < n then 1 else 2

/-- A first try's Left. -/
def stL (x : Int) : Int := if x < 1 then 1 else x
/-- A timer and a number are told, and what was there is as it was. -/
def RT (l t : Int) (o : Bool) (n : Int) (w : World) (e : Ending) (w' : World) : Prop := e = .returned (.tuple #[.agg #[.int .i64 l, .int .i64 t, .bool o], .int .i64 n]) ∧ Below w.heap.size w w'
def RA (v : Array Value) (w : World) (e : Ending) (w' : World) : Prop := e = .returned (.agg v) ∧ Below w.heap.size w w'
def RB (b : Bool) (w : World) (e : Ending) (w' : World) : Prop := e = .returned (.bool b) ∧ Below w.heap.size w w'
def RI (n : Int) (w : World) (e : Ending) (w' : World) : Prop := e = .returned (.int .i64 n) ∧ Below w.heap.size w w'

theorem tick_any (l t : Int) (o : Bool) (wt n : Int) (hl : -9223372036854775808 ≤ l ∧ l ≤ 9223372036854775807) (ht : -9223372036854775808 ≤ t ∧ t ≤ 9223372036854775807) (hw : wt ≤ 9223372036854775807) (hn : n ≤ 9223372036854775807) (w : World) :
    Calls Try.prog 48 #[.agg #[.int .i64 l, .int .i64 t, .bool o], .int .i64 wt, .int .i64 n] w (RT (tL l t o wt n) (tT l t o n) (tO l t o n) (tW l t o n) w) := by
  refine (PProcPlays.timer_Tick.calls 70 l t o wt n _ _ _ _ w ?_)
  unfold PProcPlays.timer_Tick.f tL tT tO tW
  by_cases h0 : o = true
  · subst h0; rfl
  · rw [if_neg h0, if_neg h0, if_neg h0, if_neg h0, if_neg h0]
    by_cases h1 : l > 1
    · rw [if_pos h1, if_pos h1, if_pos h1, if_pos h1, if_pos h1, w64 (by omega) (by omega), Bool.eq_false_iff.2 h0]
    · rw [if_neg h1, if_neg h1, if_neg h1, if_neg h1, if_neg h1]
      by_cases h2 : t < n
      · rw [if_pos h2, if_pos h2, if_pos h2, if_pos h2, if_pos h2, w64 (n := t + 1) (by omega) (by omega), Timer_double wt (t + 1) 1048576 hw (by omega) 70 (by omega), Bool.eq_false_iff.2 h0]
        rfl
      · rw [if_neg h2, if_neg h2, if_neg h2, if_neg h2, if_neg h2]
theorem tick_over (l t wt n : Int) : tL l t true wt n = l ∧ tT l t true n = t ∧ tO l t true n = true ∧ tW l t true n = 0 := ⟨rfl, rfl, rfl, rfl⟩
theorem tick_bounds (l t : Int) (o : Bool) (wt n : Int) (hl : -9223372036854775808 ≤ l ∧ l ≤ 9223372036854775807) (ht : -9223372036854775808 ≤ t ∧ t ≤ 9223372036854775807) (hn : n ≤ 9223372036854775807) :
    (-9223372036854775808 ≤ tL l t o wt n ∧ tL l t o wt n ≤ 9223372036854775807) ∧ (-9223372036854775808 ≤ tT l t o n ∧ tT l t o n ≤ 9223372036854775807) := by
  have hd := Dbl_le wt (t + 1) 1048576 (by omega)
  unfold tL tT
  simp only []
  constructor <;> (repeat' split) <;> omega
theorem tick_live (l t n : Int) : t ≤ tT l t false n ∧ (tO l t false n != (tW l t false n == 2)) = false := by
  unfold tT tO tW
  constructor
  · (repeat' split) <;> omega
  · (repeat' split) <;> simp_all


end Go.Proofs.Ytedfjadgfkbfiaa.Timer
