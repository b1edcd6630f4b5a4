/- What the functions of package timer and of its reference come to, each for all arguments. -/
import Derived.Test.YtghgmfnebiicgaaPTimerTotalx1
import Derived.Test.YtghgmfnebiicgaaPNumFromx1
import Derived.Test.YtghgmfnebiicgaaNumAid
namespace Go.Proofs.Ytghgmfnebiicgaa.Timer
open Go.RowKit Go.Proofs.YtghgmfnebiicgaaW.PrintWords Go.Proofs.YtghgmfnebiicgaaW.PrintLast Go.Proofs.YtghgmfnebiicgaaW.PrintMore Go.Proofs.Ytghgmfnebiicgaa.Aid
attribute [local go_sem] max2_int min2_int max_two min_two
section
open Go.Proofs.Ytghgmfnebiicgaa.PTimerTotal
theorem Timer_loop (most : Int) (hm : most ≤ 9223372036854775807) (T : Int) (hT : T ≤ 64) (d : Nat) : ∀ (k : Nat) (n i : Int), 0 ≤ n → n ≤ most → 0 ≤ i → T - i = d → d < k →
    num_Double.l0 k n most T i = some (dbl d n most) := by
  induction d with
  | zero =>
    intro k n i h0 h1 hi hd hk
    obtain ⟨k, rfl⟩ : ∃ m, k = m + 1 := ⟨k - 1, by omega⟩
    simp only [num_Double.l0, dbl]
    rw [if_neg (by omega)]
    unfold mn; rw [if_neg (by omega)]
  | succ d ih =>
    intro k n i h0 h1 hi hd hk
    obtain ⟨k, rfl⟩ : ∃ m, k = m + 1 := ⟨k - 1, by omega⟩
    simp only [num_Double.l0, dbl]
    rw [if_pos (by omega), w64 (n := most - n) (by omega) (by omega)]
    by_cases h : 2 * n > most
    · rw [if_pos (by omega), if_pos h]
    · rw [if_neg (by omega), if_neg h, w64 (n := n + n) (by omega) (by omega), w64 (n := i + 1) (by omega) (by omega), show n + n = 2 * n by omega]
      exact ih _ _ _ (by omega) (by omega) (by omega) (by omega) (by omega)

theorem Timer_double (n times most : Int) (hn : n ≤ 9223372036854775807) (hm : most ≤ 9223372036854775807) (k : Nat) (hk : 64 < k) : num_Double.f k n times most = some (Dbl n times most) := by
  unfold num_Double.f Dbl
  simp only [show ∀ x, mx x 0 = (if x < 0 then 0 else x) from fun x => rfl]
  generalize hn' : (if n < 0 then 0 else n) = n'
  generalize hm' : (if most < 0 then 0 else most) = m'
  have a0 : 0 ≤ n' ∧ n' ≤ 9223372036854775807 := by subst hn'; split <;> omega
  have a1 : 0 ≤ m' ∧ m' ≤ 9223372036854775807 := by subst hm'; split <;> omega
  have a2 : ∃ T : Nat, mn (if times < 0 then 0 else times) 64 = T ∧ T ≤ 64 ∧ (T < 64 → (if times < 0 then 0 else times.toNat) = T) ∧ (T = 64 → 64 ≤ (if times < 0 then 0 else times.toNat)) := by
    refine ⟨(mn (if times < 0 then 0 else times) 64).toNat, ?_, ?_, ?_, ?_⟩ <;> unfold mn <;> (repeat' split) <;> omega
  obtain ⟨T, e, hT, s1, s2⟩ := a2
  rw [e]
  by_cases h : n' > m'
  · rw [if_pos h]
    obtain ⟨k, rfl⟩ : ∃ m, k = m + 1 := ⟨k - 1, by omega⟩
    simp only [num_Double.l0]
    rw [w64 (n := m' - n') (by omega) (by omega)]
    by_cases hz : (0 : Int) < T
    · rw [if_pos hz, if_pos (by omega)]
    · rw [if_neg hz]; unfold mn; rw [if_pos (by omega)]
  · rw [if_neg h, Timer_loop m' a1.2 T (by omega) T k n' 0 a0.1 (by omega) (by omega) (by omega) (by omega)]
    by_cases ht : T = 64
    · rw [dbl_stable T (if times < 0 then 0 else times.toNat) n' m' a0.1 (by omega) a1.2 (by omega) (by have := s2 ht; omega)]
    · rw [s1 (by omega)]

end
section
open Go.Proofs.Ytghgmfnebiicgaa.PNumFrom
theorem Timer_ref (times most : Int) (hm : most ≤ 9223372036854775807) (d : Nat) : ∀ (k : Nat) (n i : Int), 0 ≤ n → n ≤ most → 0 ≤ i → i ≤ 70 → (if times < 70 then times else 70) - i ≤ d → d + d + 2 < k →
    jetonref01_Double.l0 k n times most i = some (dbl ((if times < 70 then times else 70) - i).toNat n most) := by
  induction d with
  | zero =>
    intro k n i h0 h1 hi hi2 hd hk
    obtain ⟨k, rfl⟩ : ∃ m, k = m + 2 := ⟨k - 2, by omega⟩
    have e : ((if times < 70 then times else 70) - i).toNat = 0 := by omega
    rw [e]
    simp only [jetonref01_Double.l0, jetonref01_Double.j3, dbl]
    by_cases c : i < times
    · have c2 : decide (i < 70) = false := decide_eq_false (by split at hd <;> omega)
      rw [if_pos c, c2, if_neg (by simp)]
    · rw [if_neg c, if_neg (by simp)]
  | succ d ih =>
    intro k n i h0 h1 hi hi2 hd hk
    obtain ⟨k, rfl⟩ : ∃ m, k = m + 2 := ⟨k - 2, by omega⟩
    by_cases c : i < (if times < 70 then times else 70)
    · have c1 : i < times := by split at c <;> omega
      have c2 : decide (i < 70) = true := decide_eq_true (by split at c <;> omega)
      have e : ((if times < 70 then times else 70) - i).toNat = ((if times < 70 then times else 70) - (i + 1)).toNat + 1 := by omega
      rw [e]
      simp only [jetonref01_Double.l0, jetonref01_Double.j3, dbl]
      have q : Int.tdiv most 2 = most / 2 := Int.tdiv_eq_ediv_of_nonneg (by omega)
      rw [if_pos c1, c2, if_pos rfl, q, w64 (n := most / 2) (by omega) (by omega)]
      by_cases h : 2 * n > most
      · rw [if_pos (by omega), if_pos h]
      · rw [if_neg (by omega), if_neg h, w64 (n := 2 * n) (by omega) (by omega), w64 (n := i + 1) (by omega) (by omega)]
        exact ih _ _ _ (by omega) (by omega) (by omega) (by split at c <;> omega) (by omega) (by omega)
    · have e : ((if times < 70 then times else 70) - i).toNat = 0 := by omega
      rw [e]
      simp only [jetonref01_Double.l0, jetonref01_Double.j3, dbl]
      by_cases c1 : i < times
      · have c2 : decide (i < 70) = false := decide_eq_false (by split at c <;> omega)
        rw [if_pos c1, c2, if_neg (by simp)]
      · rw [if_neg c1, if_neg (by simp)]

theorem Timer_double_ref (n times most : Int) (hn : n ≤ 9223372036854775807) (hm : most ≤ 9223372036854775807) (k : Nat) (hk : 150 < k) : jetonref01_Double.f k n times most = some (Dbl n times most) := by
  unfold jetonref01_Double.f Dbl
  have a2 : ∃ m, k = m + 2 := ⟨k - 2, by omega⟩
  obtain ⟨k, rfl⟩ := a2
  have s : (if n < 0 then jetonref01_Double.j0 (k + 2) 0 times most else jetonref01_Double.j0 (k + 2) n times most) = jetonref01_Double.j0 (k + 2) (if n < 0 then 0 else n) times most := by split <;> rfl
  rw [s]
  simp only [jetonref01_Double.j0]
  have s2 : ∀ n, (if most < 0 then jetonref01_Double.j1 (k + 1) n times 0 else jetonref01_Double.j1 (k + 1) n times most) = jetonref01_Double.j1 (k + 1) n times (if most < 0 then 0 else most) := fun n => by split <;> rfl
  rw [s2]
  generalize hn' : (if n < 0 then 0 else n) = n'
  generalize hm' : (if most < 0 then 0 else most) = m'
  have a0 : 0 ≤ n' ∧ n' ≤ 9223372036854775807 := by subst hn'; split <;> omega
  have a1 : 0 ≤ m' ∧ m' ≤ 9223372036854775807 := by subst hm'; split <;> omega
  simp only [jetonref01_Double.j1]
  by_cases h : n' > m'
  · rw [if_pos h, if_pos h]
  · rw [if_neg h, if_neg h, Timer_ref times m' a1.2 70 k n' 0 a0.1 (by omega) (by omega) (by omega) (by split <;> omega) (by omega)]
    by_cases ht : times < 70
    · rw [if_pos ht, Int.sub_zero]
      by_cases hz : times < 0
      · rw [if_pos hz, show times.toNat = 0 by omega]
      · rw [if_neg hz]
    · rw [if_neg ht, dbl_stable _ (if times < 0 then 0 else times.toNat) n' m' a0.1 (by omega) a1.2 (by omega) (by rw [if_neg (by omega)]; omega)]

end
theorem Dbl_le (n a m : Int) (hm : m ≤ 9223372036854775807) : Dbl n a m ≤ 9223372036854775807 := by
  unfold Dbl
  simp only []
  generalize hn : (if n < 0 then 0 else n) = n'
  generalize hm' : (if m < 0 then 0 else m) = m'
  have n0 : 0 ≤ n' := by subst hn; split <;> omega
  have m0 : 0 ≤ m' ∧ m' ≤ 9223372036854775807 := by subst hm'; split <;> omega
  by_cases h : n' > m'
  · rw [if_pos h]; omega
  · rw [if_neg h]; have q := dbl_bounds (if a < 0 then 0 else a.toNat) n' m' n0 (by omega); omega

theorem bl_alloc {w W : World} (h : Below w.heap.size w W) (o : Obj) : Below w.heap.size w (W.alloc o) := h.alloc h.size o
theorem bl_drew {w W : World} (h : Below w.heap.size w W) : Below w.heap.size w W.drew := h.drew
theorem bl_setCell {w W : World} (h : Below w.heap.size w W) {p : Addr} (hp : w.heap.size ≤ p.block) (v : Value) : Below w.heap.size w (W.setCell p v) := h.setCell hp v
theorem bcell {W w1 : World} (hb : Below W.heap.size W w1) : (∀ b o, b < W.heap.size → w1.cell? ⟨b, o, none⟩ = W.cell? ⟨b, o, none⟩) ∧ (∀ b o, b < W.heap.size → w1.frozen? ⟨b, o, none⟩ = W.frozen? ⟨b, o, none⟩) :=
  ⟨fun b o h => hb.cell (p := ⟨b, o, none⟩) h, fun b o h => hb.frozen (p := ⟨b, o, none⟩) h⟩

/-- A timer behind a tick: its Left, its Tries, is it over, what is to be done. -/
def tL (l t : Int) (o : Bool) (w n : Int) : Int := if o = true then l else if l > 1 then l - 1 else if t < n then (let d := Dbl w (t + 1) 1048576; if d < 1 then 1 else d) else 0
def tT (l t : Int) (o : Bool) (n : Int) : Int := if o = true then t else if l > 1 then t else if t < n then t + 1 else t
def tO (l t : Int) (o : Bool) (n : Int) : Bool := if o = true then true else if l > 1 then false else if t < n then false else true
def tW (l t : Int) (o : Bool) (n : Int) : Int := if o = true then 0 else if l > 1 then 0 else if t < n then 1 else 2

/-- A first try's Left. -/
def stL (x : Int) : Int := if x < 1 then 1 else x
/-- A timer and a number are told, and what was there is as it was. -/
def RT (l t : Int) (o : Bool) (n : Int) (w : World) (e : Ending) (w' : World) : Prop := e = .returned (.tuple #[.agg #[.int .i64 l, .int .i64 t, .bool o], .int .i64 n]) ∧ Below w.heap.size w w'
def RA (v : Array Value) (w : World) (e : Ending) (w' : World) : Prop := e = .returned (.agg v) ∧ Below w.heap.size w w'
def RB (b : Bool) (w : World) (e : Ending) (w' : World) : Prop := e = .returned (.bool b) ∧ Below w.heap.size w w'
def RI (n : Int) (w : World) (e : Ending) (w' : World) : Prop := e = .returned (.int .i64 n) ∧ Below w.heap.size w w'

theorem tick_any (l t : Int) (o : Bool) (wt n : Int) (hl : -9223372036854775808 ≤ l ∧ l ≤ 9223372036854775807) (ht : -9223372036854775808 ≤ t ∧ t ≤ 9223372036854775807) (hw : wt ≤ 9223372036854775807) (hn : n ≤ 9223372036854775807) (w : World) :
    Calls Try.prog 26 #[.agg #[.int .i64 l, .int .i64 t, .bool o], .int .i64 wt, .int .i64 n] w (RT (tL l t o wt n) (tT l t o n) (tO l t o n) (tW l t o n) w) := by
  refine (PTimerTotal.timer_Tick.calls 70 l t o wt n _ _ _ _ w ?_)
  unfold PTimerTotal.timer_Tick.f tL tT tO tW
  by_cases h0 : o = true
  · subst h0; rfl
  · rw [if_neg h0, if_neg h0, if_neg h0, if_neg h0, if_neg h0]
    by_cases h1 : l > 1
    · rw [if_pos h1, if_pos h1, if_pos h1, if_pos h1, if_pos h1, w64 (by omega) (by omega), Bool.eq_false_iff.2 h0]
    · rw [if_neg h1, if_neg h1, if_neg h1, if_neg h1, if_neg h1]
      by_cases h2 : t < n
      · rw [if_pos h2, if_pos h2, if_pos h2, if_pos h2, if_pos h2, w64 (n := t + 1) (by omega) (by omega), Timer_double wt (t + 1) 1048576 hw (by omega) 70 (by omega), Bool.eq_false_iff.2 h0]
        rfl
      · rw [if_neg h2, if_neg h2, if_neg h2, if_neg h2, if_neg h2]
theorem start_any (x : Int) (w : World) : Calls Try.prog 29 #[.int .i64 x] w (RA #[.int .i64 (stL x), .int .i64 0, .bool false] w) :=
  PTimerTotal.timer_Start.calls x _ _ _ w rfl
theorem awake_any (w : World) : Calls Try.prog 28 #[] w (RB true w) :=
  PTimerTotal.jetonlaw07_awake.calls 100 true w (by kernel_rfl)
theorem refDouble_any (n t m : Int) (hn : n ≤ 9223372036854775807) (hm : m ≤ 9223372036854775807) (w : World) : Calls Try.prog 42 #[.int .i64 n, .int .i64 t, .int .i64 m] w (RI (Dbl n t m) w) :=
  (PNumFrom.jetonref01_Double.calls 160 n t m _ w (Timer_double_ref n t m hn hm 160 (by omega))).mono fun e w' ⟨he, hw⟩ => ⟨he, hw.below⟩

set_option maxHeartbeats 4000000 in
set_option maxRecDepth 100000 in
theorem refStart_any (x : Int) (w : World) : Calls Try.prog 30 #[.int .i64 x] w (RA #[.int .i64 (stL x), .int .i64 0, .bool false] w) := by
  by_cases h : x < 1
  · rw [show stL x = 1 from if_pos h]
    go_enter Try.func30, Try.ntmps30
    go_wp2
    exact bodyPost_ret (v := .agg #[.int .i64 1, .int .i64 0, .bool false]) (by simp [results, Try.results30, go_sem]) rfl ⟨rfl, by repeat (first | exact Below.refl _ _ | apply bl_alloc)⟩
  · rw [show stL x = x from if_neg h]
    go_enter Try.func30, Try.ntmps30
    go_wp2
    exact bodyPost_ret (v := .agg #[.int .i64 x, .int .i64 0, .bool false]) (by simp [results, Try.results30, go_sem]) rfl ⟨rfl, by repeat (first | exact Below.refl _ _ | apply bl_alloc)⟩

set_option maxHeartbeats 4000000 in
set_option maxRecDepth 100000 in
theorem refTick_any (l t : Int) (o : Bool) (wt n : Int) (hl : -9223372036854775808 ≤ l ∧ l ≤ 9223372036854775807) (ht : -9223372036854775808 ≤ t ∧ t ≤ 9223372036854775807) (hw : wt ≤ 9223372036854775807) (hn : n ≤ 9223372036854775807) (w : World) :
    Calls Try.prog 27 #[.agg #[.int .i64 l, .int .i64 t, .bool o], .int .i64 wt, .int .i64 n] w (RT (tL l t o wt n) (tT l t o n) (tO l t o n) (tW l t o n) w) := by
  obtain ⟨hl0, hl1⟩ := hl
  obtain ⟨ht0, ht1⟩ := ht
  cases o with
  | true =>
    rw [show tL l t true wt n = l from rfl, show tT l t true n = t from rfl, show tO l t true n = true from rfl, show tW l t true n = 0 from rfl]
    go_enter Try.func27, Try.ntmps27
    go_wp2
    exact bodyPost_ret (v := .tuple #[.agg #[.int .i64 l, .int .i64 t, .bool true], .int .i64 0]) (by simp [results, Try.results27, go_sem]) rfl ⟨rfl, by repeat (first | exact Below.refl _ _ | apply bl_alloc)⟩
  | false =>
    by_cases h1 : l > 1
    · rw [show tL l t false wt n = l - 1 by simp [tL, h1], show tT l t false n = t by simp [tT, h1], show tO l t false n = false by simp [tO, h1], show tW l t false n = 0 by simp [tW, h1]]
      go_enter Try.func27, Try.ntmps27
      go_wp2
      exact bodyPost_ret (v := .tuple #[.agg #[.int .i64 (l - 1), .int .i64 t, .bool false], .int .i64 0]) (by simp [results, Try.results27, go_sem]) rfl ⟨rfl, by repeat (first | exact Below.refl _ _ | apply bl_alloc)⟩
    · by_cases h2 : t < n
      · have hd := Dbl_le wt (t + 1) 1048576 (by omega)
        by_cases h3 : Dbl wt (t + 1) 1048576 < 1
        · rw [show tL l t false wt n = 1 by simp [tL, h1, h2, h3], show tT l t false n = t + 1 by simp [tT, h1, h2], show tO l t false n = false by simp [tO, h1, h2], show tW l t false n = 1 by simp [tW, h1, h2]]
          go_enter Try.func27, Try.ntmps27
          go_wp2_with (go_at_call 42; refine (refDouble_any _ _ _ (by omega) (by omega) _).mono ?_; rintro e w' ⟨rfl, hb⟩; have hz : w.heap.size + 1 < w'.heap.size := (by have := hb.size; first | omega | (simp at this; omega)); have hbw : Below w.heap.size w w' := (Below.trans (by repeat (first | assumption | exact Below.refl _ _ | apply bl_alloc | apply bl_drew | (refine bl_setCell ?_ (by simp <;> omega) _))) (hb.mono (by first | omega | (simp; done) | (simp; omega)))); have g0 : w'.cell? ⟨w.heap.size, 0, none⟩ = some (.int .i64 l) := ((bcell hb).1 _ _ (by first | omega | (simp; done) | (simp; omega))).trans (by first | assumption | (go_simp; done) | (simp; done)); have g1 : w'.cell? ⟨w.heap.size, 1, none⟩ = some (.int .i64 t) := ((bcell hb).1 _ _ (by first | omega | (simp; done) | (simp; omega))).trans (by first | assumption | (go_simp; done) | (simp; done)); have g2 : w'.cell? ⟨w.heap.size, 2, none⟩ = some (.bool false) := ((bcell hb).1 _ _ (by first | omega | (simp; done) | (simp; omega))).trans (by first | assumption | (go_simp; done) | (simp; done)); have g3 : w'.cell? ⟨w.heap.size + 1, 0, none⟩ = some (.int .i64 0) := ((bcell hb).1 _ _ (by first | omega | (simp; done) | (simp; omega))).trans (by first | assumption | (go_simp; done) | (simp; done)); have g4 : w'.cell? ⟨w.heap.size + 1, 1, none⟩ = some (.int .i64 0) := ((bcell hb).1 _ _ (by first | omega | (simp; done) | (simp; omega))).trans (by first | assumption | (go_simp; done) | (simp; done)); have g5 : w'.cell? ⟨w.heap.size + 1, 2, none⟩ = some (.bool false) := ((bcell hb).1 _ _ (by first | omega | (simp; done) | (simp; omega))).trans (by first | assumption | (go_simp; done) | (simp; done)); have q0 : w'.frozen? ⟨w.heap.size + 1, 0, none⟩ = false := ((bcell hb).2 _ _ (by first | omega | (simp; done) | (simp; omega))).trans (by first | assumption | (go_simp; done) | (simp; done)); have q1 : w'.frozen? ⟨w.heap.size + 1, 1, none⟩ = false := ((bcell hb).2 _ _ (by first | omega | (simp; done) | (simp; omega))).trans (by first | assumption | (go_simp; done) | (simp; done)); have q2 : w'.frozen? ⟨w.heap.size + 1, 2, none⟩ = false := ((bcell hb).2 _ _ (by first | omega | (simp; done) | (simp; omega))).trans (by first | assumption | (go_simp; done) | (simp; done)); clear hb)
          exact bodyPost_ret (v := .tuple #[.agg #[.int .i64 (1), .int .i64 (t + 1), .bool false], .int .i64 1]) (by simp [results, Try.results27, go_sem, *]) rfl ⟨rfl, by repeat (first | assumption | apply bl_alloc | (refine bl_setCell ?_ (by simp) _))⟩
        · rw [show tL l t false wt n = Dbl wt (t + 1) 1048576 by simp [tL, h1, h2, h3], show tT l t false n = t + 1 by simp [tT, h1, h2], show tO l t false n = false by simp [tO, h1, h2], show tW l t false n = 1 by simp [tW, h1, h2]]
          go_enter Try.func27, Try.ntmps27
          go_wp2_with (go_at_call 42; refine (refDouble_any _ _ _ (by omega) (by omega) _).mono ?_; rintro e w' ⟨rfl, hb⟩; have hz : w.heap.size + 1 < w'.heap.size := (by have := hb.size; first | omega | (simp at this; omega)); have hbw : Below w.heap.size w w' := (Below.trans (by repeat (first | assumption | exact Below.refl _ _ | apply bl_alloc | apply bl_drew | (refine bl_setCell ?_ (by simp <;> omega) _))) (hb.mono (by first | omega | (simp; done) | (simp; omega)))); have g0 : w'.cell? ⟨w.heap.size, 0, none⟩ = some (.int .i64 l) := ((bcell hb).1 _ _ (by first | omega | (simp; done) | (simp; omega))).trans (by first | assumption | (go_simp; done) | (simp; done)); have g1 : w'.cell? ⟨w.heap.size, 1, none⟩ = some (.int .i64 t) := ((bcell hb).1 _ _ (by first | omega | (simp; done) | (simp; omega))).trans (by first | assumption | (go_simp; done) | (simp; done)); have g2 : w'.cell? ⟨w.heap.size, 2, none⟩ = some (.bool false) := ((bcell hb).1 _ _ (by first | omega | (simp; done) | (simp; omega))).trans (by first | assumption | (go_simp; done) | (simp; done)); have g3 : w'.cell? ⟨w.heap.size + 1, 0, none⟩ = some (.int .i64 0) := ((bcell hb).1 _ _ (by first | omega | (simp; done) | (simp; omega))).trans (by first | assumption | (go_simp; done) | (simp; done)); have g4 : w'.cell? ⟨w.heap.size + 1, 1, none⟩ = some (.int .i64 0) := ((bcell hb).1 _ _ (by first | omega | (simp; done) | (simp; omega))).trans (by first | assumption | (go_simp; done) | (simp; done)); have g5 : w'.cell? ⟨w.heap.size + 1, 2, none⟩ = some (.bool false) := ((bcell hb).1 _ _ (by first | omega | (simp; done) | (simp; omega))).trans (by first | assumption | (go_simp; done) | (simp; done)); have q0 : w'.frozen? ⟨w.heap.size + 1, 0, none⟩ = false := ((bcell hb).2 _ _ (by first | omega | (simp; done) | (simp; omega))).trans (by first | assumption | (go_simp; done) | (simp; done)); have q1 : w'.frozen? ⟨w.heap.size + 1, 1, none⟩ = false := ((bcell hb).2 _ _ (by first | omega | (simp; done) | (simp; omega))).trans (by first | assumption | (go_simp; done) | (simp; done)); have q2 : w'.frozen? ⟨w.heap.size + 1, 2, none⟩ = false := ((bcell hb).2 _ _ (by first | omega | (simp; done) | (simp; omega))).trans (by first | assumption | (go_simp; done) | (simp; done)); clear hb)
          exact bodyPost_ret (v := .tuple #[.agg #[.int .i64 (Dbl wt (t + 1) 1048576), .int .i64 (t + 1), .bool false], .int .i64 1]) (by simp [results, Try.results27, go_sem, *]) rfl ⟨rfl, by repeat (first | assumption | apply bl_alloc | (refine bl_setCell ?_ (by simp) _))⟩
      · rw [show tL l t false wt n = 0 by simp [tL, h1, h2], show tT l t false n = t by simp [tT, h1, h2], show tO l t false n = true by simp [tO, h1, h2], show tW l t false n = 2 by simp [tW, h1, h2]]
        go_enter Try.func27, Try.ntmps27
        go_wp2
        exact bodyPost_ret (v := .tuple #[.agg #[.int .i64 0, .int .i64 t, .bool true], .int .i64 2]) (by simp [results, Try.results27, go_sem]) rfl ⟨rfl, by repeat (first | exact Below.refl _ _ | apply bl_alloc)⟩
end Go.Proofs.Ytghgmfnebiicgaa.Timer
