/- Rows of letters in memory, as plain lists; append, clear and '==' on them. -/
import Derived.Test.YtedfjadgfkbfiaaSlices
import Derived.Test.YtedfjadgfkbfiaaWEqStruct
import Derived.Test.YtedfjadgfkbfiaaWWords
import Derived.WalkKit
import Derived.Maps.AppendAt
import Derived.Deep.RegionLaw
namespace Go.Proofs.Ytedfjadgfkbfiaa.NetW
open Go.RowKit Go.Proofs.YtedfjadgfkbfiaaW.PrintWords Go.Proofs.Ytedfjadgfkbfiaa.Opens
set_option linter.unusedVariables false
set_option linter.unusedSimpArgs false

/-- A letter: Kind, From, To, Block, Seq, Who, Write; its bundle's Count, Owner, Has, Data. -/
abbrev LetR := Int × Int × Int × Int × Int × Int × Bool × Int × Bool × Bool × Int
def letCells : LetR → List Value
  | (k, f, t, b, s, wh, wr, c, o, h, d) => [.int .i64 k, .int .i64 f, .int .i64 t, .int .i64 b, .int .i64 s, .int .i64 wh, .bool wr, .int .i64 c, .bool o, .bool h, .int .i64 d]
def l0 : LetR := (0, 0, 0, 0, 0, 0, false, 0, false, false, 0)
theorem letCells_len (l : LetR) : (letCells l).length = 11 := by obtain ⟨k, f, t, b, s, wh, wr, c, o, h, d⟩ := l; rfl
theorem letCells_one (l : LetR) : ∀ u ∈ letCells l, u.oneCell' = true := by
  obtain ⟨k, f, t, b, s, wh, wr, c, o, h, d⟩ := l
  intro u hu
  simp only [letCells, List.mem_cons, List.not_mem_nil, or_false] at hu
  rcases hu with rfl | rfl | rfl | rfl | rfl | rfl | rfl | rfl | rfl | rfl | rfl <;> rfl
def flat (xs : List LetR) : List Value := xs.flatMap letCells
theorem flat_nil : flat [] = [] := rfl
theorem flat_cons (x : LetR) (xs : List LetR) : flat (x :: xs) = letCells x ++ flat xs := rfl
theorem flat_append (xs ys : List LetR) : flat (xs ++ ys) = flat xs ++ flat ys := by simp [flat]
theorem flat_len (xs : List LetR) : (flat xs).length = xs.length * 11 := by
  induction xs with
  | nil => rfl
  | cons x xs ih => rw [flat_cons, List.length_append, letCells_len, ih, List.length_cons]; omega
theorem flat_one (xs : List LetR) : ∀ u ∈ flat xs, u.oneCell' = true := by
  intro u hu
  obtain ⟨x, _, hx⟩ := List.mem_flatMap.1 hu
  exact letCells_one x u hx
theorem flat_get (xs : List LetR) : ∀ (i j : Nat), i < xs.length → j < 11 → (flat xs)[i * 11 + j]? = (letCells (xs.getD i l0))[j]? := by
  induction xs with
  | nil => intro i j hi; simp at hi
  | cons x xs ih =>
    intro i j hi hj
    rw [flat_cons]
    cases i with
    | zero =>
      rw [List.getElem?_append_left (by rw [letCells_len]; omega)]
      simp
    | succ i =>
      rw [List.getElem?_append_right (by rw [letCells_len]; omega), letCells_len, show (i + 1) * 11 + j - 11 = i * 11 + j by omega, ih i j (by simpa using hi) hj]
      simp
theorem flat_take (xs : List LetR) (i : Nat) (h : i ≤ xs.length) : (flat xs).take (i * 11) = flat (xs.take i) := by
  conv => lhs; rw [← List.take_append_drop i xs, flat_append]
  rw [List.take_left' (by rw [flat_len, List.length_take]; omega)]
theorem flat_drop (xs : List LetR) (i : Nat) (h : i ≤ xs.length) : (flat xs).drop (i * 11) = flat (xs.drop i) := by
  conv => lhs; rw [← List.take_append_drop i xs, flat_append]
  rw [List.drop_left' (by rw [flat_len, List.length_take]; omega)]

/-- A row of letters that is read. -/
abbrev RowL (W : World) (A : Option Addr) (xs : List LetR) : Prop := Row letCells l0 11 W A xs
/-- A row of letters that the call itself has built, in blocks from B on. -/
abbrev OwnL (B : Nat) (v : Value) (xs : List LetR) (W : World) : Prop := W.ownsRow B 36 11 v xs.length (flat xs)

theorem RowL.below {W W' : World} {A : Option Addr} {xs : List LetR} (h : RowL W A xs) (hb : Below W.heap.size W W') : RowL W' A xs := Row.below h letCells_len hb
theorem RowL.news {W : World} {ad : Addr} {xs : List LetR} (h : RowL W (some ad) xs) : ∀ j u, (flat xs)[j]? = some u → W.cell? (ad.add j) = some u := by
  intro j u hu
  have hj : j < xs.length * 11 := by rw [← flat_len]; exact (List.getElem?_eq_some_iff.1 hu).1
  obtain ⟨ad', e, hc⟩ := h (j / 11) (by omega)
  injection e with e
  subst e
  have h1 := hc (j % 11) (Nat.mod_lt _ (by omega))
  rw [show j / 11 * 11 + j % 11 = j by omega] at h1
  rw [h1, ← flat_get xs (j / 11) (j % 11) (by omega) (Nat.mod_lt _ (by omega)), show j / 11 * 11 + j % 11 = j by omega, hu]
theorem OwnL.row {B : Nat} {v : Value} {xs : List LetR} {W : World} (h : OwnL B v xs W) : ∃ A c, v = .slice A xs.length c ∧ RowL W A xs ∧ xs.length ≤ c ∧ (A = none → xs = []) := by
  rcases h.2 with ⟨rfl, hn⟩ | ⟨g, cap, cur, rfl, _, hg, hnc, _⟩
  · have : xs = [] := List.eq_nil_of_length_eq_zero hn
    subst this
    exact ⟨none, 0, rfl, fun i hi => by simp at hi, Nat.le_refl _, fun _ => rfl⟩
  · refine ⟨_, cap, rfl, fun i hi => ⟨_, rfl, fun j hj => ?_⟩, hnc, fun e => by simp at e⟩
    have hlt : i * 11 + j < (flat xs).length := by rw [flat_len]; omega
    have := World.ownsRow.cells h (g := g) rfl (i * 11 + j) _ (List.getElem?_eq_getElem hlt)
    rw [this, ← List.getElem?_eq_getElem hlt, flat_get xs i j hi hj]
theorem OwnL.below {B : Nat} {v : Value} {xs : List LetR} {W W1 : World} (h : OwnL B v xs W) (hb : Below W.heap.size W W1) : OwnL B v xs W1 :=
  World.ownsRow.kept h (grown_of_below hb none) (by cases hv : v.ownBlock with | none => exact .inl rfl | some b => exact .inr (by simp))
theorem OwnL.lt {B : Nat} {v : Value} {xs : List LetR} {W : World} (h : OwnL B v xs W) : ∀ k, v.ownBlock = some k → B ≤ k ∧ k < W.heap.size := World.ownsRow.lt h
theorem OwnL.base {B B' : Nat} {v : Value} {xs : List LetR} {W : World} (h : OwnL B v xs W) (hb : B' ≤ B) : OwnL B' v xs W := by
  refine ⟨h.1, ?_⟩
  rcases h.2 with ⟨a, b⟩ | ⟨g, cap, cur, a, hB, r⟩
  · exact .inl ⟨a, b⟩
  · exact .inr ⟨g, cap, cur, a, Nat.le_trans hb hB, r⟩
theorem OwnL.nil (B : Nat) (W : World) : OwnL B (.slice none 0 0) [] W := World.ownsRow_nil _ _ _ _

theorem info36 : (Try.prog.info? 36).map (fun i => (i.zero, i.size, i.bytes)) = some (some (.agg #[.int .i64 0, .int .i64 0, .int .i64 0, .int .i64 0, .int .i64 0, .int .i64 0, .bool false, .int .i64 0, .bool false, .bool false, .int .i64 0]), 11, 80) := by kernel_rfl

/-- append(v, x...): x a row of letters wherever it lies, v the call's own. -/
theorem app_run {B : Nat} {v : Value} {xs ys : List LetR} {A : Option Addr} {c : Nat} {w : World} (ty : TypeId) (hO : OwnL B v xs w) (hR : RowL w A ys) (hbytes : (xs.length + ys.length) * 80 ≤ 140737488355328) (hB : B ≤ w.heap.size) :
    ∃ v' w', (Builtin.append_ #[27, 27] ty #[v, .slice A ys.length c]).run Try.prog w = .ok v' w' ∧ OwnL B v' (xs ++ ys) w' ∧ w.grownBy w' v.ownBlock ∧ (v'.ownBlock = v.ownBlock ∨ ∃ b, v'.ownBlock = some b ∧ w.heap.size ≤ b) := by
  obtain ⟨i0, hi, hz0, hz1, hz2⟩ := info_parts info36
  cases A with
  | some ad =>
    obtain ⟨v', w', h1, h2, h3, _, h5⟩ := run_append_own_at (P := Try.prog) w B 27 ty 36 i0 _ 11 80 Try.underlying27 hi hz0 hz1 hz2 rfl (by decide) v xs.length (flat xs) hO ad ys.length c (flat ys) (flat_len ys) hR.news (flat_one ys) (by unfold maxLen; omega) hbytes hB
    refine ⟨v', w', h1, ?_, h3, h5.imp id fun h => ⟨_, h, Nat.le_refl _⟩⟩
    have := h2
    rw [← flat_append, ← List.length_append] at this
    exact this
  | none =>
    have hy : ys = [] := by
      cases ys with
      | nil => rfl
      | cons y ys => obtain ⟨ad, e, _⟩ := hR 0 (by simp); simp at e
    subst hy
    refine ⟨v, w, ?_, by simpa using hO, World.grownBy.refl _ _, .inl rfl⟩
    rcases hO.2 with ⟨rfl, hn⟩ | ⟨g, cap, cur, rfl, _, hg, hnc, _⟩
    · simp [Builtin.append_, run_underlying Try.underlying27, sizeOf, typeInfo, hi, Builtin.lenOf, Builtin.firstCells]
    · simp [Builtin.append_, run_underlying Try.underlying27, sizeOf, typeInfo, hi, Builtin.lenOf, Builtin.firstCells, storeCells, hnc]

theorem list_app {ops : Array Oper} {rest : List Oper} {o : Oper} {a : Act} {Q : Exit → Act → World → Prop} {w : World} (hgd : o.guard = none) (s x : Operand)
    (ho : o.op = .call { callee := .builtin .append, args := #[s, x], argTypes := #[27, 27] }) {B : Nat} {v : Value} {xs ys : List LetR} {A : Option Addr} {c : Nat}
    (hs : a.eval s = v) (hx : a.eval x = .slice A ys.length c) (hO : OwnL B v xs w) (hR : RowL w A ys) (hbytes : (xs.length + ys.length) * 80 ≤ 140737488355328) (hB : B ≤ w.heap.size)
    (h : ∀ v' w', OwnL B v' (xs ++ ys) w' → w.grownBy w' v.ownBlock → (v'.ownBlock = v.ownBlock ∨ ∃ b, v'.ownBlock = some b ∧ w.heap.size ≤ b) → wpList Try.prog ops Q rest (a.put o.dst v') w') : wpList Try.prog ops Q (o :: rest) a w := by
  refine wpList_plain hgd fun K hK => ?_
  obtain ⟨v', w', hr, h2, h3, h4⟩ := app_run o.type hO hR (c := c) hbytes hB
  unfold Oper.wp execOp
  simp only [ho, resolve, invoke, builtin, Sem.run_bind, Sem.run_pure, Result.andThen_ok, List.map_toArray, List.map_cons, List.map_nil, hs, hx, hr]
  exact hK _ _ (h v' w' h2 h3 h4)
/-- The same, as a step of a region that draws. -/
theorem step_app {ops : Array Oper} {o : Oper} {a : Act} {K : Act → World → Prop} {Q : Exit → Act → World → Prop} {w : World} {E : Prop} (hgd : o.guard = none) (s x : Operand)
    (ho : o.op = .call { callee := .builtin .append, args := #[s, x], argTypes := #[27, 27] }) {B : Nat} {v : Value} {xs ys : List LetR} {A : Option Addr} {c : Nat}
    (hs : a.eval s = v) (hx : a.eval x = .slice A ys.length c) (hO : OwnL B v xs w) (hR : RowL w A ys) (hbytes : (xs.length + ys.length) * 80 ≤ 140737488355328) (hB : B ≤ w.heap.size)
    (h : ∀ v' w', OwnL B v' (xs ++ ys) w' → w.grownBy w' v.ownBlock → (v'.ownBlock = v.ownBlock ∨ ∃ b, v'.ownBlock = some b ∧ w.heap.size ≤ b) → K (a.put o.dst v') w') :
    if Region.wanted o (yielded ops a.tmps) = true then Oper.wp Try.prog o a w K Q else E := by
  have hw : Region.wanted o (yielded ops a.tmps) = true := by simp [Region.wanted, hgd]
  rw [if_pos hw]
  obtain ⟨v', w', hr, h2, h3, h4⟩ := app_run o.type hO hR (c := c) hbytes hB
  unfold Oper.wp execOp
  simp only [ho, resolve, invoke, builtin, Sem.run_bind, Sem.run_pure, Result.andThen_ok, List.map_toArray, List.map_cons, List.map_nil, hs, hx, hr]
  exact h v' w' h2 h3 h4
end Go.Proofs.Ytedfjadgfkbfiaa.NetW
