/- What the small functions behind the net do: a copy of a row, one letter struck, '==' of letters. -/
import Derived.Test.YtedfjadgfkbfiaaNetRows
import Derived.WalkKit
import Derived.Deep.RegionLaw
import Derived.Lib.SliceRun
import Derived.Deep.RegionHeld3
import Derived.Deep.LoopGhost
namespace Go.Proofs.Ytedfjadgfkbfiaa.NetW
open Go.RowKit Go.Proofs.YtedfjadgfkbfiaaW.PrintWords Go.Proofs.Ytedfjadgfkbfiaa.Opens
set_option linter.unusedVariables false
set_option linter.unusedSimpArgs false

theorem eqA34 (d : Nat) (w : World) (c1 c2 d1 d2 : Int) (o1 o2 h1 h2 : Bool) :
    (Op.equalIn (d + 2) 34 (.agg #[.int .i64 c1, .bool o1, .bool h1, .int .i64 d1]) (.agg #[.int .i64 c2, .bool o2, .bool h2, .int .i64 d2])).run Try.prog w = .ok (c1 == c2 && (o1 == o2 && (h1 == h2 && (d1 == d2)))) w := by
  refine eqA_of Try.underlying34 (by kernel_rfl) ?_
  refine eqf_cons (by rfl) (by go_simp; rfl) (by go_simp; rfl) (by go_simp) ?_
  refine eqf_cons (by rfl) (by go_simp; rfl) (by go_simp; rfl) (by go_simp) ?_
  refine eqf_cons (by rfl) (by go_simp; rfl) (by go_simp; rfl) (by go_simp) ?_
  exact eqf_last (by rfl) (by go_simp; rfl) (by go_simp; rfl) (by go_simp)
theorem eqA36 (d : Nat) (w : World) (k1 f1 t1 b1 s1 wh1 c1 d1 k2 f2 t2 b2 s2 wh2 c2 d2 : Int) (wr1 o1 h1 wr2 o2 h2 : Bool) :
    (Op.equalIn (d + 3) 36 (.agg #[.int .i64 k1, .int .i64 f1, .int .i64 t1, .int .i64 b1, .int .i64 s1, .int .i64 wh1, .bool wr1, .int .i64 c1, .bool o1, .bool h1, .int .i64 d1]) (.agg #[.int .i64 k2, .int .i64 f2, .int .i64 t2, .int .i64 b2, .int .i64 s2, .int .i64 wh2, .bool wr2, .int .i64 c2, .bool o2, .bool h2, .int .i64 d2])).run Try.prog w = .ok (k1 == k2 && (f1 == f2 && (t1 == t2 && (b1 == b2 && (s1 == s2 && (wh1 == wh2 && (wr1 == wr2 && (c1 == c2 && (o1 == o2 && (h1 == h2 && (d1 == d2))))))))))) w := by
  refine eqA_of Try.underlying36 (by kernel_rfl) ?_
  refine eqf_cons (by rfl) (by go_simp; rfl) (by go_simp; rfl) (by go_simp) ?_
  refine eqf_cons (by rfl) (by go_simp; rfl) (by go_simp; rfl) (by go_simp) ?_
  refine eqf_cons (by rfl) (by go_simp; rfl) (by go_simp; rfl) (by go_simp) ?_
  refine eqf_cons (by rfl) (by go_simp; rfl) (by go_simp; rfl) (by go_simp) ?_
  refine eqf_cons (by rfl) (by go_simp; rfl) (by go_simp; rfl) (by go_simp) ?_
  refine eqf_cons (by rfl) (by go_simp; rfl) (by go_simp; rfl) (by go_simp) ?_
  refine eqf_cons (by rfl) (by go_simp; rfl) (by go_simp; rfl) (by go_simp) ?_
  exact eqf_last (by rfl) (by go_simp) (by go_simp) (eqA34 d w _ _ _ _ _ _ _ _)

/-- clear(s), s the one letter behind the others. -/
theorem list_clear {ops : Array Oper} {rest : List Oper} {o : Oper} {a : Act} {Q : Exit → Act → World → Prop} {w : World} (hgd : o.guard = none) (x : Operand)
    (ho : o.op = .call { callee := .builtin .clear, args := #[x], argTypes := #[27] }) {g q m c : Nat} {cur : Array Value}
    (hx : a.eval x = .slice (some ⟨g, q, none⟩) m c) (hm : m = 1) (hg : w.heap[g]? = some (.cells cur 36 (0, 0))) (hfit : q + 11 ≤ cur.size)
    (h : ∀ cur' : Array Value, cur'.size = cur.size → cur'.toList.take q = cur.toList.take q → wpList Try.prog ops Q rest (a.put o.dst (.tuple #[])) (w.setRow g cur')) : wpList Try.prog ops Q (o :: rest) a w := by
  refine wpList_plain hgd fun K hK => ?_
  subst hm
  obtain ⟨i0, hi, hz0, hz1, hz2⟩ := info_parts info36
  have hst := run_storeCells_at Try.prog g q 36 (letCells l0) 0 cur w hg (by rw [letCells_len]; omega) (letCells_one _)
  have hzv : (zeroValue 36).run Try.prog w = .ok (.agg (letCells l0).toArray) w := by simp [zeroValue, typeInfo, hi, hz0]; rfl
  have hzc : (Builtin.zeroCells (Value.agg (letCells l0).toArray).cells 1).toList = letCells l0 := by simp [Builtin.zeroCells, Value.cells, letCells, l0, List.range_succ]
  simp only [Nat.add_zero] at hst
  have hr : (Builtin.clear_ #[27] o.type #[.slice (some ⟨g, q, none⟩) 1 c]).run Try.prog w = .ok (.tuple #[]) (w.setRow g (cur.toList.take q ++ letCells l0 ++ cur.toList.drop (q + (letCells l0).length)).toArray) := by
    simp [Builtin.clear_, run_underlying Try.underlying27, hzv, hzc, hst]
  unfold Oper.wp execOp
  simp only [ho, resolve, invoke, builtin, Sem.run_bind, Sem.run_pure, Result.andThen_ok, List.map_toArray, List.map_cons, List.map_nil, hx, hr]
  refine hK _ _ (h _ ?_ ?_)
  · simp only [List.size_toArray, List.length_append, List.length_take, List.length_drop, Array.length_toList, letCells_len]; omega
  · simp only [List.append_assoc]
    rw [List.take_left' (by simp only [List.length_take, Array.length_toList]; omega)]

/-- append(s[:i], s[i+1:]...): a step of a region that draws. -/
theorem step_del {ops : Array Oper} {o : Oper} {a : Act} {K : Act → World → Prop} {Q : Exit → Act → World → Prop} {w : World} {E : Prop} (hgd : o.guard = none) (s x : Operand)
    (ho : o.op = .call { callee := .builtin .append, args := #[s, x], argTypes := #[27, 27] }) {g i m cap c : Nat} {cur : Array Value} {ad : Addr} {ys : List LetR}
    (hs : a.eval s = .slice (some ⟨g, 0, none⟩) i cap) (hx : a.eval x = .slice (some ad) m c) (hm : m = ys.length) (hR : ∀ j u, (flat ys)[j]? = some u → w.cell? (ad.add j) = some u)
    (hg : w.heap[g]? = some (.cells cur 36 (0, 0))) (hroom : i + ys.length ≤ cap) (hcs : cur.size = cap * 11)
    (h : ∀ cur' : Array Value, cur'.size = cap * 11 → cur'.toList.take ((i + ys.length) * 11) = cur.toList.take (i * 11) ++ flat ys → K (a.put o.dst (.slice (some ⟨g, 0, none⟩) (i + ys.length) cap)) (w.setRow g cur')) :
    if Region.wanted o (yielded ops a.tmps) = true then Oper.wp Try.prog o a w K Q else E := by
  have hw : Region.wanted o (yielded ops a.tmps) = true := by simp [Region.wanted, hgd]
  rw [if_pos hw]
  subst hm
  obtain ⟨i0, hi, hz0, hz1, hz2⟩ := info_parts info36
  have hr := run_append_room (P := Try.prog) w 27 o.type 36 i0 Try.underlying27 hi g i cap cur hg ad ys.length c (flat ys) (by rw [hz1]; exact flat_len ys) hR (flat_one ys) hroom (by rw [hz1, flat_len, hcs]; omega)
  rw [hz1] at hr
  unfold Oper.wp execOp
  simp only [ho, resolve, invoke, builtin, Sem.run_bind, Sem.run_pure, Result.andThen_ok, List.map_toArray, List.map_cons, List.map_nil, hs, hx, hr]
  refine h _ ?_ ?_
  · simp only [List.size_toArray, List.length_append, List.length_take, List.length_drop, Array.length_toList, flat_len]; omega
  · show List.take _ (_ ++ _ ++ _) = _
    rw [List.take_left' (by simp only [List.length_append, List.length_take, Array.length_toList, flat_len]; omega)]

set_option maxHeartbeats 4000000 in
set_option maxRecDepth 100000 in
theorem drops_any (k f t b s wh c d : Int) (wr o h : Bool) (w : World) : Calls Try.prog 45 #[.agg #[.int .i64 k, .int .i64 f, .int .i64 t, .int .i64 b, .int .i64 s, .int .i64 wh, .bool wr, .int .i64 c, .bool o, .bool h, .int .i64 d]] w fun e w' => e = .returned (.bool (k == 2)) ∧ Below w.heap.size w w' := by
  go_enter Try.func45, Try.ntmps45
  go_wp2
  go_ret
  exact ⟨rfl, by repeat (first | exact Below.refl _ _ | apply below_alloc)⟩

set_option maxHeartbeats 4000000 in
set_option maxRecDepth 100000 in
theorem is_any (g : Nat) (rm : Int) (A : Option Addr) (n c : Nat) (at_ : Int) (w : World) (hB : w.heap[g]? = some (.cells #[.int .i64 rm, .slice A n c] 80 (0, 0))) :
    Calls Try.prog 43 #[.pointer (some ⟨g, 0, none⟩), .int .i64 at_] w fun e w' => e = .returned (.bool (decide (0 ≤ at_ ∧ at_ < n))) ∧ w' = w := by
  have c1 : w.cell? ⟨g, 1, none⟩ = some (.slice A n c) := (blk_cell hB 1).trans rfl
  clear hB
  by_cases h0 : 0 ≤ at_
  · by_cases h1 : at_ < n
    · go_enter Try.func43, Try.ntmps43
      go_wp2
      go_ret
      exact ⟨by simp [h0, h1], rfl⟩
    · go_enter Try.func43, Try.ntmps43
      go_wp2
      go_ret
      exact ⟨by simp [h0, h1], rfl⟩
  · go_enter Try.func43, Try.ntmps43
    go_wp2
    go_ret
    exact ⟨by simp [h0]; omega, rfl⟩

theorem nil27 (w : World) (a : Option Addr) (n c : Nat) : (binOp .eql 27 (.slice a n c) (.slice none 0 0)).run Try.prog w = .ok (.bool a.isNone) w := Lib.run_eql_slice_nil w 27 36 a n c 0 0 Try.underlying27
attribute [local go_sem] nil27

set_option maxHeartbeats 4000000 in
set_option maxRecDepth 100000 in
theorem clone_any {A : Option Addr} {xs : List LetR} {c : Nat} {w : World} (hR : RowL w A xs) (hn : A = none → xs = []) (hlen : xs.length * 80 ≤ 140737488355328) :
    Calls Try.prog 42 #[.slice A xs.length c] w fun e w' => ∃ v, e = .returned v ∧ OwnL w.heap.size v xs w' ∧ Below w.heap.size w w' := by
  have R := Aside0.mk hR
  clear hR
  cases A with
  | none =>
    obtain rfl := hn rfl
    go_enter Try.func42, Try.ntmps42
    go_wp2
    go_ret
    exact ⟨_, rfl, OwnL.nil _ _, Below.refl _ _⟩
  | some ad =>
    clear hn
    have O := Aside0.mk (show OwnL w.heap.size (.slice (some ⟨w.heap.size, 0, none⟩) 0 0) [] (w.alloc (.cells #[] 36)) from World.ownsRow_made w #[] 0 (Nat.le_refl _) (Nat.zero_le _) rfl)
    have R2 := Aside0.mk (RowL.below R.out (below_alloc (Below.refl _ _) (.cells #[] 36)))
    go_enter Try.func42, Try.ntmps42
    go_wp2_with (at_builtin; refine list_app rfl _ _ rfl rfl rfl (by exact O.out) (by exact R2.out) (by simpa using hlen) (by simp) ?_; intro v1 w1 hO1 hg1 _)
    go_ret
    exact ⟨_, rfl, by simpa using hO1, (below_alloc (Below.refl _ _) _).grown hg1 (by simp) (fun k hk => (OwnL.lt O.out k hk).1)⟩

end Go.Proofs.Ytedfjadgfkbfiaa.NetW
