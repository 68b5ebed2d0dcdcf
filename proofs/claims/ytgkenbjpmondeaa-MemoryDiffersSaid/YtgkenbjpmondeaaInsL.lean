/- What the built-ins of slices.Insert do to a row of pages: append of zero pages where there is no room, copy of pages. -/
import Derived.Test.YtgkenbjpmondeaaAppend
import Derived.Lib.AppendZerosOnto
import Derived.Laws.CopyRow
namespace Go.Proofs.Ytgkenbjpmondeaa
open Go.RowKit

theorem run_copy2 (w : World) (ty : TypeId) (N o dLen dCap : Nat) (ad : Addr) (sLen sCap : Nat) (cur cs : List Value) (hg : w.heap[N]? = some (.cells cur.toArray 31 (0, 0))) (hn : cs.length = Nat.min sLen dLen * 2)
    (hsrc : ∀ j v, cs[j]? = some v → w.cell? (ad.add j) = some v) (hfit : o + cs.length ≤ cur.length) (h1 : ∀ v ∈ cs, v.oneCell' = true) :
    ∃ w', (Builtin.copy_ #[22, 22] ty #[.slice (some ⟨N, o, none⟩) dLen dCap, .slice (some ad) sLen sCap]).run Try.prog w = .ok (goInt (Nat.min sLen dLen)) w' ∧ w'.heap[N]? = some (.cells (cur.take o ++ cs ++ cur.drop (o + cs.length)).toArray 31 (0, 0)) ∧ w.grownBy w' (some N) := by
  have hl := run_loadCells_list (P := Try.prog) w ad cs hsrc
  have hst := run_storeCells_at Try.prog N o 31 cs 0 cur.toArray w hg (by simpa using hfit) h1
  obtain ⟨i0, hi0, hz0, hz1, hz2⟩ := info_parts page_info
  refine ⟨w.setRow N (cur.take o ++ cs ++ cur.drop (o + cs.length)).toArray, ?_, setRow_heap w N _ _ 31 _ hg, ⟨rfl, rfl, rfl, by simp [World.setRow], fun i hi hne => ?_⟩⟩
  · simp [Builtin.copy_, run_underlying Try.underlying22, Builtin.lenOf, Builtin.firstCells, sizeOf, typeInfo, hi0, hz1, ← hn, hl, hst]
  · simp only [World.setRow, Array.getElem?_modify]
    rw [if_neg (fun e => hne (by rw [e]))]

theorem wpList_copy_of (w : World) {ops : Array Oper} {rest : List Oper} {o : Oper} {a : Act} {Q : Exit → Act → World → Prop} (hgd : o.guard = none) (d s : Operand)
    (ho : o.op = .call { callee := .builtin .copy, args := #[d, s], argTypes := #[22, 22] }) (x y : Value) (hd : a.eval d = x) (hs : a.eval s = y) (v : Value) (w' : World) (hr : (Builtin.copy_ #[22, 22] o.type #[x, y]).run Try.prog w = .ok v w')
    (h : wpList Try.prog ops Q rest (a.put o.dst v) w') : wpList Try.prog ops Q (o :: rest) a w := by
  refine wpList_plain hgd fun K hK => ?_
  unfold Oper.wp execOp
  simp only [ho, resolve, invoke, builtin, Sem.run_bind, Sem.run_pure, Result.andThen_ok, List.map_toArray, List.map_cons, List.map_nil, hs, hd, hr]
  exact hK _ _ h

theorem wpList_zeros_of (w : World) {ops : Array Oper} {rest : List Oper} {o : Oper} {a : Act} {Q : Exit → Act → World → Prop} (hgd : o.guard = none) (d s : Operand)
    (ho : o.op = .call { callee := .builtin .append, args := #[d, s], argTypes := #[22, 3] }) (x y : Value) (hd : a.eval d = x) (hs : a.eval s = y) (v : Value) (w' : World) (hr : (Builtin.append_ #[22, 3] o.type #[x, y]).run Try.prog w = .ok v w')
    (h : wpList Try.prog ops Q rest (a.put o.dst v) w') : wpList Try.prog ops Q (o :: rest) a w := by
  refine wpList_plain hgd fun K hK => ?_
  unfold Oper.wp execOp
  simp only [ho, resolve, invoke, builtin, Sem.run_bind, Sem.run_pure, Result.andThen_ok, List.map_toArray, List.map_cons, List.map_nil, hs, hd, hr]
  exact hK _ _ h

theorem run_zeros (w : World) (ty : TypeId) (ad : Addr) (i cap k : Nat) (olds : List Value) (ho : olds.length = i * 2) (hsrc : ∀ j v, olds[j]? = some v → w.cell? (ad.add j) = some v) (hk : 0 < k) (hg : cap < i + k) (hsm : i + k ≤ 1000000) (hcap : cap ≤ 1000000) :
    ∃ c' w' sp, (Builtin.append_ #[22, 3] ty #[.slice (some ad) i cap, .int .i64 k]).run Try.prog w = .ok (.slice (some ⟨w.heap.size, 0, none⟩) (i + k) c') w' ∧ w'.heap[w.heap.size]? = some (.cells (olds ++ sp).toArray 31 (0, 0)) ∧ sp.length = (c' - i) * 2 ∧ i + k ≤ c' ∧ c' ≤ maxLen ∧ Below w.heap.size w w' := by
  obtain ⟨i0, hi0, hz0, hz1, hz2⟩ := info_parts page_info
  have hl := run_loadCells_list (P := Try.prog) w.drew ad olds hsrc
  have hold : (Builtin.firstCells i0.size i (.slice (some ad) i cap)).run Try.prog w.drew = .ok olds.toArray w.drew := by
    simp only [Builtin.firstCells, hz1, ← ho]
    exact hl
  have hr := Lib.run_append_grow_zeros (P := Try.prog) w 22 3 ty 31 i0 (.agg #[.int .i64 0, .slice none 0 0]) .i64 .i64 Try.underlying22 Try.underlying3 hi0 hz0 (some ad) i cap olds hold k hk (by rw [hz1]; decide) hg (by omega) (by rw [hz2]; omega) (growslice_fits hg (by rw [hz2]; omega))
  refine ⟨grownCap w (i + k) cap 31, _, (Builtin.zeroCells (Value.cells (.agg #[.int .i64 0, .slice none 0 0])) k ++ Builtin.zeroCells (Value.cells (.agg #[.int .i64 0, .slice none 0 0])) (grownCap w (i + k) cap 31 - (i + k))).toList, hr, ?_, ?_, grownCap_ge _ _ _ _, ?_, ?_⟩
  · have := heap_alloc_new w.drew (.cells (olds.toArray ++ Builtin.zeroCells (Value.cells (.agg #[.int .i64 0, .slice none 0 0])) k ++ Builtin.zeroCells (Value.cells (.agg #[.int .i64 0, .slice none 0 0])) (grownCap w (i + k) cap 31 - (i + k))) 31)
    rw [show (w.drew.heap.size) = w.heap.size from rfl] at this
    rw [this]
    congr 2
    apply Array.ext'
    simp
  · have := grownCap_ge w (i + k) cap 31
    simp [size_zeroCells, Value.cells]; omega
  · exact grownCap_le_maxLen w (i + k) cap 31 (by simp only [maxLen]; omega)
  · exact ((Below.refl _ _).drew).alloc (Nat.le_refl _) _

theorem app_zeros (w : World) {ops : Array Oper} {rest : List Oper} {o : Oper} {a : Act} {Q : Exit → Act → World → Prop} (hgd : o.guard = none) (d s : Operand)
    (ho : o.op = .call { callee := .builtin .append, args := #[d, s], argTypes := #[22, 3] }) (g i cap k tot : Nat) (htot : i + k = tot) (kz : Int) (hd : a.eval d = .slice (some ⟨g, 0, none⟩) i cap) (hs : a.eval s = .int .i64 kz) (hkz : kz = (k : Int))
    (olds : List Value) (hol : olds.length = i * 2) (hsrc : ∀ j v, olds[j]? = some v → w.cell? ⟨g, j, none⟩ = some v) (hk : 0 < k) (hg : cap < i + k) (hsm : i + k ≤ 1000000) (hcap : cap ≤ 1000000)
    (h : ∀ c' w' sp, w'.heap[w.heap.size]? = some (.cells (olds ++ sp).toArray 31 (0, 0)) → sp.length = (c' - i) * 2 → tot ≤ c' → c' ≤ maxLen → Below w.heap.size w w' → wpList Try.prog ops Q rest (a.put o.dst (.slice (some ⟨w.heap.size, 0, none⟩) tot c')) w') : wpList Try.prog ops Q (o :: rest) a w := by
  subst hkz htot
  obtain ⟨c', w', sp, hr, h1, h2, h3, h4, h5⟩ := run_zeros w o.type ⟨g, 0, none⟩ i cap k olds hol (fun j v hj => by
    have e : (⟨g, 0, none⟩ : Addr).add j = ⟨g, j, none⟩ := by unfold Addr.add; split <;> simp_all
    rw [e]; exact hsrc j v hj) hk hg hsm hcap
  exact wpList_zeros_of w hgd d s ho _ _ hd hs _ _ hr (h c' w' sp h1 h2 h3 h4 h5)

theorem app_copy2 (w : World) {ops : Array Oper} {rest : List Oper} {o : Oper} {a : Act} {Q : Exit → Act → World → Prop} (hgd : o.guard = none) (d s : Operand)
    (ho : o.op = .call { callee := .builtin .copy, args := #[d, s], argTypes := #[22, 22] }) (N off dLen dCap g so sLen sCap : Nat) (hd : a.eval d = .slice (some ⟨N, off, none⟩) dLen dCap) (hs : a.eval s = .slice (some ⟨g, so, none⟩) sLen sCap)
    (cur cs : List Value) (hN : w.heap[N]? = some (.cells cur.toArray 31 (0, 0))) (hn : cs.length = Nat.min sLen dLen * 2) (hsrc : ∀ j v, cs[j]? = some v → w.cell? ⟨g, so + j, none⟩ = some v) (hfit : off + cs.length ≤ cur.length) (h1 : ∀ v ∈ cs, v.oneCell' = true)
    (h : ∀ w', w'.heap[N]? = some (.cells (cur.take off ++ cs ++ cur.drop (off + cs.length)).toArray 31 (0, 0)) → w.grownBy w' (some N) → wpList Try.prog ops Q rest (a.put o.dst (goInt (Nat.min sLen dLen))) w') : wpList Try.prog ops Q (o :: rest) a w := by
  obtain ⟨w', hr, h2, h3⟩ := run_copy2 w o.type N off dLen dCap ⟨g, so, none⟩ sLen sCap cur cs hN hn (fun j v hj => by
    have e : (⟨g, so, none⟩ : Addr).add j = ⟨g, so + j, none⟩ := by unfold Addr.add; split <;> simp_all
    rw [e]; exact hsrc j v hj) hfit h1
  exact wpList_copy_of w hgd d s ho _ _ hd hs _ _ hr (h w' h2 h3)
end Go.Proofs.Ytgkenbjpmondeaa
