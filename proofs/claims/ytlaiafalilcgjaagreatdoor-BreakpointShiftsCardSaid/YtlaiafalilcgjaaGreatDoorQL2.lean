/- Proved: the operations on plain data, one by one: addresses, rows, structs. Program-independent. -/
import Derived.Test.YtlaiafalilcgjaaGreatDoorQL1
import Derived.Lib.AppendStr
import Derived.Laws.CopyRow
import Derived.Maps.RangeRun
set_option linter.unusedVariables false
set_option linter.unusedSimpArgs false
namespace Go.PX
open Go.RowKit Go.SX

section
variable {P : Program} {σ : Nm} {Z : Nat → Prop} {w : World} {N : Nat} {κ : List (Nat × Bool)} {R : List Ent} {a : Act} {H : Heap} {p : List (Nat × Bool)} {o : Oper}

theorem exec_move (hR : RS σ Z w N κ R a) (hp : pv κ p = true) {x : Operand} (ho : o.op = .move x ∨ o.op = .assign x) {px : PV} (hx : opd R p x = some px) : Exec P o a w σ Z H (some px) [] := by
  refine exec_quiet (v := a.eval x) ?_ (hR.opd hp hx)
  rcases ho with ho | ho <;> simp [execOp, ho]

/-- where a field lies -/
def fieldOff (P : Program) (s : TypeId) (f : Nat) : Option Nat :=
  match evl P (underlying s) with
  | some (.struct fs) => match fs[f]? with
    | some g => match evl P (sizeOf g.type) with
      | some 0 => none
      | some _ => some g.offset
      | none => none
    | none => none
  | _ => none
def addPtr (n : Nat) : PV → Option PV
  | .ptr id off => some (.ptr id (off + n))
  | .rptr id sz k i => some (.rptr id sz k (i + n))
  | .iptr row i => some (.iptr row (i + n))
  | _ => none
theorem addPtr_spec {v : Value} {x y : PV} {n : Nat} (h : VR σ Z w v x) (e : addPtr n x = some y) : ∃ b off, v = .pointer (some ⟨b, off, none⟩) ∧ VR σ Z w (.pointer (some ⟨b, off + n, none⟩)) y := by
  cases h with
  | ptr id off b c h => simp only [addPtr, Option.some.injEq] at e; subst e; exact ⟨b, off, rfl, .ptr id _ b c h⟩
  | rptr id sz k i b c h => simp only [addPtr, Option.some.injEq] at e; subst e; exact ⟨b, k * sz + i, rfl, by rw [Nat.add_assoc]; exact .rptr id sz k _ b c h⟩
  | iptr b off i row U ho hz hc h => simp only [addPtr, Option.some.injEq] at e; subst e; exact ⟨b, off + i, rfl, by rw [Nat.add_assoc]; exact .iptr b off _ row U ho hz hc h⟩
  | _ => simp [addPtr] at e
theorem run_fieldAt {s : TypeId} {f n b off : Nat} (h : fieldOff P s f = some n) : (Instr.fieldAt s (.pointer (some ⟨b, off, none⟩)) f).run P w = .ok (.pointer (some ⟨b, off + n, none⟩)) w := by
  unfold fieldOff at h
  split at h
  · rename_i fs h1
    split at h
    · rename_i g h2
      split at h
      · cases h
      · rename_i m h3 hne
        simp only [Option.some.injEq] at h; subst h
        have hm : m ≠ 0 := fun e => by subst e; exact h3 rfl
        simp [Instr.fieldAt, Sem.run_bind, evl_run h1 w, h2, Instr.sureAddr, fieldPlace, evl_run hne w, hm, add_off]
      · cases h
    · cases h
  · cases h
theorem exec_fieldAddr (hR : RS σ Z w N κ R a) (hp : pv κ p = true) {s : TypeId} {x : Operand} {f n : Nat} (ho : o.op = .fieldAddr s x f) {px r : PV} (hx : opd R p x = some px) (hf : fieldOff P s f = some n) (hr : addPtr n px = some r) : Exec P o a w σ Z H (some r) [] := by
  obtain ⟨b, off, e, h1⟩ := addPtr_spec (hR.opd hp hx) hr
  refine exec_quiet (v := .pointer (some ⟨b, off + n, none⟩)) ?_ h1
  simp [execOp, ho, e, Sem.run_bind, run_fieldAt hf]

/-- the length of a slice -/
def plen : PV → Option Nat
  | .own _ _ n => some n
  | .imm _ rows => some rows.length
  | .sc (.slice none n _) => some n
  | _ => none
theorem plen_spec {v : Value} {x : PV} {n : Nat} (h : VR σ Z w v x) (e : plen x = some n) : ∃ A c, v = .slice A n c := by
  cases h with
  | own id sz len b c h => simp only [plen, Option.some.injEq] at e; subst e; exact ⟨_, _, rfl⟩
  | own0 id sz => simp only [plen, Option.some.injEq] at e; subst e; exact ⟨_, _, rfl⟩
  | imm v sz rows h => simp only [plen, Option.some.injEq] at e; subst e; cases h; exact ⟨_, _, rfl⟩
  | sc v h =>
    cases v <;> simp [plen] at e
    rename_i A n' c
    cases A <;> simp [plen] at e
    subst e; exact ⟨_, _, rfl⟩
  | _ => simp [plen] at e

/-- an element's address: k is the index as a number; of a slice that nobody writes the element is told, too -/
def elemPtr (P : Program) (t : TypeId) (x : PV) (k : Nat) (row : List PV) : Option (PV × List Prop) :=
  match evl P (underlying t) with
  | some (.slice e) => match evl P (sizeOf e), x with
    | some sz, .own id sz' n => bif Nat.beq sz sz' then some (.rptr id sz k 0, [k < n]) else none
    | some sz, .imm sz' rows => bif Nat.beq sz sz' then some (.iptr row 0, [rows[k]? = some row]) else none
    | _, _ => none
  | some (.array n e) => match evl P (sizeOf e) with
    | some sz => match addPtr (k * sz) x with
      | some r => some (r, [k < n])
      | none => none
    | none => none
  | _ => none
def AllP : List Prop → Prop
  | [] => True
  | q :: l => q ∧ AllP l
theorem allP_append {l m : List Prop} (h : AllP (l ++ m)) : AllP l ∧ AllP m := by
  induction l with
  | nil => exact ⟨trivial, h⟩
  | cons q l ih => exact ⟨⟨h.1, (ih h.2).1⟩, (ih h.2).2⟩
theorem run_indexAt {t e : TypeId} {sz b off len c k : Nat} {K : IntKind} (h1 : evl P (underlying t) = some (.slice e)) (h2 : evl P (sizeOf e) = some sz) (hk : k < len) : (Instr.indexAt t (.slice (some ⟨b, off, none⟩) len c) (.int K (k : Int))).run P w = .ok (.pointer (some ⟨b, off + k * sz, none⟩)) w := by
  have h3 : (0 : Int) ≤ k ∧ (k : Int) < len := ⟨by omega, by omega⟩
  simp [Instr.indexAt, Sem.run_bind, evl_run h1 w, asIntOf, evl_run h2 w, add_off, hk]
theorem run_indexAt_arr {t e : TypeId} {sz b off len k : Nat} {K : IntKind} (h1 : evl P (underlying t) = some (.array len e)) (h2 : evl P (sizeOf e) = some sz) (hk : k < len) : (Instr.indexAt t (.pointer (some ⟨b, off, none⟩)) (.int K (k : Int))).run P w = .ok (.pointer (some ⟨b, off + k * sz, none⟩)) w := by
  have h3 : (0 : Int) ≤ k ∧ (k : Int) < len := ⟨by omega, by omega⟩
  simp [Instr.indexAt, Sem.run_bind, evl_run h1 w, asIntOf, evl_run h2 w, add_off, hk, Instr.sureAddr]
theorem exec_indexAddr (hR : RS σ Z w N κ R a) (hp : pv κ p = true) {t : TypeId} {x i : Operand} (ho : o.op = .indexAddr t x i) {px r : PV} {K : IntKind} {n : Int} {k : Nat} {row : List PV} {ob : List Prop} (hx : opd R p x = some px) (hi : opd R p i = some (.sc (.int K n))) (hn : n = (k : Int)) (hr : elemPtr P t px k row = some (r, ob)) (hob : AllP ob) : Exec P o a w σ Z H (some r) [] := by
  have hv := hR.opd hp hx
  have hw := hR.opd hp hi
  generalize hav : a.eval x = vx at hv
  generalize haw : a.eval i = vi at hw
  subst hn
  cases hw
  unfold elemPtr at hr
  split at hr
  · rename_i e h1
    split at hr
    · rename_i sz id sz' len h2
      cases hb : Nat.beq sz sz' with
      | false => rw [hb] at hr; simp at hr
      | true =>
        rw [hb] at hr
        obtain rfl := Nat.eq_of_beq_eq_true hb
        simp only [cond_true, Option.some.injEq, Prod.mk.injEq] at hr
        obtain ⟨rfl, rfl⟩ := hr
        cases hv with
        | own _ _ _ b c hs =>
          refine exec_quiet (v := .pointer (some ⟨b, k * sz + 0, none⟩)) ?_ (.rptr id sz k 0 b c hs)
          simp [execOp, ho, hav, haw, Sem.run_bind, run_indexAt h1 h2 hob.1]
        | own0 => exact absurd hob.1 (Nat.not_lt_zero k)
    · rename_i sz sz' rows h2
      cases hb : Nat.beq sz sz' with
      | false => rw [hb] at hr; simp at hr
      | true =>
        rw [hb] at hr
        obtain rfl := Nat.eq_of_beq_eq_true hb
        simp only [cond_true, Option.some.injEq, Prod.mk.injEq] at hr
        obtain ⟨rfl, rfl⟩ := hr
        cases hv with
        | imm _ _ _ hi =>
          cases hi with
          | imm A cap _ _ U q1 q2 q3 q4 =>
            have hrow := hob.1
            have hk := (List.getElem?_eq_some_iff.1 hrow).1
            obtain ⟨g1, g2, b, off, rfl, g3, g4⟩ := q3 k row hrow
            refine exec_quiet (v := .pointer (some ⟨b, off + k * sz + 0, none⟩)) ?_ (.iptr b (off + k * sz) 0 row (U k) g2 g3 (fun j hj => g4 j (by rw [← g1]; exact hj)) (fun j x hx => q4 k row j x hrow hx))
            simp [execOp, ho, hav, haw, Sem.run_bind, run_indexAt h1 h2 hk]
    · cases hr
  · rename_i m e h1
    split at hr
    · rename_i sz h2
      split at hr
      · rename_i r' h3
        simp only [Option.some.injEq, Prod.mk.injEq] at hr
        obtain ⟨rfl, rfl⟩ := hr
        rw [← hav] at hv
        obtain ⟨b, off, ev, h4⟩ := addPtr_spec hv h3
        refine exec_quiet (v := .pointer (some ⟨b, off + k * sz, none⟩)) ?_ h4
        simp [execOp, ho, ev, haw, Sem.run_bind, run_indexAt_arr h1 h2 hob.1]
      · cases hr
    · cases hr
  · cases hr

/-- an element's address where the index is a number that is read off -/
def ixAu (P : Program) (t : TypeId) (x : PV) (k : Nat) : Option PV :=
  match evl P (underlying t) with
  | some (.array n e) => match evl P (sizeOf e) with
    | some sz => bif Nat.blt k n then addPtr (k * sz) x else none
    | none => none
  | some (.slice e) => match evl P (sizeOf e), x with
    | some sz, .own id sz' n => bif Nat.beq sz sz' && Nat.blt k n then some (.rptr id sz k 0) else none
    | some sz, .imm sz' rows => bif Nat.beq sz sz' then match rows[k]? with
        | some row => some (.iptr row 0)
        | none => none
      else none
    | _, _ => none
  | _ => none
theorem exec_ixAu (hR : RS σ Z w N κ R a) (hp : pv κ p = true) {t : TypeId} {x i : Operand} (ho : o.op = .indexAddr t x i) {px r : PV} {K : IntKind} {k : Nat} (hx : opd R p x = some px) (hi : opd R p i = some (.sc (.int K (k : Int)))) (hr : ixAu P t px k = some r) : Exec P o a w σ Z H (some r) [] := by
  unfold ixAu at hr
  split at hr
  · rename_i n e h1
    split at hr
    · rename_i sz h2
      cases hb : Nat.blt k n with
      | false => rw [hb] at hr; cases hr
      | true =>
        rw [hb] at hr
        simp only [cond_true] at hr
        have hk : k < n := by simpa using hb
        obtain ⟨b, off, ev, h3⟩ := addPtr_spec (hR.opd hp hx) hr
        have hw := hR.opd hp hi
        generalize haw : a.eval i = vi at hw
        cases hw
        refine exec_quiet (v := .pointer (some ⟨b, off + k * sz, none⟩)) ?_ h3
        simp [execOp, ho, ev, haw, Sem.run_bind, run_indexAt_arr h1 h2 hk]
    · cases hr
  · rename_i e h1
    split at hr
    · rename_i sz id sz' n h2
      cases hb : (Nat.beq sz sz' && Nat.blt k n) with
      | false => rw [hb] at hr; cases hr
      | true =>
        rw [hb] at hr
        simp only [cond_true, Option.some.injEq] at hr; subst hr
        simp only [Bool.and_eq_true, Nat.beq_eq, Nat.blt_eq] at hb
        obtain ⟨rfl, hk⟩ := hb
        exact exec_indexAddr hR hp ho hx hi rfl (row := []) (ob := [k < n]) (by unfold elemPtr; rw [h1]; simp [h2]) ⟨hk, trivial⟩
    · rename_i sz sz' rows h2
      cases hb : Nat.beq sz sz' with
      | false => rw [hb] at hr; cases hr
      | true =>
        rw [hb] at hr
        obtain rfl := Nat.eq_of_beq_eq_true hb
        simp only [cond_true] at hr
        split at hr
        · rename_i row hrow
          simp only [Option.some.injEq] at hr; subst hr
          exact exec_indexAddr hR hp ho hx hi rfl (row := row) (ob := [rows[k]? = some row]) (by unfold elemPtr; rw [h1]; simp [h2]) ⟨hrow, trivial⟩
        · cases hr
    · cases hr
  · cases hr
theorem exec_len (hR : RS σ Z w N κ R a) (hp : pv κ p = true) {ty : Array TypeId} {x : Operand} (ho : o.op = .call { callee := .builtin .len, args := #[x], argTypes := ty }) {t e : TypeId} (ht : ty[0]? = some t) (hu : evl P (underlying t) = some (.slice e)) {px : PV} {n : Nat} (hx : opd R p x = some px) (hl : plen px = some n) : Exec P o a w σ Z H (some (.sc (.int .i64 (n : Int)))) [] := by
  obtain ⟨A, c, ev⟩ := plen_spec (hR.opd hp hx) hl
  refine exec_quiet (v := .int .i64 n) ?_ (.sc _ rfl)
  simp [execOp, ho, resolve, ev, invoke, builtin, Builtin.len_, goInt, ht, Sem.run_bind, evl_run hu w]

/-- struct fields and elements of arrays held as values -/
def partP (P : Program) (t : TypeId) (xs : List PV) (off : Nat) : Option PV :=
  match evl P (isAgg t), evl P (sizeOf t) with
  | some true, some n => some (.agg ((xs.drop off).take n))
  | some false, some _ => xs[off]?
  | _, _ => none
theorem part_run {t : TypeId} {l : List Value} {xs : List PV} {off : Nat} {r : PV} (h : VRs σ Z w l xs) (ho : ones xs = true) (hr : partP P t xs off = some r) : ∃ v, (part t l.toArray off).run P w = .ok v w ∧ VR σ Z w v r := by
  unfold partP at hr
  split at hr
  · rename_i n h1 h2
    simp only [Option.some.injEq] at hr; subst hr
    refine ⟨.agg ((l.drop off).take n).toArray, ?_, .agg _ _ ((h.drop off).take n).1 (ones_take (ones_drop ho off) n) ((h.drop off).take n).2⟩
    simp only [part, Sem.run_bind, evl_run h1 w, Result.andThen_ok, if_true, evl_run h2 w, Sem.run_pure]
    congr 2
    apply Array.ext'
    simp [List.take_drop]
  · rename_i n h1 h2
    obtain ⟨u, hu, hv⟩ := h.get hr
    refine ⟨u, ?_, hv⟩
    have : l.toArray[off]? = some u := by simpa using hu
    simp [part, Sem.run_bind, evl_run h1 w, this]
  · cases hr
def fieldP (P : Program) (s : TypeId) (x : PV) (f : Nat) : Option PV :=
  match evl P (underlying s), x with
  | some (.struct fs), .agg xs => match fs[f]? with
    | some g => partP P g.type xs g.offset
    | none => none
  | _, _ => none
theorem exec_field (hR : RS σ Z w N κ R a) (hp : pv κ p = true) {s : TypeId} {x : Operand} {f : Nat} (ho : o.op = .field s x f) {px r : PV} (hx : opd R p x = some px) (hr : fieldP P s px f = some r) : Exec P o a w σ Z H (some r) [] := by
  have hv := hR.opd hp hx
  generalize hav : a.eval x = vx at hv
  unfold fieldP at hr
  split at hr
  · rename_i fs xs h1
    split at hr
    · rename_i g h2
      cases hv with
      | agg l _ hl ho' h =>
        obtain ⟨v, h3, h4⟩ := part_run (P := P) (w := w) ⟨hl, h⟩ ho' hr
        refine exec_quiet (v := v) ?_ h4
        simp [execOp, ho, hav, Instr.field, Sem.run_bind, evl_run h1 w, h2, asAgg, h3]
    · cases hr
  · cases hr
def indexP (P : Program) (t : TypeId) (x : PV) (k : Nat) : Option PV :=
  match evl P (underlying t), x with
  | some (.array n e), .agg xs => match evl P (sizeOf e) with
    | some sz => bif Nat.blt k n then partP P e xs (k * sz) else none
    | none => none
  | _, _ => none
theorem exec_index (hR : RS σ Z w N κ R a) (hp : pv κ p = true) {t : TypeId} {x i : Operand} (ho : o.op = .index t x i) {px r : PV} {K : IntKind} {k : Nat} (hx : opd R p x = some px) (hi : opd R p i = some (.sc (.int K (k : Int)))) (hr : indexP P t px k = some r) : Exec P o a w σ Z H (some r) [] := by
  have hv := hR.opd hp hx
  have hw := hR.opd hp hi
  generalize hav : a.eval x = vx at hv
  generalize haw : a.eval i = vi at hw
  cases hw
  unfold indexP at hr
  split at hr
  · rename_i n e xs h1
    split at hr
    · rename_i sz h2
      cases hb : Nat.blt k n with
      | false => rw [hb] at hr; simp at hr
      | true =>
        rw [hb] at hr
        simp only [cond_true] at hr
        have hk : k < n := by simpa using hb
        cases hv with
        | agg l _ hl ho' h =>
          obtain ⟨v, h3, h4⟩ := part_run (P := P) (w := w) ⟨hl, h⟩ ho' hr
          refine exec_quiet (v := v) ?_ h4
          simp [execOp, ho, hav, haw, Instr.index, asIntOf, Sem.run_bind, evl_run h1 w, evl_run h2 w, hk, h3]
    · cases hr
  · cases hr
theorem exec_extract (hR : RS σ Z w N κ R a) (hp : pv κ p = true) {x : Operand} {i : Nat} (ho : o.op = .extract x i) {xs : List PV} {r : PV} (hx : opd R p x = some (.tup xs)) (hr : xs[i]? = some r) : Exec P o a w σ Z H (some r) [] := by
  have hv := hR.opd hp hx
  generalize hav : a.eval x = vx at hv
  cases hv with
  | tup l _ hl h =>
    obtain ⟨u, hu, hv⟩ := VRs.get ⟨hl, h⟩ hr
    refine exec_quiet (v := u) ?_ hv
    have : l.toArray[i]? = some u := by simpa using hu
    simp [execOp, ho, hav, Instr.extract, this]

/-- several operands -/
def opds (R : List Ent) (p : List (Nat × Bool)) : List Operand → Option (List PV)
  | [] => some []
  | x :: l => match opd R p x, opds R p l with
    | some y, some ys => some (y :: ys)
    | _, _ => none
theorem RS.opds (hR : RS σ Z w N κ R a) (hp : pv κ p = true) : ∀ {l : List Operand} {ys : List PV}, PX.opds R p l = some ys → VRs σ Z w (l.map a.eval) ys
  | [], ys, h => by simp only [PX.opds, Option.some.injEq] at h; subst h; exact .nil
  | x :: l, ys, h => by
    simp only [PX.opds] at h
    split at h
    · rename_i y ys' h1 h2
      simp only [Option.some.injEq] at h; subst h
      exact .cons (hR.opd hp h1) (RS.opds hR hp h2)
    · cases h
theorem exec_makeFunc (hR : RS σ Z w N κ R a) (hp : pv κ p = true) {f : FuncId} {l1 l2 : List Operand} (ho : o.op = .makeFunc (.func f) l1.toArray l2.toArray) {y1 y2 : List PV} (h1 : opds R p l1 = some y1) (h2 : opds R p l2 = some y2) : Exec P o a w σ Z H (some (.fn f y1 y2)) [] := by
  have q1 := hR.opds hp h1
  have q2 := hR.opds hp h2
  refine exec_quiet (v := .func (.func f) (l1.map a.eval).toArray (l2.map a.eval).toArray) ?_ (.fn f _ _ _ _ q1.1 q2.1 q1.2 q2.2)
  simp [execOp, ho, Instr.makeFunc]
def isPtr : PV → Bool
  | .ptr .. | .rptr .. | .iptr .. | .fn .. => true
  | _ => false
theorem exec_nilCheck (hR : RS σ Z w N κ R a) (hp : pv κ p = true) {x : Operand} (ho : o.op = .nilCheck x) {px : PV} (hx : opd R p x = some px) (hr : isPtr px = true) : Exec P o a w σ Z H (some px) [] := by
  have hv := hR.opd hp hx
  refine exec_quiet (v := a.eval x) ?_ hv
  generalize hav : a.eval x = vx at hv
  cases hv <;> simp [isPtr] at hr <;> simp [execOp, ho, hav]
end
end Go.PX
namespace Go.PX
open Go.RowKit Go.SX

theorem flat_inv {α : Type} {sz : Nat} {rows : List (List α)} (hr : ∀ r ∈ rows, r.length = sz) {j : Nat} {x : α} (h : rows.flatten[j]? = some x) : 0 < sz ∧ ∃ r, rows[j / sz]? = some r ∧ r[j % sz]? = some x := by
  have hj := (List.getElem?_eq_some_iff.1 h).1
  rw [flat_len rows hr] at hj
  have h0 : 0 < sz := Nat.pos_of_ne_zero fun e => by subst e; simp at hj
  have hk : j / sz < rows.length := (Nat.div_lt_iff_lt_mul h0).2 hj
  have hm := Nat.mod_lt j h0
  have e : j / sz * sz + j % sz = j := by rw [Nat.mul_comm]; exact Nat.div_add_mod j sz
  refine ⟨h0, rows[j / sz], List.getElem?_eq_getElem hk, ?_⟩
  rw [← flat_row rows (j / sz) (j % sz) _ hr (List.getElem?_eq_getElem hk) hm, e]; exact h
theorem over_flat {α : Type} {sz i : Nat} {ys : List α} (hi : i + ys.length ≤ sz) : ∀ (rows : List (List α)) (k : Nat) (r : List α), (∀ r ∈ rows, r.length = sz) → rows[k]? = some r → over rows.flatten (k * sz + i) ys = (rows.set k (over r i ys)).flatten
  | [], k, r, _, h => by simp at h
  | x :: rows, 0, r, hr, h => by
    simp only [List.getElem?_cons_zero, Option.some.injEq] at h; subst h
    rw [Nat.zero_mul, Nat.zero_add, List.flatten_cons, over_left (by rw [hr x (by simp)]; exact hi), List.set_cons_zero, List.flatten_cons]
  | x :: rows, k + 1, r, hr, h => by
    rw [List.flatten_cons, over_right (j := k * sz + i) (by rw [hr x (by simp), Nat.add_mul]; omega), over_flat hi rows k r (fun r h => hr r (by simp [h])) (by simpa using h), List.set_cons_succ, List.flatten_cons]
theorem rowsOk_get {sz : Nat} {rows : List (List PV)} (h : rowsOk sz rows) {k : Nat} {r : List PV} (hr : rows[k]? = some r) : r.length = sz ∧ ones r = true := h r (List.mem_of_getElem? hr)
theorem rowsOk_set {sz : Nat} {rows : List (List PV)} (h : rowsOk sz rows) (k : Nat) {r : List PV} (hr : r.length = sz ∧ ones r = true) : rowsOk sz (rows.set k r) := fun x hx => by
  rcases List.mem_or_eq_of_mem_set hx with hx | rfl
  · exact h x hx
  · exact hr
theorem rowsOk_append {sz : Nat} {xs ys : List (List PV)} (h : rowsOk sz xs) (h' : rowsOk sz ys) : rowsOk sz (xs ++ ys) := fun x hx => by
  rcases List.mem_append.1 hx with hx | hx
  · exact h x hx
  · exact h' x hx
theorem ones_flatten {sz : Nat} : ∀ {rows : List (List PV)}, rowsOk sz rows → ones rows.flatten = true
  | [], _ => rfl
  | r :: rows, h => by rw [List.flatten_cons]; exact ones_append (h r (by simp)).2 (ones_flatten fun x hx => h x (by simp [hx]))

section
variable {P : Program} {σ : Nm} {Z : Nat → Prop} {w : World} {N : Nat} {κ : List (Nat × Bool)} {R : List Ent} {a : Act} {H : Heap} {p : List (Nat × Bool)} {o : Oper}

/-- a store into an element of a row of the table: r is the element as it was -/
theorem exec_store_row (hR : RS σ Z w N κ R a) (hH : HR σ Z w H) (hp : pv κ p = true) {t : TypeId} {x y : Operand} (ho : o.op = .store t x y) {id sz k i n : Nat} {e : TypeId} {pu : Bool} {rows : List (List PV)} {r : List PV} {py : PV} (hx : opd R p x = some (.rptr id sz k i)) (hy : opd R p y = some py) (ht : isTup py = false) (hl : hlook H id = some (.row e sz pu rows)) (hn : evl P (sizeOf t) = some n) (hs : (pcells py).length = n) (hle : i + n ≤ sz) (hr : rows[k]? = some r) :
    Exec P o a w σ Z H none [(id, some (.row e sz (pu && pures (pcells py)) (rows.set k (over r i (pcells py)))))] := by
  obtain ⟨h1, h2⟩ := pcells_spec (hR.opd hp hy) ht
  obtain ⟨q1, q2, q3⟩ := hH.at_ _ _ hl
  have hv := hR.opd hp hx
  have hsz : (a.eval y).cells.size = n := by have := h1.1; simp at this; omega
  have hrow := rowsOk_get q1 hr
  have hk := (List.getElem?_eq_some_iff.1 hr).1
  have hks : (k + 1) * sz ≤ rows.length * sz := Nat.mul_le_mul_right _ hk
  rw [Nat.add_mul] at hks
  generalize hav : a.eval x = vx at hv
  cases hv with
  | rptr _ _ _ _ b c hb =>
    obtain ⟨C, g1, g2, g3, g4, g5'⟩ := q3 b c hb
    have g5 := g5'.1
    have hcs : rows.length * sz ≤ C.length := by rw [g2]; exact Nat.mul_le_mul_right _ g3
    have hrun := run_storeVar (P := P) (w := w) (off := k * sz + i) hn hsz g1 (by omega) (h1.oneCell h2)
    obtain ⟨c1, c2⟩ := chg_setRow (C' := (over C (k * sz + i) (a.eval y).cells.toList).toArray) g1
    have hol : (over r i (pcells py)).length = sz := by rw [over_len (by rw [hs, hrow.1]; exact hle)]; exact hrow.1
    have hlen := fun r hr => (q1 r hr).1
    have hfl := flat_len rows hlen
    have hg51 := g5.1; rw [hfl] at hg51
    refine exec_skip (σ' := σ) (Z' := Z) ?_ (eff_upd hH hl hb c1 ⟨rowsOk_set q1 k ⟨hol, ones_over hrow.2 h2 i⟩, ⟨by rw [List.length_set]; exact q2.1, fun _ => by rw [hb]; simp⟩, fun b' c' hb' => ?_⟩)
    · simp [execOp, ho, Instr.storeAt, hav, Instr.sureAddr, Sem.run_bind, hrun]
    · rw [hb] at hb'; simp only [Option.some.injEq, Prod.mk.injEq] at hb'; obtain ⟨rfl, rfl⟩ := hb'
      have hyl : (a.eval y).cells.toList.length = n := by simpa using hsz
      refine ⟨_, c2, by rw [over_len (by rw [hyl]; omega)]; exact g2, by simpa using g3, g4, ?_⟩
      have base := (CRs.over g5' h1.crs (k * sz + i)).mono (M := fun x => x = b) (Ext.refl σ) (fun _ h => h) c1 (fun z hz e => hH.off _ _ _ _ hl hb (e ▸ hz))
      rw [List.length_set, over_take (by rw [hyl]; omega) hcs, ← over_flat (by rw [hs]; exact hle) rows k r hlen hr]
      exact base
end
end Go.PX
namespace Go.PX
open Go.RowKit Go.SX

section
variable {P : Program} {σ : Nm} {Z : Nat → Prop} {w : World} {N : Nat} {κ : List (Nat × Bool)} {R : List Ent} {a : Act} {H : Heap} {p : List (Nat × Bool)} {o : Oper}

/-- the length is that of the rows: by its form, or as a number -/
def lenIs (n : Nat) (rows : List (List PV)) : Bool := Nat.beq n rows.length
/-- the elements of a slice that is read -/
def srcRows (H : Heap) (sz : Nat) : PV → Option (Bool × List (List PV) × Bool)
  | .own id sz' n => match hlook H id with
    | some (.row _ sz2 pu rows) => bif Nat.beq sz sz' && Nat.beq sz sz2 then some (pu, rows, lenIs n rows) else none
    | _ => none
  | .imm sz' rows => bif Nat.beq sz sz' then some (true, rows, true) else none
  | .sc (.slice none 0 0) => some (true, [], true)
  | _ => none
theorem IRs.crs {pu : Bool} {l : List Value} {xs : List PV} (h : IRs Z w l xs) : CRs pu σ Z w l xs := ⟨h.vrs, fun _ => h⟩
theorem src_spec (hH : HR σ Z w H) {v : Value} {x : PV} {sz : Nat} {pu : Bool} {rows : List (List PV)} (h : VR σ Z w v x) {ok : Bool} (e : srcRows H sz x = some (pu, rows, ok)) (hok : ok = true) :
    ∃ A c l, v = .slice A rows.length c ∧ (A = none → rows = []) ∧ rowsOk sz rows ∧ CRs pu σ Z w l rows.flatten ∧ ∀ ad, A = some ad → ∀ j u, l[j]? = some u → w.cell? (ad.add j) = some u := by
  cases h with
  | own id sz' n b c hs =>
    simp only [srcRows] at e
    split at e
    · rename_i e' sz2 pu' rows' hl
      cases hb : (Nat.beq sz sz' && Nat.beq sz sz2) with
      | false => rw [hb] at e; simp at e
      | true =>
        rw [hb] at e
        simp only [cond_true, Option.some.injEq, Prod.mk.injEq] at e; obtain ⟨rfl, rfl, rfl⟩ := e
        simp only [Bool.and_eq_true, Nat.beq_eq] at hb
        simp only [lenIs, Nat.beq_eq] at hok
        obtain ⟨rfl, rfl⟩ := hb
        subst hok
        obtain ⟨h1, h2, h3⟩ := hH.at_ _ _ hl
        obtain ⟨C, g1, g2, g3, g4, g5⟩ := h3 b c hs
        refine ⟨_, c, _, rfl, fun q => (by cases q), h1, g5, fun ad had j u hu => ?_⟩
        injection had with had; subst had
        rw [add_off, Nat.zero_add]
        rw [List.getElem?_take] at hu
        split at hu
        · simpa [World.cell?, g1] using hu
        · cases hu
    · cases e
  | own0 id sz' =>
    simp only [srcRows] at e
    split at e
    · rename_i e' sz2 pu' rows' hl
      cases hb : (Nat.beq sz sz' && Nat.beq sz sz2) with
      | false => rw [hb] at e; simp at e
      | true =>
        rw [hb] at e
        simp only [cond_true, Option.some.injEq, Prod.mk.injEq] at e; obtain ⟨rfl, rfl, rfl⟩ := e
        simp only [lenIs, Nat.beq_eq] at hok
        have h0 := List.length_eq_zero_iff.1 hok.symm
        subst h0
        exact ⟨none, 0, [], rfl, fun _ => rfl, fun r hr => by simp at hr, .nil, fun ad had => by cases had⟩
    · cases e
  | imm _ sz' rows' hi =>
    cases hi with
    | imm A cap _ _ U h1 h2 h3 h4 =>
      simp only [srcRows] at e
      cases hb : Nat.beq sz sz' with
      | false => rw [hb] at e; simp at e
      | true =>
        rw [hb] at e
        simp only [cond_true, Option.some.injEq, Prod.mk.injEq] at e; obtain ⟨rfl, rfl, rfl⟩ := e
        obtain rfl := Nat.eq_of_beq_eq_true hb
        have hok : rowsOk sz rows' := fun r hr => by
          obtain ⟨k, hk⟩ := List.mem_iff_getElem?.1 hr
          obtain ⟨q1, q2, _⟩ := h3 k r hk; exact ⟨q1, q2⟩
        have hlen := fun r hr => (hok r hr).1
        have hfl := flat_len rows' hlen
        refine ⟨A, cap, (List.range (rows'.length * sz)).map fun j => U (j / sz) (j % sz), rfl, fun hA => ?_, hok, IRs.crs ⟨by simp [hfl], fun j u x hu hx => ?_⟩, fun ad had j u hu => ?_⟩
        · cases rows' with
          | nil => rfl
          | cons r rows' =>
            obtain ⟨_, _, b, off, hA', _⟩ := h3 0 r rfl
            rw [hA] at hA'; cases hA'
        · rw [List.getElem?_map] at hu
          obtain ⟨j', hj', rfl⟩ := Option.map_eq_some_iff.1 hu
          have hlt := (List.getElem?_eq_some_iff.1 hj').1
          simp only [List.length_range] at hlt
          rw [List.getElem?_range hlt] at hj'
          simp only [Option.some.injEq] at hj'; subst hj'
          obtain ⟨_, r, hr, hx⟩ := flat_inv hlen hx
          exact h4 _ _ _ _ hr hx
        · rw [List.getElem?_map] at hu
          obtain ⟨j', hj', rfl⟩ := Option.map_eq_some_iff.1 hu
          have hlt := (List.getElem?_eq_some_iff.1 hj').1
          simp only [List.length_range] at hlt
          rw [List.getElem?_range hlt] at hj'
          simp only [Option.some.injEq] at hj'; subst hj'
          have h0 : 0 < sz := Nat.pos_of_ne_zero fun e => by subst e; simp at hlt
          have hk : j / sz < rows'.length := (Nat.div_lt_iff_lt_mul h0).2 hlt
          obtain ⟨_, _, b, off, hA, _, q⟩ := h3 (j / sz) _ (List.getElem?_eq_getElem hk)
          rw [had] at hA; injection hA with hA; subst hA
          have := q (j % sz) (Nat.mod_lt _ h0)
          rw [add_off]
          rw [Nat.add_assoc, show j / sz * sz + j % sz = j by rw [Nat.mul_comm]; exact Nat.div_add_mod j sz] at this
          exact this
  | sc v h =>
    unfold srcRows at e
    split at e
    · rename_i q; cases q
    · rename_i q; cases q
    · rename_i q
      injection q with q; subst q
      simp only [Option.some.injEq, Prod.mk.injEq] at e; obtain ⟨rfl, rfl, rfl⟩ := e
      exact ⟨none, 0, [], rfl, fun _ => rfl, fun r hr => by simp at hr, .nil, fun ad had => by cases had⟩
    · cases e
  | _ => simp [srcRows] at e

/-- the slice that is appended to: its block in the table, if it has one, and its elements -/
def baseRows (H : Heap) (e : TypeId) (sz : Nat) : PV → Option (Option Nat × Bool × List (List PV) × Bool)
  | .own id sz' n => match hlook H id with
    | some (.row e' sz2 pu rows) => bif Nat.beq e e' && Nat.beq sz sz' && Nat.beq sz sz2 then some (some id, pu, rows, lenIs n rows) else none
    | _ => none
  | .sc (.slice none 0 0) => some (none, true, [], true)
  | _ => none
theorem base_spec (hH : HR σ Z w H) {v : Value} {x : PV} {e : TypeId} {sz : Nat} {q : Option Nat × Bool × List (List PV) × Bool} (h : VR σ Z w v x) (he : baseRows H e sz x = some q) (hok : q.2.2.2 = true) :
    rowsOk sz q.2.2.1 ∧ (∀ id, q.1 = some id → ∃ po, hlook H id = some po) ∧ ∃ l, CRs q.2.1 σ Z w l q.2.2.1.flatten ∧ w.ownsRow 0 e sz v q.2.2.1.length l ∧ ∀ b, v.ownBlock = some b → ∃ id c, q.1 = some id ∧ σ id = some (b, c) := by
  cases h with
  | own id sz' n b c hs =>
    simp only [baseRows] at he
    split at he
    · rename_i e' sz2 pu' rows' hl
      cases hb : (Nat.beq e e' && Nat.beq sz sz' && Nat.beq sz sz2) with
      | false => rw [hb] at he; simp at he
      | true =>
        rw [hb] at he
        simp only [cond_true, Option.some.injEq] at he; subst he
        simp only [Bool.and_eq_true, Nat.beq_eq] at hb
        simp only [lenIs, Nat.beq_eq] at hok
        obtain ⟨⟨rfl, rfl⟩, rfl⟩ := hb
        subst hok
        obtain ⟨h1, h2, h3⟩ := hH.at_ _ _ hl
        obtain ⟨C, g1, g2, g3, g4, g5⟩ := h3 b c hs
        refine ⟨h1, fun i hi => by injection hi with hi; subst hi; exact ⟨_, hl⟩, _, g5, ⟨?_, .inr ⟨b, c, C.toArray, rfl, Nat.zero_le _, g1, g3, by simpa [maxLen] using g4, by simpa using g2, by simp⟩⟩, fun b' hb' => ?_⟩
        · rw [g5.1.1, flat_len rows' fun r hr => (h1 r hr).1]
        · simp only [Value.ownBlock, Option.some.injEq] at hb'; subst hb'; exact ⟨id, c, rfl, hs⟩
    · cases he
  | own0 id sz' =>
    simp only [baseRows] at he
    split at he
    · rename_i e' sz2 pu' rows' hl
      cases hb : (Nat.beq e e' && Nat.beq sz sz' && Nat.beq sz sz2) with
      | false => rw [hb] at he; simp at he
      | true =>
        rw [hb] at he
        simp only [cond_true, Option.some.injEq] at he; subst he
        simp only [lenIs, Nat.beq_eq] at hok
        have h0 := List.length_eq_zero_iff.1 hok.symm
        subst h0
        exact ⟨fun r hr => by simp at hr, fun i hi => by injection hi with hi; subst hi; exact ⟨_, hl⟩, [], .nil, ⟨by simp, .inl ⟨rfl, rfl⟩⟩, fun b hb => by simp [Value.ownBlock] at hb⟩
    · cases he
  | sc v h =>
    unfold baseRows at he
    split at he
    · rename_i q; cases q
    · rename_i q
      injection q with q; subst q
      simp only [Option.some.injEq] at he; subst he
      exact ⟨fun r hr => by simp at hr, fun i hi => (by cases hi), [], .nil, ⟨by simp, .inl ⟨rfl, rfl⟩⟩, fun b hb => by simp [Value.ownBlock] at hb⟩
    · cases he
  | _ => simp [baseRows] at he

def appU (nx : Nat) (q : Option Nat) (o : PO) : Upd :=
  match q with
  | none => [(nx, some o)]
  | some id => [(nx, some o), (id, none)]
theorem run_append_none {t ty e : TypeId} {v : Value} {n : Nat} {l : List Value} {sz : Nat} (ht : P.underlying t = some (.slice e)) (hsz : evl P (sizeOf e) = some sz) (h : w.ownsRow 0 e sz v n l) :
    (Builtin.append_ #[t, t] ty #[v, .slice none 0 0]).run P w = .ok v w := by
  have hu : (underlying t).run P w = .ok (.slice e) w := run_underlying ht w
  rcases h.2 with ⟨rfl, rfl⟩ | ⟨g, cap, cur, rfl, _, hg, hn, hc, hs, _⟩
  · simp [Builtin.append_, Sem.run_bind, hu, evl_run hsz w, Builtin.lenOf, Builtin.firstCells]
  · simp [Builtin.append_, Sem.run_bind, hu, evl_run hsz w, Builtin.lenOf, Builtin.firstCells, hn, storeCells]
end
end Go.PX
namespace Go.PX
open Go.RowKit Go.SX

section
variable {P : Program} {σ : Nm} {Z : Nat → Prop} {w : World} {N : Nat} {κ : List (Nat × Bool)} {R : List Ent} {a : Act} {H : Heap} {p : List (Nat × Bool)} {o : Oper}

theorem nbeq {a b : Nat} (h : a ≠ b) : Nat.beq a b = false := by
  cases hb : Nat.beq a b with
  | false => rfl
  | true => exact absurd (Nat.eq_of_beq_eq_true hb) h
theorem chg_grown {w w' : World} {row : Option Nat} (h : w.grownBy w' row) : Chg (fun b => row = some b) w w' :=
  ⟨h.os, h.tape, h.output, h.size, fun b hb hn => h.block b hb (fun e => hn e.symm)⟩

theorem eff_app (hH : HR σ Z w H) {nx : Nat} {q : Option Nat} {o' : PO} {v : Value} {w' : World} {σ' : Nm} (hn : hlook H nx = none) (hx : σ nx = none) (hq : ∀ id, q = some id → ∃ po, hlook H id = some po) (hb : ∀ b, v.ownBlock = some b → ∃ id c, q = some id ∧ σ id = some (b, c))
    (he : Ext σ σ') (hd : ∀ id, id ≠ nx → σ' id = σ id) (hw : Chg (fun b => v.ownBlock = some b) w w') (ho : OR σ' Z w' nx o') (hnew : ∀ b c, σ' nx = some (b, c) → v.ownBlock = some b ∨ w.heap.size ≤ b) : Eff σ Z w H (appU nx q o') σ' Z w' := by
  have hne : ∀ id, q = some id → id ≠ nx := fun id h e => by obtain ⟨po, hp⟩ := hq id h; rw [e, hn] at hp; cases hp
  have hu : ∀ id, ulook (appU nx q o') id = if id = nx then some (some o') else if q = some id then some none else none := fun id => by
    unfold appU
    cases q with
    | none => simp [ulook_one]
    | some i =>
      simp only [ulook]
      by_cases e : id = nx
      · subst e; simp
      · rw [if_neg e]
        have : Nat.beq nx id = false := nbeq fun h => e h.symm
        rw [this]
        simp only [cond_false]
        by_cases e2 : i = id
        · subst e2; simp
        · have : Nat.beq i id = false := nbeq e2
          rw [this, if_neg (by simpa using e2)]; rfl
  refine ⟨he, fun id h1 h2 => ?_, fun _ h => h, fun _ h => .inl h, hw.mono fun b _ h => ?_, fun id o h => ?_, fun id o b c h h' => ?_, fun id id' o1 o2 b c c' h h' _ _ => ?_⟩
  · by_cases e : id = nx
    · subst e; rw [hu, if_pos rfl] at h2
      rcases h2 with h2 | h2
      · cases h2
      · exact absurd hn h2
    · rw [hd id e]; exact h1
  · obtain ⟨id, c, h1, h2⟩ := hb b h
    obtain ⟨po, hp⟩ := hq id h1
    exact ⟨id, po, c, by rw [hu, if_neg (hne id h1), if_pos h1]; simp, hp, h2⟩
  · rw [hu] at h
    split at h
    · rename_i e; subst e; injection h with h; injection h with h; subst h; exact ho
    · split at h
      · injection h with h; cases h
      · cases h
  · rw [hu] at h
    split at h
    · rename_i e; subst e
      rcases hnew b c h' with h1 | h1
      · obtain ⟨i, c', h2, h3⟩ := hb b h1
        obtain ⟨po, hp⟩ := hq i h2
        exact ⟨hH.off _ _ _ _ hp h3, .inr ⟨i, po, c', by rw [hu, if_neg (hne i h2), if_pos h2]; simp, hp, h3⟩⟩
      · exact ⟨fun hz => by have := hH.zlt _ hz; omega, .inl h1⟩
    · split at h
      · injection h with h; cases h
      · cases h
  · rw [hu] at h h'
    split at h
    · split at h'
      · rename_i e e'; rw [e, e']
      · split at h'
        · injection h' with h'; cases h'
        · cases h'
    · split at h
      · injection h with h; cases h
      · cases h

theorem exec_append (hR : RS σ Z w N κ R a) (hH : HR σ Z w H) (hp : pv κ p = true) {nx : Nat} (hnh : hlook H nx = none) (hn : σ nx = none) {t e : TypeId} {x y : Operand} (ho : o.op = .call { callee := .builtin .append, args := #[x, y], argTypes := #[t, t] })
    {i : TypeInfo} {z : Value} (ht : P.underlying t = some (.slice e)) (hi : P.info? e = some i) (hz : i.zero = some z) (hzs : z.cells.size = i.size) (hsz : 0 < i.size) (hby : i.bytes ≤ 100000)
    {px py : PV} {q : Option Nat × Bool × List (List PV) × Bool} {pu ok : Bool} {rows : List (List PV)} (hx : opd R p x = some px) (hy : opd R p y = some py) (hq : baseRows H e i.size px = some q) (hs : srcRows H i.size py = some (pu, rows, ok)) (hqok : q.2.2.2 = true) (hsok : ok = true) (hlen : q.2.2.1.length + rows.length ≤ 1000000000) :
    Exec P o a w σ Z H (some (.own nx i.size (q.2.2.1.length + rows.length))) (appU nx q.1 (.row e i.size (q.2.1 && pu) (q.2.2.1 ++ rows))) := by
  obtain ⟨b1, b2, l, b3, b4, b5⟩ := base_spec hH (hR.opd hp hx) hq hqok
  obtain ⟨A, c, m, s1, s2, s3, s4, s5⟩ := src_spec hH (hR.opd hp hy) hs hsok
  have hM : ∀ b, Z b → ¬ ((a.eval x).ownBlock = some b) := fun b hz h => by
    obtain ⟨id, c, h1, h2⟩ := b5 b h
    obtain ⟨po, h3⟩ := b2 id h1
    exact hH.off _ _ _ _ h3 h2 hz
  have hml : m.length = rows.length * i.size := by rw [s4.1.1, flat_len rows fun r hr => (s3 r hr).1]
  have hsize : evl P (sizeOf e) = some i.size := by
    have h1 : tr P (typeInfo e) [] = some ([], i) := by
      show tr P (match P.info? e with
        | some i => (pure i : Sem TypeInfo)
        | none => stuck "no such type") [] = some ([], i)
      rw [hi]; rfl
    have h2 : tr P (sizeOf e) [] = some ([], i.size) := by
      have : sizeOf e = (do let i ← typeInfo e; pure i.size) := rfl
      rw [this]
      show tr P (Sem.program fun k => ((match k.info? e with
        | some i => (pure i : Sem TypeInfo)
        | none => stuck "no such type").bind fun i => pure i.size)) [] = some ([], i.size)
      simp only [tr, hi]; rfl
    unfold evl
    rw [h2]
  have key : ∃ v' w', (Builtin.append_ #[t, t] o.type #[a.eval x, a.eval y]).run P w = .ok v' w' ∧ w'.ownsRow 0 e i.size v' (q.2.2.1.length + rows.length) (l ++ m) ∧ w.grownBy w' (a.eval x).ownBlock ∧ (v'.ownBlock = (a.eval x).ownBlock ∨ v'.ownBlock = some w.heap.size) := by
    rw [s1]
    cases A with
    | some ad =>
      obtain ⟨v', w', r1, r2, r3, _, r5⟩ := run_append_own_at (P := P) w 0 t o.type e i z i.size i.bytes ht hi hz rfl rfl hzs hsz (a.eval x) q.2.2.1.length l b4 ad rows.length c m hml (s5 ad rfl)
        (s4.1.oneCell (ones_flatten s3)) (by simp only [maxLen]; omega)
        (by have : (q.2.2.1.length + rows.length) * i.bytes ≤ 1000000000 * 100000 := Nat.mul_le_mul hlen hby
            omega) (Nat.zero_le _)
      exact ⟨v', w', r1, r2, r3, r5⟩
    | none =>
      have h0 := s2 rfl
      subst h0
      have hm0 : m = [] := List.length_eq_zero_iff.1 (by simpa using hml)
      subst hm0
      obtain ⟨_, hc0⟩ : True ∧ c = 0 := by
        have hv := hR.opd hp hy
        rw [s1] at hv
        refine ⟨trivial, ?_⟩
        generalize hvy : Value.slice none ([] : List (List PV)).length c = vy at hv
        cases hv with
        | own id sz len b c' h => injection hvy with h1; cases h1
        | own0 => injection hvy
        | imm _ _ _ hi => cases hi with | imm A cap sz rows U h1 h2 h3 h4 => injection hvy with q1 q2 q3; subst q3; exact h2.2 q1.symm
        | sc v h =>
          subst hvy
          unfold srcRows at hs
          split at hs
          · rename_i q; cases q
          · rename_i q; cases q
          · rename_i q; injection q with q; injection q
          · cases hs
        | any v h => simp [srcRows] at hs
        | _ => cases hvy
      subst hc0
      refine ⟨a.eval x, w, run_append_none ht hsize b4, by simpa using b4, ⟨rfl, rfl, rfl, Nat.le_refl _, fun _ _ _ => rfl⟩, .inl rfl⟩
  obtain ⟨v', w', r1, r2, r3, r4⟩ := key
  have hw := chg_grown r3
  have hrun : (execOp a.eval o).run P w = .ok (.value v') w' := by
    simp [execOp, ho, resolve, invoke, builtin, r1]
  have hbl : (q.2.2.1 ++ rows).length = q.2.2.1.length + rows.length := by simp
  rcases r2.2 with ⟨rfl, h0⟩ | ⟨g, cap, cur, rfl, _, hg, hle, hc, hcs, htk⟩
  · -- still nil
    have e1 : q.2.2.1 = [] := List.length_eq_zero_iff.1 (by omega)
    have e2 : rows = [] := List.length_eq_zero_iff.1 (by omega)
    rw [h0]
    refine exec_value (σ' := σ) (Z' := Z) hrun (.own0 _ _) (eff_app hH hnh hn b2 b5 (Ext.refl σ) (fun _ _ => rfl) hw ⟨by rw [e1, e2]; exact fun r hr => by simp at hr, ⟨by rw [e1, e2]; simp, fun hne => by rw [e1, e2] at hne; exact absurd rfl hne⟩, fun b c hb => by rw [hn] at hb; cases hb⟩ (fun b c hb => by rw [hn] at hb; cases hb))
  · refine exec_value (σ' := upd σ nx g cap) (Z' := Z) hrun (.own nx _ _ g cap (upd_self _ _ _ _)) (eff_app hH hnh hn b2 b5 (upd_ext hn) (fun id hne => by unfold upd; rw [if_neg hne]) hw ⟨rowsOk_append b1 s3, ⟨by rw [hbl]; exact hlen, fun _ => by rw [upd_self]; simp⟩, fun b c hb => ?_⟩ (fun b c hb => ?_))
    · rw [upd_self] at hb; simp only [Option.some.injEq, Prod.mk.injEq] at hb; obtain ⟨rfl, rfl⟩ := hb
      refine ⟨cur.toList, by simpa using hg, by simpa using hcs, by rw [hbl]; exact hle, by simpa [maxLen] using hc, ?_⟩
      rw [hbl, htk, List.flatten_append]
      exact (b3.append s4).mono (upd_ext hn) (fun _ h => h) hw hM
    · rw [upd_self] at hb; simp only [Option.some.injEq, Prod.mk.injEq] at hb; obtain ⟨rfl, rfl⟩ := hb
      rcases r4 with r4 | r4
      · exact .inl (r4.symm.trans rfl)
      · right; simp only [Value.ownBlock, Option.some.injEq] at r4; omega
end
end Go.PX
namespace Go.PX
open Go.RowKit Go.SX
def byteV (b : UInt8) : List PV := [.sc (.int .u8 (b.toNat : Int))]
section
variable {P : Program} {σ : Nm} {Z : Nat → Prop} {w : World} {N : Nat} {κ : List (Nat × Bool)} {R : List Ent} {a : Act} {H : Heap} {p : List (Nat × Bool)} {o : Oper}
theorem bytes_irs : ∀ (l : List UInt8), IRs Z w (l.map fun b => Value.int .u8 (b.toNat : Int)) ((l.map byteV).flatten)
  | [] => ⟨rfl, fun i u x h => by simp at h⟩
  | b :: l => by
    have ih := bytes_irs l
    refine ⟨by simp only [List.map_cons, List.flatten_cons, List.length_cons, List.length_append, ← ih.1]; simp [byteV]; omega, fun i u x hu hx => ?_⟩
    cases i with
    | zero =>
      simp only [List.map_cons, List.getElem?_cons_zero, Option.some.injEq] at hu
      simp only [List.map_cons, List.flatten_cons, byteV, List.singleton_append, List.getElem?_cons_zero, Option.some.injEq] at hx
      subst hu hx; exact .sc _ rfl
    | succ i => exact ih.2 i u x (by simpa using hu) (by simpa [byteV] using hx)
theorem bytes_rows (l : List UInt8) : rowsOk 1 (l.map byteV) := fun r hr => by
  obtain ⟨b, _, rfl⟩ := List.mem_map.1 hr
  exact ⟨rfl, rfl⟩
theorem append_string_at (base : Nat) (t u ty e : TypeId) (i : TypeInfo) (ht : P.underlying t = some (.slice e)) (hu : P.underlying u = some .string) (hi : P.info? e = some i) (hz : i.zero = some (.int .u8 0)) (hsize : i.size = 1) (hby : i.bytes = 1)
    (v : Value) (n : Nat) (xs : List Value) (hown : w.ownsRow base e 1 v n xs) (s : ByteArray) (hs : n + s.size ≤ 1000000000) (hbase : base ≤ w.heap.size) :
    ∃ v' w', (Builtin.append_ #[t, u] ty #[v, .string s]).run P w = .ok v' w' ∧ w'.ownsRow base e 1 v' (n + s.size) (xs ++ s.data.toList.map fun b => .int .u8 (b.toNat : Int)) ∧ w.grownBy w' v.ownBlock ∧ (v'.ownBlock = v.ownBlock ∨ v'.ownBlock = some w.heap.size) := by
  obtain ⟨v', w', r1, r2, r3, r4⟩ := Lib.run_append_own_string (P := P) w base t u ty e i ht hu hi hz hsize hby v n xs hown s (by simp only [maxLen]; omega) (by omega) hbase
  refine ⟨v', w', r1, r2, r3, ?_⟩
  have hxl : xs.length = n := by simpa using hown.1
  rcases hown.2 with ⟨rfl, rfl⟩ | ⟨g, cap, cur, rfl, hbg, hg, hnc, hcm, hcs, htake⟩
  · by_cases hm : s.size = 0
    · rw [r4.2 ⟨rfl, hm⟩]; exact .inl rfl
    · have hr := run_append_nil_string (P := P) w t u ty e i (.int .u8 0) ht hu hi hz s (by omega) (by omega) (by rw [hby]; omega)
      rw [hr] at r1
      injection r1 with q _
      rw [← q]; exact .inr rfl
  · by_cases hroom : n + s.size ≤ cap
    · have hcs' : cur.size = cap := by simpa using hcs
      have hr := Lib.run_append_room_string (P := P) w t u ty e i ht hu hi hsize g n cap cur hg s hroom (by omega)
      rw [hr] at r1
      injection r1 with q _
      rw [← q]; exact .inl rfl
    · have holds : ∀ j u, xs[j]? = some u → w.cell? ((⟨g, 0, none⟩ : Addr).add j) = some u := hown.cells (g := g) rfl
      have hr := Lib.run_append_grow_string (P := P) w t u ty e i (.int .u8 0) ht hu hi hz ⟨g, 0, none⟩ n cap xs (by rw [hsize]; simpa using hxl) holds s (by omega) (by omega) (by rw [hby]; exact growslice_fits (by omega) (by omega))
      rw [hr] at r1
      injection r1 with q _
      rw [← q]; exact .inr rfl
theorem exec_appendS (hR : RS σ Z w N κ R a) (hH : HR σ Z w H) (hp : pv κ p = true) {nx : Nat} (hnh : hlook H nx = none) (hn : σ nx = none) {t u e : TypeId} {x y : Operand} (ho : o.op = .call { callee := .builtin .append, args := #[x, y], argTypes := #[t, u] })
    {i : TypeInfo} (ht : P.underlying t = some (.slice e)) (hu : P.underlying u = some .string) (hi : P.info? e = some i) (hz : i.zero = some (.int .u8 0)) (hs1 : i.size = 1) (hb1 : i.bytes = 1)
    {px : PV} {s : ByteArray} {q : Option Nat × Bool × List (List PV) × Bool} (hx : opd R p x = some px) (hy : opd R p y = some (.sc (.string s))) (hq : baseRows H e 1 px = some q) (hqok : q.2.2.2 = true) (hlen : q.2.2.1.length + s.size ≤ 1000000000) :
    Exec P o a w σ Z H (some (.own nx 1 (q.2.2.1.length + s.size))) (appU nx q.1 (.row e 1 q.2.1 (q.2.2.1 ++ s.data.toList.map byteV))) := by
  obtain ⟨b1, b2, l, b3, b4, b5⟩ := base_spec hH (hR.opd hp hx) hq hqok
  have hM : ∀ b, Z b → ¬ ((a.eval x).ownBlock = some b) := fun b hz h => by
    obtain ⟨id, c, h1, h2⟩ := b5 b h
    obtain ⟨po, h3⟩ := b2 id h1
    exact hH.off _ _ _ _ h3 h2 hz
  have hev : a.eval y = .string s := by
    have := hR.opd hp hy
    generalize a.eval y = vy at this
    cases this; rfl
  obtain ⟨v', w', r1, r2, r3, r4⟩ := append_string_at (P := P) 0 t u o.type e i ht hu hi hz hs1 hb1 (a.eval x) q.2.2.1.length l b4 s hlen (Nat.zero_le _)
  have hw := chg_grown r3
  have hrun : (execOp a.eval o).run P w = .ok (.value v') w' := by
    simp [execOp, ho, resolve, invoke, builtin, hev, r1]
  have hsz : (s.data.toList.map byteV).length = s.size := by
    rw [List.length_map]; simp
  have hbl : (q.2.2.1 ++ s.data.toList.map byteV).length = q.2.2.1.length + s.size := by rw [List.length_append, hsz]
  rcases r2.2 with ⟨rfl, h0⟩ | ⟨g, cap, cur, rfl, _, hg, hle, hc, hcs, htk⟩
  · have e1 : q.2.2.1 = [] := List.length_eq_zero_iff.1 (by omega)
    have e2 : s.data.toList.map byteV = [] := List.length_eq_zero_iff.1 (by rw [hsz]; omega)
    rw [h0]
    refine exec_value (σ' := σ) (Z' := Z) hrun (.own0 _ _) (eff_app hH hnh hn b2 b5 (Ext.refl σ) (fun _ _ => rfl) hw ⟨by rw [e1, e2]; exact fun r hr => by simp at hr, ⟨by rw [e1, e2]; simp, fun hne => by rw [e1, e2] at hne; exact absurd rfl hne⟩, fun b c hb => by rw [hn] at hb; cases hb⟩ (fun b c hb => by rw [hn] at hb; cases hb))
  · refine exec_value (σ' := upd σ nx g cap) (Z' := Z) hrun (.own nx _ _ g cap (upd_self _ _ _ _)) (eff_app hH hnh hn b2 b5 (upd_ext hn) (fun id hne => by unfold upd; rw [if_neg hne]) hw ⟨rowsOk_append b1 (bytes_rows _), ⟨by rw [hbl]; exact hlen, fun _ => by rw [upd_self]; simp⟩, fun b c hb => ?_⟩ (fun b c hb => ?_))
    · rw [upd_self] at hb; simp only [Option.some.injEq, Prod.mk.injEq] at hb; obtain ⟨rfl, rfl⟩ := hb
      refine ⟨cur.toList, by simpa using hg, by simpa using hcs, by rw [hbl]; exact hle, by simpa [maxLen] using hc, ?_⟩
      rw [hbl, htk, List.flatten_append]
      have := (b3.append (IRs.crs (pu := true) (σ := σ) (bytes_irs (Z := Z) (w := w) s.data.toList))).mono (upd_ext (b := g) (c := cap) hn) (fun _ h => h) hw hM
      rw [Bool.and_true] at this; exact this
    · rw [upd_self] at hb; simp only [Option.some.injEq, Prod.mk.injEq] at hb; obtain ⟨rfl, rfl⟩ := hb
      rcases r4 with r4 | r4
      · exact .inl (r4.symm.trans rfl)
      · right; simp only [Value.ownBlock, Option.some.injEq] at r4; omega
end
end Go.PX
namespace Go.PX
open Go.RowKit Go.SX

theorem over_set {α : Type} {cells l : List α} {i : Nat} {v : α} (h : i < cells.length) : over (cells.set i v) (i + 1) l = over cells i (v :: l) := by
  unfold over
  rw [List.take_add_one, List.take_set_of_le (Nat.le_refl i), List.getElem?_set_self h, List.drop_set_of_lt (by omega)]
  simp only [List.length_cons, Option.toList_some, List.append_assoc, List.cons_append, List.nil_append]
  rw [show i + 1 + l.length = i + (l.length + 1) by omega]
theorem fold_over (off : Nat) : ∀ (l : List Value) (k : Nat) (cells : Array Value), off + k + l.length ≤ cells.size → ((l.zipIdx k).foldl (fun cs x => cs.setIfInBounds (off + x.2) x.1) cells) = (over cells.toList (off + k) l).toArray
  | [], k, cells, _ => by simp [over]
  | v :: l, k, cells, h => by
    simp only [List.length_cons] at h
    rw [List.zipIdx_cons, List.foldl_cons, fold_over off l (k + 1) _ (by simp; omega)]
    simp only [Array.toList_setIfInBounds]
    rw [← Nat.add_assoc, over_set (by simp; omega)]

section
variable {P : Program} {σ : Nm} {Z : Nat → Prop} {w : World} {N : Nat} {κ : List (Nat × Bool)} {R : List Ent} {a : Act} {H : Heap} {p : List (Nat × Bool)} {o : Oper}

/-- a struct, an array or the row behind a literal, filled part by part -/
def fillP (place : Nat → Option (Nat × Nat)) (cells : List PV) : List (Nat × PV) → Option (List PV)
  | [] => some cells
  | (i, x) :: rest => match place i with
    | none => none
    | some (off, size) => bif Nat.beq (pcells x).length size && Nat.ble (off + size) cells.length && !isTup x then fillP place (over cells off (pcells x)) rest else none
inductive partsRel (σ : Nm) (Z : Nat → Prop) (w : World) : List (Nat × Value) → List (Nat × PV) → Prop
  | nil : partsRel σ Z w [] []
  | cons {u : Nat × Value} {x : Nat × PV} {l : List (Nat × Value)} {xs : List (Nat × PV)} (h : u.1 = x.1 ∧ VR σ Z w u.2 x.2) (h' : partsRel σ Z w l xs) : partsRel σ Z w (u :: l) (x :: xs)
theorem fill_spec {place : Nat → Option (Nat × Nat)} {l : List (Nat × Value)} {xs : List (Nat × PV)} (h : partsRel σ Z w l xs) : ∀ {C : Array Value} {cells r : List PV}, VRs σ Z w C.toList cells → ones cells = true → fillP place cells xs = some r →
    ∃ C', Instr.fill place C l = some C' ∧ VRs σ Z w C'.toList r ∧ ones r = true := by
  induction h with
  | nil => intro C cells r hc ho hr; simp only [fillP, Option.some.injEq] at hr; subst hr; exact ⟨C, rfl, hc, ho⟩
  | cons hu _ ih =>
    intro C cells r hc ho hr
    rename_i u x l xs _
    obtain ⟨i, v⟩ := u
    obtain ⟨j, y⟩ := x
    obtain ⟨rfl, hv⟩ := hu
    simp only [fillP] at hr
    cases hpl : place i with
    | none => rw [hpl] at hr; simp at hr
    | some q =>
      obtain ⟨off, size⟩ := q
      rw [hpl] at hr
      simp only at hr
      cases hb : (Nat.beq (pcells y).length size && Nat.ble (off + size) cells.length && !isTup y) with
      | false => rw [hb] at hr; simp at hr
      | true =>
        rw [hb] at hr
        simp only [cond_true] at hr
        simp only [Bool.and_eq_true, Nat.beq_eq, Bool.not_eq_true'] at hb
        obtain ⟨⟨rfl, hle⟩, ht⟩ := hb
        have hle := Nat.le_of_ble_eq_true hle
        obtain ⟨h1, h2⟩ := pcells_spec hv ht
        have hsz : v.cells.size = (pcells y).length := by simpa using h1.1
        have hcl : C.size = cells.length := by simpa using hc.1
        simp only [Instr.fill, hpl]
        rw [if_neg (by simp [hsz, hcl]; omega)]
        have e1 : Array.foldl (fun cs x => cs.setIfInBounds (off + x.2) x.1) C v.cells.zipIdx = (over C.toList off v.cells.toList).toArray := by
          rw [← Array.foldl_toList, Array.toList_zipIdx]
          have := fold_over off v.cells.toList 0 C (by simp [hsz, hcl]; omega)
          simpa using this
        have e2 : (v.cells.zipIdx.foldl (fun cs (c, j) => cs.setIfInBounds (off + j) c) C) = (over C.toList off v.cells.toList).toArray := e1
        rw [e2]
        exact ih (by simpa using VRs.over hc h1 off) (ones_over ho h2 off) hr

def partsP (R : List Ent) (p : List (Nat × Bool)) : List (Nat × Operand) → Option (List (Nat × PV))
  | [] => some []
  | x :: l => match opd R p x.2, partsP R p l with
    | some y, some ys => some ((x.1, y) :: ys)
    | _, _ => none
theorem RS.partsP (hR : RS σ Z w N κ R a) (hp : pv κ p = true) : ∀ {l : List (Nat × Operand)} {ys : List (Nat × PV)}, PX.partsP R p l = some ys → partsRel σ Z w (l.map fun x => (x.1, a.eval x.2)) ys
  | [], ys, h => by simp only [PX.partsP, Option.some.injEq] at h; subst h; exact .nil
  | x :: l, ys, h => by
    simp only [PX.partsP] at h
    split at h
    · rename_i y ys' h1 h2
      simp only [Option.some.injEq] at h; subst h
      exact .cons ⟨rfl, hR.opd hp h1⟩ (RS.partsP hR hp h2)
    · cases h
def zeroCells (P : Program) (t : TypeId) : Option (List PV) :=
  match evl P (zeroValue t) with
  | some z => match ofV z with
    | some x => bif isTup x then none else some (pcells x)
    | none => none
  | none => none
theorem zeroCells_spec {t : TypeId} {xs : List PV} (h : zeroCells P t = some xs) : ∃ z, evl P (zeroValue t) = some z ∧ VRs σ Z w z.cells.toList xs ∧ ones xs = true := by
  unfold zeroCells at h
  split at h
  · rename_i z h1
    split at h
    · rename_i x h2
      cases hb : isTup x with
      | true => rw [hb] at h; simp at h
      | false =>
        rw [hb] at h
        simp only [cond_false, Option.some.injEq] at h; subst h
        exact ⟨z, h1, pcells_spec (ofV_spec h2) hb⟩
    · cases h
  · cases h
def buildP (P : Program) (t : TypeId) (xs : List (Nat × PV)) : Option PV :=
  match zeroCells P t, evl P (underlying t) with
  | some zs, some (.struct fs) => match evl P (fs.mapM fun f => do pure (f.offset, ← sizeOf f.type)) with
    | some places => (fillP (places[·]?) zs xs).map .agg
    | none => none
  | some zs, some (.array _ e) => match evl P (sizeOf e) with
    | some size => (fillP (fun i => some (i * size, size)) zs xs).map .agg
    | none => none
  | _, _ => none
theorem exec_build (hR : RS σ Z w N κ R a) (hp : pv κ p = true) {t : TypeId} {parts : Array (Nat × Operand)} (ho : o.op = .build t parts) {xs : List (Nat × PV)} {r : PV} (hx : partsP R p parts.toList = some xs) (hr : buildP P t xs = some r) : Exec P o a w σ Z H (some r) [] := by
  have hrel := RS.partsP hR hp hx
  have hpt : (parts.map fun x => (x.1, a.eval x.2)).toList = parts.toList.map fun x => (x.1, a.eval x.2) := by simp
  rw [← hpt] at hrel
  unfold buildP at hr
  split at hr
  · rename_i zs fs h1 h2
    obtain ⟨z, z1, z2, z3⟩ := zeroCells_spec (σ := σ) (Z := Z) (w := w) h1
    split at hr
    · rename_i places h3
      obtain ⟨cs, c1, rfl⟩ := Option.map_eq_some_iff.1 hr
      obtain ⟨C', f1, f2, f3⟩ := fill_spec hrel z2 z3 c1
      refine exec_quiet (v := .agg C') ?_ (by have := VR.agg (σ := σ) (Z := Z) (w := w) C'.toList cs f2.1 f3 f2.2; simpa using this)
      have hb : (Instr.build t (parts.map fun x => (x.1, a.eval x.2))).run P w = .ok (.agg C') w := by
        unfold Instr.build
        simp only [Sem.run_bind, evl_run z1 w, evl_run h2 w, Result.andThen_ok, evl_run h3 w, f1]
        rfl
      simp [execOp, ho, Sem.run_bind, hb]
    · cases hr
  · rename_i zs n e h1 h2
    obtain ⟨z, z1, z2, z3⟩ := zeroCells_spec (σ := σ) (Z := Z) (w := w) h1
    split at hr
    · rename_i size h3
      obtain ⟨cs, c1, rfl⟩ := Option.map_eq_some_iff.1 hr
      obtain ⟨C', f1, f2, f3⟩ := fill_spec hrel z2 z3 c1
      refine exec_quiet (v := .agg C') ?_ (by have := VR.agg (σ := σ) (Z := Z) (w := w) C'.toList cs f2.1 f3 f2.2; simpa using this)
      have hb : (Instr.build t (parts.map fun x => (x.1, a.eval x.2))).run P w = .ok (.agg C') w := by
        unfold Instr.build
        simp only [Sem.run_bind, evl_run z1 w, evl_run h2 w, Result.andThen_ok, evl_run h3 w, f1]
        rfl
      simp [execOp, ho, Sem.run_bind, hb]
    · cases hr
  · cases hr
end
end Go.PX
namespace Go.PX
open Go.RowKit Go.SX

def chunk (sz : Nat) : Nat → List PV → List (List PV)
  | 0, _ => []
  | n + 1, xs => xs.take sz :: chunk sz n (xs.drop sz)
theorem chunk_spec {sz : Nat} : ∀ {n : Nat} {xs : List PV}, xs.length = n * sz → ones xs = true → (chunk sz n xs).flatten = xs ∧ (chunk sz n xs).length = n ∧ rowsOk sz (chunk sz n xs)
  | 0, xs, h, _ => by
    have : xs = [] := List.length_eq_zero_iff.1 (by simpa using h)
    subst this; exact ⟨rfl, rfl, fun r hr => by simp [chunk] at hr⟩
  | n + 1, xs, h, ho => by
    rw [Nat.add_mul, Nat.one_mul] at h
    obtain ⟨h1, h2, h3⟩ := chunk_spec (sz := sz) (n := n) (xs := xs.drop sz) (by simp; omega) (ones_drop ho sz)
    refine ⟨by simp [chunk, h1], by simp [chunk, h2], fun r hr => ?_⟩
    simp only [chunk, List.mem_cons] at hr
    rcases hr with rfl | hr
    · exact ⟨by simp; omega, ones_take ho sz⟩
    · exact h3 r hr

section
variable {P : Program} {σ : Nm} {Z : Nat → Prop} {w : World} {N : Nat} {κ : List (Nat × Bool)} {R : List Ent} {a : Act} {H : Heap} {p : List (Nat × Bool)} {o : Oper}

theorem or_row {nx c sz : Nat} (hn : σ nx = none) {e : TypeId} {C : List Value} {pu : Bool} {rows : List (List PV)} (h : CRs pu σ Z w C rows.flatten) (hr : rowsOk sz rows) (hl : C.length = c * sz) (hc : rows.length = c) (hm : c ≤ 1000000000) : OR (upd σ nx w.heap.size c) Z (w.alloc (.cells C.toArray e (0, 0))) nx (.row e sz pu rows) := by
  refine ⟨hr, ⟨by omega, fun _ => by rw [upd_self]; simp⟩, fun b c' hb => ?_⟩
  rw [upd_self] at hb; simp only [Option.some.injEq, Prod.mk.injEq] at hb; obtain ⟨rfl, rfl⟩ := hb
  refine ⟨C, by show (w.heap.push _)[w.heap.size]? = _; simp, hl, by omega, by omega, ?_⟩
  rw [hc, List.take_of_length_le (by omega)]
  exact h.mono (M := fun _ => False) (upd_ext hn) (fun _ h => h) (chg_alloc _ _ _) (fun _ _ h => h)

/-- the zeros that a literal of a slice begins with -/
def rowZeros (P : Program) (e : TypeId) (len size : Nat) : Option (List PV) :=
  match evl P (if len * size = 0 then pure #[] else do pure (← zeroValue e).cells) with
  | some zero => ofCells ((Array.range (len * size)).map (zero[· % zero.size]!)).toList
  | none => none
def buildSliceP (P : Program) (t : TypeId) (len : Nat) (xs : List (Nat × PV)) : Option (TypeId × Nat × List PV) :=
  match evl P (underlying t) with
  | some (.slice e) => match evl P (sizeOf e) with
    | some size => match rowZeros P e len size with
      | some zs => bif Nat.ble (len * size) 100000 && Nat.ble len 100000 then (fillP (fun i => some (i * size, size)) zs xs).map fun cs => (e, size, cs) else none
      | none => none
    | none => none
  | _ => none
theorem fillP_len {place : Nat → Option (Nat × Nat)} : ∀ {xs : List (Nat × PV)} {cells r : List PV}, fillP place cells xs = some r → r.length = cells.length
  | [], cells, r, h => by simp only [fillP, Option.some.injEq] at h; subst h; rfl
  | (i, x) :: xs, cells, r, h => by
    simp only [fillP] at h
    split at h
    · cases h
    · rename_i off size _
      cases hb : (Nat.beq (pcells x).length size && Nat.ble (off + size) cells.length && !isTup x) with
      | false => rw [hb] at h; simp at h
      | true =>
        rw [hb] at h
        simp only [cond_true] at h
        simp only [Bool.and_eq_true, Nat.beq_eq] at hb
        have := Nat.le_of_ble_eq_true hb.1.2
        rw [fillP_len h, over_len (by omega)]
theorem exec_buildSlice (hR : RS σ Z w N κ R a) (hH : HR σ Z w H) (hp : pv κ p = true) {nx : Nat} (hn : σ nx = none) (hnh : hlook H nx = none) {t : TypeId} {len : Nat} {parts : Array (Nat × Operand)} (ho : o.op = .buildSlice t len parts) {xs : List (Nat × PV)} {e : TypeId} {size : Nat} {cs : List PV} (hx : partsP R p parts.toList = some xs) (hr : buildSliceP P t len xs = some (e, size, cs)) :
    Exec P o a w σ Z H (some (.own nx size len)) [(nx, some (.row e size (pures cs) (chunk size len cs)))] := by
  have hrel := RS.partsP hR hp hx
  have hpt : (parts.map fun x => (x.1, a.eval x.2)).toList = parts.toList.map fun x => (x.1, a.eval x.2) := by simp
  rw [← hpt] at hrel
  unfold buildSliceP at hr
  split at hr
  · rename_i e' h1
    split at hr
    · rename_i size' h2
      split at hr
      · rename_i zs h3
        cases hb : (Nat.ble (len * size') 100000 && Nat.ble len 100000) with
        | false => rw [hb] at hr; simp at hr
        | true =>
          rw [hb] at hr
          simp only [cond_true, Option.map_eq_some_iff, Prod.mk.injEq] at hr
          obtain ⟨cs', c1, rfl, rfl, rfl⟩ := hr
          simp only [Bool.and_eq_true] at hb
          have hle := Nat.le_of_ble_eq_true hb.1
          have hle2 := Nat.le_of_ble_eq_true hb.2
          unfold rowZeros at h3
          split at h3
          · rename_i zero h4
            obtain ⟨z2, z3⟩ := ofCells_spec (σ := σ) (Z := Z) (w := w) h3
            obtain ⟨C', f1, f2, f3⟩ := fill_spec hrel z2 z3 c1
            have hzl : zs.length = len * size' := by rw [← z2.1]; simp
            have hcl : cs'.length = len * size' := by rw [fillP_len c1, hzl]
            obtain ⟨k1, k2, k3⟩ := chunk_spec hcl f3
            have hbs : (Instr.buildSlice t len (parts.map fun x => (x.1, a.eval x.2))).run P w = .ok (.slice (some ⟨w.heap.size, 0, none⟩) len len) (w.alloc (.cells C' e')) := by
              unfold Instr.buildSlice
              simp only [Sem.run_bind, evl_run h1 w, evl_run h2 w, Result.andThen_ok]
              rw [if_neg (by omega)]
              by_cases hz0 : len * size' = 0
              · rw [if_pos hz0] at h4 ⊢
                have hz1 : zero = #[] := by
                  have := evl_run h4 w
                  simp only [Sem.run_pure, Result.ok.injEq] at this
                  exact this.1.symm
                subst hz1
                simp only [Sem.run_pure, Sem.run_bind, Result.andThen_ok, f1]
                rfl
              · rw [if_neg hz0] at h4 ⊢
                have := evl_run h4 w
                simp only [Sem.run_bind] at this
                revert this
                cases hzv : (zeroValue e').run P w with
                | halt q w1 => intro h; cases h
                | ok zv w1 =>
                  intro h
                  simp only [Result.andThen_ok, Sem.run_pure, Result.ok.injEq] at h
                  obtain ⟨rfl, rfl⟩ := h
                  simp only [Sem.run_pure, Sem.run_bind, Result.andThen_ok, hzv, f1]
                  rfl
            have hor := or_row (c := len) (sz := size') hn (e := e') (C := C'.toList) (pu := pures cs') (rows := chunk size' len cs') (by rw [k1]; exact f2.crs) k3 (by rw [f2.1, hcl]) k2 (by omega)
            rw [Array.toArray_toList] at hor
            refine exec_value (σ' := upd σ nx w.heap.size len) (Z' := Z) (v := .slice (some ⟨w.heap.size, 0, none⟩) len len) (w' := w.alloc (.cells C' e')) ?_ (.own nx size' len _ _ (upd_self _ _ _ _)) (eff_new hH hn hnh hor)
            simp [execOp, ho, Sem.run_bind, hbs]
          · cases h3
      · cases hr
    · cases hr
  · cases hr

theorem exec_makeSlice (hR : RS σ Z w N κ R a) (hH : HR σ Z w H) (hp : pv κ p = true) {nx : Nat} (hn : σ nx = none) (hnh : hlook H nx = none) {t e : TypeId} {x y : Operand} (ho : o.op = .makeSlice t x y) {K K' : IntKind} {n m : Int} {k size : Nat} {i : TypeInfo} {zs : List PV}
    (hx : opd R p x = some (.sc (.int K n))) (hy : opd R p y = some (.sc (.int K' m))) (hnk : n = (k : Int)) (hmk : m = (k : Int)) (hu : evl P (underlying t) = some (.slice e)) (hi : evl P (typeInfo e) = some i) (hs : evl P (sizeOf e) = some size) (hz : zeroCells P e = some zs) (hzl : zs.length = size) (hzp : pures zs = true) (h0 : 0 < size) (hby : i.bytes ≤ 100000) (hk : k ≤ 1000000000) :
    Exec P o a w σ Z H (some (.own nx size k)) [(nx, some (.row e size true (List.replicate k zs)))] := by
  have hv := hR.opd hp hx
  have hw := hR.opd hp hy
  generalize hav : a.eval x = vx at hv
  generalize haw : a.eval y = vy at hw
  subst hnk hmk
  cases hv; cases hw
  obtain ⟨z, z1, z2, z3⟩ := zeroCells_spec (σ := σ) (Z := Z) (w := w) hz
  have hzs : z.cells.size = size := by have := z2.1; simp at this; omega
  have hsm : (i.bytes : Int) * (k : Int) ≤ 100000000000000 := by
    have : i.bytes * k ≤ 100000 * 1000000000 := Nat.mul_le_mul hby hk
    have := Int.ofNat_le.2 this
    simpa using this
  have hwr : IntKind.i64.wrap (k : Int) = (k : Int) := by
    have := wrap_ok (z := (k : Int)) (by omega)
    injection this
  let C : List Value := (List.range (k * size)).map fun j => z.cells[j % z.cells.size]!
  have hC : ((Array.range (k * size)).map (z.cells[· % z.cells.size]!)) = C.toArray := by simp [C, ← List.toArray_range]
  have hrz : ∀ r ∈ List.replicate k zs, r.length = size := fun r hr => by rw [List.eq_of_mem_replicate hr]; exact hzl
  have hvr : CRs true σ Z w C (List.replicate k zs).flatten := by
    refine IRs.crs ⟨by rw [flat_len _ hrz]; simp [C], fun j u q hu hq => ?_⟩
    obtain ⟨_, r, hr, hq2⟩ := flat_inv hrz hq
    have hr' : r = zs := List.eq_of_mem_replicate (List.mem_of_getElem? hr)
    subst hr'
    simp only [C, List.getElem?_map] at hu
    obtain ⟨j', hj', rfl⟩ := Option.map_eq_some_iff.1 hu
    have hlt := (List.getElem?_eq_some_iff.1 hj').1
    simp only [List.length_range] at hlt
    rw [List.getElem?_range hlt] at hj'
    simp only [Option.some.injEq] at hj'; subst hj'
    refine (z2.crs.2 hzp).2 (j % size) _ q ?_ hq2
    rw [hzs]
    have : j % size < z.cells.size := by rw [hzs]; exact Nat.mod_lt _ h0
    simp [this]
  have hrun : (Instr.makeSlice t (.int K (k : Int)) (.int K' (k : Int))).run P w = .ok (.slice (some ⟨w.heap.size, 0, none⟩) k k) (w.alloc (.cells C.toArray e)) := by
    have hai : ∀ K : IntKind, (asInt (.int K (k : Int))).run P w = .ok (k : Int) w := fun K => rfl
    unfold Instr.makeSlice
    simp only [Sem.run_bind, evl_run hu w, evl_run hi w, Result.andThen_ok, hai, hwr]
    rw [if_neg (by simp; omega)]
    simp only [Sem.run_bind, run_askRoom, Result.andThen_ok, evl_run hs w, Int.toNat_natCast, Sem.run_pure]
    by_cases hk0 : k * size = 0
    · rw [if_pos hk0]
      have hk0' : k = 0 := by rcases Nat.mul_eq_zero.1 hk0 with h | h; exact h; omega
      subst hk0'
      have hC0 : ((Array.range (0 * size)).map ((#[] : Array Value)[· % (#[] : Array Value).size]!)) = C.toArray := by simp [C]
      simp only [Sem.run_bind, Sem.run_pure, Result.andThen_ok, hC0]
      rfl
    · rw [if_neg hk0]
      simp only [Sem.run_bind, evl_run z1 w, Result.andThen_ok, Sem.run_pure, hC]
      rfl
  refine exec_value (σ' := upd σ nx w.heap.size k) (Z' := Z) (v := .slice (some ⟨w.heap.size, 0, none⟩) k k) (w' := w.alloc (.cells C.toArray e)) ?_ (.own nx size k _ _ (upd_self _ _ _ _)) (eff_new hH hn hnh (or_row hn hvr (fun r hr => ⟨hrz r hr, by rw [List.eq_of_mem_replicate hr]; exact z3⟩) (by simp [C]) (by simp) (by omega)))
  simp [execOp, ho, hav, haw, Sem.run_bind, hrun]
end
end Go.PX
namespace Go.PX
open Go.RowKit Go.SX

inductive Ob where
  | b (x : Bool)
  | q (x : Prop)
def AllOb : List Ob → Prop
  | [] => True
  | .b x :: l => x = true ∧ AllOb l
  | .q x :: l => x ∧ AllOb l
theorem allOb_append {l m : List Ob} (h : AllOb (l ++ m)) : AllOb l ∧ AllOb m := by
  induction l with
  | nil => exact ⟨trivial, h⟩
  | cons q l ih => cases q <;> exact ⟨⟨h.1, (ih h.2).1⟩, (ih h.2).2⟩

def hdel (H : Heap) (id : Nat) : Heap :=
  match H with
  | [] => []
  | x :: H => bif Nat.beq x.1 id then hdel H id else x :: hdel H id
theorem hlook_hdel {id i : Nat} : ∀ {H : Heap}, hlook (hdel H id) i = if i = id then none else hlook H i
  | [] => by simp [hdel, hlook]
  | x :: H => by
    simp only [hdel]
    cases hb : Nat.beq x.1 id with
    | true =>
      obtain rfl := Nat.eq_of_beq_eq_true hb
      simp only [cond_true]
      rw [hlook_hdel]
      split
      · rfl
      · rename_i hne
        simp only [hlook]
        rw [nbeq fun e => hne e.symm]; rfl
    | false =>
      simp only [cond_false, hlook]
      rw [hlook_hdel]
      cases hb2 : Nat.beq x.1 i with
      | true =>
        obtain rfl := Nat.eq_of_beq_eq_true hb2
        have hne : x.1 ≠ id := by rintro rfl; simp at hb
        simp [hne]
      | false => rfl
theorem OR.lt {σ : Nm} {Z : Nat → Prop} {w : World} {id b c : Nat} {o : PO} (h : OR σ Z w id o) (hs : σ id = some (b, c)) : b < w.heap.size := by
  cases o with
  | box e xs =>
    obtain ⟨b', c', C, h1, h2, _⟩ := h
    rw [hs] at h1; simp only [Option.some.injEq, Prod.mk.injEq] at h1; obtain ⟨rfl, rfl⟩ := h1
    exact (Array.getElem?_eq_some_iff.1 h2).1
  | row e sz pu rows =>
    obtain ⟨_, _, h3⟩ := h
    obtain ⟨C, h2, _⟩ := h3 b c hs
    exact (Array.getElem?_eq_some_iff.1 h2).1
  | mp D =>
    obtain ⟨_, b', c', es, cl, h1, h2, _⟩ := h
    rw [hs] at h1; simp only [Option.some.injEq, Prod.mk.injEq] at h1; obtain ⟨rfl, rfl⟩ := h1
    exact (Array.getElem?_eq_some_iff.1 h2).1
  | rmap es cl =>
    obtain ⟨b', c', h1, h2⟩ := h
    rw [hs] at h1; simp only [Option.some.injEq, Prod.mk.injEq] at h1; obtain ⟨rfl, rfl⟩ := h1
    exact (Array.getElem?_eq_some_iff.1 h2).1
  | rit m since seen c0 =>
    obtain ⟨b', c', bm, cm, h1, _, h2⟩ := h
    rw [hs] at h1; simp only [Option.some.injEq, Prod.mk.injEq] at h1; obtain ⟨rfl, rfl⟩ := h1
    exact (Array.getElem?_eq_some_iff.1 h2).1
  | ty v x => have h1 := h.1; rw [hs] at h1; cases h1

mutual
def frz (id sz : Nat) (rows : List (List PV)) : PV → PV
  | .sc v => .sc v
  | .imm s r => .imm s r
  | .iptr r i => .iptr r i
  | .any => .any
  | .ptr i o => .ptr i o
  | .rptr i s k j => .rptr i s k j
  | .map i => .map i
  | .own i s n => bif Nat.beq i id then .imm sz rows else .own i s n
  | .agg xs => .agg (frzL id sz rows xs)
  | .tup xs => .tup (frzL id sz rows xs)
  | .fn f xs ys => .fn f (frzL id sz rows xs) (frzL id sz rows ys)
def frzL (id sz : Nat) (rows : List (List PV)) : List PV → List PV
  | [] => []
  | x :: l => frz id sz rows x :: frzL id sz rows l
end
mutual
def frzOb (id : Nat) (rows : List (List PV)) : PV → List Ob
  | .own i _ n => bif Nat.beq i id then [.b (lenIs n rows)] else []
  | .agg xs => frzObL id rows xs
  | .tup xs => frzObL id rows xs
  | .fn _ xs ys => frzObL id rows xs ++ frzObL id rows ys
  | _ => []
def frzObL (id : Nat) (rows : List (List PV)) : List PV → List Ob
  | [] => []
  | x :: l => frzOb id rows x ++ frzObL id rows l
end
theorem frzL_get {id sz : Nat} {rows : List (List PV)} : ∀ {xs : List PV} {i : Nat} {y : PV}, (frzL id sz rows xs)[i]? = some y → ∃ x, xs[i]? = some x ∧ y = frz id sz rows x
  | [], i, y, h => by simp [frzL] at h
  | x :: xs, i, y, h => by
    simp only [frzL] at h
    cases i with
    | zero => simp only [List.getElem?_cons_zero, Option.some.injEq] at h; exact ⟨x, rfl, h.symm⟩
    | succ i => obtain ⟨z, h1, h2⟩ := frzL_get (xs := xs) (i := i) (by simpa using h); exact ⟨z, by simpa using h1, h2⟩
theorem frzL_len {id sz : Nat} {rows : List (List PV)} : ∀ {xs : List PV}, (frzL id sz rows xs).length = xs.length
  | [] => rfl
  | x :: xs => by simp [frzL, frzL_len]
theorem frz_one {id sz : Nat} {rows : List (List PV)} {x : PV} : (frz id sz rows x).one = x.one := by
  cases x <;> simp [frz, PV.one]
  rename_i i s n
  cases Nat.beq i id <;> rfl
theorem frzL_ones {id sz : Nat} {rows : List (List PV)} : ∀ {xs : List PV}, ones (frzL id sz rows xs) = ones xs
  | [] => rfl
  | x :: xs => by simp [frzL, ones, frz_one, frzL_ones]
theorem frzObL_get {id : Nat} {rows : List (List PV)} : ∀ {xs : List PV} {i : Nat} {x : PV}, AllOb (frzObL id rows xs) → xs[i]? = some x → AllOb (frzOb id rows x)
  | [], i, x, _, h => by simp at h
  | y :: xs, i, x, ho, h => by
    simp only [frzObL] at ho
    obtain ⟨h1, h2⟩ := allOb_append ho
    cases i with
    | zero => simp only [List.getElem?_cons_zero, Option.some.injEq] at h; subst h; exact h1
    | succ i => exact frzObL_get h2 (i := i) (by simpa using h)

theorem row_imm {σ : Nm} {Z : Nat → Prop} {w : World} {id b c : Nat} {e : TypeId} {sz : Nat} {rows : List (List PV)} (h : OR σ Z w id (.row e sz true rows)) (hs : σ id = some (b, c)) (hz : Z b) : IR Z w (.slice (some ⟨b, 0, none⟩) rows.length c) (.imm sz rows) := by
  obtain ⟨h1, h2, h3⟩ := h
  obtain ⟨C, q1, q2, q3, q4, q5⟩ := h3 b c hs
  have q6 := q5.2 rfl
  have hlen := fun r hr => (h1 r hr).1
  have hfl := flat_len rows hlen
  have q61 := q6.1; rw [hfl] at q61
  refine .imm _ c sz rows (fun k i => C.getD (k * sz + i) undef) ⟨q3, by omega⟩ ⟨q4, fun e => by cases e⟩ (fun k row hr => ?_) (fun k row i x hr hx => ?_)
  · obtain ⟨r1, r2⟩ := rowsOk_get h1 hr
    refine ⟨r1, r2, b, 0, rfl, hz, fun i hi => ?_⟩
    have hk := (List.getElem?_eq_some_iff.1 hr).1
    have hks : (k + 1) * sz ≤ rows.length * sz := Nat.mul_le_mul_right _ hk
    rw [Nat.add_mul] at hks
    have hlt : k * sz + i < C.length := by simp at q61; omega
    rw [Nat.zero_add]
    simp [World.cell?, q1, hlt]
  · obtain ⟨r1, r2⟩ := rowsOk_get h1 hr
    have hi : i < sz := by have := (List.getElem?_eq_some_iff.1 hx).1; omega
    have hk := (List.getElem?_eq_some_iff.1 hr).1
    have hks : (k + 1) * sz ≤ rows.length * sz := Nat.mul_le_mul_right _ hk
    rw [Nat.add_mul] at hks
    have hlt : k * sz + i < C.length := by simp at q61; omega
    refine q6.2 (k * sz + i) _ x ?_ (by rw [flat_row rows k i row hlen hr hi]; exact hx)
    rw [List.getElem?_take, if_pos (by omega)]
    simp [hlt]

theorem VR.frz {σ : Nm} {Z Z' : Nat → Prop} {w : World} {id : Nat} {e : TypeId} {sz : Nat} {rows : List (List PV)} (ho : OR σ Z w id (.row e sz true rows)) (hz : ∀ b, Z b → Z' b) (hz' : ∀ b c, σ id = some (b, c) → Z' b) {v : Value} {x : PV} (h : VR σ Z w v x) : AllOb (frzOb id rows x) → VR σ Z' w v (PX.frz id sz rows x) := by
  have hch : Chg (fun _ => False) w w := Chg.refl _ _
  induction h with
  | sc v h => intro _; exact .sc v h
  | ptr i off b c h => intro _; exact .ptr i off b c h
  | rptr i s k j b c h => intro _; exact .rptr i s k j b c h
  | own i s n b c h =>
    intro hob
    simp only [PX.frz, frzOb] at hob ⊢
    cases hb : Nat.beq i id with
    | false => exact .own i s n b c h
    | true =>
      rw [hb] at hob
      obtain rfl := Nat.eq_of_beq_eq_true hb
      have hn : n = rows.length := by have := hob.1; simpa [lenIs] using this
      subst hn
      exact .imm _ sz rows ((row_imm (OR.mono (M := fun _ => False) (Ext.refl σ) hz hch (fun _ _ q => q) rfl (fun _ _ _ q => q) ho) h (hz' b c h)))
  | own0 i s =>
    intro hob
    simp only [PX.frz, frzOb] at hob ⊢
    cases hb : Nat.beq i id with
    | false => exact .own0 i s
    | true =>
      rw [hb] at hob
      have hn : 0 = rows.length := by have := hob.1; simpa [lenIs] using this
      have : rows = [] := List.length_eq_zero_iff.1 hn.symm
      subst this
      exact .imm _ sz [] (.imm none 0 sz [] (fun _ _ => undef) ⟨Nat.le_refl _, by simp⟩ ⟨by omega, fun _ => rfl⟩ (fun k row h => by simp at h) (fun k row i x h => by simp at h))
  | imm v s r h => intro _; exact .imm v s r (h.mono hz hch fun _ _ q => q)
  | iptr b off i row U h1 h2 h3 h4 => intro _; exact .iptr b off i row U h1 (hz b h2) h3 fun j x hx => (h4 j x hx).mono hz hch fun _ _ q => q
  | agg l xs hl h1 h ih =>
    intro hob
    simp only [frzOb] at hob
    refine .agg l _ (by rw [hl, frzL_len]) (by rw [frzL_ones]; exact h1) fun i u y hu hy => ?_
    obtain ⟨x, hx, rfl⟩ := frzL_get hy
    exact ih i u x hu hx (frzObL_get hob hx)
  | tup l xs hl h ih =>
    intro hob
    simp only [frzOb] at hob
    refine .tup l _ (by rw [hl, frzL_len]) fun i u y hu hy => ?_
    obtain ⟨x, hx, rfl⟩ := frzL_get hy
    exact ih i u x hu hx (frzObL_get hob hx)
  | map i b c h => intro _; exact .map i b c h
  | any v h => intro _; exact .any v h
  | fn f l1 l2 x1 x2 hl1 hl2 h1 h2 ih1 ih2 =>
    intro hob
    simp only [frzOb] at hob
    obtain ⟨o1, o2⟩ := allOb_append hob
    refine .fn f l1 l2 _ _ (by rw [hl1, frzL_len]) (by rw [hl2, frzL_len]) (fun i u y hu hy => ?_) (fun i u y hu hy => ?_)
    · obtain ⟨x, hx, rfl⟩ := frzL_get hy
      exact ih1 i u x hu hx (frzObL_get o1 hx)
    · obtain ⟨x, hx, rfl⟩ := frzL_get hy
      exact ih2 i u x hu hx (frzObL_get o2 hx)

def frzLL (id sz : Nat) (rows : List (List PV)) : List (List PV) → List (List PV)
  | [] => []
  | x :: l => frzL id sz rows x :: frzLL id sz rows l
def frzObLL (id : Nat) (rows : List (List PV)) : List (List PV) → List Ob
  | [] => []
  | x :: l => frzObL id rows x ++ frzObLL id rows l
/-- an object with the row told; a row whose cells hold names becomes pure if they hold none any more -/
def frzO (id sz : Nat) (rows : List (List PV)) : PO → PO
  | .box e xs => .box e (frzL id sz rows xs)
  | .row e s true r => .row e s true r
  | .row e s false r => .row e s (pures (frzLL id sz rows r).flatten) (frzLL id sz rows r)
  | .mp D => .mp D
  | .rmap es cl => .rmap es cl
  | .rit m since seen c0 => .rit m since seen c0
  | .ty v x => .ty v (frz id sz rows x)
def frzObO (id : Nat) (rows : List (List PV)) : PO → List Ob
  | .box _ xs => frzObL id rows xs
  | .row _ _ true _ => []
  | .row _ _ false r => frzObLL id rows r
  | .mp _ => []
  | .rmap _ _ => []
  | .rit _ _ _ _ => []
  | .ty _ x => frzOb id rows x
theorem frzL_append {id sz : Nat} {rows : List (List PV)} : ∀ {xs ys : List PV}, frzL id sz rows (xs ++ ys) = frzL id sz rows xs ++ frzL id sz rows ys
  | [], ys => rfl
  | x :: xs, ys => by simp [frzL, frzL_append]
theorem frzLL_flat {id sz : Nat} {rows : List (List PV)} : ∀ {r : List (List PV)}, (frzLL id sz rows r).flatten = frzL id sz rows r.flatten
  | [] => rfl
  | x :: l => by rw [frzLL, List.flatten_cons, frzLL_flat, List.flatten_cons, frzL_append]
theorem frzLL_len {id sz : Nat} {rows : List (List PV)} : ∀ {r : List (List PV)}, (frzLL id sz rows r).length = r.length
  | [] => rfl
  | x :: l => by simp [frzLL, frzLL_len]
theorem frzLL_ok {id sz s : Nat} {rows : List (List PV)} : ∀ {r : List (List PV)}, rowsOk s r → rowsOk s (frzLL id sz rows r)
  | [], _, q, hq => by simp [frzLL] at hq
  | x :: l, h, q, hq => by
    simp only [frzLL, List.mem_cons] at hq
    rcases hq with rfl | hq
    · have := h x (by simp)
      rw [frzL_len, frzL_ones]; exact this
    · exact frzLL_ok (fun y hy => h y (List.mem_cons_of_mem _ hy)) q hq
theorem frzObL_append {id : Nat} {rows : List (List PV)} : ∀ {xs ys : List PV}, AllOb (frzObL id rows xs) → AllOb (frzObL id rows ys) → AllOb (frzObL id rows (xs ++ ys))
  | [], ys, _, h => h
  | x :: xs, ys, h, h' => by
    simp only [List.cons_append, frzObL] at h ⊢
    obtain ⟨h1, h2⟩ := allOb_append h
    have h3 := frzObL_append h2 h'
    have app : ∀ {l m : List Ob}, AllOb l → AllOb m → AllOb (l ++ m) := fun {l m} h h' => by
      induction l with
      | nil => exact h'
      | cons q l ih => cases q <;> exact ⟨h.1, ih h.2⟩
    exact app h1 h3
theorem frzObLL_flat {id : Nat} {rows : List (List PV)} : ∀ {r : List (List PV)}, AllOb (frzObLL id rows r) → AllOb (frzObL id rows r.flatten)
  | [], _ => trivial
  | x :: l, h => by
    simp only [frzObLL] at h
    obtain ⟨h1, h2⟩ := allOb_append h
    rw [List.flatten_cons]; exact frzObL_append h1 (frzObLL_flat h2)
theorem VRs.frz {σ : Nm} {Z Z' : Nat → Prop} {w : World} {id : Nat} {e : TypeId} {sz : Nat} {rows : List (List PV)} (ho : OR σ Z w id (.row e sz true rows)) (hz : ∀ b, Z b → Z' b) (hz' : ∀ b c, σ id = some (b, c) → Z' b) {l : List Value} {xs : List PV} (h : VRs σ Z w l xs) (hob : AllOb (frzObL id rows xs)) : VRs σ Z' w l (frzL id sz rows xs) :=
  ⟨by rw [h.1, frzL_len], fun i u y hu hy => by
    obtain ⟨x, hx, rfl⟩ := frzL_get hy
    exact (h.2 i u x hu hx).frz ho hz hz' (frzObL_get hob hx)⟩
theorem OR.frz {σ : Nm} {Z Z' : Nat → Prop} {w : World} {id : Nat} {e : TypeId} {sz : Nat} {rows : List (List PV)} (ho : OR σ Z w id (.row e sz true rows)) (hz : ∀ b, Z b → Z' b) (hz' : ∀ b c, σ id = some (b, c) → Z' b) {i : Nat} {o : PO} (h : OR σ Z w i o) (hob : AllOb (frzObO id rows o)) : OR σ Z' w i (frzO id sz rows o) := by
  cases o with
  | box e' xs =>
    obtain ⟨b, c, C, h1, h2, h3, h4⟩ := h
    exact ⟨b, c, C, h1, h2, by rw [frzL_ones]; exact h3, h4.frz ho hz hz' hob⟩
  | row e' s pu r =>
    cases pu with
    | true => exact OR.mono (M := fun _ => False) (Ext.refl σ) hz (Chg.refl _ _) (fun _ _ q => q) rfl (fun _ _ _ q => q) h
    | false =>
      obtain ⟨h1, h2, h3⟩ := h
      refine ⟨frzLL_ok h1, ⟨by rw [frzLL_len]; exact h2.1, fun q => h2.2 (fun e => by subst e; exact q rfl)⟩, fun b c hb => ?_⟩
      obtain ⟨C, q1, q2, q3, q4, q5⟩ := h3 b c hb
      refine ⟨C, q1, q2, by rw [frzLL_len]; exact q3, q4, ?_⟩
      rw [frzLL_len]
      have := (q5.1.frz ho hz hz' (frzObLL_flat hob)).crs
      rw [← frzLL_flat] at this
      exact this
  | mp D => exact OR.mono (M := fun _ => False) (Ext.refl σ) hz (Chg.refl _ _) (fun _ _ q => q) rfl (fun _ _ _ q => q) h
  | rmap es cl => exact OR.mono (M := fun _ => False) (Ext.refl σ) hz (Chg.refl _ _) (fun _ _ q => q) rfl (fun _ _ _ q => q) h
  | rit m since seen c0 => exact OR.mono (M := fun _ => False) (Ext.refl σ) hz (Chg.refl _ _) (fun _ _ q => q) rfl (fun _ _ _ q => q) h
  | ty v x => exact ⟨h.1, by rw [frz_one]; exact h.2.1, h.2.2.frz ho hz hz' hob⟩
def frzR (id sz : Nat) (rows : List (List PV)) : List Ent → List Ent
  | [] => []
  | e :: R => ⟨e.t, e.p, frz id sz rows e.v⟩ :: frzR id sz rows R
def frzH (id sz : Nat) (rows : List (List PV)) : Heap → Heap
  | [] => []
  | x :: H => (x.1, frzO id sz rows x.2) :: frzH id sz rows H
def frzObR (id : Nat) (rows : List (List PV)) : List Ent → List Ob
  | [] => []
  | e :: R => frzOb id rows e.v ++ frzObR id rows R
def frzObH (id : Nat) (rows : List (List PV)) : Heap → List Ob
  | [] => []
  | x :: H => frzObO id rows x.2 ++ frzObH id rows H
theorem look_frzR {id sz t : Nat} {rows : List (List PV)} : ∀ {R : List Ent} {e : Ent}, AllOb (frzObR id rows R) → look (frzR id sz rows R) t = some e → ∃ e', look R t = some e' ∧ e.p = e'.p ∧ e.v = frz id sz rows e'.v ∧ AllOb (frzOb id rows e'.v)
  | [], e, _, h => by simp [frzR, look] at h
  | x :: R, e, ho, h => by
    simp only [frzObR] at ho
    obtain ⟨o1, o2⟩ := allOb_append ho
    simp only [look, frzR] at h ⊢
    cases hb : Nat.beq x.t t with
    | true => rw [hb] at h; simp only [cond_true, Option.some.injEq] at h; subst h; exact ⟨x, rfl, rfl, rfl, o1⟩
    | false => rw [hb] at h; exact look_frzR o2 h
theorem hlook_frzH {id sz i : Nat} {rows : List (List PV)} : ∀ {H : Heap} {o : PO}, AllOb (frzObH id rows H) → hlook (frzH id sz rows H) i = some o → ∃ o', hlook H i = some o' ∧ o = frzO id sz rows o' ∧ AllOb (frzObO id rows o')
  | [], o, _, h => by simp [frzH, hlook] at h
  | x :: H, o, ho, h => by
    simp only [frzObH] at ho
    obtain ⟨o1, o2⟩ := allOb_append ho
    simp only [hlook, frzH] at h ⊢
    cases hb : Nat.beq x.1 i with
    | true => rw [hb] at h; simp only [cond_true, Option.some.injEq] at h; subst h; exact ⟨x.2, rfl, rfl, o1⟩
    | false => rw [hb] at h; exact hlook_frzH o2 h

/-- what a call is shown: rows of the table, told from the innermost on -/
def vw : List Nat → Heap → List PV → Option (List PV × List Ob)
  | [], _, ys => some (ys, [])
  | id :: vs, H, ys => match hlook H id with
    | some (.row _ sz true rows) => match vw vs (frzH id sz rows (hdel H id)) (frzL id sz rows ys) with
      | some (ys', ob) => some (ys', (frzObL id rows ys ++ frzObH id rows (hdel H id)) ++ ob)
      | none => none
    | _ => none
theorem vw_sound {σ : Nm} {w : World} {l : List Value} : ∀ {vs : List Nat} {Z : Nat → Prop} {H : Heap} {ys ys' : List PV} {ob : List Ob}, vw vs H ys = some (ys', ob) → AllOb ob → HR σ Z w H → VRs σ Z w l ys →
    (∀ id ∈ vs, hlook H id ≠ none) ∧ ∃ Z' : Nat → Prop, (∀ b, Z b → Z' b) ∧ (∀ b, Z' b → Z b ∨ ∃ id o c, id ∈ vs ∧ hlook H id = some o ∧ σ id = some (b, c)) ∧ VRs σ Z' w l ys' ∧ ∀ b, Z' b → b < w.heap.size
  | [], Z, H, ys, ys', ob, h, _, hH, hv => by
    simp only [vw, Option.some.injEq, Prod.mk.injEq] at h
    obtain ⟨rfl, rfl⟩ := h
    exact ⟨(fun id h => by cases h), Z, fun _ q => q, fun _ q => .inl q, hv, hH.zlt⟩
  | id :: vs, Z, H, ys, ys', ob, h, hob, hH, hv => by
    simp only [vw] at h
    split at h
    · rename_i e sz rows hl
      split at h
      · rename_i ys1 ob1 h1
        simp only [Option.some.injEq, Prod.mk.injEq] at h
        obtain ⟨rfl, rfl⟩ := h
        obtain ⟨o1, o2⟩ := allOb_append hob
        obtain ⟨o1, o3⟩ := allOb_append o1
        have ho := hH.at_ id _ hl
        let Z1 : Nat → Prop := fun b => Z b ∨ ∃ c, σ id = some (b, c)
        have hz : ∀ b, Z b → Z1 b := fun b q => .inl q
        have hz' : ∀ b c, σ id = some (b, c) → Z1 b := fun b c q => .inr ⟨c, q⟩
        have old : ∀ {i : Nat} {o : PO}, hlook (frzH id sz rows (hdel H id)) i = some o → ∃ o', hlook H i = some o' ∧ i ≠ id ∧ o = frzO id sz rows o' ∧ AllOb (frzObO id rows o') := fun {i o} h => by
          obtain ⟨o', h1, h2, h3⟩ := hlook_frzH o3 h
          rw [hlook_hdel] at h1
          split at h1
          · cases h1
          · rename_i hne; exact ⟨o', h1, hne, h2, h3⟩
        have hH1 : HR σ Z1 w (frzH id sz rows (hdel H id)) := by
          refine ⟨fun i o h => ?_, fun i i' o o' b c c' h1 h2 h3 h4 => ?_, fun i o b c h1 h2 => ?_, fun b hb => ?_⟩
          · obtain ⟨o', q1, _, rfl, q3⟩ := old h
            exact OR.frz ho hz hz' (hH.at_ i o' q1) q3
          · obtain ⟨p1, q1, _, _, _⟩ := old h1
            obtain ⟨p2, q2, _, _, _⟩ := old h2
            exact hH.inj i i' p1 p2 b c c' q1 q2 h3 h4
          · obtain ⟨p1, q1, hne, _, _⟩ := old h1
            rintro (hz | ⟨c', hz⟩)
            · exact hH.off i p1 b c q1 h2 hz
            · exact hne (hH.inj i id p1 _ b c c' q1 hl h2 hz)
          · rcases hb with hb | ⟨c, hb⟩
            · exact hH.zlt b hb
            · exact ho.lt hb
        obtain ⟨r1, Z', r2, r3, r4, r5⟩ := vw_sound h1 o2 hH1 (hv.frz ho hz hz' o1)
        refine ⟨fun i hi => ?_, Z', fun b q => r2 b (hz b q), fun b q => ?_, r4, r5⟩
        · rcases List.mem_cons.1 hi with rfl | hi
          · rw [hl]; simp
          · have := r1 i hi
            cases q : hlook (frzH id sz rows (hdel H id)) i with
            | none => exact absurd q this
            | some o => obtain ⟨p1, q1, _⟩ := old q; rw [q1]; simp
        · rcases r3 b q with q | ⟨i, o, c, q1, q2, q3⟩
          · rcases q with q | ⟨c, q⟩
            · exact .inl q
            · exact .inr ⟨id, _, c, List.mem_cons_self, hl, q⟩
          · obtain ⟨p1, q4, _⟩ := old q2
            exact .inr ⟨i, p1, c, List.mem_cons_of_mem _ q1, q4, q3⟩
      · cases h
    · cases h

/-! a part of a slice that nobody writes -/
def bnd (R : List Ent) (p : List (Nat × Bool)) (k d : Nat) : Option Operand → Option (List Prop)
  | none => some [k = d]
  | some x => match opd R p x with
    | some (.sc (.int _ n)) => some [n = (k : Int)]
    | _ => none
theorem bnd_spec {P : Program} {σ : Nm} {Z : Nat → Prop} {w : World} {N : Nat} {κ : List (Nat × Bool)} {R : List Ent} {a : Act} {p : List (Nat × Bool)} (hR : RS σ Z w N κ R a) (hp : pv κ p = true) {k d : Nat} {x : Option Operand} {obs : List Prop} (h : bnd R p k d x = some obs) (hob : AllP obs) :
    (x.map a.eval = none ∧ k = d) ∨ ∃ K, x.map a.eval = some (.int K (k : Int)) := by
  cases x with
  | none => simp only [bnd, Option.some.injEq] at h; subst h; exact .inl ⟨rfl, hob.1⟩
  | some x =>
    simp only [bnd] at h
    split at h
    · rename_i K n hx
      simp only [Option.some.injEq] at h; subst h
      have hv := hR.opd hp hx
      have hn := hob.1
      subst hn
      generalize hav : a.eval x = vx at hv
      cases hv
      exact .inr ⟨K, by simp [hav]⟩
    · cases h
theorem run_slice_cut {P : Program} {w : World} {t e : TypeId} {sz len cap l h : Nat} {A : Option Addr} (h1 : evl P (underlying t) = some (.slice e)) (h2 : evl P (sizeOf e) = some sz) {x y : Option Value} (hx : (x = none ∧ l = 0) ∨ ∃ K, x = some (.int K (l : Int))) (hy : (y = none ∧ h = len) ∨ ∃ K, y = some (.int K (h : Int))) (hl : l ≤ h) (hh : h ≤ cap) :
    (Instr.sliceAt t (.slice A len cap) x y none).run P w = .ok (.slice (if cap = l then A else A.map (·.add (l * sz))) (h - l) (cap - l)) w := by
  have z1 : (0 : Int) ≤ (l : Int) ∧ (l : Int) ≤ (h : Int) := ⟨by omega, by omega⟩
  have z2 : (0 : Int) ≤ (h : Int) ∧ (h : Int) ≤ (cap : Int) := ⟨by omega, by omega⟩
  rcases hx with ⟨rfl, rfl⟩ | ⟨K, rfl⟩ <;> rcases hy with ⟨rfl, rfl⟩ | ⟨K', rfl⟩ <;>
    simp [Instr.sliceAt, Instr.slice, Instr.sliceBounds, Instr.sliceBound, Sem.run_bind, evl_run h1 w, evl_run h2 w, asIntOf, z1, z2, hl, hh]
theorem exec_slice {P : Program} {σ : Nm} {Z : Nat → Prop} {w : World} {N : Nat} {κ : List (Nat × Bool)} {R : List Ent} {a : Act} {H : Heap} {p : List (Nat × Bool)} {o : Oper} (hR : RS σ Z w N κ R a) (hp : pv κ p = true) {t e : TypeId} {x : Operand} {lo hi : Option Operand} (ho : o.op = .slice t x lo hi none)
    {sz l h : Nat} {rows rs : List (List PV)} {o1 o2 : List Prop} (h1 : evl P (underlying t) = some (.slice e)) (h2 : evl P (sizeOf e) = some sz) (hx : opd R p x = some (.imm sz rows)) (hlo : bnd R p l 0 lo = some o1) (hhi : bnd R p h rows.length hi = some o2) (b1 : AllP o1) (b2 : AllP o2)
    (hl : l ≤ h) (hh : h ≤ rows.length) (hrs : (rows.take h).drop l = rs) : Exec P o a w σ Z H (some (.imm sz rs)) [] := by
  have hv := hR.opd hp hx
  have q1 := bnd_spec (P := P) hR hp hlo b1
  have q2 := bnd_spec (P := P) hR hp hhi b2
  generalize hav : a.eval x = vx at hv
  subst hrs
  cases hv with
  | imm _ _ _ hi =>
    cases hi with
    | imm A cap _ _ U c1 c2 c3 c4 =>
      have hlen : ((rows.take h).drop l).length = h - l := by simp; omega
      have hget : ∀ k row, ((rows.take h).drop l)[k]? = some row → rows[l + k]? = some row ∧ l + k < h := fun k row hk => by
        rw [List.getElem?_drop, List.getElem?_take] at hk
        split at hk
        · exact ⟨hk, by assumption⟩
        · cases hk
      refine exec_quiet (v := .slice (if cap = l then A else A.map (·.add (l * sz))) (h - l) (cap - l)) ?_ (.imm _ _ _ ?_)
      · have := run_slice_cut (P := P) (w := w) (A := A) (len := rows.length) h1 h2 q1 q2 hl (Nat.le_trans hh c1.1)
        simp [execOp, ho, hav, Sem.run_bind, this]
      · rw [← hlen]
        refine .imm _ _ sz _ (fun k i => U (l + k) i) ⟨by rw [hlen]; omega, by rw [hlen]; omega⟩ ⟨by omega, fun e => ?_⟩ (fun k row hk => ?_) (fun k row i x hk hx => c4 (l + k) row i x (hget k row hk).1 hx)
        · split at e
          · rename_i q; omega
          · cases A with
            | none => rw [c2.2 rfl]; simp
            | some A => cases e
        · obtain ⟨g1, g2⟩ := hget k row hk
          obtain ⟨r1, r2, b, off, rfl, r3, r4⟩ := c3 _ row g1
          rw [if_neg (by omega)]
          refine ⟨r1, r2, b, off + l * sz, by simp [add_off], r3, fun i hi => ?_⟩
          rw [← r4 i hi, Nat.add_mul, Nat.add_assoc off]

/-! maps from ints -/
/-- a row cut down to nothing -/
theorem exec_slice0 {P : Program} {σ : Nm} {Z : Nat → Prop} {w : World} {N : Nat} {κ : List (Nat × Bool)} {R : List Ent} {a : Act} {H : Heap} {p : List (Nat × Bool)} {o : Oper} (hR : RS σ Z w N κ R a) (hH : HR σ Z w H) (hp : pv κ p = true) {t e : TypeId} {x y : Operand} {lo : Option Operand} (ho : o.op = .slice t x lo (some y) none)
    {id sz n e' sz' : Nat} {pu : Bool} {rows : List (List PV)} {o1 o2 : List Prop} (h1 : evl P (underlying t) = some (.slice e)) (h2 : evl P (sizeOf e) = some sz) (hx : opd R p x = some (.own id sz n)) (hl : hlook H id = some (.row e' sz' pu rows)) (hlo : bnd R p 0 0 lo = some o1) (hhi : bnd R p 0 1 (some y) = some o2) (b1 : AllP o1) (b2 : AllP o2) : Exec P o a w σ Z H (some (.imm sz [])) [] := by
  have hv := hR.opd hp hx
  have q1 := bnd_spec (P := P) hR hp hlo b1
  have q2 := bnd_spec (P := P) (d := n) (x := some y) hR hp hhi b2
  have q2' : (Option.map a.eval (some y) = none ∧ 0 = n) ∨ ∃ K, Option.map a.eval (some y) = some (.int K ((0 : Nat) : Int)) := q2
  generalize hav : a.eval x = vx at hv
  have z : ∀ (A : Option Addr) (cap : Nat), cap ≤ 9223372036854775807 → (A = none → cap = 0) → IR Z w (.slice (if cap = 0 then A else A.map (·.add (0 * sz))) 0 (cap - 0)) (.imm sz []) := fun A cap hc hA =>
    .imm _ (cap - 0) sz [] (fun _ _ => undef) ⟨Nat.zero_le _, by simp⟩ ⟨by omega, fun e => by
      split at e
      · omega
      · cases A with
        | none => have := hA rfl; omega
        | some A => cases e⟩ (fun k row h => by simp at h) (fun k row i x h => by simp at h)
  cases hv with
  | own _ _ _ b c hs =>
    obtain ⟨_, _, q3⟩ := hH.at_ id _ hl
    obtain ⟨C, _, _, _, hc, _⟩ := q3 b c hs
    have := run_slice_cut (P := P) (w := w) (A := some ⟨b, 0, none⟩) (len := n) (cap := c) (l := 0) (h := 0) h1 h2 q1 q2' (Nat.le_refl _) (Nat.zero_le _)
    refine exec_quiet (v := .slice (if c = 0 then some ⟨b, 0, none⟩ else (some (⟨b, 0, none⟩ : Addr)).map (·.add (0 * sz))) (0 - 0) (c - 0)) ?_ (.imm _ _ _ (z _ _ hc (fun e => by cases e)))
    rw [Option.map_some] at this
    simp [execOp, ho, hav, Sem.run_bind, this]
  | own0 =>
    have := run_slice_cut (P := P) (w := w) (A := none) (len := 0) (cap := 0) (l := 0) (h := 0) h1 h2 q1 q2' (Nat.le_refl _) (Nat.zero_le _)
    refine exec_quiet (v := .slice (if (0 : Nat) = 0 then none else (none : Option Addr).map (·.add (0 * sz))) (0 - 0) (0 - 0)) ?_ (.imm _ _ _ (z _ _ (by omega) (fun _ => rfl)))
    rw [Option.map_some] at this
    simp [execOp, ho, hav, Sem.run_bind, this]
def findV (D : List (Int × Value)) (x : Int) : Option Value := (D.find? (fun p => x == p.1)).map (·.2)
def updV : List (Int × Value) → Int → Value → List (Int × Value)
  | [], x, v => [(x, v)]
  | p :: D, x, v => bif x == p.1 then (p.1, v) :: D else p :: updV D x v
theorem findV_ok {D : List (Int × Value)} (h : ∀ p ∈ D, scOk p.2 = true) {x : Int} {v : Value} (hv : findV D x = some v) : scOk v = true := by
  unfold findV at hv
  obtain ⟨p, hp, rfl⟩ := Option.map_eq_some_iff.1 hv
  exact h p (List.mem_of_find?_eq_some hp)
theorem updV_ok : ∀ {D : List (Int × Value)}, (∀ p ∈ D, scOk p.2 = true) → ∀ {x : Int} {v : Value}, scOk v = true → ∀ p ∈ updV D x v, scOk p.2 = true
  | [], _, x, v, hv, p, hp => by simp only [updV, List.mem_cons, List.not_mem_nil, or_false] at hp; subst hp; exact hv
  | q :: D, h, x, v, hv, p, hp => by
    simp only [updV] at hp
    cases hb : (x == q.1) with
    | true =>
      rw [hb] at hp; simp only [cond_true, List.mem_cons] at hp
      rcases hp with rfl | hp
      · exact hv
      · exact h p (List.mem_cons_of_mem _ hp)
    | false =>
      rw [hb] at hp; simp only [cond_false, List.mem_cons] at hp
      rcases hp with rfl | hp
      · exact h _ List.mem_cons_self
      · exact updV_ok (fun r hr => h r (List.mem_cons_of_mem _ hr)) hv p hp
theorem findNow_V (x : Int) : ∀ (es : List MapEntry) (D : List (Int × Value)) (i : Nat), MapOk es D → ∃ r, Instr.findNow (.int .i64) (.int .i64 x) es i = some r ∧ r.map (·.2) = findV D x ∧
    ∀ v : Value, match r with
      | none => ∀ cl, MapOk (es ++ [{ key := .int .i64 x, val := v, born := cl }]) (updV D x v)
      | some (m, _) => i ≤ m ∧ (es[m - i]?).map (·.key) = some (.int .i64 x) ∧ MapOk (es.modify (m - i) fun e => { e with key := .int .i64 x, val := v }) (updV D x v)
  | [], [], i, _ => ⟨none, rfl, rfl, fun v cl => rfl⟩
  | [], p :: D, i, h => by simp [MapOk] at h
  | e :: es, [], i, h => by simp [MapOk] at h
  | e :: es, p :: D, i, h => by
    have h' := h
    simp only [MapOk, List.map_cons, List.cons.injEq, Prod.mk.injEq] at h
    obtain ⟨⟨h1, h2⟩, h3⟩ := h
    unfold Instr.findNow Instr.sameNow
    simp only [h1, if_true]
    cases hx : (x == p.1) with
    | true =>
      have hxp : x = p.1 := by simpa using hx
      refine ⟨some (i, e.val), rfl, by simp [findV, List.find?_cons, hx, h2], fun v => ⟨Nat.le_refl _, by simp [h1, hxp], ?_⟩⟩
      rw [Nat.sub_self]
      simp only [updV, hx, cond_true, MapOk, List.modify_zero_cons, List.map_cons]
      rw [h3, hxp]
    | false =>
      obtain ⟨r, hr, hm, hu⟩ := findNow_V x es D (i + 1) h3
      refine ⟨r, hr, by rw [hm]; simp [findV, List.find?_cons, hx], fun v => ?_⟩
      have hu := hu v
      cases r with
      | none => exact fun cl => by simp only [updV, hx, cond_false, MapOk, List.cons_append, List.map_cons, h1, h2]; rw [hu cl]
      | some q =>
        obtain ⟨m, z⟩ := q
        obtain ⟨u1, u2, u3⟩ := hu
        have e : m - i = (m - (i + 1)) + 1 := by omega
        refine ⟨by omega, by rw [e]; simpa using u2, ?_⟩
        rw [e]
        simp only [updV, hx, cond_false, MapOk, List.modify_succ_cons, List.map_cons, h1, h2]
        rw [u3]

def mapTy (P : Program) (t : TypeId) : Option Value :=
  match evl P (underlying t) with
  | some (.map k e) => match evl P (underlying k), evl P (zeroValue e) with
    | some (.int .i64), some z => bif scOk z then some z else none
    | _, _ => none
  | _ => none
theorem mapTy_spec {P : Program} {t : TypeId} {z : Value} (h : mapTy P t = some z) : ∃ k e, evl P (underlying t) = some (.map k e) ∧ evl P (underlying k) = some (.int .i64) ∧ evl P (zeroValue e) = some z ∧ scOk z = true := by
  unfold mapTy at h
  split at h
  · rename_i k e h1
    split at h
    · rename_i z' h2 h3
      cases hb : scOk z' with
      | false => rw [hb] at h; cases h
      | true => rw [hb] at h; simp only [cond_true, Option.some.injEq] at h; subst h; exact ⟨k, e, h1, h2, h3, hb⟩
    · cases h
  · cases h
theorem checkKey_int {P : Program} {w : World} {k : TypeId} {x : Int} (h : evl P (underlying k) = some (.int .i64)) (b : Bool) : (Instr.checkKey b 10000 k (.int .i64 x)).run P w = .ok () w := by
  show (Instr.checkKey b (9999 + 1) k (.int .i64 x)).run P w = _
  unfold Instr.checkKey
  simp only [Sem.run_bind, evl_run h w, Result.andThen_ok, Sem.run_pure]
theorem run_lookV {P : Program} {w : World} {t : TypeId} {z : Value} (ht : mapTy P t = some z) {b : Nat} {es : Array MapEntry} {cl : Nat} {D : List (Int × Value)} (h1 : w.heap[b]? = some (.map es cl)) (h2 : MapOk es.toList D) (x : Int) (ok : Bool) :
    (Instr.lookup t (.map (some b)) (.int .i64 x) ok).run P w = .ok (if ok = true then .tuple #[(findV D x).getD z, .bool (findV D x).isSome] else (findV D x).getD z) w := by
  obtain ⟨k, e, q1, q2, q3, _⟩ := mapTy_spec ht
  obtain ⟨r, hr, hm, _⟩ := findNow_V x es.toList D 0 h2
  have hg : (getObj b).run P w = .ok (.map es cl) w := by simp [getObj, Sem.run, h1]
  unfold Instr.lookup
  simp only [Sem.run_bind, evl_run q1 w, Result.andThen_ok, hg, checkKey_int q2, Instr.findKey, evl_run q2 w, hr, Sem.run_pure]
  cases r with
  | none =>
    have hf : findV D x = none := by simpa using hm.symm
    simp only [Sem.run_bind, evl_run q3 w, Result.andThen_ok, Sem.run_pure, hf, Option.getD_none, Option.isSome_none]
  | some q =>
    obtain ⟨i, v⟩ := q
    have hf : findV D x = some v := by simpa using hm.symm
    simp only [Sem.run_bind, Result.andThen_ok, Sem.run_pure, hf, Option.getD_some, Option.isSome_some]
theorem exec_look {P : Program} {σ : Nm} {Z : Nat → Prop} {w : World} {N : Nat} {κ : List (Nat × Bool)} {R : List Ent} {a : Act} {H : Heap} {p : List (Nat × Bool)} {o : Oper} (hR : RS σ Z w N κ R a) (hH : HR σ Z w H) (hp : pv κ p = true) {t : TypeId} {m x : Operand} {ok : Bool} (ho : o.op = .lookup t m x ok) {z : Value} (ht : mapTy P t = some z) {id : Nat} {n : Int} {D : List (Int × Value)}
    (hm : opd R p m = some (.map id)) (hx : opd R p x = some (.sc (.int .i64 n))) (hl : hlook H id = some (.mp D)) : Exec P o a w σ Z H (some (bif ok then .tup [.sc ((findV D n).getD z), .sc (.bool (findV D n).isSome)] else .sc ((findV D n).getD z))) [] := by
  have hv := hR.opd hp hm
  have hw := hR.opd hp hx
  generalize hav : a.eval m = vm at hv
  generalize haw : a.eval x = vx at hw
  cases hw
  obtain ⟨h0, b', c', es, cl, g1, g2, g3⟩ := hH.at_ id _ hl
  obtain ⟨_, _, _, _, _, hz⟩ := mapTy_spec ht
  cases hv with
  | map _ b c hs =>
    rw [hs] at g1; simp only [Option.some.injEq, Prod.mk.injEq] at g1; obtain ⟨rfl, rfl⟩ := g1
    have hr := run_lookV ht g2 g3 n ok
    have hsc : scOk ((findV D n).getD z) = true := by
      cases hf : findV D n with
      | none => exact hz
      | some v => exact findV_ok h0 hf
    refine exec_quiet (v := if ok = true then .tuple #[(findV D n).getD z, .bool (findV D n).isSome] else (findV D n).getD z) ?_ ?_
    · simp [execOp, ho, hav, haw, Sem.run_bind, hr]
    · cases ok with
      | true => exact .tup [_, _] _ rfl (VRs.cons (.sc _ hsc) (VRs.cons (.sc _ rfl) VRs.nil)).2
      | false => exact .sc _ hsc
theorem run_updV {P : Program} {w : World} {t : TypeId} {z : Value} (ht : mapTy P t = some z) {b : Nat} {es : Array MapEntry} {cl : Nat} {D : List (Int × Value)} (h1 : w.heap[b]? = some (.map es cl)) (h2 : MapOk es.toList D) (x : Int) (v : Value) :
    ∃ w' es' cl', (Instr.mapUpdate t (.map (some b)) (.int .i64 x) v).run P w = .ok () w' ∧ w'.heap[b]? = some (.map es' cl') ∧ MapOk es'.toList (updV D x v) ∧ Chg (fun i => i = b) w w' := by
  obtain ⟨k, e, q1, q2, q3, _⟩ := mapTy_spec ht
  obtain ⟨r, hr, hm, hu⟩ := findNow_V x es.toList D 0 h2
  have hg : (getObj b).run P w = .ok (.map es cl) w := by simp [getObj, Sem.run, h1]
  have hlt := (Array.getElem?_eq_some_iff.1 h1).1
  have hs : ∀ ob, (setObj b ob).run P w = .ok () { w with heap := w.heap.setIfInBounds b ob } := fun ob => by simp [setObj, Sem.run, h1]
  have hch : ∀ ob, Chg (fun i => i = b) w { w with heap := w.heap.setIfInBounds b ob } := fun ob => ⟨rfl, rfl, rfl, by simp, fun i hi hn => by simp [Array.getElem?_setIfInBounds, Ne.symm hn]⟩
  have hu := hu v
  cases r with
  | none =>
    refine ⟨_, es.push { key := .int .i64 x, val := v, born := cl }, cl + 1, ?_, ?_, ?_, hch (.map (es.push { key := .int .i64 x, val := v, born := cl }) (cl + 1))⟩
    · unfold Instr.mapUpdate
      simp only [Sem.run_bind, evl_run q1 w, Result.andThen_ok, hg, checkKey_int q2, Instr.findKey, evl_run q2 w, hr, Sem.run_pure, hs]
    · simp [hlt]
    · rw [Array.toList_push]; exact hu cl
  | some q =>
    obtain ⟨m, y⟩ := q
    obtain ⟨u1, u2, u3⟩ := hu
    simp only [Nat.sub_zero] at u2 u3
    have hk : ((es[m]?).map (·.key)).getD (.int .i64 x) = .int .i64 x := by
      rw [← Array.getElem?_toList, u2]; rfl
    have hst : (Instr.keyThatStays (.int .i64 x) (.int .i64 x)).run P w = .ok (.int .i64 x) w := by
      unfold Instr.keyThatStays
      rw [if_pos (by simp [Instr.sameBits])]; rfl
    refine ⟨_, es.modify m fun e => { e with key := .int .i64 x, val := v }, cl, ?_, ?_, ?_, hch (.map (es.modify m fun e => { e with key := .int .i64 x, val := v }) cl)⟩
    · unfold Instr.mapUpdate
      simp only [Sem.run_bind, evl_run q1 w, Result.andThen_ok, hg, checkKey_int q2, Instr.findKey, evl_run q2 w, hr, Sem.run_pure, hk, hst, hs]
    · simp [hlt]
    · rw [Array.toList_modify]; exact u3
theorem exec_upd {P : Program} {σ : Nm} {Z : Nat → Prop} {w : World} {N : Nat} {κ : List (Nat × Bool)} {R : List Ent} {a : Act} {H : Heap} {p : List (Nat × Bool)} {o : Oper} (hR : RS σ Z w N κ R a) (hH : HR σ Z w H) (hp : pv κ p = true) {t : TypeId} {m x y : Operand} (ho : o.op = .mapUpdate t m x y) {z : Value} (ht : mapTy P t = some z) {id : Nat} {n : Int} {v : Value} {D : List (Int × Value)}
    (hm : opd R p m = some (.map id)) (hx : opd R p x = some (.sc (.int .i64 n))) (hy : opd R p y = some (.sc v)) (hl : hlook H id = some (.mp D)) : Exec P o a w σ Z H none [(id, some (.mp (updV D n v)))] := by
  have hv := hR.opd hp hm
  have hw := hR.opd hp hx
  have hz := hR.opd hp hy
  generalize hav : a.eval m = vm at hv
  generalize haw : a.eval x = vx at hw
  generalize haz : a.eval y = vy at hz
  cases hw
  cases hz with
  | sc _ hsc =>
    obtain ⟨h0, b', c', es, cl, g1, g2, g3⟩ := hH.at_ id _ hl
    cases hv with
    | map _ b c hs =>
      rw [hs] at g1; simp only [Option.some.injEq, Prod.mk.injEq] at g1; obtain ⟨rfl, rfl⟩ := g1
      obtain ⟨w', es', cl', r1, r2, r3, r4⟩ := run_updV ht g2 g3 n v
      refine exec_skip (w' := w') (σ' := σ) (Z' := Z) ?_ (eff_upd hH hl hs r4 ⟨updV_ok h0 hsc, _, _, es', cl', hs, r2, r3⟩)
      simp [execOp, ho, hav, haw, haz, Sem.run_bind, r1]
theorem exec_mkmap {P : Program} {σ : Nm} {Z : Nat → Prop} {w : World} {a : Act} {H : Heap} {o : Oper} (hH : HR σ Z w H) {nx : Nat} (hn : σ nx = none) (hnh : hlook H nx = none) {t : TypeId} (ho : o.op = .makeMap t none) : Exec P o a w σ Z H (some (.map nx)) [(nx, some (.mp []))] := by
  have hr : (execOp a.eval o).run P w = .ok (.value (.map (some w.heap.size))) (w.alloc (.map #[] 0)) := by
    have h1 : (newObj (.map #[] 0)).run P w = .ok w.heap.size (w.alloc (.map #[] 0)) := by simp [newObj, Sem.run]
    simp [execOp, ho, Instr.makeMap, Sem.run_bind, h1]
  refine exec_value (σ' := upd σ nx w.heap.size 0) (Z' := Z) hr (.map nx _ 0 (upd_self _ _ _ _)) (eff_new (c := 0) hH hn hnh ⟨fun p hp => by simp at hp, w.heap.size, 0, #[], 0, upd_self _ _ _ _, ?_, rfl⟩)
  show (w.heap.push _)[w.heap.size]? = _
  simp
end Go.PX
namespace Go.PX
open Go.RowKit Go.SX
theorem flat_one {rows : List (List PV)} (h : rowsOk 1 rows) : rows.flatten.length = rows.length := by
  rw [flat_len rows (fun r hr => (h r hr).1), Nat.mul_one]
theorem eff_keep {σ : Nm} {Z : Nat → Prop} {w : World} {H : Heap} (hH : HR σ Z w H) {id : Nat} {o0 o' : PO} (hl : hlook H id = some o0) (ho : OR σ Z w id o') : Eff σ Z w H [(id, some o')] σ Z w where
  ext := Ext.refl σ
  dom _ h _ := h
  zmono _ h := h
  znew _ h := .inl h
  chg := Chg.refl _ _
  objs i o h := by
    rw [ulook_one] at h
    split at h
    · rename_i e; subst e; injection h with h; injection h with h; subst h; exact ho
    · cases h
  off i o b' c' h h' := by
    rw [ulook_one] at h
    split at h
    · rename_i e; subst e
      exact ⟨hH.off _ _ _ _ hl h', .inr ⟨_, o0, c', by rw [ulook_one, if_pos rfl]; simp, hl, h'⟩⟩
    · cases h
  inj i i' o o' b c c' h h' _ _ := by
    rw [ulook_one] at h h'
    split at h
    · rename_i e
      split at h'
      · rename_i e'; exact e.trans e'.symm
      · cases h'
    · cases h
theorem run_copy_zero {P : Program} (w : World) (t t' ty e : TypeId) (A B : Option Addr) (c d : Nat) (hu : P.underlying t = some (.slice e)) (hs : (P.info? e).map (·.size) = some 1) :
    (Builtin.copy_ #[t, t'] ty #[.slice A 0 c, .slice B 0 d]).run P w = .ok (goInt 0) w := by
  cases hq : P.info? e with
  | none => simp [hq] at hs
  | some i =>
    cases A <;> cases B <;> simp [Builtin.copy_, run_underlying hu, Builtin.lenOf, Builtin.firstCells, sizeOf, typeInfo, hq, storeCells, loadCells, loadCellsFrom]
theorem exec_copy {P : Program} {σ : Nm} {Z : Nat → Prop} {w : World} {N : Nat} {κ : List (Nat × Bool)} {R : List Ent} {a : Act} {H : Heap} {p : List (Nat × Bool)} {o : Oper} (hR : RS σ Z w N κ R a) (hH : HR σ Z w H) (hp : pv κ p = true)
    {t t' e : TypeId} {x y : Operand} (ho : o.op = .call { callee := .builtin .copy, args := #[x, y], argTypes := #[t, t'] }) (hu : P.underlying t = some (.slice e)) (hs : (P.info? e).map (·.size) = some 1)
    {i j n m e1 e2 : Nat} {pu1 pu2 : Bool} {r1 r2 : List (List PV)} (hx : opd R p x = some (.own i 1 n)) (hy : opd R p y = some (.own j 1 m)) (hi : hlook H i = some (.row e1 1 pu1 r1)) (hj : hlook H j = some (.row e2 1 pu2 r2))
    (hn : n = r1.length) (hm : m = r2.length) (hlen : r1.length = r2.length) : Exec P o a w σ Z H (some (.sc (.int .i64 (r2.length : Int)))) [(i, some (.row e1 1 pu2 r2))] := by
  have hv := hR.opd hp hx
  have hw := hR.opd hp hy
  generalize hav : a.eval x = vx at hv
  generalize haw : a.eval y = vy at hw
  obtain ⟨k1, k2, k3⟩ := hH.at_ _ _ hi
  obtain ⟨l1, l2, l3⟩ := hH.at_ _ _ hj
  rcases Nat.eq_zero_or_pos r2.length with hz | hpos
  · have e2 : r2 = [] := List.length_eq_zero_iff.1 hz
    subst e2
    have hn0 : n = 0 := by rw [hn, hlen]; rfl
    have hm0 : m = 0 := by rw [hm]; rfl
    subst hn0 hm0
    have hr : ∀ A B c d, vx = .slice A 0 c → vy = .slice B 0 d → Exec P o a w σ Z H (some (.sc (.int .i64 (([] : List (List PV)).length : Int)))) [(i, some (.row e1 1 pu2 []))] := fun A B c d q1 q2 => by
      refine exec_value (σ' := σ) (Z' := Z) (v := .int .i64 0) ?_ (.sc _ rfl) (eff_keep hH hi ⟨(fun r hr => (by cases hr)), ⟨Nat.zero_le _, fun q => absurd rfl q⟩, fun b' c' hb' => ?_⟩)
      · simp [execOp, ho, resolve, invoke, builtin, hav, haw, q1, q2, Sem.run_bind, run_copy_zero w t t' o.type e A B c d hu hs, goInt]
      · obtain ⟨C, g1, g2, g3, g4, g5⟩ := k3 b' c' hb'
        refine ⟨C, g1, g2, Nat.zero_le _, g4, ?_⟩
        have : (C.take (([] : List (List PV)).length * 1)) = [] := by simp
        rw [this]; exact CRs.nil
    cases hv with
    | own0 => cases hw with
      | own0 => exact hr _ _ _ _ rfl rfl
      | own _ _ _ b2 c2 hb2 => exact hr _ _ _ _ rfl rfl
    | own _ _ _ b c hb => cases hw with
      | own0 => exact hr _ _ _ _ rfl rfl
      | own _ _ _ b2 c2 hb2 => exact hr _ _ _ _ rfl rfl
  cases hv with
  | own0 => omega
  | own _ _ _ b c hb =>
    cases hw with
    | own0 => omega
    | own _ _ _ b2 c2 hb2 =>
      subst hn hm
      obtain ⟨C, g1, g2, g3, g4, g5⟩ := k3 b c hb
      obtain ⟨C2, q1, q2, q3, q4, q5⟩ := l3 b2 c2 hb2
      rw [Nat.mul_one] at g2 q2
      have hcl : (C2.take r2.length).length = r2.length := by rw [List.length_take]; omega
      have hf2 := flat_one l1
      have hone : ∀ v ∈ C2.take r2.length, v.oneCell' = true := by
        have hq := q5.1; rw [Nat.mul_one] at hq
        intro v hv
        obtain ⟨k, hk⟩ := List.getElem?_of_mem hv
        obtain ⟨z, hz⟩ : ∃ z, r2.flatten[k]? = some z := ⟨_, List.getElem?_eq_getElem (by rw [hf2]; have := (List.getElem?_eq_some_iff.1 hk).1; omega)⟩
        refine (hq.2 k v z hk hz).oneCell ?_
        obtain ⟨row, hr1, hr2⟩ := List.mem_flatten.1 (List.mem_of_getElem? hz)
        have ho1 := (l1 row hr1).2
        obtain ⟨k', hk'⟩ := List.getElem?_of_mem hr2
        exact ones_get ho1 hk'
      have hrun := run_copy_row (P := P) w t t' o.type e b 0 r1.length c ⟨b2, 0, none⟩ r2.length c2 C.toArray e1 (C2.take r2.length) hu hs g1 (by rw [hcl, hlen]; simp) (fun k v hk => by
        rw [List.getElem?_take] at hk
        split at hk
        · rw [add_off, Nat.zero_add]; simpa [World.cell?, q1] using hk
        · cases hk) (by rw [hcl]; simp; omega) hone
      obtain ⟨c1, c2'⟩ := chg_setRow (C' := ((C.toArray.toList.take 0 ++ C2.take r2.length ++ C.toArray.toList.drop (0 + (C2.take r2.length).length)).toArray)) g1
      refine exec_value (σ' := σ) (Z' := Z) (v := .int .i64 (r2.length : Int)) ?_ (.sc _ rfl) (eff_upd hH hi hb c1 ⟨l1, ⟨l2.1, fun _ => by rw [hb]; simp⟩, fun b' c' hb' => ?_⟩)
      · simp [execOp, ho, resolve, invoke, builtin, hav, haw, Sem.run_bind, hrun, goInt, hcl]
      · rw [hb] at hb'; simp only [Option.some.injEq, Prod.mk.injEq] at hb'; obtain ⟨rfl, rfl⟩ := hb'
        refine ⟨_, c2', by rw [Nat.mul_one]; simp; omega, by omega, g4, ?_⟩
        have base := q5.mono (M := fun x => x = b) (Ext.refl σ) (fun _ h => h) c1 (fun z hz e => hH.off _ _ _ _ hi hb (e ▸ hz))
        rw [Nat.mul_one] at base ⊢
        have : (List.take 0 C.toArray.toList ++ List.take r2.length C2 ++ List.drop (0 + (List.take r2.length C2).length) C.toArray.toList).take r2.length = C2.take r2.length := by
          rw [List.take_zero, List.nil_append, List.take_append_of_le_length (by rw [hcl]; exact Nat.le_refl _), List.take_take, Nat.min_self]
        rw [this]; exact base
/-! maps as they lie, and the ranges over them -/
def MapUpd (P : Program) (t : TypeId) (es0 : Array MapEntry) (cl0 : Nat) (k v : Value) (es : Array MapEntry) (cl : Nat) : Prop :=
  ∀ (w : World) (b : Nat), w.heap[b]? = some (.map es0 cl0) → ∃ w', (Instr.mapUpdate t (.map (some b)) k v).run P w = .ok () w' ∧ w'.heap[b]? = some (.map es cl) ∧ Chg (fun x => x = b) w w'
def EntryIs (es : Array MapEntry) (seen : Array Nat) (c0 cl : Nat) (kx vx : PV) : Prop :=
  ∃ e stamp, seen.back? = some stamp ∧ es.find? (fun x => x.born == stamp) = some e ∧ cl = c0 ∧ ofV1 e.key = some kx ∧ ofV1 e.val = some vx
section
variable {P : Program} {σ : Nm} {Z : Nat → Prop} {w : World} {N : Nat} {κ : List (Nat × Bool)} {R : List Ent} {a : Act} {H : Heap} {p : List (Nat × Bool)} {o : Oper}
theorem opd_val (hR : RS σ Z w N κ R a) (hp : pv κ p = true) {x : Operand} {v : Value} (hx : (opd R p x).bind toV = some v) : a.eval x = v := by
  cases hq : opd R p x with
  | none => rw [hq] at hx; cases hx
  | some px => rw [hq] at hx; exact toV_spec (hR.opd hp hq) hx
theorem exec_mu (hR : RS σ Z w N κ R a) (hH : HR σ Z w H) (hp : pv κ p = true) {t : TypeId} {m x y : Operand} (ho : o.op = .mapUpdate t m x y) {id : Nat} {k v : Value} {es0 es : Array MapEntry} {cl0 cl : Nat}
    (hm : opd R p m = some (.map id)) (hx : (opd R p x).bind toV = some k) (hy : (opd R p y).bind toV = some v) (hl : hlook H id = some (.rmap es0 cl0)) (hq : MapUpd P t es0 cl0 k v es cl) : Exec P o a w σ Z H none [(id, some (.rmap es cl))] := by
  have hv := hR.opd hp hm
  have haw := opd_val hR hp hx
  have haz := opd_val hR hp hy
  generalize hav : a.eval m = vm at hv
  obtain ⟨b', c', g1, g2⟩ := hH.at_ id _ hl
  cases hv with
  | map _ b c hs =>
    rw [hs] at g1; simp only [Option.some.injEq, Prod.mk.injEq] at g1; obtain ⟨rfl, rfl⟩ := g1
    obtain ⟨w', r1, r2, r4⟩ := hq w b g2
    refine exec_skip (w' := w') (σ' := σ) (Z' := Z) ?_ (eff_upd hH hl hs r4 ⟨b, c, hs, r2⟩)
    simp [execOp, ho, hav, haw, haz, Sem.run_bind, r1]
def LookIs (P : Program) (t : TypeId) (es : Array MapEntry) (cl : Nat) (k : Value) (ok : Bool) (u : Value) : Prop :=
  ∀ (w : World) (b : Nat), w.heap[b]? = some (.map es cl) → (Instr.lookup t (.map (some b)) k ok).run P w = .ok u w
theorem exec_lu (hR : RS σ Z w N κ R a) (hH : HR σ Z w H) (hp : pv κ p = true) {t : TypeId} {m x : Operand} {ok : Bool} (ho : o.op = .lookup t m x ok) {id : Nat} {k u : Value} {es : Array MapEntry} {cl : Nat}
    (hm : opd R p m = some (.map id)) (hx : (opd R p x).bind toV = some k) (hl : hlook H id = some (.rmap es cl)) (hs : scOk u = true) (hq : LookIs P t es cl k ok u) : Exec P o a w σ Z H (some (.sc u)) [] := by
  have hv := hR.opd hp hm
  have haw := opd_val hR hp hx
  generalize hav : a.eval m = vm at hv
  obtain ⟨b', c', g1, g2⟩ := hH.at_ id _ hl
  cases hv with
  | map _ b c hs' =>
    rw [hs'] at g1; simp only [Option.some.injEq, Prod.mk.injEq] at g1; obtain ⟨rfl, rfl⟩ := g1
    refine exec_quiet (v := u) ?_ (.sc u hs)
    simp [execOp, ho, hav, haw, Sem.run_bind, hq w b g2]
def BinIs (P : Program) (op : BinOp) (t : TypeId) (x y : Operand) (vx vy u : Value) : Prop :=
  ∀ w : World, (do eqGuard op t x y vx vy; binOp op t vx vy : Sem Value).run P w = .ok u w
theorem exec_bs (hR : RS σ Z w N κ R a) (hp : pv κ p = true) {op : BinOp} {t ty : TypeId} {x y : Operand} (ho : o.op = .binOp op t x y ty) {vx vy u : Value} (hx : (opd R p x).bind toV = some vx) (hy : (opd R p y).bind toV = some vy) (hs : scOk u = true)
    (hq : BinIs P op t x y vx vy u) : Exec P o a w σ Z H (some (.sc u)) [] := by
  have haw := opd_val hR hp hx
  have haz := opd_val hR hp hy
  refine exec_quiet (v := u) ?_ (.sc u hs)
  have h1 := hq w
  unfold execOp
  rw [ho]
  simp only [haw, haz]
  rw [Sem.run_bind, h1]
  rfl
theorem exec_mm (hH : HR σ Z w H) {nx : Nat} (hn : σ nx = none) (hnh : hlook H nx = none) {t : TypeId} (ho : o.op = .makeMap t none) : Exec P o a w σ Z H (some (.map nx)) [(nx, some (.rmap #[] 0))] := by
  have hr : (execOp a.eval o).run P w = .ok (.value (.map (some w.heap.size))) (w.alloc (.map #[] 0)) := by
    have h1 : (newObj (.map #[] 0)).run P w = .ok w.heap.size (w.alloc (.map #[] 0)) := by simp [newObj, Sem.run]
    simp [execOp, ho, Instr.makeMap, Sem.run_bind, h1]
  refine exec_value (σ' := upd σ nx w.heap.size 0) (Z' := Z) hr (.map nx _ 0 (upd_self _ _ _ _)) (eff_new (c := 0) hH hn hnh ⟨w.heap.size, 0, upd_self _ _ _ _, ?_⟩)
  show (w.heap.push _)[w.heap.size]? = _
  simp
theorem exec_rg (hR : RS σ Z w N κ R a) (hH : HR σ Z w H) (hp : pv κ p = true) {nx : Nat} (hn : σ nx = none) (hnh : hlook H nx = none) {t k e : TypeId} {x : Operand} (ho : o.op = .range t x) (ht : P.underlying t = some (.map k e)) {id : Nat} {es : Array MapEntry} {cl : Nat}
    (hx : opd R p x = some (.map id)) (hl : hlook H id = some (.rmap es cl)) : Exec P o a w σ Z H (some (.ptr nx 0)) [(nx, some (.rit id cl #[] cl))] := by
  have hv := hR.opd hp hx
  generalize hav : a.eval x = vm at hv
  obtain ⟨b', c', g1, g2⟩ := hH.at_ id _ hl
  cases hv with
  | map _ b c hs =>
    rw [hs] at g1; simp only [Option.some.injEq, Prod.mk.injEq] at g1; obtain ⟨rfl, rfl⟩ := g1
    have hne : id ≠ nx := by rintro rfl; rw [hn] at hs; cases hs
    have hr : (execOp a.eval o).run P w = .ok (.value (.pointer (some ⟨w.heap.size, 0, none⟩))) (w.alloc (.mapIter (some b) cl #[] cl)) := by
      simp [execOp, ho, hav, Sem.run_bind, run_range_map w t k e b es cl ht g2]
    refine exec_value (σ' := upd σ nx w.heap.size 0) (Z' := Z) hr (.ptr nx 0 _ 0 (upd_self _ _ _ _)) (eff_new (c := 0) hH hn hnh ⟨w.heap.size, 0, b, c, upd_self _ _ _ _, upd_ext hn _ _ hs, ?_⟩)
    show (w.heap.push _)[w.heap.size]? = _
    simp
theorem exec_en (hR : RS σ Z w N κ R a) (hH : HR σ Z w H) (hp : pv κ p = true) {x : Operand} (ho : o.op = .entry x) {i m since c0 cl : Nat} {seen : Array Nat} {es : Array MapEntry} {kx vx : PV}
    (hx : opd R p x = some (.ptr i 0)) (hi : hlook H i = some (.rit m since seen c0)) (hl : hlook H m = some (.rmap es cl)) (hq : EntryIs es seen c0 cl kx vx) : Exec P o a w σ Z H (some (.tup [kx, vx])) [] := by
  have hv := hR.opd hp hx
  generalize hav : a.eval x = vm at hv
  obtain ⟨b', c', bm, cm, g1, g2, g3⟩ := hH.at_ i _ hi
  obtain ⟨b2, c2, k1, k2⟩ := hH.at_ m _ hl
  rw [g2] at k1; simp only [Option.some.injEq, Prod.mk.injEq] at k1; obtain ⟨rfl, rfl⟩ := k1
  obtain ⟨e, st, q1, q2, rfl, q4, q5⟩ := hq
  cases hv with
  | ptr _ _ b c hs =>
    rw [hs] at g1; simp only [Option.some.injEq, Prod.mk.injEq] at g1; obtain ⟨rfl, rfl⟩ := g1
    have hr : (Instr.entry (.pointer (some ⟨b, 0, none⟩))).run P w = .ok (.tuple #[e.key, e.val]) w := by
      simp only [Instr.entry, getObj, Sem.run_bind, Sem.run, g3, k2, Result.andThen, q1, bne_self_eq_false, Bool.false_eq_true, if_false, q2]
      rfl
    refine exec_quiet (v := .tuple #[e.key, e.val]) (by simp [execOp, ho, hav, Sem.run_bind, hr]) ?_
    exact .tup [e.key, e.val] [kx, vx] rfl (VRs.cons (ofV1_spec q4) (VRs.cons (ofV1_spec q5) VRs.nil)).2
end
end Go.PX
