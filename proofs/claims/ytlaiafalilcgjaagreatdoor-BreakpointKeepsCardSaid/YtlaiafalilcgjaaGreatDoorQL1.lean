/- Proved: a walk of a region by tables: what each slot holds is computed by the kernel from the model's own text; operations under a guard hold their value where the guard does. Program-independent. -/
import Derived.Deep.QuietTactic
import Derived.BigQuiet
import Derived.Deep.LoopGhost
import Derived.Below
import Derived.IntWalk
import Derived.Lib.Hide
import Derived.Laws.Cells
import Derived.Laws.CopyRow
import Derived.Maps.AppendAt
set_option linter.unusedVariables false
set_option linter.unusedSimpArgs false
namespace Go.SX
open Go.RowKit

/-- a computation that only reads, its loads answered in turn: the addresses that it asks for, and what it comes to -/
def tr {α : Type} (P : Program) : Sem α → List Value → Option (List Addr × α)
  | .pure a, [] => some ([], a)
  | .load _ a k, v :: vs => match tr P (k v) vs with
    | some (l, r) => some (a :: l, r)
    | none => none
  | .program k, vs => tr P (k P) vs
  | .mark _ k, vs => tr P k vs
  | _, _ => none

def Hits (w : World) : List Addr → List Value → Prop
  | [], [] => True
  | a :: l, v :: vs => w.cell? a = some v ∧ Hits w l vs
  | _, _ => False

theorem tr_sound {α : Type} {P : Program} {w : World} (s : Sem α) : ∀ (vs : List Value) (l : List Addr) (r : α), tr P s vs = some (l, r) → Hits w l vs → s.run P w = .ok r w := by
  induction s with
  | pure a =>
    intro vs l r h _
    cases vs with
    | nil => simp only [tr, Option.some.injEq, Prod.mk.injEq] at h; simp [Sem.run, h.2]
    | cons v vs => simp [tr] at h
  | load m a k ih =>
    intro vs l r h hh
    cases vs with
    | nil => simp [tr] at h
    | cons v vs =>
      simp only [tr] at h
      cases hk : tr P (k v) vs with
      | none => rw [hk] at h; simp at h
      | some x =>
        obtain ⟨l', r'⟩ := x
        rw [hk] at h
        simp only [Option.some.injEq, Prod.mk.injEq] at h
        obtain ⟨rfl, rfl⟩ := h
        simp only [Hits] at hh
        simp only [Sem.run, hh.1]
        exact ih v vs l' r' hk hh.2
  | program k ih => intro vs l r h hh; simp only [tr] at h; simp only [Sem.run]; exact ih P vs l r h hh
  | mark m k ih => intro vs l r h hh; simp only [tr] at h; simp only [Sem.run]; exact ih vs l r h hh
  | _ => intro vs l r h _; simp [tr] at h

/-- a slot: under which guards it has been written (each: the operation's number and the wanted answer), and what it holds there -/
structure Ent where
  t : Nat
  p : List (Nat × Bool)
  v : Value

def look : List Ent → Nat → Option Ent
  | [], _ => none
  | e :: R, t => bif Nat.beq e.t t then some e else look R t

def kv : List (Nat × Bool) → Nat → Bool
  | [], _ => false
  | x :: l, j => bif Nat.beq x.1 j then x.2 else kv l j

def pv (κ : List (Nat × Bool)) : List (Nat × Bool) → Bool
  | [] => true
  | x :: p => pv κ p && (kv κ x.1 == x.2)

def has1 (x : Nat × Bool) : List (Nat × Bool) → Bool
  | [] => false
  | y :: q => (Nat.beq x.1 y.1 && (x.2 == y.2)) || has1 x q
def sub : List (Nat × Bool) → List (Nat × Bool) → Bool
  | [], _ => true
  | x :: p, q => has1 x q && sub p q

theorem pv_has {κ : List (Nat × Bool)} {x : Nat × Bool} : ∀ {q : List (Nat × Bool)}, has1 x q = true → pv κ q = true → (kv κ x.1 == x.2) = true
  | y :: q, h, hq => by
    simp only [has1, Bool.or_eq_true, Bool.and_eq_true, beq_iff_eq] at h
    simp only [pv, Bool.and_eq_true] at hq
    rcases h with ⟨h1, h2⟩ | h
    · rw [Nat.eq_of_beq_eq_true h1, h2]; exact hq.2
    · exact pv_has h hq.1
theorem pv_sub {κ : List (Nat × Bool)} {q : List (Nat × Bool)} : ∀ {p : List (Nat × Bool)}, sub p q = true → pv κ q = true → pv κ p = true
  | [], _, _ => rfl
  | x :: p, h, hq => by
    simp only [sub, Bool.and_eq_true] at h
    simp only [pv, Bool.and_eq_true]
    exact ⟨pv_sub h.2 hq, pv_has h.1 hq⟩

/-- what a slot holds -/
def Ent.den (κ : List (Nat × Bool)) (e : Ent) : Value := if pv κ e.p = true then e.v else undef

structure RSt (N : Nat) (κ : List (Nat × Bool)) (R : List Ent) (a : Act) : Prop where
  defers : a.defers = []
  size : a.tmps.size = N
  at_ : ∀ t e, look R t = some e → a.tmps[t]? = some (e.den κ)

def rho (R : List Ent) : Operand → Value
  | .tmp t => match look R t with
    | some e => e.v
    | none => undef
  | .const v => v
  | .global g => .pointer (some ⟨g, 0, none⟩)
  | .func f => .func (.func f) #[] #[]

def okOpd (R : List Ent) (p : List (Nat × Bool)) : Operand → Bool
  | .tmp t => match look R t with
    | some e => sub e.p p
    | none => false
  | _ => true

def okAll (R : List Ent) (p : List (Nat × Bool)) : List Operand → Bool
  | [] => true
  | x :: l => okOpd R p x && okAll R p l

theorem okAll_mem {R : List Ent} {p : List (Nat × Bool)} : ∀ {l : List Operand}, okAll R p l = true → ∀ x ∈ l, okOpd R p x = true
  | y :: l, h, x, hx => by
    simp only [okAll, Bool.and_eq_true] at h
    rcases List.mem_cons.1 hx with rfl | hx
    · exact h.1
    · exact okAll_mem h.2 x hx

theorem RSt.eval {N : Nat} {κ : List (Nat × Bool)} {R : List Ent} {a : Act} (h : RSt N κ R a) {p : List (Nat × Bool)} (hp : pv κ p = true) {x : Operand} (hx : okOpd R p x = true) : a.eval x = rho R x := by
  cases x with
  | tmp t =>
    simp only [okOpd] at hx
    cases hl : look R t with
    | none => rw [hl] at hx; simp at hx
    | some e =>
      rw [hl] at hx
      simp only at hx
      have := h.at_ t e hl
      simp only [Act.eval, rho, hl]
      simp [this, Ent.den, pv_sub hx hp]
  | const v => rfl
  | global g => rfl
  | func f => rfl

def isSelect : Op → Bool
  | .select .. => true
  | _ => false

theorem RSt.exec {N : Nat} {κ : List (Nat × Bool)} {R : List Ent} {a : Act} (h : RSt N κ R a) {p : List (Nat × Bool)} (hp : pv κ p = true) {o : Oper} (hs : isSelect o.op = false) (hx : okAll R p o.op.operands.toList = true) : execOp a.eval o = execOp (rho R) o :=
  execOp_congr o (fun cs b e => by rw [e] at hs; simp [isSelect] at hs) fun x hx' => h.eval hp (okAll_mem hx x (by simpa using hx'))

/-- how an operation is answered -/
inductive Dir where
  | ld (is : List Nat)
  | pk
  | ix (r : Addr)
  | hd (v : Value)
  | cl (v : Value)
  | nm (v : Value)

/-- the path of an operation, and the answer of its guard beside what was said of it -/
def path (ops : Array Oper) (κ : List (Nat × Bool)) (R : List Ent) (o : Oper) : Option (List (Nat × Bool) × List (Bool × Bool)) :=
  match o.guard with
  | none => some ([], [])
  | some (j, want) =>
    match (ops[j]?).bind (·.dst) with
    | none => none
    | some t => match look R t with
      | some ⟨_, pj, .bool b⟩ => some ((j, want) :: pj, [(b, kv κ j)])
      | _ => none

def AllEq {α : Type} : List (α × α) → Prop
  | [] => True
  | x :: l => x.1 = x.2 ∧ AllEq l
theorem allEq_append {α : Type} : ∀ {l m : List (α × α)}, AllEq (l ++ m) → AllEq l ∧ AllEq m
  | [], _, h => ⟨trivial, h⟩
  | x :: l, m, h => ⟨⟨h.1, (allEq_append h.2).1⟩, (allEq_append h.2).2⟩
theorem allEq_of_map {α : Type} : ∀ {l : List (α × α)}, l.map (·.1) = l.map (·.2) → AllEq l
  | [], _ => trivial
  | x :: l, h => by simp only [List.map_cons, List.cons.injEq] at h; exact ⟨h.1, allEq_of_map h.2⟩

theorem path_spec {N : Nat} {ops : Array Oper} {κ : List (Nat × Bool)} {R : List Ent} {a : Act} (h : RSt N κ R a) {o : Oper} {p : List (Nat × Bool)} {bs : List (Bool × Bool)} (hp : path ops κ R o = some (p, bs)) (hb : AllEq bs) :
    Region.wanted o (yielded ops a.tmps) = pv κ p := by
  unfold path at hp
  unfold Region.wanted
  cases hg : o.guard with
  | none => rw [hg] at hp; simp only [Option.some.injEq, Prod.mk.injEq] at hp; rw [← hp.1]; rfl
  | some jw =>
    obtain ⟨j, want⟩ := jw
    rw [hg] at hp
    simp only at hp
    simp only
    cases ht : (ops[j]?).bind (·.dst) with
    | none => rw [ht] at hp; simp at hp
    | some t =>
      rw [ht] at hp
      simp only at hp
      cases hl : look R t with
      | none => rw [hl] at hp; simp at hp
      | some e =>
        rw [hl] at hp
        obtain ⟨t', pj, v⟩ := e
        cases v <;> simp only [reduceCtorEq] at hp
        rename_i b
        simp only [Option.some.injEq, Prod.mk.injEq] at hp
        obtain ⟨rfl, rfl⟩ := hp
        have hat := h.at_ t _ hl
        have hbk : b = kv κ j := hb.1
        unfold yielded
        rw [ht]
        simp only [Option.bind_some, hat, Ent.den, pv]
        cases hpj : pv κ pj
        · simp [undef]
        · simp only [if_true, Bool.true_and, hbk]
          cases kv κ j <;> cases want <;> rfl

def pickV (R : List Ent) (c : Bool) (a b : Operand) : Value :=
  match b, rho R a with
  | .const (.bool false), .bool x => .bool (c && x)
  | _, _ => match a, rho R b with
    | .const (.bool true), .bool y => .bool (c || y)
    | _, _ => if c = true then rho R a else rho R b
theorem pickV_eq (R : List Ent) (c : Bool) (a b : Operand) : (if c = true then rho R a else rho R b) = pickV R c a b := by
  unfold pickV
  cases c
  · simp only [Bool.false_eq_true, if_false]
    split
    · rfl
    · split <;> simp_all
  · simp only [if_true]
    split
    · rename_i x hx
      rw [hx]; rfl
    · split
      · rfl
      · rfl

/-- the path of a branch of a pick, less what is known there -/
def okPick (R : List Ent) (p : List (Nat × Bool)) (want : Bool) : Operand → Option (Option Nat)
  | .tmp t => match look R t with
    | none => none
    | some e => bif sub e.p p then some none else match e.p with
      | (j, w) :: q => bif (w == want) && sub q p then some (some j) else none
      | [] => none
  | _ => some none

theorem RSt.evalPick {N : Nat} {κ : List (Nat × Bool)} {R : List Ent} {a : Act} (h : RSt N κ R a) {p : List (Nat × Bool)} (hp : pv κ p = true) {want : Bool} {x : Operand} {r : Option Nat} (hx : okPick R p want x = some r) (hr : ∀ j, r = some j → kv κ j = want) : a.eval x = rho R x := by
  cases x with
  | tmp t =>
    simp only [okPick] at hx
    cases hl : look R t with
    | none => rw [hl] at hx; simp at hx
    | some e =>
      rw [hl] at hx
      simp only at hx
      have hat := h.at_ t e hl
      have key : pv κ e.p = true := by
        cases hs : sub e.p p with
        | true => exact pv_sub hs hp
        | false =>
          rw [hs] at hx
          simp only [cond_false] at hx
          cases hep : e.p with
          | nil => rfl
          | cons y q =>
            rw [hep] at hx
            obtain ⟨j, w⟩ := y
            simp only at hx
            cases hc : ((w == want) && sub q p) with
            | false => rw [hc] at hx; simp at hx
            | true =>
              rw [hc] at hx
              simp only [cond_true, Option.some.injEq] at hx
              simp only [Bool.and_eq_true, beq_iff_eq] at hc
              have := hr j hx.symm
              simp only [pv, Bool.and_eq_true]
              exact ⟨pv_sub hc.2 hp, by rw [this, hc.1]; simp⟩
      simp only [Act.eval, rho, hl]
      simp [hat, Ent.den, key]
  | const v => rfl
  | global g => rfl
  | func f => rfl

abbrev Mem := List (Addr × Value)
def Cells (w : World) (M : Mem) : Prop := ∀ x ∈ M, w.cell? x.1 = some x.2

def mget : Mem → Nat → Option (Addr × Value)
  | [], _ => none
  | x :: _, 0 => some x
  | _ :: M, i + 1 => mget M i
theorem mget_mem : ∀ {M : Mem} {i : Nat} {x : Addr × Value}, mget M i = some x → x ∈ M
  | x :: M, 0, y, h => by simp only [mget, Option.some.injEq] at h; subst h; exact List.mem_cons_self
  | x :: M, i + 1, y, h => List.mem_cons_of_mem _ (mget_mem h)
def mgets (M : Mem) : List Nat → Option Mem
  | [] => some []
  | i :: is => match mget M i, mgets M is with
    | some x, some l => some (x :: l)
    | _, _ => none
theorem mgets_mem {M : Mem} : ∀ {is : List Nat} {l : Mem}, mgets M is = some l → ∀ x ∈ l, x ∈ M
  | [], l, h, x, hx => by simp only [mgets, Option.some.injEq] at h; subst h; simp at hx
  | i :: is, l, h, x, hx => by
    simp only [mgets] at h
    cases h1 : mget M i with
    | none => rw [h1] at h; simp at h
    | some y =>
      cases h2 : mgets M is with
      | none => rw [h1, h2] at h; simp at h
      | some l' =>
        rw [h1, h2] at h
        simp only [Option.some.injEq] at h
        subst h
        rcases List.mem_cons.1 hx with rfl | hx
        · exact mget_mem h1
        · exact mgets_mem h2 x hx

structure Out where
  v : Value
  ads : List (Addr × Addr) := []
  bs : List (Bool × Bool) := []
  ixs : List (List (Nat × Bool) × Addr × Nat × Int × Nat × Addr) := []
  hs : List (List (Nat × Bool) × Sem Next × Value) := []
  cs : List (List (Nat × Bool) × FuncId × Array Value × Value) := []
  es : List (List (Nat × Bool) × Value × Value) := []

/-- one operation, its path known -/
def one (P : Program) (κ : List (Nat × Bool)) (M : Mem) (R : List Ent) (p : List (Nat × Bool)) (o : Oper) : Dir → Option Out
  | .ld is => bif okAll R p o.op.operands.toList && !isSelect o.op then
      match mgets M is with
      | none => none
      | some l => match tr P (execOp (rho R) o) (l.map (·.2)) with
        | some (as, .value v) => bif Nat.beq as.length l.length then some { v, ads := as.zip (l.map (·.1)) } else none
        | _ => none
    else none
  | .pk => match o.op with
    | .pick c a b => match rho R c, okOpd R p c, okPick R p true a, okPick R p false b with
      | .bool cb, true, some ra, some rb => some { v := pickV R cb a b, bs := ra.toList.map (fun j => (cb, kv κ j)) ++ rb.toList.map (fun j => (cb, kv κ j)) }
      | _, _, _, _ => none
    | _ => none
  | .ix r => match o.op with
    | .indexAddr t x i => bif okAll R p o.op.operands.toList then
        match tr P (underlying t) [], rho R x, rho R i with
        | some ([], .slice elem), .slice (some A) len _, .int _ n => match tr P (sizeOf elem) [] with
          | some ([], size) => some { v := .pointer (some r), ixs := [(p, A, len, n, size, r)] }
          | _ => none
        | _, _, _ => none
      else none
    | _ => none
  | .hd v => bif okAll R p o.op.operands.toList && !isSelect o.op then some { v, hs := [(p, execOp (rho R) o, v)] } else none
  | .cl v => bif okAll R p o.op.operands.toList && !isSelect o.op then
      match tr P (execOp (rho R) o) [] with
      | some ([], .enter f args) => some { v, cs := [(p, f, args, v)] }
      | _ => none
    else none
  | .nm v' => bif okAll R p o.op.operands.toList && !isSelect o.op then
      match tr P (execOp (rho R) o) [] with
      | some ([], .value v) => some { v := v', es := [(p, v, v')] }
      | _ => none
    else none

/-- what is owed for an operation, in the worlds of a class -/
structure Owed (P : Program) (κ : List (Nat × Bool)) (C : World → Prop) (x : Out) : Prop where
  ads : AllEq x.ads
  bs : AllEq x.bs
  ixs : ∀ y ∈ x.ixs, pv κ y.1 = true → 0 ≤ y.2.2.2.1 ∧ y.2.2.2.1 < y.2.2.1 ∧ y.2.1.add (y.2.2.2.1.toNat * y.2.2.2.2.1) = y.2.2.2.2.2
  hs : ∀ w, C w → ∀ y ∈ x.hs, pv κ y.1 = true → y.2.1.run P w = .ok (.value y.2.2) w
  cs : ∀ w, C w → ∀ y ∈ x.cs, pv κ y.1 = true → Calls P y.2.1 y.2.2.1 w (fun e w' => e = .returned y.2.2.2 ∧ C w')
  es : ∀ y ∈ x.es, pv κ y.1 = true → y.2.1 = y.2.2

theorem hits_of {w : World} {M : Mem} (hM : Cells w M) : ∀ (l : Mem) (as : List Addr), (∀ x ∈ l, x ∈ M) → Nat.beq as.length l.length = true → AllEq (as.zip (l.map (·.1))) → Hits w as (l.map (·.2))
  | [], [], _, _, _ => trivial
  | [], a :: as, _, hl, _ => by simp at hl
  | x :: l, [], _, hl, _ => by simp at hl
  | x :: l, a :: as, hm, hl, he => by
    simp only [List.map_cons, List.zip_cons_cons, AllEq] at he
    simp only [List.map_cons, Hits]
    refine ⟨by rw [he.1]; exact hM x (hm x List.mem_cons_self), hits_of hM l as (fun y hy => hm y (List.mem_cons_of_mem _ hy)) (by simpa using hl) he.2⟩

theorem one_sound {P : Program} {N : Nat} {κ : List (Nat × Bool)} {M : Mem} {R : List Ent} {p : List (Nat × Bool)} {o : Oper} {d : Dir} {x : Out} {a : Act} {C : World → Prop}
    (h : one P κ M R p o d = some x) (hR : RSt N κ R a) (hp : pv κ p = true) (hM : ∀ w, C w → Cells w M) (ho : Owed P κ C x) : ∀ w, C w → o.quietAt P a C w x.v := by
  intro w hw
  unfold Oper.quietAt
  cases d with
  | ld is =>
    simp only [one] at h
    cases hk : (okAll R p o.op.operands.toList && !isSelect o.op) with
    | false => rw [hk] at h; simp at h
    | true =>
      rw [hk] at h
      simp only [cond_true] at h
      simp only [Bool.and_eq_true, Bool.not_eq_true'] at hk
      cases hl : mgets M is with
      | none => rw [hl] at h; simp at h
      | some l =>
        rw [hl] at h
        simp only at h
        cases ht : tr P (execOp (rho R) o) (l.map (·.2)) with
        | none => rw [ht] at h; simp at h
        | some y =>
          obtain ⟨as, n⟩ := y
          rw [ht] at h
          cases n <;> simp only [reduceCtorEq] at h
          rename_i v
          cases hz : Nat.beq as.length l.length with
          | false => rw [hz] at h; simp at h
          | true =>
            rw [hz] at h
            simp only [cond_true, Option.some.injEq] at h
            subst h
            have := tr_sound (w := w) _ _ _ _ ht (hits_of (hM w hw) l as (mgets_mem hl) hz ho.ads)
            rw [hR.exec hp hk.2 hk.1, this]
            exact ⟨rfl, rfl⟩
  | pk =>
    simp only [one] at h
    split at h
    · rename_i c x' y' hop
      split at h
      · rename_i cb ra rb hc1 hc2 hc3 hc4
        simp only [Option.some.injEq] at h
        subst h
        have hbs := allEq_append ho.bs
        have hca : a.eval c = .bool cb := (hR.eval hp hc2).trans hc1
        have ea : cb = true → a.eval x' = rho R x' := fun hcb => hR.evalPick hp hc3 (fun j hj => by
          subst hj; have := hbs.1; simp only [Option.toList, List.map_cons, AllEq] at this; rw [← this.1, hcb])
        have eb : cb = false → a.eval y' = rho R y' := fun hcb => hR.evalPick hp hc4 (fun j hj => by
          subst hj; have := hbs.2; simp only [Option.toList, List.map_cons, AllEq] at this; rw [← this.1, hcb])
        unfold execOp
        simp only [hop, hca]
        show Oper.quietUpon P C w _ (.ok (.value (if cb = true then a.eval x' else a.eval y')) w)
        refine ⟨rfl, ?_⟩
        rw [← pickV_eq]
        cases cb
        · simp [eb rfl]
        · simp [ea rfl]
      · simp at h
    · simp at h
  | ix r =>
    simp only [one] at h
    split at h
    · rename_i t x' i' hop
      cases hk : okAll R p o.op.operands.toList with
      | false => rw [hk] at h; simp at h
      | true =>
        rw [hk] at h
        simp only [cond_true] at h
        split at h
        · rename_i elem A len cap kk n hu hx hi
          split at h
          · rename_i size hsz
            simp only [Option.some.injEq] at h
            subst h
            have hix := ho.ixs _ List.mem_cons_self hp
            obtain ⟨h0, h1, h2⟩ := hix
            rw [hR.exec hp (by rw [hop]; rfl) hk]
            have r1 := tr_sound (w := w) _ _ _ _ hu trivial
            have r2 := tr_sound (w := w) _ _ _ _ hsz trivial
            have : (execOp (rho R) o).run P w = .ok (.value (.pointer (some r))) w := by
              unfold execOp
              simp only [hop, hx, hi]
              simp only at h0 h1 h2
              simp [Instr.indexAt, asIntOf, Sem.run_bind, r1, r2, h0, h1, h2, Result.andThen]
            rw [this]
            exact ⟨rfl, rfl⟩
          · simp at h
        · simp at h
    · simp at h
  | hd v =>
    simp only [one] at h
    cases hk : (okAll R p o.op.operands.toList && !isSelect o.op) with
    | false => rw [hk] at h; simp at h
    | true =>
      rw [hk] at h
      simp only [cond_true, Option.some.injEq] at h
      subst h
      simp only [Bool.and_eq_true, Bool.not_eq_true'] at hk
      rw [hR.exec hp hk.2 hk.1, ho.hs w hw _ List.mem_cons_self hp]
      exact ⟨rfl, rfl⟩
  | cl v =>
    simp only [one] at h
    cases hk : (okAll R p o.op.operands.toList && !isSelect o.op) with
    | false => rw [hk] at h; simp at h
    | true =>
      rw [hk] at h
      simp only [cond_true] at h
      simp only [Bool.and_eq_true, Bool.not_eq_true'] at hk
      split at h
      · rename_i f args ht
        simp only [Option.some.injEq] at h
        subst h
        have := tr_sound (w := w) _ _ _ _ ht trivial
        rw [hR.exec hp hk.2 hk.1, this]
        exact ⟨rfl, ho.cs w hw _ List.mem_cons_self hp⟩
      · simp at h
  | nm v =>
    simp only [one] at h
    cases hk : (okAll R p o.op.operands.toList && !isSelect o.op) with
    | false => rw [hk] at h; simp at h
    | true =>
      rw [hk] at h
      simp only [cond_true] at h
      simp only [Bool.and_eq_true, Bool.not_eq_true'] at hk
      split at h
      · rename_i u ht
        simp only [Option.some.injEq] at h
        subst h
        have := tr_sound (w := w) _ _ _ _ ht trivial
        rw [hR.exec hp hk.2 hk.1, this]
        exact ⟨rfl, ho.es _ List.mem_cons_self hp⟩
      · simp at h
/-- what a list of operations leaves, and what is owed for it -/
structure Acc where
  R : List Ent
  ads : List (Addr × Addr) := []
  bs : List (Bool × Bool) := []
  ixs : List (List (Nat × Bool) × Addr × Nat × Int × Nat × Addr) := []
  hs : List (List (Nat × Bool) × Sem Next × Value) := []
  cs : List (List (Nat × Bool) × FuncId × Array Value × Value) := []
  es : List (List (Nat × Bool) × Value × Value) := []

def Acc.join (bs : List (Bool × Bool)) (x : Out) (y : Acc) : Acc :=
  { R := y.R, ads := x.ads ++ y.ads, bs := bs ++ (x.bs ++ y.bs), ixs := x.ixs ++ y.ixs, hs := x.hs ++ y.hs, cs := x.cs ++ y.cs, es := x.es ++ y.es }

def setR (R : List Ent) (o : Oper) (p : List (Nat × Bool)) (v : Value) : List Ent :=
  match o.dst with
  | none => R
  | some t => ⟨t, p, v⟩ :: R

def dstOk (N : Nat) (o : Oper) : Bool :=
  match o.dst with
  | none => true
  | some t => Nat.blt t N

def grp (P : Program) (ops : Array Oper) (κ : List (Nat × Bool)) (M : Mem) (N : Nat) : List Oper → List Dir → List Ent → Option Acc
  | [], [], R => some { R }
  | o :: l, d :: ds, R => match path ops κ R o with
    | none => none
    | some (p, bs) => match one P κ M R p o d with
      | none => none
      | some x => bif dstOk N o then match grp P ops κ M N l ds (setR R o p x.v) with
          | none => none
          | some y => some (y.join bs x)
        else none
  | _, _, _ => none

structure OwedA (P : Program) (κ : List (Nat × Bool)) (C : World → Prop) (x : Acc) : Prop where
  ads : AllEq x.ads
  bs : AllEq x.bs
  ixs : ∀ y ∈ x.ixs, pv κ y.1 = true → 0 ≤ y.2.2.2.1 ∧ y.2.2.2.1 < y.2.2.1 ∧ y.2.1.add (y.2.2.2.1.toNat * y.2.2.2.2.1) = y.2.2.2.2.2
  hs : ∀ w, C w → ∀ y ∈ x.hs, pv κ y.1 = true → y.2.1.run P w = .ok (.value y.2.2) w
  cs : ∀ w, C w → ∀ y ∈ x.cs, pv κ y.1 = true → Calls P y.2.1 y.2.2.1 w (fun e w' => e = .returned y.2.2.2 ∧ C w')
  es : ∀ y ∈ x.es, pv κ y.1 = true → y.2.1 = y.2.2

theorem OwedA.split {P : Program} {κ : List (Nat × Bool)} {C : World → Prop} {bs : List (Bool × Bool)} {x : Out} {y : Acc} (h : OwedA P κ C (y.join bs x)) : AllEq bs ∧ Owed P κ C x ∧ OwedA P κ C y := by
  obtain ⟨h1, h2, h3, h4, h5, h6⟩ := h
  have b1 := allEq_append h2
  have b2 := allEq_append b1.2
  have a1 := allEq_append h1
  exact ⟨b1.1, ⟨a1.1, b2.1, fun z hz => h3 z (List.mem_append_left _ hz), fun w hw z hz => h4 w hw z (List.mem_append_left _ hz), fun w hw z hz => h5 w hw z (List.mem_append_left _ hz), fun z hz => h6 z (List.mem_append_left _ hz)⟩,
    ⟨a1.2, b2.2, fun z hz => h3 z (List.mem_append_right _ hz), fun w hw z hz => h4 w hw z (List.mem_append_right _ hz), fun w hw z hz => h5 w hw z (List.mem_append_right _ hz), fun z hz => h6 z (List.mem_append_right _ hz)⟩⟩

theorem RSt.put {N : Nat} {κ : List (Nat × Bool)} {R : List Ent} {a : Act} (h : RSt N κ R a) {o : Oper} (hd : dstOk N o = true) {p : List (Nat × Bool)} {v u : Value} (hu : u = if pv κ p = true then v else undef) : RSt N κ (setR R o p v) (a.put o.dst u) := by
  unfold dstOk at hd
  unfold setR
  cases ho : o.dst with
  | none => exact h
  | some t =>
    rw [ho] at hd
    simp only [Nat.blt_eq] at hd
    refine ⟨h.defers, by simp [Act.put, h.size], fun t' e he => ?_⟩
    simp only [look] at he
    simp only [Act.put]
    cases hb : Nat.beq t t' with
    | true =>
      rw [hb] at he
      simp only [cond_true, Option.some.injEq] at he
      subst he
      obtain rfl := Nat.eq_of_beq_eq_true hb
      rw [Array.getElem?_setIfInBounds_self_of_lt (by rw [h.size]; exact hd)]
      rw [hu]; rfl
    | false =>
      rw [hb] at he
      simp only [cond_false] at he
      rw [Array.getElem?_setIfInBounds_ne (by rintro rfl; simp at hb)]
      exact h.at_ t' e he

theorem grp_sound {P : Program} {ops : Array Oper} {κ : List (Nat × Bool)} {M : Mem} {N : Nat} {C : World → Prop} {Q : Act → Prop} (hM : ∀ w, C w → Cells w M) :
    ∀ (l : List Oper) (ds : List Dir) (R : List Ent) (acc : Acc) (a : Act), grp P ops κ M N l ds R = some acc → RSt N κ R a → OwedA P κ C acc → (∀ a', RSt N κ acc.R a' → Q a') → wpQuiet P ops C Q l a
  | [], [], R, acc, a, h, hR, _, k => by
    simp only [grp, Option.some.injEq] at h
    subst h
    exact k a hR
  | [], d :: ds, R, acc, a, h, _, _, _ => by simp [grp] at h
  | o :: l, [], R, acc, a, h, _, _, _ => by simp [grp] at h
  | o :: l, d :: ds, R, acc, a, h, hR, ho, k => by
    simp only [grp] at h
    cases hp : path ops κ R o with
    | none => rw [hp] at h; simp at h
    | some pb =>
      obtain ⟨p, bs⟩ := pb
      rw [hp] at h
      simp only at h
      cases h1 : one P κ M R p o d with
      | none => rw [h1] at h; simp at h
      | some x =>
        rw [h1] at h
        simp only at h
        cases hd : dstOk N o with
        | false => rw [hd] at h; simp at h
        | true =>
          rw [hd] at h
          simp only [cond_true] at h
          cases hg : grp P ops κ M N l ds (setR R o p x.v) with
          | none => rw [hg] at h; simp at h
          | some y =>
            rw [hg] at h
            simp only [Option.some.injEq] at h
            subst h
            obtain ⟨o1, o2, o3⟩ := ho.split
            have hw := path_spec hR hp o1
            simp only [wpQuiet]
            cases hpv : pv κ p with
            | false =>
              rw [hw, hpv]
              simp only [Bool.false_eq_true, if_false]
              exact grp_sound hM l ds _ y _ hg (hR.put hd (by rw [hpv]; rfl)) o3 k
            | true =>
              rw [hw, hpv]
              simp only [if_true]
              exact ⟨x.v, one_sound h1 hR hpv hM o2, grp_sound hM l ds _ y _ hg (hR.put hd (by rw [hpv]; rfl)) o3 k⟩

def keep (R : List Ent) : List Nat → Option (List Ent)
  | [] => some []
  | t :: ts => match look R t, keep R ts with
    | some ⟨_, [], v⟩, some T => some (⟨t, [], v⟩ :: T)
    | _, _ => none

theorem keep_spec {R : List Ent} : ∀ {ts : List Nat} {T : List Ent}, keep R ts = some T → ∀ t e, look T t = some e → ∃ t', look R t = some ⟨t', [], e.v⟩ ∧ e.p = []
  | [], T, h, t, e, he => by simp only [keep, Option.some.injEq] at h; subst h; simp [look] at he
  | s :: ts, T, h, t, e, he => by
    simp only [keep] at h
    split at h
    · rename_i _ _ t' v T' h1 h2
      simp only [Option.some.injEq] at h
      subst h
      simp only [look] at he
      cases hb : Nat.beq s t with
      | true =>
        rw [hb] at he
        simp only [cond_true, Option.some.injEq] at he
        subst he
        obtain rfl := Nat.eq_of_beq_eq_true hb
        exact ⟨_, h1, rfl⟩
      | false =>
        rw [hb] at he
        simp only [cond_false] at he
        exact keep_spec h2 t e he
    · simp at h

theorem RSt.keep {N : Nat} {κ κ' : List (Nat × Bool)} {R T : List Ent} {a : Act} (h : RSt N κ R a) {ts : List Nat} (hk : SX.keep R ts = some T) : RSt N κ' T a :=
  ⟨h.defers, h.size, fun t e he => by
    obtain ⟨t', h1, h2⟩ := keep_spec hk t e he
    rw [h.at_ t _ h1]
    simp [Ent.den, h2, pv]⟩

theorem Cells.below {w w' : World} {M : Mem} (h : Cells w M) (hb : Below w.heap.size w w') : Cells w' M :=
  fun x hx => (hb.cell (World.block_lt_of_cell? w x.1 (h x hx))).trans (h x hx)

abbrev IxL := List (List (Nat × Bool) × Addr × Nat × Int × Nat × Addr)
abbrev HsL := List (List (Nat × Bool) × Sem Next × Value)
abbrev CsL := List (List (Nat × Bool) × FuncId × Array Value × Value)
abbrev EsL := List (List (Nat × Bool) × Value × Value)

/-- the first m operations of a list, and what of their table is kept -/
def grpK (P : Program) (ops : Array Oper) (κ : List (Nat × Bool)) (M : Mem) (N : Nat) (l : List Oper) (ds : List Dir) (R : List Ent) (ts : List Nat) : Option (List Ent × IxL × HsL × CsL × EsL) :=
  match grp P ops κ M N l ds R with
  | none => none
  | some acc => match keep acc.R ts with
    | none => none
    | some T => some (T, acc.ixs, acc.hs, acc.cs, acc.es)
def grpA (P : Program) (ops : Array Oper) (κ : List (Nat × Bool)) (M : Mem) (N : Nat) (l : List Oper) (ds : List Dir) (R : List Ent) : List Addr × List Bool :=
  match grp P ops κ M N l ds R with
  | none => ([], [])
  | some acc => (acc.ads.map (·.1), acc.bs.map (·.1))
def grpB (P : Program) (ops : Array Oper) (κ : List (Nat × Bool)) (M : Mem) (N : Nat) (l : List Oper) (ds : List Dir) (R : List Ent) : List Addr × List Bool :=
  match grp P ops κ M N l ds R with
  | none => ([], [])
  | some acc => (acc.ads.map (·.2), acc.bs.map (·.2))

def IxOk (κ : List (Nat × Bool)) : IxL → Prop
  | [] => True
  | y :: l => (pv κ y.1 = true → 0 ≤ y.2.2.2.1 ∧ y.2.2.2.1 < y.2.2.1 ∧ y.2.1.add (y.2.2.2.1.toNat * y.2.2.2.2.1) = y.2.2.2.2.2) ∧ IxOk κ l
def HsOk (P : Program) (κ : List (Nat × Bool)) (w : World) : HsL → Prop
  | [] => True
  | y :: l => (pv κ y.1 = true → y.2.1.run P w = .ok (.value y.2.2) w) ∧ HsOk P κ w l
def CsOk (P : Program) (κ : List (Nat × Bool)) (w : World) : CsL → Prop
  | [] => True
  | y :: l => (pv κ y.1 = true → Calls P y.2.1 y.2.2.1 w (fun e w' => e = .returned y.2.2.2 ∧ Below w.heap.size w w')) ∧ CsOk P κ w l
def EsOk (κ : List (Nat × Bool)) : EsL → Prop
  | [] => True
  | y :: l => (pv κ y.1 = true → y.2.1 = y.2.2) ∧ EsOk κ l
theorem EsOk.mem {κ : List (Nat × Bool)} : ∀ {l : EsL}, EsOk κ l → ∀ y ∈ l, pv κ y.1 = true → y.2.1 = y.2.2
  | x :: l, h, y, hy => by
    rcases List.mem_cons.1 hy with rfl | hy
    · exact h.1
    · exact EsOk.mem h.2 y hy
theorem IxOk.mem {κ : List (Nat × Bool)} : ∀ {l : IxL}, IxOk κ l → ∀ y ∈ l, pv κ y.1 = true → 0 ≤ y.2.2.2.1 ∧ y.2.2.2.1 < y.2.2.1 ∧ y.2.1.add (y.2.2.2.1.toNat * y.2.2.2.2.1) = y.2.2.2.2.2
  | x :: l, h, y, hy => by
    rcases List.mem_cons.1 hy with rfl | hy
    · exact h.1
    · exact IxOk.mem h.2 y hy
theorem HsOk.mem {P : Program} {κ : List (Nat × Bool)} {w : World} : ∀ {l : HsL}, HsOk P κ w l → ∀ y ∈ l, pv κ y.1 = true → y.2.1.run P w = .ok (.value y.2.2) w
  | x :: l, h, y, hy => by
    rcases List.mem_cons.1 hy with rfl | hy
    · exact h.1
    · exact HsOk.mem h.2 y hy
theorem CsOk.mem {P : Program} {κ : List (Nat × Bool)} {w : World} : ∀ {l : CsL}, CsOk P κ w l → ∀ y ∈ l, pv κ y.1 = true → Calls P y.2.1 y.2.2.1 w (fun e w' => e = .returned y.2.2.2 ∧ Below w.heap.size w w')
  | x :: l, h, y, hy => by
    rcases List.mem_cons.1 hy with rfl | hy
    · exact h.1
    · exact CsOk.mem h.2 y hy

theorem grpK_sound {P : Program} {ops : Array Oper} {κ : List (Nat × Bool)} {M : Mem} {N : Nat} {Q : Act → Prop} {l : List Oper} {ds : List Dir} {R T : List Ent} {ts : List Nat} {ixs : IxL} {hs : HsL} {cs : CsL} {es : EsL} {a : Act} {w : World} (hR : RSt N κ R a) (hM : Cells w M)
    (h : grpK P ops κ M N l ds R ts = some (T, ixs, hs, cs, es)) (he : grpA P ops κ M N l ds R = grpB P ops κ M N l ds R) (hi : IxOk κ ixs) (hes : EsOk κ es)
    (hh : ∀ w', Below w.heap.size w w' → Cells w' M → HsOk P κ w' hs) (hc : ∀ w', Below w.heap.size w w' → Cells w' M → CsOk P κ w' cs)
    (k : ∀ a' R', SX.keep R' ts = some T → RSt N κ R' a' → Q a') : wpQuiet P ops (fun w' => Below w.heap.size w w') Q l a := by
  unfold grpK at h
  unfold grpA grpB at he
  cases hg : grp P ops κ M N l ds R with
  | none => rw [hg] at h; simp at h
  | some acc =>
    rw [hg] at h he
    simp only at h he
    cases hk : SX.keep acc.R ts with
    | none => rw [hk] at h; simp at h
    | some T' =>
      rw [hk] at h
      simp only [Option.some.injEq, Prod.mk.injEq] at h he
      obtain ⟨rfl, rfl, rfl, rfl, rfl⟩ := h
      refine grp_sound (fun w' hw' => hM.below hw') l ds R acc a hg hR ⟨allEq_of_map he.1, allEq_of_map he.2, hi.mem, fun w' hw' => (hh w' hw' (hM.below hw')).mem, fun w' hw' y hy hp => ?_, hes.mem⟩ (fun a' ha' => k a' _ hk ha')
      exact ((hc w' hw' (hM.below hw')).mem y hy hp).mono fun e w'' ⟨h1, h2⟩ => ⟨h1, hw'.trans (h2.mono hw'.size)⟩

theorem wpList_of_quiet {P : Program} {ops : Array Oper} {C : World → Prop} {Q : Exit → Act → World → Prop} {rest : List Oper} : ∀ (l : List Oper) (a : Act) (w : World), C w → wpQuiet P ops C (fun a' => ∀ w', C w' → wpList P ops Q rest a' w') l a → wpList P ops Q (l ++ rest) a w
  | [], a, w, hw, h => h w hw
  | o :: l, a, w, hw, h => by
    simp only [wpQuiet] at h
    simp only [List.cons_append, wpList]
    split
    · rename_i hg
      simp only [hg, if_true] at h
      exact .inl (Oper.wp_of_quiet hw (fun a' w' hw' h' => wpList_of_quiet l a' w' hw' h') h)
    · rename_i hg
      simp only [hg] at h
      exact wpList_of_quiet l _ w hw h

/-- a region whose operations all read or call what only adds memory -/
theorem region_q {P : Program} {id N : Nat} {draw : Bool} {Q : Exit → Act → World → Prop} {l : List Oper} {a : Act} {w : World} {R : List Ent} {M : Mem} (κ : List (Nat × Bool)) (ds : List Dir) (ts : List Nat) (T : List Ent) (ixs : IxL) (hs : HsL) (cs : CsL) (es : EsL)
    (hR : RSt N [] R a) (hM : Cells w M) (hm : P.follows .mixedOrders = true) (hB : (!draw || Region.lexB .any l.toArray) = true) (h0 : R.all (fun e => e.p.isEmpty) = true)
    (h : grpK P l.toArray κ M N l ds R ts = some (T, ixs, hs, cs, es)) (he : grpA P l.toArray κ M N l ds R = grpB P l.toArray κ M N l ds R) (hi : IxOk κ ixs) (hes : EsOk κ es)
    (hh : ∀ w', Below w.heap.size w w' → Cells w' M → HsOk P κ w' hs) (hc : ∀ w', Below w.heap.size w w' → Cells w' M → CsOk P κ w' cs)
    (k : ∀ a' w', RSt N [] T a' → Below w.heap.size w w' → Cells w' M → Q .normal a' w') : (Code.region id l.toArray draw).wp P Q a w := by
  have hR' : RSt N κ R a := ⟨hR.defers, hR.size, fun t e he => by
    rw [hR.at_ t e he]
    have hm : ∀ (R : List Ent), R.all (fun e => e.p.isEmpty) = true → look R t = some e → e.p = [] := fun R => by
      induction R with
      | nil => intro _ h; simp [look] at h
      | cons x R ih =>
        intro h h'
        simp only [List.all_cons, Bool.and_eq_true] at h
        simp only [look] at h'
        cases hb : Nat.beq x.t t with
        | true => rw [hb] at h'; simp only [cond_true, Option.some.injEq] at h'; subst h'; simpa using h.1
        | false => rw [hb] at h'; exact ih h.2 h'
    simp [Ent.den, hm R h0 he, pv]⟩
  cases draw with
  | false =>
    have := wpList_of_quiet (P := P) (ops := l.toArray) (C := fun w' => Below w.heap.size w w') (Q := Q) (rest := []) l a w (Below.refl _ _)
      (grpK_sound hR' hM h he hi hes hh hc fun a' R' hk ha' => fun w' hw' => k a' w' (ha'.keep hk) hw' (hM.below hw'))
    rw [List.append_nil] at this
    exact wp_region_lit this
  | true =>
    refine wp_region_quiet (C := fun w' => Below w.heap.size w w') hm (by simpa using hB) ⟨rfl, rfl, rfl, Nat.le_refl _, fun _ _ => rfl⟩ ?_
    exact grpK_sound hR' hM h he hi hes hh hc fun a' R' hk ha' => fun w' hw' => k a' w' (ha'.keep hk) hw' (hM.below hw')

/-! entering, tests, returning -/
def initT : Nat → List Value → List Ent
  | _, [] => []
  | i, v :: l => ⟨i, [], v⟩ :: initT (i + 1) l

theorem look_initT : ∀ (l : List Value) (i t : Nat) (e : Ent), look (initT i l) t = some e → e.p = [] ∧ i ≤ t ∧ l[t - i]? = some e.v
  | [], _, _, _, h => by simp [initT, look] at h
  | v :: l, i, t, e, h => by
    simp only [initT, look] at h
    cases hb : Nat.beq i t with
    | true =>
      rw [hb] at h
      simp only [cond_true, Option.some.injEq] at h
      subst h
      obtain rfl := Nat.eq_of_beq_eq_true hb
      simp
    | false =>
      rw [hb] at h
      obtain ⟨h1, h2, h3⟩ := look_initT l (i + 1) t e h
      refine ⟨h1, by omega, ?_⟩
      rw [show t - i = (t - (i + 1)) + 1 by omega]
      simpa using h3

theorem enter {P : Program} {f : FuncId} {fn : Func} {c : Code} {w : World} {Rp : Ending → World → Prop} (args : List Value) (N : Nat) (hf : P.funcs[f]? = some fn) (hb : fn.body = some c) (hN : fn.ntmps = N) (hle : Nat.ble args.length N = true)
    (h : ∀ a, RSt N [] (initT 0 args) a → c.wp P (bodyPost P fn Rp) a w) : Calls P f args.toArray w Rp := by
  refine calls_of_wp hf hb (h _ ⟨rfl, ?_, fun t e he => ?_⟩)
  · have := Nat.le_of_ble_eq_true hle
    simp [hN]; omega
  · obtain ⟨h1, _, h3⟩ := look_initT args 0 t e he
    simp only [Nat.sub_zero] at h3
    have hl := (List.getElem?_eq_some_iff.1 h3).1
    rw [Array.getElem?_append_left (by simpa using hl)]
    simp [h3, Ent.den, h1, pv]

def valOf (R : List Ent) (x : Operand) : Option Value := bif okOpd R [] x then some (rho R x) else none

theorem RSt.val {N : Nat} {κ : List (Nat × Bool)} {R : List Ent} {a : Act} (h : RSt N κ R a) {x : Operand} {v : Value} (hv : valOf R x = some v) : a.eval x = v := by
  unfold valOf at hv
  cases hx : okOpd R [] x with
  | false => rw [hx] at hv; simp at hv
  | true => rw [hx] at hv; simp only [cond_true, Option.some.injEq] at hv; rw [← hv]; exact h.eval rfl hx

theorem cond_ {P : Program} {N : Nat} {κ : List (Nat × Bool)} {R : List Ent} {Q : Exit → Act → World → Prop} {a : Act} {w : World} {c : Operand} {x y : Code} (b : Bool) (hR : RSt N κ R a) (hb : valOf R c = some (.bool b))
    (ht : b = true → x.wp P Q a w) (hf : b = false → y.wp P Q a w) : (Code.cond c x y).wp P Q a w :=
  wp_cond_split (hR.val hb) ht hf

theorem ret_ {P : Program} {N : Nat} {κ : List (Nat × Bool)} {R : List Ent} {fn : Func} {Rp : Ending → World → Prop} {a : Act} {w : World} (t : Nat) (v : Value) (hr : fn.results = #[.tmp t]) (hR : RSt N κ R a) (hv : valOf R (.tmp t) = some v) (h : Rp (.returned v) w) : bodyPost P fn Rp .ret a w := by
  refine bodyPost_ret (results_tmp hr _ _ _) hR.defers ?_
  have := hR.val hv
  simp only [Act.eval] at this
  rw [this]; exact h

/-! operations that change the world, one at a time, in a region of a fixed order -/
def trN {α : Type} (P : Program) : Sem α → Nat → Option (Obj × α)
  | .program k, n => trN P (k P) n
  | .mark _ k, n => trN P k n
  | .new o k, n => match tr P (k n) [] with
    | some ([], r) => some (o, r)
    | _ => none
  | _, _ => none
theorem trN_sound {α : Type} {P : Program} {w : World} (s : Sem α) : ∀ (o : Obj) (r : α), trN P s w.heap.size = some (o, r) → s.run P w = .ok r (w.alloc o) := by
  induction s with
  | program k ih => intro o r h; simp only [trN] at h; simp only [Sem.run]; exact ih P o r h
  | mark m k ih => intro o r h; simp only [trN] at h; simp only [Sem.run]; exact ih o r h
  | new ob k ih =>
    intro o r h
    simp only [trN] at h
    split at h
    · rename_i r' ht
      simp only [Option.some.injEq, Prod.mk.injEq] at h
      obtain ⟨rfl, rfl⟩ := h
      simp only [Sem.run]
      exact tr_sound (w := w.alloc ob) _ _ _ _ ht trivial
    · simp at h
  | _ => intro o r h; simp [trN] at h

def newOp (P : Program) (N : Nat) (R : List Ent) (n : Nat) : List Oper → Option (Obj × List Ent)
  | [] => none
  | o :: _ => match o.guard with
    | some _ => none
    | none => bif okAll R [] o.op.operands.toList && !isSelect o.op && dstOk N o then match trN P (execOp (rho R) o) n with
        | some (ob, .value v) => some (ob, setR R o [] v)
        | _ => none
      else none

theorem drop_tail {α : Type} {l : List α} {k : Nat} {o : α} {rest : List α} (h : l.drop k = o :: rest) : rest = l.drop (k + 1) := by
  rw [← List.tail_drop, h]; rfl

theorem list_new {P : Program} {N : Nat} {κ : List (Nat × Bool)} {R : List Ent} {Q : Exit → Act → World → Prop} {ops : Array Oper} {l : List Oper} {a : Act} {w : World} (k : Nat) (n : Nat) (ob : Obj) (R' : List Ent) (hR : RSt N κ R a) (hn : w.heap.size = n) (h : newOp P N R n (l.drop k) = some (ob, R'))
    (kk : ∀ a', RSt N κ R' a' → wpList P ops Q (l.drop (k + 1)) a' (w.alloc ob)) : wpList P ops Q (l.drop k) a w := by
  cases hl : l.drop k with
  | nil => rw [hl] at h; simp [newOp] at h
  | cons o rest =>
    rw [hl] at h
    simp only [newOp] at h
    split at h
    · simp at h
    · rename_i hg
      cases hk : (okAll R [] o.op.operands.toList && !isSelect o.op && dstOk N o) with
      | false => rw [hk] at h; simp at h
      | true =>
        rw [hk] at h
        simp only [cond_true] at h
        simp only [Bool.and_eq_true, Bool.not_eq_true'] at hk
        split at h
        · rename_i ob' v ht
          simp only [Option.some.injEq, Prod.mk.injEq] at h
          obtain ⟨rfl, rfl⟩ := h
          refine wpList_plain hg fun K hK => ?_
          rw [← hn] at ht
          unfold Oper.wp
          rw [hR.exec rfl hk.1.2 hk.1.1, trN_sound _ _ _ ht]
          refine hK _ _ ?_
          rw [drop_tail hl]
          exact kk _ (hR.put hk.2 rfl)
        · simp at h

/-- a call by a contract whose answer is not known ahead -/
def callOp (P : Program) (R : List Ent) : List Oper → Option (Option Nat × FuncId × Array Value)
  | [] => none
  | o :: _ => match o.guard with
    | some _ => none
    | none => bif okAll R [] o.op.operands.toList && !isSelect o.op then match tr P (execOp (rho R) o) [] with
        | some ([], .enter f args) => some (o.dst, f, args)
        | _ => none
      else none
def setD (R : List Ent) (d : Option Nat) (v : Value) : List Ent :=
  match d with
  | none => R
  | some t => ⟨t, [], v⟩ :: R
def dOk (N : Nat) : Option Nat → Bool
  | none => true
  | some t => Nat.blt t N

theorem list_call {P : Program} {N : Nat} {κ : List (Nat × Bool)} {R : List Ent} {Q : Exit → Act → World → Prop} {ops : Array Oper} {l : List Oper} {a : Act} {w : World} (k : Nat) (d : Option Nat) (f : FuncId) (args : Array Value) {Rp : Ending → World → Prop} (hR : RSt N κ R a) (h : callOp P R (l.drop k) = some (d, f, args)) (hd : dOk N d = true)
    (hc : Calls P f args w Rp) (hv : ∀ e w', Rp e w' → ∃ v, e = .returned v)
    (kk : ∀ v w', Rp (.returned v) w' → ∀ a', RSt N κ (setD R d v) a' → wpList P ops Q (l.drop (k + 1)) a' w') : wpList P ops Q (l.drop k) a w := by
  cases hl : l.drop k with
  | nil => rw [hl] at h; simp [callOp] at h
  | cons o rest =>
    rw [hl] at h
    simp only [callOp] at h
    split at h
    · simp at h
    · rename_i hg
      cases hk : (okAll R [] o.op.operands.toList && !isSelect o.op) with
      | false => rw [hk] at h; simp at h
      | true =>
        rw [hk] at h
        simp only [cond_true] at h
        simp only [Bool.and_eq_true, Bool.not_eq_true'] at hk
        split at h
        · rename_i f' args' ht
          simp only [Option.some.injEq, Prod.mk.injEq] at h
          obtain ⟨rfl, rfl, rfl⟩ := h
          refine wpList_plain hg fun K hK => ?_
          unfold Oper.wp
          rw [hR.exec rfl hk.2 hk.1, tr_sound (w := w) _ _ _ _ ht trivial]
          simp only [Oper.upon]
          refine hc.mono fun e w' he => ?_
          obtain ⟨v, rfl⟩ := hv e w' he
          refine hK _ _ ?_
          rw [drop_tail hl]
          have hp := hR.put (o := o) (p := []) (v := v) (u := v) (by unfold dstOk; unfold dOk at hd; exact hd) rfl
          exact kk v w' he _ hp
        · simp at h

/-- a run by hand -/
def runOp (R : List Ent) : List Oper → Option (Option Nat × Sem Next)
  | [] => none
  | o :: _ => match o.guard with
    | some _ => none
    | none => bif okAll R [] o.op.operands.toList && !isSelect o.op then some (o.dst, execOp (rho R) o) else none

theorem list_run {P : Program} {N : Nat} {κ : List (Nat × Bool)} {R : List Ent} {Q : Exit → Act → World → Prop} {ops : Array Oper} {l : List Oper} {a : Act} {w w' : World} (k : Nat) (d : Option Nat) (s : Sem Next) (v : Value) (hR : RSt N κ R a) (h : runOp R (l.drop k) = some (d, s)) (hd : dOk N d = true)
    (hs : s.run P w = .ok (.value v) w')
    (kk : ∀ a', RSt N κ (setD R d v) a' → wpList P ops Q (l.drop (k + 1)) a' w') : wpList P ops Q (l.drop k) a w := by
  cases hl : l.drop k with
  | nil => rw [hl] at h; simp [runOp] at h
  | cons o rest =>
    rw [hl] at h
    simp only [runOp] at h
    split at h
    · simp at h
    · rename_i hg
      cases hk : (okAll R [] o.op.operands.toList && !isSelect o.op) with
      | false => rw [hk] at h; simp at h
      | true =>
        rw [hk] at h
        simp only [cond_true, Option.some.injEq, Prod.mk.injEq] at h
        simp only [Bool.and_eq_true, Bool.not_eq_true'] at hk
        obtain ⟨rfl, rfl⟩ := h
        refine wpList_plain hg fun K hK => ?_
        unfold Oper.wp
        rw [hR.exec rfl hk.2 hk.1, hs]
        refine hK _ _ ?_
        rw [drop_tail hl]
        exact kk _ (hR.put (by unfold dstOk; unfold dOk at hd; exact hd) rfl)

/-- the same where nothing is yielded (a store) -/
theorem list_skip {P : Program} {N : Nat} {κ : List (Nat × Bool)} {R : List Ent} {Q : Exit → Act → World → Prop} {ops : Array Oper} {l : List Oper} {a : Act} {w w' : World} (k : Nat) (s : Sem Next) (hR : RSt N κ R a) (h : runOp R (l.drop k) = some (none, s))
    (hs : s.run P w = .ok .skip w')
    (kk : ∀ a', RSt N κ R a' → wpList P ops Q (l.drop (k + 1)) a' w') : wpList P ops Q (l.drop k) a w := by
  cases hl : l.drop k with
  | nil => rw [hl] at h; simp [runOp] at h
  | cons o rest =>
    rw [hl] at h
    simp only [runOp] at h
    split at h
    · simp at h
    · rename_i hg
      cases hk : (okAll R [] o.op.operands.toList && !isSelect o.op) with
      | false => rw [hk] at h; simp at h
      | true =>
        rw [hk] at h
        simp only [cond_true, Option.some.injEq, Prod.mk.injEq] at h
        simp only [Bool.and_eq_true, Bool.not_eq_true'] at hk
        obtain ⟨hd, rfl⟩ := h
        refine wpList_plain hg fun K hK => ?_
        unfold Oper.wp
        rw [hR.exec rfl hk.2 hk.1, hs]
        refine hK _ _ ?_
        rw [drop_tail hl, hd]
        exact kk _ hR

/-- the next m operations only read or call -/
theorem list_q {P : Program} {N : Nat} {Q : Exit → Act → World → Prop} {ops : Array Oper} {l : List Oper} {a : Act} {w : World} {R : List Ent} {M : Mem} {κ : List (Nat × Bool)} (k m : Nat) (ds : List Dir) (ts : List Nat) (T : List Ent) (ixs : IxL) (hs : HsL) (cs : CsL) (es : EsL)
    (hR : RSt N κ R a) (hM : Cells w M)
    (h : grpK P ops κ M N ((l.drop k).take m) ds R ts = some (T, ixs, hs, cs, es)) (he : grpA P ops κ M N ((l.drop k).take m) ds R = grpB P ops κ M N ((l.drop k).take m) ds R) (hi : IxOk κ ixs) (hes : EsOk κ es)
    (hh : ∀ w', Below w.heap.size w w' → Cells w' M → HsOk P κ w' hs) (hc : ∀ w', Below w.heap.size w w' → Cells w' M → CsOk P κ w' cs)
    (kk : ∀ a' w', RSt N κ T a' → Below w.heap.size w w' → Cells w' M → wpList P ops Q (l.drop (k + m)) a' w') : wpList P ops Q (l.drop k) a w := by
  have := wpList_of_quiet (P := P) (ops := ops) (C := fun w' => Below w.heap.size w w') (Q := Q) (rest := l.drop (k + m)) ((l.drop k).take m) a w (Below.refl _ _)
    (grpK_sound hR hM h he hi hes hh hc fun a' R' hk ha' => fun w' hw' => kk a' w' (ha'.keep hk) hw' (hM.below hw'))
  rw [← List.drop_drop, List.take_append_drop] at this
  exact this

theorem list_end {P : Program} {Q : Exit → Act → World → Prop} {ops : Array Oper} {l : List Oper} {a : Act} {w : World} (k : Nat) (h : Nat.ble l.length k = true) (hq : Q .normal a w) : wpList P ops Q (l.drop k) a w := by
  rw [List.drop_eq_nil_of_le (Nat.le_of_ble_eq_true h)]
  exact hq

theorem region_l {P : Program} {id : Nat} {Q : Exit → Act → World → Prop} {l : List Oper} {a : Act} {w : World} (h : wpList P l.toArray Q (l.drop 0) a w) : (Code.region id l.toArray false).wp P Q a w := wp_region_lit h

theorem cells_append {w : World} {M M' : Mem} (h : Cells w M) (h' : Cells w M') : Cells w (M ++ M') := fun x hx => by
  rcases List.mem_append.1 hx with hx | hx
  · exact h x hx
  · exact h' x hx
theorem cells_nil {w : World} : Cells w [] := fun x hx => by cases hx
theorem cells_cons {w : World} {x : Addr × Value} {M : Mem} (h : w.cell? x.1 = some x.2) (h' : Cells w M) : Cells w (x :: M) := fun y hy => by
  rcases List.mem_cons.1 hy with rfl | hy
  · exact h
  · exact h' y hy
theorem cells_add {w : World} {a : Addr} {v : Value} {M : Mem} (h : w.cell? a = some v) (h' : Cells w M) : Cells w ((a, v) :: M) := cells_cons h h'
/-- the cells of a block from one on -/
def blkM (n : Nat) : Nat → List Value → Mem
  | _, [] => []
  | i, v :: l => (⟨n, i, none⟩, v) :: blkM n (i + 1) l
theorem cells_blk {w : World} {n : Nat} {e : TypeId} {fr : Nat × Nat} : ∀ (l pre : List Value), w.heap[n]? = some (.cells (pre ++ l).toArray e fr) → Cells w (blkM n pre.length l)
  | [], _, _ => cells_nil
  | v :: l, pre, h => cells_cons (by simp [World.cell?, h]) (by
      have := cells_blk (w := w) (n := n) (e := e) (fr := fr) l (pre ++ [v]) (by simpa using h)
      simpa using this)
theorem cells_new {w : World} {M : Mem} (hM : Cells w M) (l : List Value) (e : TypeId) (fr : Nat × Nat) : Cells (w.alloc (.cells l.toArray e fr)) (blkM w.heap.size 0 l ++ M) :=
  cells_append (by
    have := cells_blk (w := w.alloc (.cells l.toArray e fr)) (n := w.heap.size) (e := e) (fr := fr) l [] (by show (w.heap.push _)[w.heap.size]? = _; simp)
    simpa using this) (hM.below ((Below.refl _ _).alloc (Nat.le_refl _) _))
theorem ix_ok {b off size k len : Nat} (h : k < len) : 0 ≤ (k : Int) ∧ (k : Int) < (len : Int) ∧ (⟨b, off, none⟩ : Addr).add ((k : Int).toNat * size) = ⟨b, off + k * size, none⟩ := by
  refine ⟨by omega, by omega, ?_⟩
  rw [Int.toNat_natCast]
  unfold Addr.add
  split
  · rename_i h; rw [h]; rfl
  · rfl
theorem pureC {P : Program} {f : FuncId} {args : Array Value} {w : World} {r : Ending} (h : Calls P f args w (fun e w' => e = r ∧ w = w')) : Calls P f args w (fun e w' => e = r ∧ Below w.heap.size w w') :=
  h.mono fun e w' ⟨h1, h2⟩ => ⟨h1, by subst h2; exact Below.refl _ _⟩
theorem wrap_ok {z : Int} (h : -9223372036854775808 ≤ z ∧ z ≤ 9223372036854775807) : Value.int .i64 (IntKind.i64.wrap z) = .int .i64 z := by
  rw [IntWalk.i64_in z h]
/-- a new block whose cells are known from now on -/
theorem list_box {P : Program} {N : Nat} {κ : List (Nat × Bool)} {R : List Ent} {Q : Exit → Act → World → Prop} {ops : Array Oper} {l : List Oper} {a : Act} {w : World} {M : Mem} (k n : Nat) (cs : List Value) (e : TypeId) (R' : List Ent) (M' : Mem) (hR : RSt N κ R a) (hM : Cells w M) (hn : w.heap.size = n)
    (h : newOp P N R n (l.drop k) = some (.cells cs.toArray e (0, 0), R')) (hM' : blkM n 0 cs ++ M = M')
    (kk : ∀ a' w', RSt N κ R' a' → Below w.heap.size w w' → Cells w' M' → w'.heap[n]? = some (.cells cs.toArray e (0, 0)) → n < w'.heap.size → wpList P ops Q (l.drop (k + 1)) a' w') : wpList P ops Q (l.drop k) a w := by
  refine list_new k n _ R' hR hn h fun a' ha' => ?_
  have h1 := cells_new hM cs e (0, 0)
  rw [hn, hM'] at h1
  refine kk a' _ ha' ((Below.refl _ _).alloc (Nat.le_refl _) _) h1 ?_ ?_
  · rw [← hn]; show (w.heap.push _)[w.heap.size]? = _; simp
  · rw [← hn]; show w.heap.size < (w.heap.push _).size; simp

/-- a new block that will be written before it is read -/
theorem list_alloc {P : Program} {N : Nat} {κ : List (Nat × Bool)} {R : List Ent} {Q : Exit → Act → World → Prop} {ops : Array Oper} {l : List Oper} {a : Act} {w : World} {M : Mem} (k n : Nat) (cs : List Value) (e : TypeId) (R' : List Ent) (hR : RSt N κ R a) (hM : Cells w M) (hn : w.heap.size = n)
    (h : newOp P N R n (l.drop k) = some (.cells cs.toArray e (0, 0), R'))
    (kk : ∀ a' w', RSt N κ R' a' → Below w.heap.size w w' → Cells w' M → w'.heap[n]? = some (.cells cs.toArray e (0, 0)) → n < w'.heap.size → (∀ x ∈ M, x.1.block ≠ n) → wpList P ops Q (l.drop (k + 1)) a' w') : wpList P ops Q (l.drop k) a w := by
  refine list_new k n _ R' hR hn h fun a' ha' => ?_
  have hb : Below w.heap.size w (w.alloc (.cells cs.toArray e (0, 0))) := (Below.refl _ _).alloc (Nat.le_refl _) _
  refine kk a' _ ha' hb (hM.below hb) ?_ ?_ ?_
  · rw [← hn]; show (w.heap.push _)[w.heap.size]? = _; simp
  · rw [← hn]; show w.heap.size < (w.heap.push _).size; simp
  · intro x hx
    have := World.block_lt_of_cell? w x.1 (hM x hx)
    omega

/-- a store into a block of the call's own -/
def trS {α : Type} (P : Program) : Sem α → Option (List (Addr × Value) × α)
  | .pure a => some ([], a)
  | .program k => trS P (k P)
  | .mark _ k => trS P k
  | .store _ a v k => match trS P k with
    | some (l, r) => some ((a, v) :: l, r)
    | none => none
  | _ => none

def plainV : Value → Bool
  | .agg _ => false
  | .tuple _ => false
  | _ => true

def updL (cs : List Value) : List (Nat × Value) → Option (List Value)
  | [] => some cs
  | (i, v) :: l => bif plainV v && Nat.blt i cs.length then updL (cs.set i v) l else none

def setBlk (w : World) (n : Nat) (ob : Obj) : World := { w with heap := w.heap.setIfInBounds n ob }

theorem setCell_blk {w : World} {n : Nat} {cs : List Value} {e : TypeId} (hb : w.heap[n]? = some (.cells cs.toArray e (0, 0))) (i : Nat) (v : Value) : w.setCell ⟨n, i, none⟩ v = setBlk w n (.cells (cs.set i v).toArray e (0, 0)) := by
  unfold World.setCell setBlk
  congr 1
  apply Array.ext_getElem?
  intro j
  rw [Array.getElem?_modify, Array.getElem?_setIfInBounds]
  by_cases hj : n = j
  · subst hj
    rw [if_pos rfl, hb, if_pos rfl, if_pos (Array.getElem?_eq_some_iff.1 hb).1]
    simp
  · rw [if_neg hj, if_neg hj]

theorem trS_sound {α : Type} {P : Program} {n : Nat} {e : TypeId} (s : Sem α) : ∀ (w : World) (cs cs' : List Value) (st : List (Nat × Value)) (l : List (Addr × Value)) (r : α), w.heap[n]? = some (.cells cs.toArray e (0, 0)) → trS P s = some (l, r) → l = st.map (fun x => ((⟨n, x.1, none⟩ : Addr), x.2)) → updL cs st = some cs' →
    s.run P w = .ok r (setBlk w n (.cells cs'.toArray e (0, 0))) := by
  induction s with
  | pure a =>
    intro w cs cs' st l r hb h hl hu
    simp only [trS, Option.some.injEq, Prod.mk.injEq] at h
    obtain ⟨rfl, rfl⟩ := h
    cases st with
    | nil =>
      simp only [updL, Option.some.injEq] at hu
      subst hu
      simp only [Sem.run]
      congr 1
      unfold setBlk
      obtain ⟨hp, tp, dr, os, ou⟩ := w
      congr 1
      apply Array.ext_getElem?
      intro j
      rw [Array.getElem?_setIfInBounds]
      by_cases hj : n = j
      · subst hj
        rw [if_pos rfl, if_pos (Array.getElem?_eq_some_iff.1 hb).1]
        exact hb
      · rw [if_neg hj]
    | cons x st => simp at hl
  | program k ih => intro w cs cs' st l r hb h hl hu; simp only [trS] at h; simp only [Sem.run]; exact ih P w cs cs' st l r hb h hl hu
  | mark m k ih => intro w cs cs' st l r hb h hl hu; simp only [trS] at h; simp only [Sem.run]; exact ih w cs cs' st l r hb h hl hu
  | store m a v k ih =>
    intro w cs cs' st l r hb h hl hu
    simp only [trS] at h
    cases hk : trS P k with
    | none => rw [hk] at h; simp at h
    | some x =>
      obtain ⟨l', r'⟩ := x
      rw [hk] at h
      simp only [Option.some.injEq, Prod.mk.injEq] at h
      obtain ⟨rfl, rfl⟩ := h
      cases st with
      | nil => simp at hl
      | cons y st =>
        obtain ⟨i, u⟩ := y
        simp only [List.map_cons, List.cons.injEq, Prod.mk.injEq] at hl
        obtain ⟨⟨rfl, rfl⟩, rfl⟩ := hl
        simp only [updL] at hu
        cases hc : (plainV v && Nat.blt i cs.length) with
        | false => rw [hc] at hu; simp at hu
        | true =>
          rw [hc] at hu
          simp only [cond_true] at hu
          simp only [Bool.and_eq_true, Nat.blt_eq] at hc
          have h1 : w.cell? ⟨n, i, none⟩ = some (cs[i]'hc.2) := by simp [World.cell?, hb, hc.2]
          have h2 : w.frozen? ⟨n, i, none⟩ = false := by simp [World.frozen?, hb]
          have hrun : (Sem.store m ⟨n, i, none⟩ v k).run P w = k.run P (w.setCell ⟨n, i, none⟩ v) := by
            cases v <;> simp [plainV] at hc <;> simp [Sem.run, h1, h2]
          rw [hrun, setCell_blk hb]
          have hb' : (setBlk w n (.cells (cs.set i v).toArray e (0, 0))).heap[n]? = some (.cells (cs.set i v).toArray e (0, 0)) := by
            simp [setBlk, (Array.getElem?_eq_some_iff.1 hb).1]
          rw [ih _ _ cs' st _ _ hb' hk rfl hu]
          congr 1
          simp [setBlk]
  | _ => intro w cs cs' st l r hb h hl hu; simp [trS] at h

def storeOp (P : Program) (R : List Ent) : List Oper → Option (List (Addr × Value))
  | [] => none
  | o :: _ => match o.guard, o.dst with
    | none, none => bif okAll R [] o.op.operands.toList && !isSelect o.op then match trS P (execOp (rho R) o) with
        | some (l, .skip) => some l
        | _ => none
      else none
    | _, _ => none

/-- which blocks but one are as they were -/
structure But (n : Nat) (w w' : World) : Prop where
  os : w'.os = w.os
  tape : w'.tape = w.tape
  output : w'.output = w.output
  size : w'.heap.size = w.heap.size
  block : ∀ k, k ≠ n → w'.heap[k]? = w.heap[k]?

theorem But.cell {n : Nat} {w w' : World} (h : But n w w') {p : Addr} (hp : p.block ≠ n) : w'.cell? p = w.cell? p := World.cell?_of_block (w := w) (h.block p.block hp)
theorem But.below {n B : Nat} {w w' : World} (h : But n w w') (hB : B ≤ n) : Below B w w' := ⟨h.os, h.tape, h.output, by rw [h.size]; exact Nat.le_refl _, fun k hk => h.block k (by omega)⟩

theorem list_store {P : Program} {N : Nat} {κ : List (Nat × Bool)} {R : List Ent} {Q : Exit → Act → World → Prop} {ops : Array Oper} {l : List Oper} {a : Act} {w : World} {n : Nat} {cs : List Value} {e : TypeId} (k : Nat) (st : List (Nat × Value)) (cs' : List Value) (Mo M' : Mem) (hR : RSt N κ R a) (hM : Cells w Mo) (hne : ∀ x ∈ Mo, x.1.block ≠ n) (hb : w.heap[n]? = some (.cells cs.toArray e (0, 0)))
    (h : storeOp P R (l.drop k) = some (st.map (fun x => ((⟨n, x.1, none⟩ : Addr), x.2)))) (hu : updL cs st = some cs') (hM' : blkM n 0 cs' ++ Mo = M')
    (kk : ∀ a' w', RSt N κ R a' → But n w w' → Cells w' M' → w'.heap[n]? = some (.cells cs'.toArray e (0, 0)) → wpList P ops Q (l.drop (k + 1)) a' w') : wpList P ops Q (l.drop k) a w := by
  cases hl : l.drop k with
  | nil => rw [hl] at h; simp [storeOp] at h
  | cons o rest =>
    rw [hl] at h
    simp only [storeOp] at h
    split at h
    · rename_i hg hdst
      cases hk : (okAll R [] o.op.operands.toList && !isSelect o.op) with
      | false => rw [hk] at h; simp at h
      | true =>
        rw [hk] at h
        simp only [cond_true] at h
        simp only [Bool.and_eq_true, Bool.not_eq_true'] at hk
        split at h
        · rename_i l' ht
          simp only [Option.some.injEq] at h
          refine wpList_plain hg fun K hK => ?_
          unfold Oper.wp
          rw [hR.exec rfl hk.2 hk.1, trS_sound _ w cs cs' st _ _ hb ht h hu]
          refine hK _ _ ?_
          rw [drop_tail hl, hdst]
          have hlt := (Array.getElem?_eq_some_iff.1 hb).1
          have hbut : But n w (setBlk w n (.cells cs'.toArray e (0, 0))) := ⟨rfl, rfl, rfl, by simp [setBlk], fun j hj => by simp [setBlk, Array.getElem?_setIfInBounds, hj.symm]⟩
          have hnew : (setBlk w n (.cells cs'.toArray e (0, 0))).heap[n]? = some (.cells cs'.toArray e (0, 0)) := by simp [setBlk, hlt]
          refine kk _ _ hR hbut ?_ hnew
          rw [← hM']
          refine cells_append ?_ (fun x hx => (hbut.cell (hne x hx)).trans (hM x hx))
          have := cells_blk (e := e) (fr := (0, 0)) cs' [] (by simpa using hnew)
          simpa using this
        · simp at h
    · simp at h

theorem cells_sub {w : World} {M : Mem} (hM : Cells w M) (is : List Nat) {Mo : Mem} (h : mgets M is = some Mo) : Cells w Mo := fun x hx => hM x (mgets_mem h x hx)
theorem ne_sub {n : Nat} {M : Mem} (hM : ∀ x ∈ M, x.1.block ≠ n) (is : List Nat) {Mo : Mem} (h : mgets M is = some Mo) : ∀ x ∈ Mo, x.1.block ≠ n := fun x hx => hM x (mgets_mem h x hx)
theorem blk_below {w w' : World} {n : Nat} {o : Obj} (h : w.heap[n]? = some o) (hb : Below w.heap.size w w') : w'.heap[n]? = some o := (hb.block n (Array.getElem?_eq_some_iff.1 h).1).trans h
theorem cells_but {w w' : World} {n : Nat} {M : Mem} (hM : Cells w M) (hb : But n w w') (hne : ∀ x ∈ M, x.1.block ≠ n) : Cells w' M := fun x hx => (hb.cell (hne x hx)).trans (hM x hx)
theorem ne_nil {n : Nat} : ∀ x ∈ ([] : Mem), x.1.block ≠ n := fun x hx => by cases hx
theorem ne_cons {n : Nat} {a : Addr} {v : Value} {M : Mem} (h : a.block ≠ n) (h' : ∀ x ∈ M, x.1.block ≠ n) : ∀ x ∈ (a, v) :: M, x.1.block ≠ n := fun x hx => by
  rcases List.mem_cons.1 hx with rfl | hx
  · exact h
  · exact h' x hx
/-- two pieces of code, cut apart -/
theorem seq_cut {P : Program} {x y : Code} {Q : Exit → Act → World → Prop} {a : Act} {w : World} (Post : Act → World → Prop) (hx : x.wp P (Exit.then Post Q) a w) (hy : ∀ a' w', Post a' w' → y.wp P Q a' w') : (Code.seq x y).wp P Q a w :=
  wp_seq (wp_mono hx fun e a' w' h => by cases e <;> first | exact hy _ _ h | exact h)

/-! regions that only read, told by what they change -/
def lookE : List Ent → Nat → Value → Value
  | [], _, d => d
  | e :: R, t, d => if e.t = t then e.v else lookE R t d
def tabE (R nw : List Ent) : List Nat → List Ent
  | [] => []
  | t :: ts => ⟨t, [], lookE nw t (lookE R t (.bool false))⟩ :: tabE R nw ts
section
variable {P : Program} {id N : Nat} {draw : Bool} {Q : Exit → Act → World → Prop} {l : List Oper} {a : Act} {w w0 : World} {R T : List Ent} {M : Mem} {rest : Code}
theorem qf (κ : List (Nat × Bool)) (ds : List Dir) (ts : List Nat) (nw : List Ent) (ixs : IxL) (hs : HsL) (cs : CsL) (es : EsL)
    (hR : RSt N [] R a) (hM : Cells w M) (hW : Below w0.heap.size w0 w) (hm : P.follows .mixedOrders = true) (hi : IxOk κ ixs) (hes : EsOk κ es)
    (hh : ∀ w', Below w.heap.size w w' → Cells w' M → HsOk P κ w' hs) (hc : ∀ w', Below w.heap.size w w' → Cells w' M → CsOk P κ w' cs)
    (k : ∀ a' w', RSt N [] T a' → Below w.heap.size w w' → Below w0.heap.size w0 w' → Cells w' M → rest.wp P Q a' w')
    (hT : tabE R nw ts = T := by (simp only [Go.SX.tabE, Go.SX.lookE, Nat.reduceEqDiff, ↓reduceIte]; rfl)) (hB : (!draw || Region.lexB .any l.toArray) = true := by kernel_rfl) (h0 : R.all (fun e => e.p.isEmpty) = true := by kernel_rfl)
    (h : grpK P l.toArray κ M N l ds R ts = some (T, ixs, hs, cs, es) := by kernel_rfl) (he : grpA P l.toArray κ M N l ds R = grpB P l.toArray κ M N l ds R := by kernel_rfl) : (Code.seq (Code.region id l.toArray draw) rest).wp P Q a w :=
  wp_seq_k fun _ hK => region_q κ ds ts T ixs hs cs es hR hM hm hB h0 h he hi hes hh hc fun a' w' q1 q2 q3 => hK _ _ (k a' w' q1 q2 (hW.trans (q2.mono hW.size)) q3)
theorem qs (ds : List Dir) (ts : List Nat) (nw : List Ent) (hR : RSt N [] R a) (hM : Cells w M) (hW : Below w0.heap.size w0 w) (hm : P.follows .mixedOrders = true)
    (k : ∀ a' w', RSt N [] T a' → Below w.heap.size w w' → Below w0.heap.size w0 w' → Cells w' M → rest.wp P Q a' w')
    (hT : tabE R nw ts = T := by (simp only [Go.SX.tabE, Go.SX.lookE, Nat.reduceEqDiff, ↓reduceIte]; rfl)) (hB : (!draw || Region.lexB .any l.toArray) = true := by kernel_rfl) (h0 : R.all (fun e => e.p.isEmpty) = true := by kernel_rfl)
    (h : grpK P l.toArray [] M N l ds R ts = some (T, [], [], [], []) := by kernel_rfl) (he : grpA P l.toArray [] M N l ds R = grpB P l.toArray [] M N l ds R := by kernel_rfl) : (Code.seq (Code.region id l.toArray draw) rest).wp P Q a w :=
  qf [] ds ts nw [] [] [] [] hR hM hW hm trivial trivial (fun _ _ _ => trivial) (fun _ _ _ => trivial) k hT hB h0 h he
theorem qf0 (κ : List (Nat × Bool)) (ds : List Dir) (ts : List Nat) (nw : List Ent) (ixs : IxL) (hs : HsL) (cs : CsL) (es : EsL)
    (hR : RSt N [] R a) (hM : Cells w M) (hW : Below w0.heap.size w0 w) (hm : P.follows .mixedOrders = true) (hi : IxOk κ ixs) (hes : EsOk κ es)
    (hh : ∀ w', Below w.heap.size w w' → Cells w' M → HsOk P κ w' hs) (hc : ∀ w', Below w.heap.size w w' → Cells w' M → CsOk P κ w' cs)
    (k : ∀ a' w', RSt N [] T a' → Below w.heap.size w w' → Below w0.heap.size w0 w' → Cells w' M → Q .normal a' w')
    (hT : tabE R nw ts = T := by (simp only [Go.SX.tabE, Go.SX.lookE, Nat.reduceEqDiff, ↓reduceIte]; rfl)) (hB : (!draw || Region.lexB .any l.toArray) = true := by kernel_rfl) (h0 : R.all (fun e => e.p.isEmpty) = true := by kernel_rfl)
    (h : grpK P l.toArray κ M N l ds R ts = some (T, ixs, hs, cs, es) := by kernel_rfl) (he : grpA P l.toArray κ M N l ds R = grpB P l.toArray κ M N l ds R := by kernel_rfl) : (Code.region id l.toArray draw).wp P Q a w :=
  region_q κ ds ts T ixs hs cs es hR hM hm hB h0 h he hi hes hh hc fun a' w' q1 q2 q3 => k a' w' q1 q2 (hW.trans (q2.mono hW.size)) q3
theorem qs0 (ds : List Dir) (ts : List Nat) (nw : List Ent) (hR : RSt N [] R a) (hM : Cells w M) (hW : Below w0.heap.size w0 w) (hm : P.follows .mixedOrders = true)
    (k : ∀ a' w', RSt N [] T a' → Below w.heap.size w w' → Below w0.heap.size w0 w' → Cells w' M → Q .normal a' w')
    (hT : tabE R nw ts = T := by (simp only [Go.SX.tabE, Go.SX.lookE, Nat.reduceEqDiff, ↓reduceIte]; rfl)) (hB : (!draw || Region.lexB .any l.toArray) = true := by kernel_rfl) (h0 : R.all (fun e => e.p.isEmpty) = true := by kernel_rfl)
    (h : grpK P l.toArray [] M N l ds R ts = some (T, [], [], [], []) := by kernel_rfl) (he : grpA P l.toArray [] M N l ds R = grpB P l.toArray [] M N l ds R := by kernel_rfl) : (Code.region id l.toArray draw).wp P Q a w :=
  qf0 [] ds ts nw [] [] [] [] hR hM hW hm trivial trivial (fun _ _ _ => trivial) (fun _ _ _ => trivial) k hT hB h0 h he
end
end Go.SX
namespace Go.PX
open Go.RowKit Go.SX

/-- a value as plain data: sc: a value without addresses; ptr, rptr: a pointer into a block of the table; own: a slice that is a whole row of the table; imm: a slice that nobody writes, element by element; iptr: a pointer into an element of such a slice -/
inductive PV where
  | sc (v : Value)
  | ptr (id off : Nat)
  | rptr (id sz k i : Nat)
  | own (id sz len : Nat)
  | imm (sz : Nat) (rows : List (List PV))
  | iptr (row : List PV) (off : Nat)
  | agg (xs : List PV)
  | tup (xs : List PV)
  | map (id : Nat)
  | fn (f : FuncId) (first caps : List PV)
  | any
  deriving Inhabited

def scOk : Value → Bool
  | .agg _ | .tuple _ => false
  | _ => true
/-- a value of one cell -/
def PV.one : PV → Bool
  | .agg _ | .tup _ => false
  | _ => true
def ones : List PV → Bool
  | [] => true
  | x :: l => x.one && ones l

/-- names of blocks: where the block lies, and its row's capacity -/
abbrev Nm := Nat → Option (Nat × Nat)

/-- a value that holds no name: what is read of memory that nobody writes -/
inductive IR (Z : Nat → Prop) (w : World) : Value → PV → Prop
  | sc (v : Value) (h : scOk v = true) : IR Z w v (.sc v)
  | imm (A : Option Addr) (cap sz : Nat) (rows : List (List PV)) (U : Nat → Nat → Value) (h1 : rows.length ≤ cap ∧ rows.length ≤ 140737488351232) (h2 : cap ≤ 9223372036854775807 ∧ (A = none → cap = 0))
      (h3 : ∀ (k : Nat) (row : List PV), rows[k]? = some row → row.length = sz ∧ ones row = true ∧ ∃ b off, A = some ⟨b, off, none⟩ ∧ Z b ∧ ∀ i, i < sz → w.cell? ⟨b, off + k * sz + i, none⟩ = some (U k i))
      (h4 : ∀ (k : Nat) (row : List PV) (i : Nat) (x : PV), rows[k]? = some row → row[i]? = some x → IR Z w (U k i) x) : IR Z w (.slice A rows.length cap) (.imm sz rows)

inductive VR (σ : Nm) (Z : Nat → Prop) (w : World) : Value → PV → Prop
  | sc (v : Value) (h : scOk v = true) : VR σ Z w v (.sc v)
  | ptr (id off b c : Nat) (h : σ id = some (b, c)) : VR σ Z w (.pointer (some ⟨b, off, none⟩)) (.ptr id off)
  | rptr (id sz k i b c : Nat) (h : σ id = some (b, c)) : VR σ Z w (.pointer (some ⟨b, k * sz + i, none⟩)) (.rptr id sz k i)
  | own (id sz len b c : Nat) (h : σ id = some (b, c)) : VR σ Z w (.slice (some ⟨b, 0, none⟩) len c) (.own id sz len)
  | own0 (id sz : Nat) : VR σ Z w (.slice none 0 0) (.own id sz 0)
  | imm (v : Value) (sz : Nat) (rows : List (List PV)) (h : IR Z w v (.imm sz rows)) : VR σ Z w v (.imm sz rows)
  | iptr (b off i : Nat) (row : List PV) (U : Nat → Value) (ho : ones row = true) (hz : Z b) (hc : ∀ j, j < row.length → w.cell? ⟨b, off + j, none⟩ = some (U j))
      (h : ∀ (j : Nat) (x : PV), row[j]? = some x → IR Z w (U j) x) : VR σ Z w (.pointer (some ⟨b, off + i, none⟩)) (.iptr row i)
  | agg (l : List Value) (xs : List PV) (hl : l.length = xs.length) (ho : ones xs = true) (h : ∀ (i : Nat) (u : Value) (x : PV), l[i]? = some u → xs[i]? = some x → VR σ Z w u x) : VR σ Z w (.agg l.toArray) (.agg xs)
  | tup (l : List Value) (xs : List PV) (hl : l.length = xs.length) (h : ∀ (i : Nat) (u : Value) (x : PV), l[i]? = some u → xs[i]? = some x → VR σ Z w u x) : VR σ Z w (.tuple l.toArray) (.tup xs)
  | map (id b c : Nat) (h : σ id = some (b, c)) : VR σ Z w (.map (some b)) (.map id)
  | fn (f : FuncId) (l1 l2 : List Value) (x1 x2 : List PV) (hl1 : l1.length = x1.length) (hl2 : l2.length = x2.length) (h1 : ∀ (i : Nat) (u : Value) (x : PV), l1[i]? = some u → x1[i]? = some x → VR σ Z w u x) (h2 : ∀ (i : Nat) (u : Value) (x : PV), l2[i]? = some u → x2[i]? = some x → VR σ Z w u x) :
      VR σ Z w (.func (.func f) l1.toArray l2.toArray) (.fn f x1 x2)
  | any (v : Value) (h : v.oneCell' = true) : VR σ Z w v .any

/-- what has changed: the blocks of M, and new ones -/
structure Chg (M : Nat → Prop) (w w' : World) : Prop where
  os : w'.os = w.os
  tape : w'.tape = w.tape
  output : w'.output = w.output
  size : w.heap.size ≤ w'.heap.size
  block : ∀ b, b < w.heap.size → ¬ M b → w'.heap[b]? = w.heap[b]?
theorem Chg.refl (M : Nat → Prop) (w : World) : Chg M w w := ⟨rfl, rfl, rfl, Nat.le_refl _, fun _ _ _ => rfl⟩
theorem Chg.mono {M M' : Nat → Prop} {w w' : World} (h : Chg M w w') (hm : ∀ b, b < w.heap.size → M b → M' b) : Chg M' w w' := ⟨h.os, h.tape, h.output, h.size, fun b hb hn => h.block b hb fun q => hn (hm b hb q)⟩
theorem Chg.trans {M M' : Nat → Prop} {a b c : World} (h : Chg M a b) (k : Chg M' b c) : Chg (fun x => M x ∨ M' x) a c :=
  ⟨k.os.trans h.os, k.tape.trans h.tape, k.output.trans h.output, Nat.le_trans h.size k.size, fun x hx hn => by
    rw [k.block x (Nat.lt_of_lt_of_le hx h.size) fun q => hn (.inr q)]
    exact h.block x hx fun q => hn (.inl q)⟩
theorem Chg.cell {M : Nat → Prop} {w w' : World} (h : Chg M w w') {a : Addr} {v : Value} (hc : w.cell? a = some v) (hn : ¬ M a.block) : w'.cell? a = some v :=
  (World.cell?_of_block (w := w) (h.block a.block (World.block_lt_of_cell? w a hc) hn)).trans hc
theorem Chg.of_below {w w' : World} (h : Below w.heap.size w w') : Chg (fun _ => False) w w' := ⟨h.os, h.tape, h.output, h.size, fun b hb _ => h.block b hb⟩

def Ext (σ σ' : Nm) : Prop := ∀ id x, σ id = some x → σ' id = some x
theorem Ext.refl (σ : Nm) : Ext σ σ := fun _ _ h => h
theorem Ext.trans {a b c : Nm} (h : Ext a b) (k : Ext b c) : Ext a c := fun id x hx => k id x (h id x hx)

theorem IR.mono {Z Z' : Nat → Prop} {w w' : World} {M : Nat → Prop} (hz : ∀ b, Z b → Z' b) (hw : Chg M w w') (hd : ∀ b, Z b → ¬ M b) {v : Value} {x : PV} (h : IR Z w v x) : IR Z' w' v x := by
  induction h with
  | sc v h => exact .sc v h
  | imm A cap sz rows U h1 h2 h3 h4 ih =>
    refine .imm A cap sz rows U h1 h2 (fun k row hr => ?_) ih
    obtain ⟨q1, q2, b, off, q3, q4, q5⟩ := h3 k row hr
    exact ⟨q1, q2, b, off, q3, hz b q4, fun i hi => hw.cell (q5 i hi) (hd b q4)⟩
theorem IR.vr {σ : Nm} {Z : Nat → Prop} {w : World} {v : Value} {x : PV} (h : IR Z w v x) : VR σ Z w v x := by
  cases h with
  | sc v h => exact .sc v h
  | imm A cap sz rows U h1 h2 h3 h4 => exact .imm _ sz rows (.imm A cap sz rows U h1 h2 h3 h4)
theorem VR.mono {σ σ' : Nm} {Z Z' : Nat → Prop} {w w' : World} {M : Nat → Prop} (he : Ext σ σ') (hz : ∀ b, Z b → Z' b) (hw : Chg M w w') (hd : ∀ b, Z b → ¬ M b) {v : Value} {x : PV} (h : VR σ Z w v x) : VR σ' Z' w' v x := by
  induction h with
  | sc v h => exact .sc v h
  | ptr id off b c h => exact .ptr id off b c (he _ _ h)
  | rptr id sz k i b c h => exact .rptr id sz k i b c (he _ _ h)
  | own id sz len b c h => exact .own id sz len b c (he _ _ h)
  | own0 id sz => exact .own0 id sz
  | imm v sz rows h => exact .imm v sz rows (h.mono hz hw hd)
  | iptr b off i row U ho hzb hc h => exact .iptr b off i row U ho (hz b hzb) (fun j hj => hw.cell (hc j hj) (hd b hzb)) fun j x hx => (h j x hx).mono hz hw hd
  | agg l xs hl ho h ih => exact .agg l xs hl ho ih
  | tup l xs hl h ih => exact .tup l xs hl ih
  | map id b c h => exact .map id b c (he _ _ h)
  | fn f l1 l2 x1 x2 hl1 hl2 h1 h2 ih1 ih2 => exact .fn f l1 l2 x1 x2 hl1 hl2 ih1 ih2
  | any v h => exact .any v h

/-- values of cells, one by one -/
def VRs (σ : Nm) (Z : Nat → Prop) (w : World) (l : List Value) (xs : List PV) : Prop := l.length = xs.length ∧ ∀ (i : Nat) (u : Value) (x : PV), l[i]? = some u → xs[i]? = some x → VR σ Z w u x
theorem VRs.mono {σ σ' : Nm} {Z Z' : Nat → Prop} {w w' : World} {M : Nat → Prop} (he : Ext σ σ') (hz : ∀ b, Z b → Z' b) (hw : Chg M w w') (hd : ∀ b, Z b → ¬ M b) {l : List Value} {xs : List PV} (h : VRs σ Z w l xs) : VRs σ' Z' w' l xs :=
  ⟨h.1, fun i u x hu hx => (h.2 i u x hu hx).mono he hz hw hd⟩
theorem VRs.nil {σ : Nm} {Z : Nat → Prop} {w : World} : VRs σ Z w [] [] := ⟨rfl, fun i u x h => by simp at h⟩
theorem VRs.cons {σ : Nm} {Z : Nat → Prop} {w : World} {u : Value} {x : PV} {l : List Value} {xs : List PV} (h : VR σ Z w u x) (h' : VRs σ Z w l xs) : VRs σ Z w (u :: l) (x :: xs) :=
  ⟨by simp [h'.1], fun i u' x' hu hx => by
    cases i with
    | zero => simp only [List.getElem?_cons_zero, Option.some.injEq] at hu hx; subst hu hx; exact h
    | succ i => exact h'.2 i u' x' (by simpa using hu) (by simpa using hx)⟩
theorem VRs.inv {σ : Nm} {Z : Nat → Prop} {w : World} {l : List Value} {x : PV} {xs : List PV} (h : VRs σ Z w l (x :: xs)) : ∃ u l', l = u :: l' ∧ VR σ Z w u x ∧ VRs σ Z w l' xs := by
  cases l with
  | nil => exact absurd h.1 (by simp)
  | cons u l' => exact ⟨u, l', rfl, h.2 0 u x rfl rfl, by simpa using h.1, fun i u' x' hu hx => h.2 (i + 1) u' x' (by simpa using hu) (by simpa using hx)⟩
theorem VRs.get {σ : Nm} {Z : Nat → Prop} {w : World} {l : List Value} {xs : List PV} (h : VRs σ Z w l xs) {i : Nat} {x : PV} (hx : xs[i]? = some x) : ∃ u, l[i]? = some u ∧ VR σ Z w u x := by
  have hi := (List.getElem?_eq_some_iff.1 hx).1
  obtain ⟨u, hu⟩ : ∃ u, l[i]? = some u := ⟨l[i]'(by rw [h.1]; exact hi), List.getElem?_eq_getElem _⟩
  exact ⟨u, hu, h.2 i u x hu hx⟩
theorem VRs.append {σ : Nm} {Z : Nat → Prop} {w : World} {l l' : List Value} {xs xs' : List PV} (h : VRs σ Z w l xs) (h' : VRs σ Z w l' xs') : VRs σ Z w (l ++ l') (xs ++ xs') := by
  refine ⟨by simp [h.1, h'.1], fun i u x hu hx => ?_⟩
  rcases Nat.lt_or_ge i l.length with hi | hi
  · rw [List.getElem?_append_left hi] at hu
    rw [List.getElem?_append_left (by rw [← h.1]; exact hi)] at hx
    exact h.2 i u x hu hx
  · rw [List.getElem?_append_right hi] at hu
    rw [List.getElem?_append_right (by rw [← h.1]; exact hi), ← h.1] at hx
    exact h'.2 _ u x hu hx
theorem VRs.set {σ : Nm} {Z : Nat → Prop} {w : World} {l : List Value} {xs : List PV} (h : VRs σ Z w l xs) {i : Nat} {u : Value} {x : PV} (hu : VR σ Z w u x) : VRs σ Z w (l.set i u) (xs.set i x) := by
  refine ⟨by simp [h.1], fun j u' x' h1 h2 => ?_⟩
  rw [List.getElem?_set] at h1 h2
  by_cases hij : i = j
  · subst hij
    simp only [if_true] at h1 h2
    split at h1
    · rename_i q
      rw [if_pos (by rw [← h.1]; exact q)] at h2
      simp only [Option.some.injEq] at h1 h2
      subst h1 h2; exact hu
    · simp at h1
  · rw [if_neg hij] at h1 h2
    exact h.2 j u' x' h1 h2
theorem VRs.take {σ : Nm} {Z : Nat → Prop} {w : World} {l : List Value} {xs : List PV} (h : VRs σ Z w l xs) (n : Nat) : VRs σ Z w (l.take n) (xs.take n) :=
  ⟨by simp [h.1], fun i u x hu hx => by
    rw [List.getElem?_take] at hu hx
    split at hu
    · rename_i q; rw [if_pos q] at hx; exact h.2 i u x hu hx
    · simp at hu⟩
theorem VRs.drop {σ : Nm} {Z : Nat → Prop} {w : World} {l : List Value} {xs : List PV} (h : VRs σ Z w l xs) (n : Nat) : VRs σ Z w (l.drop n) (xs.drop n) :=
  ⟨by simp [h.1], fun i u x hu hx => by
    rw [List.getElem?_drop] at hu hx
    exact h.2 _ u x hu hx⟩

def IRs (Z : Nat → Prop) (w : World) (l : List Value) (xs : List PV) : Prop := l.length = xs.length ∧ ∀ (i : Nat) (u : Value) (x : PV), l[i]? = some u → xs[i]? = some x → IR Z w u x
/-- cells of a row; pure: they hold no names -/
def CRs (pure : Bool) (σ : Nm) (Z : Nat → Prop) (w : World) (l : List Value) (xs : List PV) : Prop := VRs σ Z w l xs ∧ (pure = true → IRs Z w l xs)
theorem IRs.vrs {σ : Nm} {Z : Nat → Prop} {w : World} {l : List Value} {xs : List PV} (h : IRs Z w l xs) : VRs σ Z w l xs := ⟨h.1, fun i u x hu hx => (h.2 i u x hu hx).vr⟩
theorem IRs.mono {Z Z' : Nat → Prop} {w w' : World} {M : Nat → Prop} (hz : ∀ b, Z b → Z' b) (hw : Chg M w w') (hd : ∀ b, Z b → ¬ M b) {l : List Value} {xs : List PV} (h : IRs Z w l xs) : IRs Z' w' l xs :=
  ⟨h.1, fun i u x hu hx => (h.2 i u x hu hx).mono hz hw hd⟩
theorem CRs.mono {pure : Bool} {σ σ' : Nm} {Z Z' : Nat → Prop} {w w' : World} {M : Nat → Prop} (he : Ext σ σ') (hz : ∀ b, Z b → Z' b) (hw : Chg M w w') (hd : ∀ b, Z b → ¬ M b) {l : List Value} {xs : List PV} (h : CRs pure σ Z w l xs) : CRs pure σ' Z' w' l xs :=
  ⟨h.1.mono he hz hw hd, fun hp => (h.2 hp).mono hz hw hd⟩
theorem IRs.append {Z : Nat → Prop} {w : World} {l l' : List Value} {xs xs' : List PV} (h : IRs Z w l xs) (h' : IRs Z w l' xs') : IRs Z w (l ++ l') (xs ++ xs') := by
  refine ⟨by simp [h.1, h'.1], fun i u x hu hx => ?_⟩
  rcases Nat.lt_or_ge i l.length with hi | hi
  · rw [List.getElem?_append_left hi] at hu
    rw [List.getElem?_append_left (by rw [← h.1]; exact hi)] at hx
    exact h.2 i u x hu hx
  · rw [List.getElem?_append_right hi] at hu
    rw [List.getElem?_append_right (by rw [← h.1]; exact hi), ← h.1] at hx
    exact h'.2 _ u x hu hx
theorem IRs.take {Z : Nat → Prop} {w : World} {l : List Value} {xs : List PV} (h : IRs Z w l xs) (n : Nat) : IRs Z w (l.take n) (xs.take n) :=
  ⟨by simp [h.1], fun i u x hu hx => by
    rw [List.getElem?_take] at hu hx
    split at hu
    · rename_i q; rw [if_pos q] at hx; exact h.2 i u x hu hx
    · simp at hu⟩
theorem IRs.drop {Z : Nat → Prop} {w : World} {l : List Value} {xs : List PV} (h : IRs Z w l xs) (n : Nat) : IRs Z w (l.drop n) (xs.drop n) :=
  ⟨by simp [h.1], fun i u x hu hx => by
    rw [List.getElem?_drop] at hu hx
    exact h.2 _ u x hu hx⟩
theorem CRs.append {p p' : Bool} {σ : Nm} {Z : Nat → Prop} {w : World} {l l' : List Value} {xs xs' : List PV} (h : CRs p σ Z w l xs) (h' : CRs p' σ Z w l' xs') : CRs (p && p') σ Z w (l ++ l') (xs ++ xs') :=
  ⟨h.1.append h'.1, fun hp => by simp only [Bool.and_eq_true] at hp; exact (h.2 hp.1).append (h'.2 hp.2)⟩
theorem CRs.take {p : Bool} {σ : Nm} {Z : Nat → Prop} {w : World} {l : List Value} {xs : List PV} (h : CRs p σ Z w l xs) (n : Nat) : CRs p σ Z w (l.take n) (xs.take n) := ⟨h.1.take n, fun hp => (h.2 hp).take n⟩
theorem CRs.drop {p : Bool} {σ : Nm} {Z : Nat → Prop} {w : World} {l : List Value} {xs : List PV} (h : CRs p σ Z w l xs) (n : Nat) : CRs p σ Z w (l.drop n) (xs.drop n) := ⟨h.1.drop n, fun hp => (h.2 hp).drop n⟩
theorem CRs.nil {p : Bool} {σ : Nm} {Z : Nat → Prop} {w : World} : CRs p σ Z w [] [] := ⟨.nil, fun _ => ⟨rfl, fun i u x h => by simp at h⟩⟩
/-- values that hold no names, by their form -/
def isPure : PV → Bool
  | .sc _ | .imm .. => true
  | _ => false
def pures : List PV → Bool
  | [] => true
  | x :: l => isPure x && pures l
theorem VR.ir {σ : Nm} {Z : Nat → Prop} {w : World} {v : Value} {x : PV} (h : VR σ Z w v x) (hp : isPure x = true) : IR Z w v x := by
  cases h with
  | sc v h => exact .sc v h
  | imm v sz rows h => exact h
  | _ => simp [isPure] at hp
theorem VRs.crs {σ : Nm} {Z : Nat → Prop} {w : World} : ∀ {l : List Value} {xs : List PV}, VRs σ Z w l xs → CRs (pures xs) σ Z w l xs := fun {l xs} h => ⟨h, fun hp => ⟨h.1, fun i u x hu hx => by
  refine (h.2 i u x hu hx).ir ?_
  clear h hu
  induction xs generalizing i with
  | nil => simp at hx
  | cons y xs ih =>
    simp only [pures, Bool.and_eq_true] at hp
    cases i with
    | zero => simp only [List.getElem?_cons_zero, Option.some.injEq] at hx; subst hx; exact hp.1
    | succ i => exact ih hp.2 (i := i) (by simpa using hx)⟩⟩

/-- a block of the table: box: a variable or a struct; row: the array behind a slice, of which the first elements are known -/
inductive PO where
  | box (e : TypeId) (xs : List PV)
  | row (e : TypeId) (sz : Nat) (pure : Bool) (rows : List (List PV))
  | mp (D : List (Int × Value))
  | rmap (es : Array MapEntry) (cl : Nat)
  | rit (m since : Nat) (seen : Array Nat) (c0 : Nat)
  | ty (v : Value) (x : PV)
  deriving Inhabited
/-- the entries of a map from ints -/
def MapOk (es : List MapEntry) (D : List (Int × Value)) : Prop := es.map (fun e => (e.key, e.val)) = D.map (fun p => (Value.int .i64 p.1, p.2))
abbrev Heap := List (Nat × PO)
def hlook : Heap → Nat → Option PO
  | [], _ => none
  | x :: H, id => bif Nat.beq x.1 id then some x.2 else hlook H id

def rowsOk (sz : Nat) : List (List PV) → Prop := fun rows => ∀ r ∈ rows, r.length = sz ∧ ones r = true

def OR (σ : Nm) (Z : Nat → Prop) (w : World) (id : Nat) : PO → Prop
  | .box e xs => ∃ b c C, σ id = some (b, c) ∧ w.heap[b]? = some (.cells (C : List Value).toArray e (0, 0)) ∧ ones xs = true ∧ VRs σ Z w C xs
  | .row e sz pure rows => rowsOk sz rows ∧ (rows.length ≤ 1000000000 ∧ (rows ≠ [] → σ id ≠ none)) ∧ ∀ b c, σ id = some (b, c) → ∃ C, w.heap[b]? = some (.cells (C : List Value).toArray e (0, 0)) ∧ C.length = c * sz ∧ rows.length ≤ c ∧ c ≤ 9223372036854775807 ∧ CRs pure σ Z w (C.take (rows.length * sz)) rows.flatten
  | .mp D => (∀ p ∈ D, scOk p.2 = true) ∧ ∃ b c es cl, σ id = some (b, c) ∧ w.heap[b]? = some (.map es cl) ∧ MapOk es.toList D
  | .rmap es cl => ∃ b c, σ id = some (b, c) ∧ w.heap[b]? = some (.map es cl)
  | .rit m since seen c0 => ∃ b c bm cm, σ id = some (b, c) ∧ σ m = some (bm, cm) ∧ w.heap[b]? = some (.mapIter (some bm) since seen c0)
  | .ty v x => σ id = none ∧ x.one = true ∧ VR σ Z w v x
theorem OR.mono {σ σ' : Nm} {Z Z' : Nat → Prop} {w w' : World} {M : Nat → Prop} (he : Ext σ σ') (hz : ∀ b, Z b → Z' b) (hw : Chg M w w') (hd : ∀ b, Z b → ¬ M b) {id : Nat} {o : PO} (hs : σ' id = σ id) (hn : ∀ b c, σ id = some (b, c) → ¬ M b) (h : OR σ Z w id o) : OR σ' Z' w' id o := by
  cases o with
  | box e xs =>
    obtain ⟨b, c, C, h1, h2, h3, h4⟩ := h
    exact ⟨b, c, C, hs.trans h1, (hw.block b (Array.getElem?_eq_some_iff.1 h2).1 (hn b c h1)).trans h2, h3, h4.mono he hz hw hd⟩
  | row e sz pure rows =>
    obtain ⟨h1, h2, h3⟩ := h
    refine ⟨h1, ⟨h2.1, fun q => by rw [hs]; exact h2.2 q⟩, fun b c hb => ?_⟩
    rw [hs] at hb
    obtain ⟨C, q1, q2, q3, q4, q5⟩ := h3 b c hb
    exact ⟨C, (hw.block b (Array.getElem?_eq_some_iff.1 q1).1 (hn b c hb)).trans q1, q2, q3, q4, q5.mono he hz hw hd⟩
  | mp D =>
    obtain ⟨h0, b, c, es, cl, h1, h2, h3⟩ := h
    exact ⟨h0, b, c, es, cl, hs.trans h1, (hw.block b (Array.getElem?_eq_some_iff.1 h2).1 (hn b c h1)).trans h2, h3⟩
  | rmap es cl =>
    obtain ⟨b, c, h1, h2⟩ := h
    exact ⟨b, c, hs.trans h1, (hw.block b (Array.getElem?_eq_some_iff.1 h2).1 (hn b c h1)).trans h2⟩
  | rit m since seen c0 =>
    obtain ⟨b, c, bm, cm, h1, h2, h3⟩ := h
    exact ⟨b, c, bm, cm, hs.trans h1, he _ _ h2, (hw.block b (Array.getElem?_eq_some_iff.1 h3).1 (hn b c h1)).trans h3⟩
  | ty v x => exact ⟨hs.trans h.1, h.2.1, h.2.2.mono he hz hw hd⟩

structure HR (σ : Nm) (Z : Nat → Prop) (w : World) (H : Heap) : Prop where
  at_ : ∀ id o, hlook H id = some o → OR σ Z w id o
  inj : ∀ id id' o o' b c c', hlook H id = some o → hlook H id' = some o' → σ id = some (b, c) → σ id' = some (b, c') → id = id'
  off : ∀ id o b c, hlook H id = some o → σ id = some (b, c) → ¬ Z b
  zlt : ∀ b, Z b → b < w.heap.size
end Go.PX
namespace Go.PX
open Go.RowKit Go.SX

abbrev Upd := List (Nat × Option PO)
def ulook : Upd → Nat → Option (Option PO)
  | [], _ => none
  | x :: U, id => bif Nat.beq x.1 id then some x.2 else ulook U id

/-- what an operation has done to the blocks of the table Hc that it was handed: U tells the new state of some, and the new ones -/
structure Eff (σ : Nm) (Z : Nat → Prop) (w : World) (Hc : Heap) (U : Upd) (σ' : Nm) (Z' : Nat → Prop) (w' : World) : Prop where
  ext : Ext σ σ'
  dom : ∀ id, σ id = none → (ulook U id = none ∨ hlook Hc id ≠ none) → σ' id = none
  zmono : ∀ b, Z b → Z' b
  znew : ∀ b, Z' b → Z b ∨ (w.heap.size ≤ b ∧ b < w'.heap.size) ∨ ∃ id o c, ulook U id ≠ none ∧ hlook Hc id = some o ∧ σ id = some (b, c)
  chg : Chg (fun b => ∃ id o c, ulook U id ≠ none ∧ hlook Hc id = some o ∧ σ id = some (b, c)) w w'
  objs : ∀ id o, ulook U id = some (some o) → OR σ' Z' w' id o
  off : ∀ id o b c, ulook U id = some (some o) → σ' id = some (b, c) → ¬ Z' b ∧ (w.heap.size ≤ b ∨ ∃ i o' c', ulook U i ≠ none ∧ hlook Hc i = some o' ∧ σ i = some (b, c'))
  inj : ∀ id id' o o' b c c', ulook U id = some (some o) → ulook U id' = some (some o') → σ' id = some (b, c) → σ' id' = some (b, c') → id = id'

theorem Eff.refl (σ : Nm) (Z : Nat → Prop) (w : World) (Hc : Heap) : Eff σ Z w Hc [] σ Z w :=
  ⟨Ext.refl σ, fun _ h _ => h, fun _ h => h, fun _ h => .inl h, Chg.refl _ _, fun id o h => by simp [ulook] at h, fun id o b c h => by simp [ulook] at h, fun id id' o o' b c c' h => by simp [ulook] at h⟩

def Exec (P : Program) (o : Oper) (a : Act) (w : World) (σ : Nm) (Z : Nat → Prop) (Hc : Heap) (res : Option PV) (U : Upd) : Prop :=
  ∀ (K : Act → World → Prop) (Q : Exit → Act → World → Prop), (∀ v w' σ' Z', (∀ x, res = some x → VR σ' Z' w' v x) → Eff σ Z w Hc U σ' Z' w' → K (a.put o.dst v) w') → o.wp P a w K Q

theorem exec_value {P : Program} {o : Oper} {a : Act} {w w' : World} {σ σ' : Nm} {Z Z' : Nat → Prop} {Hc : Heap} {v : Value} {x : PV} {U : Upd} (hr : (execOp a.eval o).run P w = .ok (.value v) w') (hv : VR σ' Z' w' v x) (he : Eff σ Z w Hc U σ' Z' w') : Exec P o a w σ Z Hc (some x) U := fun K Q hK => by
  unfold Oper.wp; rw [hr]
  exact hK v w' σ' Z' (fun x' hx => by simp only [Option.some.injEq] at hx; subst hx; exact hv) he
theorem exec_quiet {P : Program} {o : Oper} {a : Act} {w : World} {σ : Nm} {Z : Nat → Prop} {Hc : Heap} {v : Value} {x : PV} (hr : (execOp a.eval o).run P w = .ok (.value v) w) (hv : VR σ Z w v x) : Exec P o a w σ Z Hc (some x) [] :=
  exec_value hr hv (Eff.refl _ _ _ _)
theorem exec_skip {P : Program} {o : Oper} {a : Act} {w w' : World} {σ σ' : Nm} {Z Z' : Nat → Prop} {Hc : Heap} {U : Upd} (hr : (execOp a.eval o).run P w = .ok .skip w') (he : Eff σ Z w Hc U σ' Z' w') : Exec P o a w σ Z Hc none U := fun K Q hK => by
  unfold Oper.wp; rw [hr]
  exact hK undef w' σ' Z' (fun x' hx => by cases hx) he

/-! pure computations, by the kernel -/
def evl {α : Type} (P : Program) (s : Sem α) : Option α :=
  match tr P s [] with
  | some ([], r) => some r
  | _ => none
theorem evl_run {α : Type} {P : Program} {s : Sem α} {r : α} (h : evl P s = some r) (w : World) : s.run P w = .ok r w := by
  unfold evl at h
  split at h
  · rename_i r' ht
    simp only [Option.some.injEq] at h
    subst h
    exact tr_sound (w := w) s [] [] _ ht trivial
  · simp at h

/-! values without addresses -/
def ofCells : List Value → Option (List PV)
  | [] => some []
  | v :: l => bif scOk v then (ofCells l).map (.sc v :: ·) else none
def ofV1 : Value → Option PV
  | .agg cs => (ofCells cs.toList).map .agg
  | v => bif scOk v then some (.sc v) else none
def ofVs : List Value → Option (List PV)
  | [] => some []
  | v :: l => match ofV1 v, ofVs l with
    | some x, some xs => some (x :: xs)
    | _, _ => none
def ofV : Value → Option PV
  | .tuple vs => (ofVs vs.toList).map .tup
  | v => ofV1 v
theorem ofCells_spec {σ : Nm} {Z : Nat → Prop} {w : World} : ∀ {l : List Value} {xs : List PV}, ofCells l = some xs → VRs σ Z w l xs ∧ ones xs = true
  | [], xs, h => by simp only [ofCells, Option.some.injEq] at h; subst h; exact ⟨VRs.nil, rfl⟩
  | v :: l, xs, h => by
    simp only [ofCells] at h
    cases hs : scOk v with
    | false => rw [hs] at h; simp at h
    | true =>
      rw [hs] at h
      simp only [cond_true, Option.map_eq_some_iff] at h
      obtain ⟨ys, h1, rfl⟩ := h
      obtain ⟨h2, h3⟩ := ofCells_spec h1
      exact ⟨.cons (.sc v hs) h2, by simp [ones, PV.one, h3]⟩
theorem ofV1_spec {σ : Nm} {Z : Nat → Prop} {w : World} {v : Value} {x : PV} (h : ofV1 v = some x) : VR σ Z w v x := by
  unfold ofV1 at h
  split at h
  · rename_i cs
    obtain ⟨ys, h1, rfl⟩ := Option.map_eq_some_iff.1 h
    obtain ⟨h2, h3⟩ := ofCells_spec (σ := σ) (Z := Z) (w := w) h1
    exact .agg cs.toList ys h2.1 h3 h2.2
  · cases hs : scOk v with
    | false => rw [hs] at h; simp at h
    | true => rw [hs] at h; simp only [cond_true, Option.some.injEq] at h; subst h; exact .sc v hs
theorem ofVs_spec {σ : Nm} {Z : Nat → Prop} {w : World} : ∀ {l : List Value} {xs : List PV}, ofVs l = some xs → VRs σ Z w l xs
  | [], xs, h => by simp only [ofVs, Option.some.injEq] at h; subst h; exact VRs.nil
  | v :: l, xs, h => by
    simp only [ofVs] at h
    split at h
    · rename_i x ys h1 h2
      simp only [Option.some.injEq] at h; subst h
      exact .cons (ofV1_spec h1) (ofVs_spec h2)
    · simp at h
theorem ofV_spec {σ : Nm} {Z : Nat → Prop} {w : World} {v : Value} {x : PV} (h : ofV v = some x) : VR σ Z w v x := by
  unfold ofV at h
  split at h
  · rename_i vs
    obtain ⟨ys, h1, rfl⟩ := Option.map_eq_some_iff.1 h
    have h2 := ofVs_spec (σ := σ) (Z := Z) (w := w) h1
    exact .tup vs.toList ys h2.1 h2.2
  · exact ofV1_spec h

def toCells : List PV → Option (List Value)
  | [] => some []
  | .sc v :: l => (toCells l).map (v :: ·)
  | _ :: _ => none
def toV : PV → Option Value
  | .sc v => some v
  | .agg xs => (toCells xs).map fun l => .agg l.toArray
  | .tup xs => (toCells xs).map fun l => .tuple l.toArray
  | _ => none
theorem toCells_spec {σ : Nm} {Z : Nat → Prop} {w : World} : ∀ {xs : List PV} {l l' : List Value}, VRs σ Z w l xs → toCells xs = some l' → l = l'
  | [], l, l', h, e => by
    simp only [toCells, Option.some.injEq] at e; subst e
    exact List.length_eq_zero_iff.1 (by simpa using h.1)
  | x :: xs, l, l', h, e => by
    obtain ⟨u, l1, rfl, h1, h2⟩ := h.inv
    cases x with
    | sc v =>
      simp only [toCells, Option.map_eq_some_iff] at e
      obtain ⟨l2, e1, rfl⟩ := e
      cases h1
      rw [toCells_spec h2 e1]
    | _ => simp [toCells] at e
theorem toV_spec {σ : Nm} {Z : Nat → Prop} {w : World} {v v' : Value} {x : PV} (h : VR σ Z w v x) (e : toV x = some v') : v = v' := by
  cases h with
  | sc v h => simp only [toV, Option.some.injEq] at e; exact e
  | agg l xs hl ho h =>
    simp only [toV, Option.map_eq_some_iff] at e
    obtain ⟨l', e1, rfl⟩ := e
    rw [toCells_spec ⟨hl, h⟩ e1]
  | tup l xs hl h =>
    simp only [toV, Option.map_eq_some_iff] at e
    obtain ⟨l', e1, rfl⟩ := e
    rw [toCells_spec ⟨hl, h⟩ e1]
  | _ => simp [toV] at e

/-! slots -/
structure Ent where
  t : Nat
  p : List (Nat × Bool)
  v : PV
def look : List Ent → Nat → Option Ent
  | [], _ => none
  | e :: R, t => bif Nat.beq e.t t then some e else look R t

def Slot (σ : Nm) (Z : Nat → Prop) (w : World) (κ : List (Nat × Bool)) (e : Ent) (u : Option Value) : Prop :=
  (pv κ e.p = true → ∃ v, u = some v ∧ VR σ Z w v e.v) ∧ (pv κ e.p = false → u = some undef)
structure RS (σ : Nm) (Z : Nat → Prop) (w : World) (N : Nat) (κ : List (Nat × Bool)) (R : List Ent) (a : Act) : Prop where
  defers : a.defers = []
  size : a.tmps.size = N
  at_ : ∀ t e, look R t = some e → Slot σ Z w κ e a.tmps[t]?

theorem Slot.mono {σ σ' : Nm} {Z Z' : Nat → Prop} {w w' : World} {M : Nat → Prop} (he : Ext σ σ') (hz : ∀ b, Z b → Z' b) (hw : Chg M w w') (hd : ∀ b, Z b → ¬ M b) {κ : List (Nat × Bool)} {e : Ent} {u : Option Value} (h : Slot σ Z w κ e u) : Slot σ' Z' w' κ e u :=
  ⟨fun hp => by obtain ⟨v, h1, h2⟩ := h.1 hp; exact ⟨v, h1, h2.mono he hz hw hd⟩, h.2⟩

/-- an operand: what it holds on a path -/
def opd (R : List Ent) (p : List (Nat × Bool)) : Operand → Option PV
  | .tmp t => match look R t with
    | some e => bif sub e.p p then some e.v else none
    | none => none
  | .const v => ofV v
  | .func f => some (.fn f [] [])
  | .global _ => none

theorem RS.opd {σ : Nm} {Z : Nat → Prop} {w : World} {N : Nat} {κ : List (Nat × Bool)} {R : List Ent} {a : Act} (h : RS σ Z w N κ R a) {p : List (Nat × Bool)} (hp : pv κ p = true) {x : Operand} {y : PV} (hx : PX.opd R p x = some y) : VR σ Z w (a.eval x) y := by
  cases x with
  | tmp t =>
    simp only [PX.opd] at hx
    cases hl : look R t with
    | none => rw [hl] at hx; simp at hx
    | some e =>
      rw [hl] at hx
      simp only at hx
      cases hs : sub e.p p with
      | false => rw [hs] at hx; simp at hx
      | true =>
        rw [hs] at hx
        simp only [cond_true, Option.some.injEq] at hx
        subst hx
        obtain ⟨v, h1, h2⟩ := (h.at_ t e hl).1 (pv_sub hs hp)
        have e1 : a.eval (.tmp t) = v := by simp [Act.eval, h1]
        rw [e1]; exact h2
  | const v => exact ofV_spec hx
  | func f =>
    simp only [PX.opd, Option.some.injEq] at hx
    subst hx
    exact .fn f [] [] [] [] rfl rfl (fun i u x h => by simp at h) (fun i u x h => by simp at h)
  | global g => simp [PX.opd] at hx

/-- the values of operands without addresses -/
def rhoS (R : List Ent) (p : List (Nat × Bool)) (x : Operand) : Value := ((opd R p x).bind toV).getD undef
def allS (R : List Ent) (p : List (Nat × Bool)) : List Operand → Bool
  | [] => true
  | x :: l => ((opd R p x).bind toV).isSome && allS R p l
theorem allS_mem {R : List Ent} {p : List (Nat × Bool)} : ∀ {l : List Operand}, allS R p l = true → ∀ x ∈ l, ((opd R p x).bind toV).isSome = true
  | y :: l, h, x, hx => by
    simp only [allS, Bool.and_eq_true] at h
    rcases List.mem_cons.1 hx with rfl | hx
    · exact h.1
    · exact allS_mem h.2 x hx

/-- an operation on values without addresses: the model's own text is run -/
def scal (P : Program) (R : List Ent) (p : List (Nat × Bool)) (o : Oper) : Option PV :=
  bif allS R p o.op.operands.toList && !isSelect o.op then
    match evl P (execOp (rhoS R p) o) with
    | some (.value v) => ofV v
    | _ => none
  else none
theorem RS.evalS {σ : Nm} {Z : Nat → Prop} {w : World} {N : Nat} {κ : List (Nat × Bool)} {R : List Ent} {a : Act} (h : RS σ Z w N κ R a) {p : List (Nat × Bool)} (hp : pv κ p = true) {x : Operand} (hx : ((PX.opd R p x).bind toV).isSome = true) : a.eval x = rhoS R p x := by
  unfold rhoS
  cases ho : PX.opd R p x with
  | none => rw [ho] at hx; simp at hx
  | some y =>
    rw [ho] at hx
    simp only [Option.bind_some] at hx ⊢
    cases hv : toV y with
    | none => rw [hv] at hx; simp at hx
    | some v => exact toV_spec (h.opd hp ho) hv
theorem scal_sound {P : Program} {σ : Nm} {Z : Nat → Prop} {w : World} {N : Nat} {κ : List (Nat × Bool)} {R : List Ent} {a : Act} {Hc : Heap} (h : RS σ Z w N κ R a) {p : List (Nat × Bool)} (hp : pv κ p = true) {o : Oper} {x : PV} (hx : scal P R p o = some x) : Exec P o a w σ Z Hc (some x) [] := by
  unfold scal at hx
  cases hk : (allS R p o.op.operands.toList && !isSelect o.op) with
  | false => rw [hk] at hx; simp at hx
  | true =>
    rw [hk] at hx
    simp only [cond_true] at hx
    simp only [Bool.and_eq_true, Bool.not_eq_true'] at hk
    split at hx
    · rename_i v he
      refine exec_quiet (v := v) ?_ (ofV_spec hx)
      rw [execOp_congr (ρ' := rhoS R p) o (fun cs b e => by rw [e] at hk; simp [isSelect] at hk) (fun x hx' => h.evalS hp (allS_mem hk.1 x (by simpa using hx')))]
      exact evl_run he w
    · simp at hx
end Go.PX
namespace Go.PX
open Go.RowKit Go.SX

theorem add_off (b off j : Nat) : (⟨b, off, none⟩ : Addr).add j = ⟨b, off + j, none⟩ := by unfold Addr.add; split <;> simp_all
theorem VR.oneCell {σ : Nm} {Z : Nat → Prop} {w : World} {v : Value} {x : PV} (h : VR σ Z w v x) (ho : x.one = true) : v.oneCell' = true := by
  cases h with
  | sc v h => cases v <;> simp_all [scOk, Value.oneCell']
  | agg => simp [PV.one] at ho
  | tup => simp [PV.one] at ho
  | imm v sz rows h => cases h; simp [Value.oneCell']
  | any v h => exact h
  | _ => simp [Value.oneCell']
theorem ones_get {xs : List PV} (h : ones xs = true) {i : Nat} {x : PV} (hx : xs[i]? = some x) : x.one = true := by
  induction xs generalizing i with
  | nil => simp at hx
  | cons y xs ih =>
    simp only [ones, Bool.and_eq_true] at h
    cases i with
    | zero => simp only [List.getElem?_cons_zero, Option.some.injEq] at hx; subst hx; exact h.1
    | succ i => exact ih h.2 (by simpa using hx)
theorem ones_append {xs ys : List PV} (h : ones xs = true) (h' : ones ys = true) : ones (xs ++ ys) = true := by
  induction xs with
  | nil => exact h'
  | cons x xs ih => simp only [ones, Bool.and_eq_true] at h; simp [ones, h.1, ih h.2]
theorem ones_take {xs : List PV} (h : ones xs = true) (n : Nat) : ones (xs.take n) = true := by
  induction xs generalizing n with
  | nil => simp [ones]
  | cons x xs ih =>
    simp only [ones, Bool.and_eq_true] at h
    cases n with
    | zero => rfl
    | succ n => simp [ones, h.1, ih h.2]
theorem ones_drop {xs : List PV} (h : ones xs = true) (n : Nat) : ones (xs.drop n) = true := by
  induction xs generalizing n with
  | nil => simp [ones]
  | cons x xs ih =>
    simp only [ones, Bool.and_eq_true] at h
    cases n with
    | zero => simp [ones, h.1, h.2]
    | succ n => simpa using ih h.2 n
theorem VRs.oneCell {σ : Nm} {Z : Nat → Prop} {w : World} {l : List Value} {xs : List PV} (h : VRs σ Z w l xs) (ho : ones xs = true) : ∀ u ∈ l, u.oneCell' = true := fun u hu => by
  obtain ⟨i, hi⟩ := List.mem_iff_getElem?.1 hu
  have hlt := (List.getElem?_eq_some_iff.1 hi).1
  obtain ⟨x, hx⟩ : ∃ x, xs[i]? = some x := ⟨xs[i]'(by rw [← h.1]; exact hlt), List.getElem?_eq_getElem _⟩
  exact (h.2 i u x hi hx).oneCell (ones_get ho hx)

/-- the cells of a value -/
def pcells : PV → List PV
  | .agg xs => xs
  | x => [x]
def isTup : PV → Bool
  | .tup _ => true
  | _ => false
theorem pcells_spec {σ : Nm} {Z : Nat → Prop} {w : World} {v : Value} {x : PV} (h : VR σ Z w v x) (ht : isTup x = false) : VRs σ Z w v.cells.toList (pcells x) ∧ ones (pcells x) = true := by
  cases h with
  | sc v h =>
    have e : v.cells = #[v] := by cases v <;> simp_all [scOk, Value.cells]
    rw [e]; exact ⟨.cons (.sc v h) .nil, rfl⟩
  | agg l xs hl ho h => exact ⟨⟨hl, h⟩, ho⟩
  | tup => simp [isTup] at ht
  | ptr id off b c h => exact ⟨.cons (.ptr id off b c h) .nil, rfl⟩
  | rptr id sz k i b c h => exact ⟨.cons (.rptr id sz k i b c h) .nil, rfl⟩
  | own id sz len b c h => exact ⟨.cons (.own id sz len b c h) .nil, rfl⟩
  | own0 id sz => exact ⟨.cons (.own0 id sz) .nil, rfl⟩
  | imm v sz rows h =>
    have e : v.cells = #[v] := by cases h; rfl
    rw [e]; exact ⟨.cons (.imm v sz rows h) .nil, rfl⟩
  | iptr b off i row U ho hz hc h => exact ⟨.cons (.iptr b off i row U ho hz hc h) .nil, rfl⟩
  | map id b c h => exact ⟨.cons (.map id b c h) .nil, rfl⟩
  | any v h => cases v <;> first | exact ⟨.cons (.any _ h) .nil, rfl⟩ | cases h
  | fn f l1 l2 x1 x2 a1 a2 a3 a4 => exact ⟨.cons (.fn f l1 l2 x1 x2 a1 a2 a3 a4) .nil, rfl⟩

/-! what lies behind a pointer -/
/-- the cells from a pointer on; of a row of the table: those of its element -/
def behind (H : Heap) : PV → Option (List PV)
  | .ptr id off => match hlook H id with
    | some (.box _ xs) => some (xs.drop off)
    | _ => none
  | .rptr id sz k i => match hlook H id with
    | some (.row _ sz' _ rows) => bif Nat.beq sz sz' then (rows[k]?).map (·.drop i) else none
    | _ => none
  | .iptr row i => some (row.drop i)
  | _ => none
theorem flat_row {α : Type} {sz : Nat} : ∀ (rows : List (List α)) (k i : Nat) (r : List α), (∀ r ∈ rows, r.length = sz) → rows[k]? = some r → i < sz → rows.flatten[k * sz + i]? = r[i]?
  | [], k, i, r, _, h, _ => by simp at h
  | x :: rows, 0, i, r, hr, h, hi => by
    simp only [List.getElem?_cons_zero, Option.some.injEq] at h; subst h
    rw [List.flatten_cons, Nat.zero_mul, Nat.zero_add, List.getElem?_append_left (by rw [hr x (by simp)]; exact hi)]
  | x :: rows, k + 1, i, r, hr, h, hi => by
    have hx := hr x (by simp)
    rw [List.flatten_cons, List.getElem?_append_right (by rw [hx, Nat.add_mul]; omega), hx, show (k + 1) * sz + i - sz = k * sz + i by rw [Nat.add_mul]; omega]
    exact flat_row rows k i r (fun r hr' => hr r (by simp [hr'])) (by simpa using h) hi
theorem flat_len {α : Type} {sz : Nat} : ∀ (rows : List (List α)), (∀ r ∈ rows, r.length = sz) → rows.flatten.length = rows.length * sz
  | [], _ => by simp
  | x :: rows, hr => by rw [List.flatten_cons, List.length_append, hr x (by simp), flat_len rows (fun r h => hr r (by simp [h])), List.length_cons, Nat.add_mul]; omega

theorem behind_spec {σ : Nm} {Z : Nat → Prop} {w : World} {H : Heap} (hH : HR σ Z w H) {v : Value} {x : PV} (h : VR σ Z w v x) {ys : List PV} (e : behind H x = some ys) :
    ∃ b off l, v = .pointer (some ⟨b, off, none⟩) ∧ VRs σ Z w l ys ∧ ones ys = true ∧ ∀ j u, l[j]? = some u → w.cell? ⟨b, off + j, none⟩ = some u := by
  cases h with
  | ptr id off b c h =>
    simp only [behind] at e
    split at e
    · rename_i e' xs hl
      simp only [Option.some.injEq] at e; subst e
      obtain ⟨b', c', C, h1, h2, h3, h4⟩ := hH.at_ _ _ hl
      rw [h] at h1; simp only [Option.some.injEq, Prod.mk.injEq] at h1; obtain ⟨rfl, rfl⟩ := h1
      refine ⟨b, off, C.drop off, rfl, h4.drop off, ones_drop h3 off, fun j u hu => ?_⟩
      rw [List.getElem?_drop] at hu
      simpa [World.cell?, h2] using hu
    · simp at e
  | rptr id sz k i b c h =>
    simp only [behind] at e
    split at e
    · rename_i e' sz' pu rows hl
      cases hb : Nat.beq sz sz' with
      | false => rw [hb] at e; simp at e
      | true =>
        rw [hb] at e
        obtain rfl := Nat.eq_of_beq_eq_true hb
        simp only [cond_true, Option.map_eq_some_iff] at e
        obtain ⟨r, hr, rfl⟩ := e
        obtain ⟨h6, _, hat⟩ := hH.at_ _ _ hl
        obtain ⟨C, h2, h3, h4, h5, h7'⟩ := hat b c h
        have h7 := h7'.1
        have hrow := h6 r (List.mem_of_getElem? hr)
        have hlen := fun r hr => (h6 r hr).1
        have hfl := flat_len rows hlen
        have hk := (List.getElem?_eq_some_iff.1 hr).1
        have hks : (k + 1) * sz ≤ rows.length * sz := Nat.mul_le_mul_right _ hk
        rw [Nat.add_mul] at hks
        refine ⟨b, k * sz + i, (C.drop (k * sz + i)).take (sz - i), rfl, ⟨?_, ?_⟩, ones_drop hrow.2 i, fun j u hu => ?_⟩
        · have h71 := h7.1; rw [hfl] at h71
          simp at h71 ⊢; rw [hrow.1]; omega
        · intro j u x hu hx
          rw [List.getElem?_take] at hu
          split at hu
          · rename_i hj
            rw [List.getElem?_drop] at hu hx
            have := flat_row rows k (i + j) r hlen hr (by omega)
            refine h7.2 (k * sz + i + j) u x ?_ (by rw [Nat.add_assoc, this]; exact hx)
            rw [List.getElem?_take, if_pos (by omega)]; exact hu
          · simp at hu
        · rw [List.getElem?_take] at hu
          split at hu
          · rw [List.getElem?_drop] at hu
            simpa [World.cell?, h2] using hu
          · simp at hu
    · simp at e
  | iptr b off i row U ho hz hc h =>
    simp only [behind, Option.some.injEq] at e
    subst e
    refine ⟨b, off + i, (List.range (row.length - i)).map fun j => U (i + j), rfl, ⟨by simp, fun j u x hu hx => ?_⟩, ones_drop ho i, fun j u hu => ?_⟩
    · rw [List.getElem?_map] at hu
      rw [List.getElem?_drop] at hx
      obtain ⟨j', hj', rfl⟩ := Option.map_eq_some_iff.1 hu
      rw [List.getElem?_range (by have := (List.getElem?_eq_some_iff.1 hj').1; simpa using this)] at hj'
      simp only [Option.some.injEq] at hj'; subst hj'
      exact (h _ _ hx).vr
    · rw [List.getElem?_map] at hu
      obtain ⟨j', hj', rfl⟩ := Option.map_eq_some_iff.1 hu
      have hlt := (List.getElem?_eq_some_iff.1 hj').1
      simp only [List.length_range] at hlt
      rw [List.getElem?_range hlt] at hj'
      simp only [Option.some.injEq] at hj'; subst hj'
      rw [Nat.add_assoc]; exact hc _ (by omega)
  | _ => simp [behind] at e

/-- cells as a value of a type -/
def pack (P : Program) (t : TypeId) (xs : List PV) : Option PV :=
  match evl P (isAgg t), evl P (sizeOf t) with
  | some true, some n => bif Nat.ble n xs.length then some (.agg (xs.take n)) else none
  | some false, some _ => xs.head?
  | _, _ => none
theorem run_loadVar {P : Program} {σ : Nm} {Z : Nat → Prop} {w : World} {t : TypeId} {b off : Nat} {l : List Value} {xs : List PV} {x : PV} (hv : VRs σ Z w l xs) (ho : ones xs = true) (hc : ∀ j u, l[j]? = some u → w.cell? ⟨b, off + j, none⟩ = some u) (hp : pack P t xs = some x) :
    ∃ v, (loadVar t ⟨b, off, none⟩).run P w = .ok v w ∧ VR σ Z w v x := by
  unfold pack at hp
  unfold loadVar
  split at hp
  · rename_i n h1 h2
    cases hn : Nat.ble n xs.length with
    | false => rw [hn] at hp; simp at hp
    | true =>
      rw [hn] at hp
      simp only [cond_true, Option.some.injEq] at hp
      subst hp
      have hle := Nat.le_of_ble_eq_true hn
      have hlc := run_loadCells_list (P := P) w ⟨b, off, none⟩ (l.take n) (fun j u hu => by
        rw [add_off]; rw [List.getElem?_take] at hu
        split at hu
        · exact hc j u hu
        · simp at hu)
      have hln : (l.take n).length = n := by rw [List.length_take, hv.1]; omega
      rw [hln] at hlc
      refine ⟨.agg (l.take n).toArray, ?_, .agg _ _ (hv.take n).1 (ones_take ho n) (hv.take n).2⟩
      simp [Sem.run_bind, evl_run h1 w, evl_run h2 w, hlc]
  · rename_i n h1 h2
    cases xs with
    | nil => simp at hp
    | cons y ys =>
      simp only [List.head?_cons, Option.some.injEq] at hp; subst hp
      obtain ⟨u, l', rfl, q1, q2⟩ := hv.inv
      have h0 := hc 0 u rfl
      rw [Nat.add_zero] at h0
      refine ⟨u, ?_, q1⟩
      simp [Sem.run_bind, evl_run h1 w, load, Sem.run, h0]
  · simp at hp
end Go.PX
namespace Go.PX
open Go.RowKit Go.SX

def upd (σ : Nm) (id b c : Nat) : Nm := fun i => if i = id then some (b, c) else σ i
theorem upd_self (σ : Nm) (id b c : Nat) : upd σ id b c id = some (b, c) := by simp [upd]
theorem upd_ext {σ : Nm} {id b c : Nat} (h : σ id = none) : Ext σ (upd σ id b c) := fun i x hx => by
  unfold upd; split
  · rename_i e; rw [e, h] at hx; cases hx
  · exact hx
theorem ulook_one {id i : Nat} {o : Option PO} : ulook [(id, o)] i = if i = id then some o else none := by
  simp only [ulook]
  cases hb : Nat.beq id i with
  | true => rw [Nat.eq_of_beq_eq_true hb]; simp
  | false => rw [if_neg (by rintro rfl; simp at hb)]; rfl
theorem chg_alloc (M : Nat → Prop) (w : World) (o : Obj) : Chg M w (w.alloc o) := ⟨rfl, rfl, rfl, by show _ ≤ (w.heap.push o).size; simp, fun b hb _ => by show (w.heap.push o)[b]? = _; simp [Array.getElem?_push, Nat.ne_of_lt hb]⟩

theorem eff_new {σ : Nm} {Z : Nat → Prop} {w : World} {H : Heap} (hH : HR σ Z w H) {nx c : Nat} (hn : σ nx = none) (hnh : hlook H nx = none) {ob : Obj} {po : PO} (ho : OR (upd σ nx w.heap.size c) Z (w.alloc ob) nx po) : Eff σ Z w H [(nx, some po)] (upd σ nx w.heap.size c) Z (w.alloc ob) where
  ext := upd_ext hn
  dom id h1 h2 := by
    rw [ulook_one] at h2
    unfold upd
    split
    · rename_i e; rw [if_pos e] at h2
      rcases h2 with h2 | h2
      · cases h2
      · subst e; exact absurd hnh h2
    · exact h1
  zmono _ h := h
  znew _ h := .inl h
  chg := chg_alloc _ _ _
  objs id o h := by
    rw [ulook_one] at h
    split at h
    · rename_i e; subst e; injection h with h; injection h with h; subst h; exact ho
    · cases h
  off id o b c' h h' := by
    rw [ulook_one] at h
    split at h
    · rename_i e; subst e
      rw [upd_self] at h'
      injection h' with h'; injection h' with h1 h2; subst h1
      exact ⟨fun hz => Nat.lt_irrefl _ (hH.zlt _ hz), .inl (Nat.le_refl _)⟩
    · cases h
  inj id id' o o' b c' c'' h h' _ _ := by
    rw [ulook_one] at h h'
    split at h
    · split at h'
      · rename_i e e'; rw [e, e']
      · cases h'
    · cases h

theorem eff_upd {σ : Nm} {Z : Nat → Prop} {w w' : World} {H : Heap} (hH : HR σ Z w H) {id b c : Nat} {o0 o' : PO} (hl : hlook H id = some o0) (hs : σ id = some (b, c)) (hw : Chg (fun x => x = b) w w') (ho : OR σ Z w' id o') : Eff σ Z w H [(id, some o')] σ Z w' where
  ext := Ext.refl σ
  dom _ h _ := h
  zmono _ h := h
  znew _ h := .inl h
  chg := hw.mono fun x hx e => by subst e; exact ⟨id, o0, c, by rw [ulook_one, if_pos rfl]; simp, hl, hs⟩
  objs i o h := by
    rw [ulook_one] at h
    split at h
    · rename_i e; subst e; injection h with h; injection h with h; subst h; exact ho
    · cases h
  off i o b' c' h h' := by
    rw [ulook_one] at h
    split at h
    · rename_i e; subst e
      rw [hs] at h'; injection h' with h'; injection h' with h1 h2; subst h1
      exact ⟨hH.off _ _ _ _ hl hs, .inr ⟨i, o0, c, by rw [ulook_one, if_pos rfl]; simp, hl, hs⟩⟩
    · cases h
  inj i i' o o' b' c' c'' h h' _ _ := by
    rw [ulook_one] at h h'
    split at h
    · split at h'
      · rename_i e e'; rw [e, e']
      · cases h'
    · cases h

section
variable {P : Program} {σ : Nm} {Z : Nat → Prop} {w : World} {N : Nat} {κ : List (Nat × Bool)} {R : List Ent} {a : Act} {H : Heap} {p : List (Nat × Bool)} {o : Oper}

theorem exec_load (hR : RS σ Z w N κ R a) (hH : HR σ Z w H) (hp : pv κ p = true) {t : TypeId} {x : Operand} (ho : o.op = .load t x) {px r : PV} {xs : List PV} (hx : opd R p x = some px) (hb : behind H px = some xs) (hr : pack P t xs = some r) : Exec P o a w σ Z H (some r) [] := by
  obtain ⟨b, off, l, e, h1, h2, h3⟩ := behind_spec hH (hR.opd hp hx) hb
  obtain ⟨v, h4, h5⟩ := run_loadVar h1 h2 h3 hr
  refine exec_quiet (v := v) ?_ h5
  simp [execOp, ho, Instr.loadAt, e, Instr.sureAddr, Sem.run_bind, h4]

theorem run_newVar {t : TypeId} {v : Value} : (newVar t v).run P w = .ok ⟨w.heap.size, 0, none⟩ (w.alloc (.cells v.cells t)) := by
  unfold newVar newRow newObj
  rfl
theorem or_box {nx c : Nat} (hn : σ nx = none) {e : TypeId} {C : List Value} {xs : List PV} (h : VRs σ Z w C xs) (ho : ones xs = true) : OR (upd σ nx w.heap.size c) Z (w.alloc (.cells C.toArray e (0, 0))) nx (.box e xs) :=
  ⟨w.heap.size, c, C, upd_self _ _ _ _, by show (w.heap.push _)[w.heap.size]? = _; simp, ho, h.mono (M := fun _ => False) (upd_ext hn) (fun _ h => h) (chg_alloc _ _ _) (fun _ _ h => h)⟩
theorem exec_newVar (hH : HR σ Z w H) {nx : Nat} (hn : σ nx = none) (hnh : hlook H nx = none) {t : TypeId} {v : Value} {xs : List PV} (hv : VRs σ Z w v.cells.toList xs) (ho : ones xs = true)
    (hr : (execOp a.eval o).run P w = .ok (.value (.pointer (some ⟨w.heap.size, 0, none⟩))) (w.alloc (.cells v.cells t))) : Exec P o a w σ Z H (some (.ptr nx 0)) [(nx, some (.box t xs))] := by
  have h1 := or_box (c := 0) hn (e := t) hv ho
  rw [Array.toArray_toList] at h1
  exact exec_value hr (.ptr nx 0 w.heap.size 0 (upd_self _ _ _ _)) (eff_new hH hn hnh h1)
theorem exec_box (hR : RS σ Z w N κ R a) (hH : HR σ Z w H) (hp : pv κ p = true) {nx : Nat} (hn : σ nx = none) (hnh : hlook H nx = none) {t : TypeId} {x : Operand} (ho : o.op = .box t x) {px : PV} (hx : opd R p x = some px) (ht : isTup px = false) : Exec P o a w σ Z H (some (.ptr nx 0)) [(nx, some (.box t (pcells px)))] := by
  obtain ⟨h1, h2⟩ := pcells_spec (hR.opd hp hx) ht
  exact exec_newVar hH hn hnh h1 h2 (by simp [execOp, ho, Instr.box, Sem.run_bind, run_newVar])
theorem exec_alloc (hH : HR σ Z w H) {nx : Nat} (hn : σ nx = none) (hnh : hlook H nx = none) {t : TypeId} (ho : o.op = .alloc t) {z : Value} {px : PV} (hz : evl P (zeroValue t) = some z) (hx : ofV z = some px) (ht : isTup px = false) : Exec P o a w σ Z H (some (.ptr nx 0)) [(nx, some (.box t (pcells px)))] := by
  obtain ⟨h1, h2⟩ := pcells_spec (ofV_spec hx) ht
  exact exec_newVar hH hn hnh h1 h2 (by simp [execOp, ho, Instr.alloc, Sem.run_bind, run_newVar, evl_run hz])

/-- cells written over others -/
def over {α : Type} (xs : List α) (i : Nat) (ys : List α) : List α := xs.take i ++ ys ++ xs.drop (i + ys.length)
theorem over_left {α : Type} {x F ys : List α} {i : Nat} (h : i + ys.length ≤ x.length) : over (x ++ F) i ys = over x i ys ++ F := by
  unfold over
  rw [List.take_append, List.drop_append, show i - x.length = 0 by omega, show i + ys.length - x.length = 0 by omega]
  simp
theorem over_right {α : Type} {x F ys : List α} {i j : Nat} (h : i = x.length + j) : over (x ++ F) i ys = x ++ over F j ys := by
  subst h
  unfold over
  rw [List.take_append, List.drop_append, show x.length + j - x.length = j by omega, show x.length + j + ys.length - x.length = j + ys.length by omega, List.take_of_length_le (by omega), List.drop_eq_nil_of_le (by omega)]
  simp
theorem over_len {α : Type} {x ys : List α} {i : Nat} (h : i + ys.length ≤ x.length) : (over x i ys).length = x.length := by simp [over]; omega
theorem over_take {α : Type} {x ys : List α} {i n : Nat} (h : i + ys.length ≤ n) (hn : n ≤ x.length) : (over x i ys).take n = over (x.take n) i ys := by
  have h1 : (x.take n).length = n := by simp; omega
  have h2 : over x i ys = over (x.take n) i ys ++ x.drop n := by rw [← over_left (by omega), List.take_append_drop]
  rw [h2, List.take_append_of_le_length (by rw [over_len (by omega)]; omega), List.take_of_length_le (by rw [over_len (by omega)]; omega)]
theorem VRs.over {l m : List Value} {xs ys : List PV} (h : VRs σ Z w l xs) (h' : VRs σ Z w m ys) (i : Nat) : VRs σ Z w (PX.over l i m) (PX.over xs i ys) := by
  unfold PX.over
  rw [h'.1]
  exact ((h.take i).append h').append (h.drop _)
theorem CRs.over {pu pu' : Bool} {l m : List Value} {xs ys : List PV} (h : CRs pu σ Z w l xs) (h' : CRs pu' σ Z w m ys) (i : Nat) : CRs (pu && pu') σ Z w (PX.over l i m) (PX.over xs i ys) := by
  have e : (pu && pu') = ((pu && pu') && pu) := by cases pu <;> cases pu' <;> rfl
  unfold PX.over
  rw [h'.1.1, e]
  exact ((h.take i).append h').append (h.drop _)
theorem ones_over {xs ys : List PV} (h : ones xs = true) (h' : ones ys = true) (i : Nat) : ones (over xs i ys) = true := ones_append (ones_append (ones_take h i) h') (ones_drop h _)

theorem chg_setRow {g : Nat} {C C' : Array Value} {e : TypeId} (h : w.heap[g]? = some (.cells C e (0, 0))) : Chg (fun x => x = g) w (w.setRow g C') ∧ (w.setRow g C').heap[g]? = some (.cells C' e (0, 0)) := by
  refine ⟨⟨rfl, rfl, rfl, by simp [World.setRow], fun b hb hn => ?_⟩, setRow_heap w g C C' e (0, 0) h⟩
  simp only [World.setRow, Array.getElem?_modify]
  rw [if_neg (fun e => hn e.symm)]

theorem run_storeVar {t : TypeId} {b off n : Nat} {v : Value} {C : List Value} {e : TypeId} (hn : evl P (sizeOf t) = some n) (hs : v.cells.size = n) (hb : w.heap[b]? = some (.cells C.toArray e (0, 0))) (hl : off + n ≤ C.length) (h1 : ∀ u ∈ v.cells.toList, u.oneCell' = true) :
    (storeVar t ⟨b, off, none⟩ v).run P w = .ok () (w.setRow b (over C off v.cells.toList).toArray) := by
  have := run_storeCells_at (P := P) b off e v.cells.toList 0 C.toArray w hb (by simp [hs]; omega) h1
  simp only [Nat.add_zero] at this
  unfold storeVar
  simp only [Sem.run_bind, evl_run hn w, Result.andThen_ok, hs, ne_eq, not_true, ↓reduceIte]
  simp only [Sem.run_pure, Result.andThen_ok, this]
  simp [hs, over]

theorem exec_store_box (hR : RS σ Z w N κ R a) (hH : HR σ Z w H) (hp : pv κ p = true) {t : TypeId} {x y : Operand} (ho : o.op = .store t x y) {id off n : Nat} {e : TypeId} {xs : List PV} {py : PV} (hx : opd R p x = some (.ptr id off)) (hy : opd R p y = some py) (ht : isTup py = false) (hl : hlook H id = some (.box e xs)) (hn : evl P (sizeOf t) = some n) (hs : (pcells py).length = n) (hle : off + n ≤ xs.length) :
    Exec P o a w σ Z H none [(id, some (.box e (over xs off (pcells py))))] := by
  obtain ⟨h1, h2⟩ := pcells_spec (hR.opd hp hy) ht
  obtain ⟨b, c, C, q1, q2, q3, q4⟩ := hH.at_ _ _ hl
  have hv := hR.opd hp hx
  have hsz : (a.eval y).cells.size = n := by have := h1.1; simp at this; omega
  have hrun := run_storeVar (P := P) (w := w) (off := off) hn hsz q2 (by rw [q4.1]; exact hle) (h1.oneCell h2)
  generalize hav : a.eval x = vx at hv
  cases hv with
  | ptr _ _ b' c' hb' =>
    rw [q1] at hb'; simp only [Option.some.injEq, Prod.mk.injEq] at hb'; obtain ⟨rfl, rfl⟩ := hb'
    obtain ⟨g1, g2⟩ := chg_setRow (C' := (over C off (a.eval y).cells.toList).toArray) q2
    refine exec_skip (σ' := σ) (Z' := Z) ?_ (eff_upd hH hl q1 g1 ⟨b, c, _, q1, g2, ones_over q3 h2 off, ?_⟩)
    · simp [execOp, ho, Instr.storeAt, hav, Instr.sureAddr, Sem.run_bind, hrun]
    · have := (VRs.over q4 h1 off).mono (M := fun x => x = b) (Ext.refl σ) (fun _ h => h) g1 (fun z hz e => hH.off _ _ _ _ hl q1 (e ▸ hz))
      exact this
end
end Go.PX
