/- A runner: calls on literal plain data as a function that the kernel computes. Program-independent. -/
import Derived.Test.YtlaiafalilcgjaaGreatDoorQL4
import Derived.LoopN
set_option linter.unusedVariables false
set_option linter.unusedSimpArgs false
namespace Go.PX
open Go.RowKit Go.SX
mutual
def idsV : PV → List Nat → List Nat
  | .ptr id _, s => id :: s
  | .rptr id _ _ _, s => id :: s
  | .own id _ _, s => id :: s
  | .map id, s => id :: s
  | .agg xs, s => idsVL xs s
  | .tup xs, s => idsVL xs s
  | .fn _ xs ys, s => idsVL xs (idsVL ys s)
  | _, s => s
def idsVL : List PV → List Nat → List Nat
  | [], s => s
  | x :: l, s => idsV x (idsVL l s)
end
def idsVLL : List (List PV) → List Nat → List Nat
  | [], s => s
  | x :: l, s => idsVL x (idsVLL l s)
def idsP : PO → List Nat → List Nat
  | .box _ xs, s => idsVL xs s
  | .row _ _ pu rows, s => bif pu then s else idsVLL rows s
  | _, s => s
/-- what is reached, with what is done -/
def reach (H : Heap) : Nat → List Nat → List Nat → List Nat
  | 0, _, done => done
  | _ + 1, [], done => done
  | n + 1, i :: todo, done => bif done.any (Nat.beq i) then reach H n todo done else match hlook H i with
    | some o => reach H n (idsP o todo) (i :: done)
    | none => reach H n todo done
inductive RX where
  | go (R : List Ent) (H : Heap) (nx : Nat)
  | ret (R : List Ent) (H : Heap) (nx : Nat)
  | ex (l : Nat) (R : List Ent) (H : Heap) (nx : Nat)
def RX.R : RX → List Ent
  | .go R _ _ | .ret R _ _ | .ex _ R _ _ => R
def RX.H : RX → Heap
  | .go _ H _ | .ret _ H _ | .ex _ _ H _ => H
def RX.nx : RX → Nat
  | .go _ _ n | .ret _ _ n | .ex _ _ _ n => n
def RX.e : RX → Exit
  | .go .. => .normal
  | .ret .. => .ret
  | .ex l .. => .exit l
abbrev CallF := FuncId → List PV → Heap → Nat → Option (PV × Upd × Nat)
def natOf : Option PV → Option Nat
  | some (.sc (.int _ (.ofNat k))) => some k
  | _ => none
def isNat (x : Option PV) (k : Nat) : Bool := match natOf x with
  | some n => Nat.beq n k
  | none => false
/-- bytes of rows -/
def bytesOf : List (List PV) → Option (List UInt8)
  | [] => some []
  | [.sc (.int .u8 (.ofNat k))] :: l => match bytesOf l with
    | some r => bif Nat.blt k 256 then some (UInt8.ofNat k :: r) else none
    | none => none
  | _ :: _ => none
theorem bytesOf_spec : ∀ {rs : List (List PV)} {l : List UInt8}, bytesOf rs = some l → rs = l.map byteV
  | [], l, h => by simp only [bytesOf, Option.some.injEq] at h; subst h; rfl
  | r :: rs, l, h => by
    unfold bytesOf at h
    split at h
    · rename_i q; cases q
    · rename_i k rs' q
      simp only [List.cons.injEq] at q
      obtain ⟨rfl, rfl⟩ := q
      split at h
      · rename_i r' hr
        rw [cond_eq_ite] at h
        split at h
        · rename_i hk
          simp only [Option.some.injEq] at h; subst h
          rw [bytesOf_spec hr, List.map_cons]
          have hk : k < 256 := by simpa using hk
          have e : (UInt8.ofNat k).toNat = k := UInt8.toNat_ofNat_of_lt' hk
          unfold byteV
          rw [e]; rfl
        · cases h
      · cases h
    · cases h
def isB : Ob → Bool
  | .b _ => true
  | .q _ => false
/-- a bound of a slice -/
def bndOf (R : List Ent) (p : List (Nat × Bool)) (d : Nat) : Option Operand → Option Nat
  | none => some d
  | some y => natOf (opd R p y)
/-- the directive of an operation; dr: in a region that draws its order -/
def planD (dr : Bool) (cf : CallF) (P : Program) (R : List Ent) (H : Heap) (nx : Nat) (p : List (Nat × Bool)) (o : Oper) : Option Dir :=
  bif !p.isEmpty then some .dd else
  match o.op with
  | .call { callee := .value f, args, .. } => match opd R p f, opds R p args.toList with
    | some (.fn g first caps), some ys =>
      match reach H 100000 (idsVL (first ++ ys ++ caps) []) [] with
      | ids => match cf g (first ++ ys ++ caps) (restr (bif dr then restr H ids else H) ids) nx with
        | some (r, U, nx') => some (.cl ids r U nx')
        | none => none
    | _, _ => none
  | .call { callee := .builtin .copy, .. } => none
  | .makeSlice _ x y => match natOf (opd R p x) with
    | some k => bif isNat (opd R p y) k then some (.mk k) else none
    | none => none
  | .slice _ x lo hi none => match opd R p x with
    | some (.imm _ rows) => match bndOf R p 0 lo, bndOf R p rows.length hi with
      | some l, some h => bif Nat.ble l h && Nat.ble h rows.length then some (.sl l h ((rows.take h).drop l)) else none
      | _, _ => none
    | some (.own ..) => match bndOf R p 0 lo, bndOf R p 1 hi with
      | some 0, some 0 => some (.sl 0 0 [])
      | _, _ => none
    | _ => some .au
  | .convert _ dst x => match opd R p x with
    | none => none
    | some px => match (bif dr then restr H (fpOf R p o (.bt [])) else H) with
      | Hv => match P.underlying dst, px with
        | some .string, .own id sz n => match vw [id] Hv [.own id sz n] with
          | some ([.imm 1 rs], ob) => match ob.all isB, bytesOf rs with
            | true, some l => some (.bt l)
            | _, _ => none
          | _ => none
        | some .string, .imm sz rs => match Nat.beq sz 1, bytesOf rs with
          | true, some l => some (.bt l)
          | _, _ => none
        | _, .own id sz n => match vw [id] Hv [.own id sz n] with
          | some (_, ob) => match ob.all isB with
            | true => some .fb
            | false => none
          | none => none
        | _, _ => some .au
  | _ => some .au
/-- what a guard says: the guards that do not hold, the path, the guards that were seen to hold -/
def planG (ops : Array Oper) (κ : List (Nat × Bool)) (sn : List Nat) (R : List Ent) (o : Oper) : Option (List (Nat × Bool) × List (Nat × Bool) × List Nat) :=
  match o.guard with
  | none => some (κ, [], sn)
  | some (j, want) => match (ops[j]?).bind (·.dst) with
    | none => none
    | some t => match look R t with
      | some ⟨_, pj, .sc (.bool b)⟩ => bif inK κ j then some (κ, (j, want) :: pj, sn) else bif b == want then some (κ, pj, j :: sn) else bif sn.any (Nat.beq j) then none else some ((j, b) :: κ, (j, want) :: pj, sn)
      | _ => none
/-- the slots of a list that are told without a path -/
def keepF (R : List Ent) : List Nat → List Ent
  | [] => []
  | t :: ts => match look R t with
    | none => keepF R ts
    | some e => bif e.p.isEmpty then ⟨t, [], e.v⟩ :: keepF R ts else keepF R ts
theorem keepF_spec (R : List Ent) : ∀ ts : List Nat, ∃ ts', keepR R ts' = some (keepF R ts)
  | [] => ⟨[], rfl⟩
  | t :: ts => by
    obtain ⟨ts', h⟩ := keepF_spec R ts
    simp only [keepF]
    cases hl : look R t with
    | none => exact ⟨ts', h⟩
    | some e =>
      obtain ⟨t0, p, v⟩ := e
      cases p with
      | nil => exact ⟨t :: ts', by simp only [keepR, hl, h]; rfl⟩
      | cons x p => exact ⟨ts', h⟩
def obB : Ob → Bool
  | .b x => x
  | .q _ => true
def eqB (l : List (Bool × Bool)) : Bool := l.all fun x => x.1 == x.2
def binF (op : BinOp) (k : IntKind) (a b : Int) : Option Value :=
  match op with
  | .add => some (.int k (k.wrap (a + b)))
  | .sub => some (.int k (k.wrap (a - b)))
  | .mul => some (.int k (k.wrap (a * b)))
  | .eql => some (.bool (a == b))
  | .neq => some (.bool (a != b))
  | .lss => some (.bool (decide (a < b)))
  | .leq => some (.bool (decide (a ≤ b)))
  | .gtr => some (.bool (decide (b < a)))
  | .geq => some (.bool (decide (b ≤ a)))
  | _ => none
theorem scal_bin {P : Program} {R : List Ent} {p : List (Nat × Bool)} {o : Oper} {op : BinOp} {t : TypeId} {x y : Operand} {pos : TypeId} {k : IntKind} {a b : Int} {v : Value} (ho : o.op = .binOp op t x y pos) (hx : opd R p x = some (.sc (.int k a))) (hy : opd R p y = some (.sc (.int k b))) (hv : binF op k a b = some v) : scal P R p o = some (.sc v) := by
  unfold scal
  have e1 : rhoS R p x = .int k a := by unfold rhoS; rw [hx]; rfl
  have e2 : rhoS R p y = .int k b := by unfold rhoS; rw [hy]; rfl
  have e3 : allS R p o.op.operands.toList = true := by rw [ho]; simp [Op.operands, allS, hx, hy, toV]
  have e4 : isSelect o.op = false := by rw [ho]; rfl
  rw [e3, e4]
  have e5 : evl P (execOp (rhoS R p) o) = some (.value v) := by
    unfold execOp
    rw [ho]
    simp only [e1, e2]
    cases k <;> cases op <;> simp only [binF, Option.some.injEq] at hv <;> first | (cases hv; done) | (subst hv; rfl)
  rw [e5]
  cases op <;> simp only [binF, Option.some.injEq] at hv <;> first | (cases hv; done) | (subst hv; rfl)

theorem ofV_bin {op : BinOp} {k : IntKind} {a b : Int} {v : Value} (hv : binF op k a b = some v) : scOk v = true := by
  cases op <;> simp only [binF, Option.some.injEq] at hv <;> first | (cases hv; done) | (subst hv; rfl)
def updOf (H : Heap) (ids : List Nat) : Upd := ids.map fun i => (i, hlook H i)
/-! ### soundness of a step -/
section
variable {P : Program} {E : Env} {N : Nat} {R R' : List Ent} {H H' : Heap} {nx nx' : Nat} {a a' : Act} {w w' : World}
def CS (P : Program) (cf : CallF) : Prop := ∀ g zs Hc nx r U nx', cf g zs Hc nx = some (r, U, nx') → Con P g zs Hc nx nx' r U
theorem inK_cons {κ : List (Nat × Bool)} {i j : Nat} {b : Bool} : inK ((i, b) :: κ) j = (Nat.beq i j || inK κ j) := by
  simp only [inK]; cases Nat.beq i j <;> rfl
theorem allOb_b : ∀ {l : List Ob}, l.all isB = true → l.all obB = true → AllOb l
  | [], _, _ => trivial
  | .b x :: l, h1, h2 => by
    simp only [List.all_cons, Bool.and_eq_true, obB] at h2
    simp only [List.all_cons, Bool.and_eq_true] at h1
    exact ⟨h2.1, allOb_b h1.2 h2.2⟩
  | .q x :: l, h1, h2 => by simp [isB] at h1
theorem bind_one {y : Option PV} {out : Out} (h : y.bind (one · nx) = some out) : out.obs.all isB = true := by
  cases y with
  | none => cases h
  | some x => simp only [Option.bind_some, one, Option.some.injEq] at h; subst h; rfl
def isCopy : Op → Bool
  | .call { callee := .builtin .copy, .. } => true
  | _ => false
theorem load_b {p : List (Nat × Bool)} {t : TypeId} {x : Operand} {out : Out} (h : stepLoad P R H nx p t x = some out) : out.obs.all isB = true := by
  unfold stepLoad at h
  split at h
  · split at h
    · split at h
      · simp only [one, Option.some.injEq] at h; subst h; rfl
      · cases h
    · cases h
  · cases h
theorem some_bif {b : Bool} {x out : Out} (h : (bif b then some x else none) = some out) : x = out := by
  cases b with
  | true => simpa using h
  | false => cases h
theorem store_b {p : List (Nat × Bool)} {t : TypeId} {x y : Operand} {out : Out} (h : stepStore P R H nx p t x y = some out) : out.obs.all isB = true := by
  unfold stepStore at h
  repeat' split at h
  all_goals first | cases h; done | (have := some_bif h; subst this; rfl)
theorem app_b {p : List (Nat × Bool)} {t : TypeId} {x y : Operand} {out : Out} (h : stepApp P R H nx p t x y = some out) : out.obs.all isB = true := by
  unfold stepApp at h
  repeat' split at h
  all_goals first | cases h; done | (have := some_bif h; subst this; rfl)
theorem appS_b {p : List (Nat × Bool)} {t u : TypeId} {x y : Operand} {out : Out} (h : stepAppS P R H nx p t u x y = some out) : out.obs.all isB = true := by
  unfold stepAppS at h
  repeat' split at h
  all_goals first | cases h; done | (have := some_bif h; subst this; rfl)
theorem stepAu_b {p : List (Nat × Bool)} {o : Oper} {out : Out} (hc : isCopy o.op = false) (h : stepAu P R H nx p o = some out) : out.obs.all isB = true := by
  unfold stepAu at h
  split at h
  all_goals try exact bind_one h
  all_goals try exact load_b h
  all_goals try exact store_b h
  all_goals try (rename_i e; rw [e] at hc; simp [isCopy] at hc; done)
  all_goals repeat' split at h
  all_goals try exact bind_one h
  all_goals try (cases h; done)
  all_goals try (simp only [one, Option.some.injEq] at h; subst h; rfl; done)
  all_goals (rw [cond_eq_ite] at h; split at h)
  all_goals first | (cases h; done) | exact bind_one h | exact app_b h | exact appS_b h | (simp only [one, Option.some.injEq] at h; subst h; rfl)
theorem isNat_spec {x : Option PV} {k : Nat} (h : isNat x k = true) : natOf x = some k := by
  unfold isNat at h
  split at h
  · rename_i n hn; rw [hn, Nat.eq_of_beq_eq_true h]
  · cases h
theorem natOf_spec {x : Option PV} {k : Nat} (h : natOf x = some k) : ∃ K, x = some (.sc (.int K (k : Int))) := by
  unfold natOf at h
  split at h
  · simp only [Option.some.injEq] at h; subst h; exact ⟨_, rfl⟩
  · cases h
theorem bndOf_spec {p : List (Nat × Bool)} {d l : Nat} {x : Option Operand} {o1 : List Prop} (h : bndOf R p d x = some l) (hb : bnd R p l d x = some o1) : ∀ q ∈ o1, q := by
  cases x with
  | none =>
    simp only [bndOf, Option.some.injEq] at h; subst h
    simp only [bnd, Option.some.injEq] at hb; subst hb
    intro q hq; simp at hq; exact hq
  | some y =>
    obtain ⟨K, hK⟩ := natOf_spec (show natOf (opd R p y) = some l from h)
    simp only [bnd, hK, Option.some.injEq] at hb; subst hb
    intro q hq; simp at hq; exact hq
theorem allOb_q : ∀ {l : List Prop}, (∀ q ∈ l, q) → AllOb (l.map .q)
  | [], _ => trivial
  | x :: l, h => ⟨h x (by simp), allOb_q fun q hq => h q (by simp [hq])⟩
theorem allOb_app : ∀ {l m : List Ob}, AllOb l → AllOb m → AllOb (l ++ m)
  | [], m, _, h => h
  | .b x :: l, m, h1, h2 => ⟨h1.1, allOb_app h1.2 h2⟩
  | .q x :: l, m, h1, h2 => ⟨h1.1, allOb_app h1.2 h2⟩
theorem step_ob {dr : Bool} {cf : CallF} {κ : List (Nat × Bool)} {p : List (Nat × Bool)} {o : Oper} {d : Dir} {out : Out} (cs : CS P cf) (hd : planD dr cf P R H nx p o = some d) (hs : stepDir P κ R (bif dr then restr H (fpOf R p o d) else H) nx p o d = some out) (hb : p.isEmpty = true → out.obs.all obB = true) : AllOb out.obs := by
  unfold planD at hd
  cases hp : p.isEmpty with
  | false =>
    rw [hp] at hd
    simp only [Bool.not_false, cond_true, Option.some.injEq] at hd; subst hd
    simp only [stepDir] at hs
    cases hq : pv κ p with
    | true => rw [hq] at hs; cases hs
    | false => rw [hq] at hs; simp only [cond_false, Option.some.injEq] at hs; subst hs; trivial
  | true =>
    replace hb := hb hp
    rw [hp] at hd
    simp only [Bool.not_true, cond_false] at hd
    split at hd
    · rename_i f args ty hop
      split at hd
      · rename_i g first caps ys h1 h2
        split at hd
        · rename_i r U nx' hcf
          simp only [Option.some.injEq] at hd; subst hd
          simp only [stepDir, hop, h1, h2] at hs
          have := some_bif hs; subst this
          exact ⟨cs _ _ _ _ _ _ _ hcf, trivial⟩
        · cases hd
      · cases hd
    · cases hd
    · rename_i t x y hop
      split at hd
      · rename_i k hk
        cases hi : isNat (opd R p y) k with
        | false => rw [hi] at hd; cases hd
        | true =>
          rw [hi] at hd
          simp only [cond_true, Option.some.injEq] at hd; subst hd
          obtain ⟨K1, e1⟩ := natOf_spec hk
          obtain ⟨K2, e2⟩ := natOf_spec (isNat_spec hi)
          simp only [stepDir, hop] at hs
          unfold stepMake at hs
          rw [e1, e2] at hs
          split at hs
          · rename_i e n m he hn hm
            simp only [Option.some.injEq, PV.sc.injEq, Value.int.injEq] at hn hm
            obtain ⟨rfl, rfl⟩ := hn
            obtain ⟨rfl, rfl⟩ := hm
            split at hs
            · have := some_bif hs; subst this
              simp only [List.all_cons, obB, Bool.true_and, Bool.and_eq_true] at hb
              exact ⟨rfl, rfl, hb.1, trivial⟩
            · cases hs
          · cases hs
      · cases hd
    · rename_i t x lo hi hop
      split at hd
      · rename_i sz rows hx
        split at hd
        · rename_i l h hl hh
          cases hq : (Nat.ble l h && Nat.ble h rows.length) with
          | false => rw [hq] at hd; cases hd
          | true =>
            rw [hq] at hd
            simp only [cond_true, Option.some.injEq] at hd; subst hd
            simp only [Bool.and_eq_true] at hq
            simp only [stepDir, hop, hx] at hs
            split at hs
            · rename_i e sz' rows' he hx'
              simp only [Option.some.injEq, PV.imm.injEq] at hx'
              obtain ⟨rfl, rfl⟩ := hx'
              split at hs
              · rename_i sz2 o1 o2 h1 h2 h3
                have := some_bif hs; subst this
                refine ⟨Nat.le_of_ble_eq_true hq.1, Nat.le_of_ble_eq_true hq.2, rfl, allOb_app (allOb_q (bndOf_spec hl h2)) (allOb_q (bndOf_spec hh h3))⟩
              · cases hs
            · rename_i hx'; cases hx'
            · cases hs
        · cases hd
      · rename_i id sz n hx
        split at hd
        · rename_i hl hh
          simp only [Option.some.injEq] at hd; subst hd
          simp only [stepDir, hop, hx] at hs
          split at hs
          · rename_i hx'; cases hx'
          · split at hs
            · split at hs
              · rename_i sz2 o1 o2 e1 pu rows h1 h2 h3 h4
                have := some_bif hs; subst this
                exact allOb_app (allOb_q (bndOf_spec hl h2)) (allOb_q (bndOf_spec hh h3))
              · cases hs
            · cases hs
          · cases hs
        · cases hd
      · simp only [Option.some.injEq] at hd; subst hd
        exact allOb_b (stepAu_b (by rw [hop]; rfl) hs) hb
    · rename_i src dst x hop
      split at hd
      · cases hd
      · rename_i px hx
        split at hd
        · rename_i id sz n hdst
          split at hd
          · rename_i rs ob hv
            split at hd
            · rename_i l h1 h2
              simp only [Option.some.injEq] at hd; subst hd
              have hv' : vw (ownId (.own id sz n)) (bif dr then restr H (fpOf R p o (.bt l)) else H) [.own id sz n] = some ([.imm 1 rs], ob) := hv
              simp only [stepDir, hop, hx, hdst] at hs
              split at hs
              · rename_i hpx
                split at hs
                · rename_i hv2
                  have := some_bif hs; subst this
                  injection hpx with hpx; subst hpx
                  rw [hv'] at hv2
                  simp only [Option.some.injEq, Prod.mk.injEq, List.cons.injEq, and_true] at hv2
                  obtain ⟨rfl, rfl⟩ := hv2
                  simp only [List.all_cons, obB, Bool.true_and] at hb
                  exact ⟨by rw [bytesOf_spec h2], allOb_b h1 hb⟩
                · cases hs
              · cases hs
            · cases hd
          · cases hd
        · rename_i sz rs hdst
          split at hd
          · rename_i l h1 h2
            simp only [Option.some.injEq] at hd; subst hd
            obtain rfl := Nat.eq_of_beq_eq_true h1
            simp only [stepDir, hop, hx, hdst] at hs
            split at hs
            · rename_i hpx
              split at hs
              · rename_i hv2
                have := some_bif hs; subst this
                injection hpx with hpx; subst hpx
                simp only [ownId, vw, Option.some.injEq, Prod.mk.injEq, List.cons.injEq, and_true] at hv2
                obtain ⟨rfl, rfl⟩ := hv2
                exact ⟨by rw [bytesOf_spec h2], trivial⟩
              · cases hs
            · cases hs
          · cases hd
        · rename_i id sz n hdst
          split at hd
          · rename_i xs ob hv
            split at hd
            · rename_i h1
              simp only [Option.some.injEq] at hd; subst hd
              have hv' : vw [id] (bif dr then restr H (fpOf R p o .fb) else H) [.own id sz n] = some (xs, ob) := hv
              simp only [stepDir, hop, hx, hv'] at hs
              split at hs
              · rename_i e id' sz' n' _ hx'
                simp only [Option.some.injEq, PV.own.injEq] at hx'
                obtain ⟨rfl, rfl, rfl⟩ := hx'
                split at hs
                · rename_i s2 rs ob' _ _ h1'
                  have := some_bif hs; subst this
                  rw [hv'] at h1'
                  simp only [Option.some.injEq, Prod.mk.injEq] at h1'
                  obtain ⟨_, rfl⟩ := h1'
                  exact allOb_b h1 hb
                · cases hs
              · cases hs
            · cases hd
          · cases hd
        · simp only [Option.some.injEq] at hd; subst hd
          exact allOb_b (stepAu_b (by rw [hop]; rfl) hs) hb
    · rename_i hno hcp _ _ _
      simp only [Option.some.injEq] at hd; subst hd
      refine allOb_b (stepAu_b ?_ hs) hb
      unfold isCopy
      split
      · rename_i h; exact absurd h (by intro h; exact hcp _ _ h)
      · rfl
theorem planD_pk {dr : Bool} {cf : CallF} {p : List (Nat × Bool)} {o : Oper} (h : planD dr cf P R H nx p o = some .pk) : False := by
  unfold planD at h
  cases hp : p.isEmpty with
  | false => rw [hp] at h; simp at h
  | true =>
    rw [hp] at h
    simp only [Bool.not_true, cond_false] at h
    repeat' split at h
    all_goals first | (cases h; done) | (rw [cond_eq_ite] at h; split at h <;> cases h; done)
theorem all_app {l m : List Ob} (h : (l ++ m).all obB = true) : l.all obB = true ∧ m.all obB = true := by simpa using h
theorem obsIf_all {κ p : List (Nat × Bool)} {obs : List Ob} (h : (obsIf κ p obs).all obB = true) : p.isEmpty = true → obs.all obB = true := fun hp => by
  unfold obsIf at h; rw [hp] at h; simpa using h
theorem obsIf_mk {κ p : List (Nat × Bool)} {obs : List Ob} (h : AllOb obs) : AllOb (obsIf κ p obs) := by
  unfold obsIf
  cases p.isEmpty || obs.isEmpty with
  | true => exact h
  | false => exact ⟨fun _ => h, trivial⟩
theorem eqB_map {l : List (Bool × Bool)} (h : eqB l = true) : l.map (·.1) = l.map (·.2) := by
  apply List.map_congr_left
  intro x hx
  have := List.all_eq_true.1 h x hx
  simpa using this
theorem keepR_all : ∀ {ts : List Nat} {R T : List Ent}, keepR R ts = some T → T.all (fun e => e.p.isEmpty) = true
  | [], R, T, h => by simp only [keepR, Option.some.injEq] at h; subst h; rfl
  | t :: ts, R, T, h => by
    simp only [keepR] at h
    split at h
    · rename_i _ _ _ v T' h1 h2
      simp only [Option.some.injEq] at h; subst h
      simp only [List.all_cons, keepR_all h2]; rfl
    · cases h
theorem initT_all : ∀ (l : List PV) (i : Nat), (initT i l).all (fun e => e.p.isEmpty) = true
  | [], _ => rfl
  | v :: l, i => by simp only [initT, List.all_cons, initT_all l]; rfl
theorem okU_upd (H : Heap) : ∀ ids : List Nat, (okU H (updOf H ids)).map (·.1) = (okU H (updOf H ids)).map (·.2)
  | [] => rfl
  | i :: ids => by
    have ih := okU_upd H ids
    unfold updOf at ih ⊢
    rw [List.map_cons]
    cases hl : hlook H i with
    | none => simpa only [okU] using ih
    | some o => simp only [okU, List.map_cons, ih, hl]
/-- an operation, ints at once -/
def stepF (P : Program) (R : List Ent) (H : Heap) (nx : Nat) (p : List (Nat × Bool)) (o : Oper) : Option Out :=
  match o.op with
  | .binOp op _ x y _ => match opd R p x, opd R p y with
    | some (.sc (.int k a)), some (.sc (.int k' b)) => match decide (k = k'), binF op k a b with
      | true, some v => some { res := some (.sc v), nx }
      | _, _ => stepAu P R H nx p o
    | _, _ => stepAu P R H nx p o
  | _ => stepAu P R H nx p o
theorem stepF_au {p : List (Nat × Bool)} {o : Oper} {out : Out} (h : stepF P R H nx p o = some out) : stepAu P R H nx p o = some out := by
  unfold stepF at h
  split at h
  · rename_i op t x y yt hop
    split at h
    · rename_i k a k' b hx hy
      split at h
      · rename_i v hk hv
        obtain rfl := of_decide_eq_true hk
        have := scal_bin (P := P) hop hx hy hv
        unfold stepAu
        rw [hop]
        simp only [this, Option.bind_some, one]
        exact h
      · exact h
    · exact h
  · exact h
/-- a step, and a guard that does not hold -/
def stepX (P : Program) (R : List Ent) (H : Heap) (nx : Nat) (p : List (Nat × Bool)) (o : Oper) (d : Dir) : Option Out :=
  match d with
  | .dd => some { res := some (.sc (.bool false)), nx }
  | .au => stepF P R H nx p o
  | d => stepDir P [] R H nx p o d
def gB (κ : List (Nat × Bool)) : List (Nat × Bool) → Bool
  | [] => true
  | (j, want) :: _ => inK κ j && (kv κ j != want)
structure CmpX (κ κF : List (Nat × Bool)) (sn : List Nat) : Prop where
  k : ∀ j, inK κ j = true → inK κF j = true ∧ kv κF j = kv κ j
  s : ∀ j ∈ sn, inK κ j = false → inK κF j = false
theorem stepX_dir {dr : Bool} {cf : CallF} {κ κF : List (Nat × Bool)} {sn : List Nat} {Hv : Heap} {p : List (Nat × Bool)} {o : Oper} {d : Dir} {out : Out} (hd : planD dr cf P R H nx p o = some d) (hc : CmpX κ κF sn) (hg : gB κ p = true) (h : stepX P R Hv nx p o d = some out) : stepDir P κF R Hv nx p o d = some out := by
  cases d with
  | pk => exact (planD_pk hd).elim
  | au => exact stepF_au h
  | dd =>
    have hp : p ≠ [] := by
      rintro rfl
      unfold planD at hd
      simp only [List.isEmpty_nil, Bool.not_true, cond_false] at hd
      repeat' split at hd
      all_goals first | (cases hd; done) | (rw [cond_eq_ite] at hd; split at hd <;> cases hd; done)
    simp only [stepX, Option.some.injEq] at h; subst h
    simp only [stepDir]
    cases p with
    | nil => exact absurd rfl hp
    | cons x p =>
      obtain ⟨j, want⟩ := x
      simp only [gB, Bool.and_eq_true, bne_iff_ne, ne_eq] at hg
      have e := (hc.k j hg.1).2
      have : pv κF ((j, want) :: p) = false := by
        simp only [pv, e]
        cases hq : (kv κ j == want) with
        | true => exact absurd (eq_of_beq hq) hg.2
        | false => rw [Bool.and_false]
      rw [this]; rfl
  | _ => exact h
/-- what a guard says, with what it is compared with -/
def planB (ops : Array Oper) (κ : List (Nat × Bool)) (R : List Ent) (o : Oper) : List (Bool × Bool) :=
  match o.guard with
  | none => []
  | some (j, _) => match (ops[j]?).bind (·.dst) with
    | none => []
    | some t => match look R t with
      | some ⟨_, _, .sc (.bool b)⟩ => bif inK κ j then [(b, kv κ j)] else []
      | _ => []
theorem planX_guard {ops : Array Oper} {κ κ' κF : List (Nat × Bool)} {sn sn' : List Nat} {o : Oper} {p : List (Nat × Bool)} (h : planG ops κ sn R o = some (κ', p, sn')) (hc : CmpX κ' κF sn') : CmpX κ κF sn ∧ path ops κF R o = some (p, planB ops κ' R o) := by
  unfold planG at h
  unfold path planB
  cases hg : o.guard with
  | none =>
    rw [hg] at h
    simp only [Option.some.injEq, Prod.mk.injEq] at h ⊢
    obtain ⟨rfl, rfl, rfl⟩ := h
    exact ⟨hc, by simp⟩
  | some g =>
    obtain ⟨j, want⟩ := g
    rw [hg] at h
    simp only at h ⊢
    cases hd : (ops[j]?).bind (·.dst) with
    | none => rw [hd] at h; cases h
    | some t =>
      rw [hd] at h
      simp only at h ⊢
      split at h
      · rename_i t' pj b hl
        rw [hl]
        simp only
        cases hk : inK κ j with
        | true =>
          rw [hk] at h
          simp only [cond_true, Option.some.injEq, Prod.mk.injEq] at h
          obtain ⟨rfl, rfl, rfl⟩ := h
          refine ⟨hc, ?_⟩
          rw [(hc.k j hk).1, (hc.k j hk).2, hk]; rfl
        | false =>
          rw [hk] at h
          simp only [cond_false] at h
          cases hb : (b == want) with
          | true =>
            rw [hb] at h
            simp only [cond_true, Option.some.injEq, Prod.mk.injEq] at h
            obtain ⟨rfl, rfl, rfl⟩ := h
            refine ⟨⟨hc.k, fun i hi => hc.s i (List.mem_cons_of_mem _ hi)⟩, ?_⟩
            rw [hc.s j List.mem_cons_self hk, hk]; rfl
          | false =>
            rw [hb] at h
            simp only [cond_false] at h
            cases hs : sn.any (Nat.beq j) with
            | true => rw [hs] at h; cases h
            | false =>
              rw [hs] at h
              simp only [cond_false, Option.some.injEq, Prod.mk.injEq] at h
              obtain ⟨rfl, rfl, rfl⟩ := h
              have hjj : inK ((j, b) :: κ) j = true := by rw [inK_cons]; simp
              refine ⟨⟨fun i hi => ?_, fun i hi hf => hc.s i hi ?_⟩, ?_⟩
              · have h1 := hc.k i (by rw [inK_cons, hi, Bool.or_true])
                refine ⟨h1.1, h1.2.trans ?_⟩
                simp only [kv]
                cases hq : Nat.beq j i with
                | false => rfl
                | true => obtain rfl := Nat.eq_of_beq_eq_true hq; rw [hk] at hi; cases hi
              · rw [inK_cons, hf, Bool.or_false]
                cases hq : Nat.beq j i with
                | false => rfl
                | true =>
                  obtain rfl := Nat.eq_of_beq_eq_true hq
                  have : sn.any (Nat.beq j) = true := List.any_eq_true.2 ⟨j, hi, by simp⟩
                  rw [hs] at this; cases this
              · rw [(hc.k j hjj).1, (hc.k j hjj).2, hjj]; rfl
      · cases h
/-- the operations of a region, one behind the other: directives, what is told of each, the state behind -/
def planX (dr : Bool) (cf : CallF) (P : Program) (ops : Array Oper) (N : Nat) : List Oper → List (Nat × Bool) → List Nat → List Ent → Heap → Nat → Option (List (Nat × Bool) × List Dir × List Info × List Ent × Heap × Nat)
  | [], κ, _, R, H, nx => some (κ, [], [], R, H, nx)
  | o :: l, κ, sn, R, H, nx => match (bif dr then selR R (tmpsOf ops o) else R) with
    | Rv => match planG ops κ sn Rv o with
      | none => none
      | some (κ', p, sn') => match planD dr cf P Rv H nx p o with
        | none => none
        | some d => match (bif dr then restr H (fpOf Rv p o d) else H) with
          | Hv => match stepX P Rv Hv nx p o d with
            | none => none
            | some out => bif (gB κ' p && eqB (planB ops κ' Rv o) && eqB out.eqs && (!p.isEmpty || out.obs.all obB)) && (dstOk N o && (p.isEmpty || out.U.isEmpty) && Nat.ble nx out.nx) then match setR R o p out.res with
                | none => none
                | some R' => match planX dr cf P ops N l κ' sn' R' (happ out.U H) out.nx with
                  | none => none
                  | some (κ2, ds, is, x) => some (κ2, d :: ds, ⟨o, d, p, planB ops κ' Rv o, Rv, Hv, nx, out⟩ :: is, x)
              else none
theorem eqB_all {l : List (Bool × Bool)} (h : eqB l = true) : AllEq l := allEq_of_map (eqB_map h)
theorem allEq_app {l m : List (Bool × Bool)} (h : AllEq l) (k : AllEq m) : AllEq (l ++ m) := by
  induction l with
  | nil => exact k
  | cons x l ih => exact ⟨h.1, ih h.2⟩
theorem planX_cmp {dr : Bool} {cf : CallF} {ops : Array Oper} {κF : List (Nat × Bool)} : ∀ {l : List Oper} {κ : List (Nat × Bool)} {sn : List Nat} {R : List Ent} {H : Heap} {nx : Nat} {ds : List Dir} {is : List Info} {x : List Ent × Heap × Nat}, planX dr cf P ops N l κ sn R H nx = some (κF, ds, is, x) → CmpX κ κF sn
  | [], κ, sn, R, H, nx, ds, is, x, h => by
    simp only [planX, Option.some.injEq, Prod.mk.injEq] at h
    obtain ⟨rfl, _⟩ := h
    exact ⟨fun _ q => ⟨q, rfl⟩, fun _ _ q => q⟩
  | o :: l, κ, sn, R, H, nx, ds, is, x, h => by
    simp only [planX] at h
    split at h
    · cases h
    · rename_i κ' p sn' hG
      split at h
      · cases h
      · split at h
        · cases h
        · rw [cond_eq_ite] at h
          split at h
          · split at h
            · cases h
            · split at h
              · cases h
              · rename_i κ2 ds2 is2 x2 hrec
                simp only [Option.some.injEq, Prod.mk.injEq] at h
                obtain ⟨rfl, _⟩ := h
                exact (planX_guard hG (planX_cmp hrec)).1
          · cases h
theorem planX_seq {cf : CallF} (cs : CS P cf) {ops : Array Oper} {κF : List (Nat × Bool)} : ∀ {l : List Oper} {κ : List (Nat × Bool)} {sn : List Nat} {R : List Ent} {H : Heap} {nx : Nat} {ds : List Dir} {is : List Info} {R1 : List Ent} {H1 : Heap} {n1 : Nat}, planX false cf P ops N l κ sn R H nx = some (κF, ds, is, R1, H1, n1) → ∃ obs eqs, seqRun P ops κF N l ds R H nx = some ⟨R1, H1, n1, obs, eqs⟩ ∧ AllOb obs ∧ AllEq eqs
  | [], κ, sn, R, H, nx, ds, is, R1, H1, n1, h => by
    simp only [planX, Option.some.injEq, Prod.mk.injEq] at h
    obtain ⟨_, rfl, _, rfl, rfl, rfl⟩ := h
    exact ⟨[], [], rfl, trivial, trivial⟩
  | o :: l, κ, sn, R, H, nx, ds, is, R1, H1, n1, h => by
    simp only [planX, cond_false] at h
    split at h
    · cases h
    · rename_i κ' p sn' hG
      split at h
      · cases h
      · rename_i d hd
        split at h
        · cases h
        · rename_i out hst
          rw [cond_eq_ite] at h
          split at h
          · rename_i hb
            rw [Bool.and_eq_true] at hb
            obtain ⟨hb1, hb2⟩ := hb
            simp only [Bool.and_eq_true, Bool.or_eq_true, Bool.not_eq_true'] at hb1
            split at h
            · cases h
            · rename_i R' hR'
              split at h
              · cases h
              · rename_i κ2 ds2 is2 x2 hrec
                simp only [Option.some.injEq, Prod.mk.injEq] at h
                obtain ⟨rfl, rfl, _, rfl⟩ := h
                obtain ⟨hc, hpath⟩ := planX_guard hG (planX_cmp hrec)
                have hdir := stepX_dir hd (planX_cmp hrec) hb1.1.1.1 hst
                obtain ⟨obs, eqs, h1, h2, h3⟩ := planX_seq cs hrec
                refine ⟨obsIf κ2 p out.obs ++ obs, planB ops κ' R o ++ (out.eqs ++ eqs), ?_, allOb_app (obsIf_mk (step_ob (dr := false) cs hd hdir fun hp => hb1.2.elim (fun q => by rw [hp] at q; cases q) fun q => q)) h2, allEq_app (eqB_all hb1.1.1.2) (allEq_app (eqB_all hb1.1.2) h3)⟩
                simp only [seqRun, hpath, hdir, hb2, cond_true, hR', h1]
          · cases h
theorem planX_any {cf : CallF} (cs : CS P cf) {ops : Array Oper} {κF : List (Nat × Bool)} : ∀ {l : List Oper} {κ : List (Nat × Bool)} {sn : List Nat} {R : List Ent} {H : Heap} {nx : Nat} {ds : List Dir} {is : List Info} {x : List Ent × Heap × Nat}, planX true cf P ops N l κ sn R H nx = some (κF, ds, is, x) → anyRun P ops κF N l ds R H nx = some (is, x) ∧ AllOb (is.flatMap fun i => obsIf κF i.p i.out.obs) ∧ AllEq (is.flatMap fun i => i.bs ++ i.out.eqs)
  | [], κ, sn, R, H, nx, ds, is, x, h => by
    simp only [planX, Option.some.injEq, Prod.mk.injEq] at h
    obtain ⟨_, rfl, rfl, rfl⟩ := h
    exact ⟨rfl, trivial, trivial⟩
  | o :: l, κ, sn, R, H, nx, ds, is, x, h => by
    simp only [planX, cond_true] at h
    split at h
    · cases h
    · rename_i κ' p sn' hG
      split at h
      · cases h
      · rename_i d hd
        split at h
        · cases h
        · rename_i out hst
          rw [cond_eq_ite] at h
          split at h
          · rename_i hb
            rw [Bool.and_eq_true] at hb
            obtain ⟨hb1, hb2⟩ := hb
            simp only [Bool.and_eq_true, Bool.or_eq_true, Bool.not_eq_true'] at hb1
            split at h
            · cases h
            · rename_i R' hR'
              split at h
              · cases h
              · rename_i κ2 ds2 is2 x2 hrec
                simp only [Option.some.injEq, Prod.mk.injEq] at h
                obtain ⟨rfl, rfl, rfl, rfl⟩ := h
                obtain ⟨hc, hpath⟩ := planX_guard hG (planX_cmp hrec)
                have hdir := stepX_dir hd (planX_cmp hrec) hb1.1.1.1 hst
                obtain ⟨h1, h2, h3⟩ := planX_any cs hrec
                have ho : AllOb out.obs := step_ob (dr := true) cs hd hdir fun hp => by
                  rcases hb1.2 with q | q
                  · rw [hp] at q; cases q
                  · exact q
                refine ⟨?_, ?_, ?_⟩
                · simp only [anyRun, hpath, hdir, hb2, cond_true, hR', h1]
                · rw [List.flatMap_cons]; exact allOb_app (obsIf_mk ho) h2
                · rw [List.flatMap_cons]; exact allEq_app (allEq_app (eqB_all hb1.1.1.2) (eqB_all hb1.1.2)) h3
          · cases h
end
def runReg (cf : CallF) (P : Program) (N : Nat) (ts : List Nat) (l : List Oper) (draw : Bool) (R : List Ent) (H : Heap) (nx : Nat) : Option RX :=
  match planX draw cf P l.toArray N l [] [] R H nx with
  | none => none
  | some (κ, _, is, R1, H1, n1) => bif !draw || (befOk l (befAcc l []) && confOk P κ (hlook H) is (befAcc l []) && slotOk l.toArray is (befAcc l [])) then some (.go (keepF R1 ts) H1 n1) else none
def isRow : Option PO → Bool
  | some (.row ..) => true
  | _ => false
/-- a row told as immutable, those that it holds first -/
def frzD : Nat → Nat → List Ent → Heap → Option (List Ent × Heap)
  | 0, _, _, _ => none
  | n + 1, id, R, H => match hlook H id with
    | some (.row _ _ true _) => match frzRun id R H with
      | none => none
      | some (R', H', obs) => bif obs.all isB && obs.all obB then some (R', H') else none
    | some (.row _ _ false rows) => match (idsVLL rows []).find? (fun i => isRow (hlook H i)) with
      | none => none
      | some j => match frzD n j R H with
        | none => none
        | some (R', H') => frzD n id R' H'
    | _ => none
/-- rows that a value holds itself, not behind a pointer -/
def rowsIn (H : Heap) (ks : List Nat) (x : PV) : List Nat := (idsV x []).filter fun i => isRow (hlook H i) && !(ks.any (Nat.beq i))
/-- the row of which an operation of the region wants a part -/
def fzId (ks : List Nat) (dr : Bool) (cf : CallF) (P : Program) (ops : Array Oper) : List Oper → List (Nat × Bool) → List Nat → List Ent → Heap → Nat → Option Nat
  | [], _, _, _, _, _ => none
  | o :: l, κ, sn, R, H, nx => match (bif dr then selR R (tmpsOf ops o) else R) with
    | Rv => match planG ops κ sn Rv o with
      | none => none
      | some (κ', p, sn') => match planD dr cf P Rv H nx p o with
        | none => match o.op with
          | .slice _ x _ _ _ => match opd Rv p x with
            | some (.own id _ _) => some id
            | _ => none
          | .call { callee := .value f, args, .. } => match opd Rv p f, opds Rv p args.toList with
            | some (.fn _ first caps), some ys => ((first ++ ys ++ caps).flatMap (rowsIn H ks)).head?
            | _, _ => none
          | _ => none
        | some d => match stepDir P κ' Rv (bif dr then restr H (fpOf Rv p o d) else H) nx p o d with
          | none => none
          | some out => match setR R o p out.res with
            | none => none
            | some R' => fzId ks dr cf P ops l κ' sn' R' (happ out.U H) out.nx
/-- a region, with rows told as immutable ahead of it where it wants parts of them -/
def runRegF (ks : List Nat) (cf : CallF) (P : Program) (N : Nat) (ts : List Nat) (l : List Oper) (draw : Bool) : Nat → List Ent → Heap → Nat → Option RX
  | 0, R, H, nx => runReg cf P N ts l draw R H nx
  | k + 1, R, H, nx => match runReg cf P N ts l draw R H nx with
    | some rx => some rx
    | none => match fzId ks draw cf P l.toArray l [] [] R H nx with
      | none => none
      | some id => bif ks.any (Nat.beq id) then none else match frzD 50 id R H with
        | none => none
        | some (R', H') => bif R'.all (fun e => e.p.isEmpty) then runRegF ks cf P N ts l draw k R' H' nx else none
/-- what is still reached -/
def prune (ks : List Nat) (R : List Ent) (H : Heap) : Heap := restr H (reach H 100000 (idsVL (R.map (·.v)) ks) [])
def runF (rc : FuncId → Nat → List Nat × List Nat → Code → List Ent → Heap → Nat → Option RX) (P : Program) : CallF := fun g args H lo =>
  match P.funcs[g]? with
  | none => none
  | some fn => match fn.body with
    | none => none
    | some c => match rc g fn.ntmps (keysH H, idsVL args []) c (initT 0 args) H lo with
      | none => none
      | some (.ex ..) => none
      | some rx => match retP P rx.R rx.H fn.results.toList with
        | none => none
        | some r => match keysH H ++ (reach rx.H 100000 (idsV r (keysH H)) []).filter (fun i => !(keysH H).any (Nat.beq i)) with
          | ids => match updOf rx.H ids with
            | U => bif Nat.ble args.length fn.ntmps && Nat.ble lo rx.nx && ((keysH H).all (fun id => (Nat.blt id lo || Nat.ble rx.nx id) && (ulook U id).isSome) && (idsIn (keysH H ++ keysU U) r && idsU (keysH H ++ keysU U) U)) then some (r, U, rx.nx) else none
/-- functions of which some answers are known: their arguments, without names, and the answer -/
abbrev Orc := FuncId → Option (List (List PV × PV))
def cfO (oc : Orc) (cf : CallF) : CallF := fun g args H lo =>
  match oc g with
  | none => cf g args H lo
  | some es => match H with
    | [] => match es.find? (fun e => eqPL e.1 args) with
      | some e => some (e.2, [], lo)
      | none => none
    | _ => none
def OS (P : Program) (oc : Orc) : Prop := ∀ g es, oc g = some es → ∀ e ∈ es, ∀ lo top, Con P g e.1 [] lo top e.2 []
theorem cfO_sound {P : Program} {oc : Orc} {cf : CallF} (ho : OS P oc) (cs : CS P cf) : CS P (cfO oc cf) := by
  intro g zs Hc nx r U nx' h
  unfold cfO at h
  split at h
  · exact cs _ _ _ _ _ _ _ h
  · rename_i es he
    split at h
    · split at h
      · rename_i e hf
        simp only [Option.some.injEq, Prod.mk.injEq] at h
        obtain ⟨rfl, rfl, rfl⟩ := h
        have h1 := List.find?_some hf
        rw [← eqPL_spec _ _ h1]
        exact ho g es he e (List.mem_of_find?_eq_some hf) _ _
      · cases h
    · cases h
/-- the rows of an answer told as immutable -/
def frzAll : Nat → List ResultVar → Program → List Ent → Heap → Option (List Ent × Heap)
  | 0, _, _, _, _ => none
  | n + 1, rs, P, R, H => match retP P R H rs with
    | none => none
    | some r => match (idsV r []).find? (fun i => isRow (hlook H i)) with
      | none => some (R, H)
      | some id => match frzD 50 id R H with
        | none => none
        | some (R', H') => frzAll n rs P R' H'
def runC (P : Program) (lv : FuncId → Nat → List Nat) (oc : Orc) : Nat → FuncId → Nat → List Nat × List Nat → Code → List Ent → Heap → Nat → Option RX
  | 0, _, _, _, _, _, _, _ => none
  | n + 1, f, N, ks, c, R, H, nx => match c with
    | .skip => some (.go R H nx)
    | .region id ops draw => runRegF ks.2 (cfO oc (runF (runC P lv oc n) P)) P N (lv f id) ops.toList draw 12 R H nx
    | .seq x y => match runC P lv oc n f N ks x R H nx with
      | some (.go R H nx) => runC P lv oc n f N ks y R H nx
      | r => r
    | .cond t x y => match opd R [] t with
      | some (.sc (.bool true)) => runC P lv oc n f N ks x R H nx
      | some (.sc (.bool false)) => runC P lv oc n f N ks y R H nx
      | _ => none
    | .block l x => match runC P lv oc n f N ks x R H nx with
      | some (.ex l' R H nx) => bif Nat.beq l' l then some (.go R H nx) else some (.ex l' R H nx)
      | r => r
    | .loop x => match runC P lv oc n f N ks x R H nx with
      | some (.go R H nx) => runC P lv oc n f N ks (.loop x) R (prune ks.1 R H) nx
      | r => r
    | .exit l => some (.ex l R H nx)
    | .ret => some (.ret R H nx)
    | _ => none

/-! ### soundness -/
section
variable {P : Program} {E : Env} {N : Nat} {R R' : List Ent} {H H' : Heap} {nx nx' : Nat} {a a' : Act} {w w' : World}
theorem planX_nle {dr : Bool} {cf : CallF} {ops : Array Oper} {κF : List (Nat × Bool)} : ∀ {l : List Oper} {κ : List (Nat × Bool)} {sn : List Nat} {R : List Ent} {H : Heap} {nx : Nat} {ds : List Dir} {is : List Info} {R1 : List Ent} {H1 : Heap} {n1 : Nat}, planX dr cf P ops N l κ sn R H nx = some (κF, ds, is, R1, H1, n1) → nx ≤ n1
  | [], κ, sn, R, H, nx, ds, is, R1, H1, n1, h => by
    simp only [planX, Option.some.injEq, Prod.mk.injEq] at h
    obtain ⟨_, _, _, _, _, rfl⟩ := h
    exact Nat.le_refl _
  | o :: l, κ, sn, R, H, nx, ds, is, R1, H1, n1, h => by
    simp only [planX] at h
    split at h
    · cases h
    · split at h
      · cases h
      · split at h
        · cases h
        · rw [cond_eq_ite] at h
          split at h
          · rename_i hb
            split at h
            · cases h
            · split at h
              · cases h
              · rename_i κ2 ds2 is2 x2 hrec
                simp only [Option.some.injEq, Prod.mk.injEq] at h
                obtain ⟨rfl, rfl, rfl, rfl⟩ := h
                simp only [Bool.and_eq_true] at hb
                exact Nat.le_trans (Nat.le_of_ble_eq_true hb.2.2) (planX_nle hrec)
          · cases h
theorem allEq_map {α : Type} : ∀ {l : List (α × α)}, AllEq l → l.map (·.1) = l.map (·.2)
  | [], _ => rfl
  | x :: l, h => by rw [List.map_cons, List.map_cons, h.1, allEq_map h.2]
theorem Rel.tellH {κ : List (Nat × Bool)} {σ : Nm} {Z : Nat → Prop} (h : Rel E N κ R H nx σ Z a w) (e : ∀ i, hlook H i = hlook H' i) : Rel E N κ R H' nx σ Z a w :=
  ⟨h.rs, ⟨fun id o q => h.hr.at_ id o ((e id).trans q), fun id id' o o' b c c' q1 q2 => h.hr.inj id id' o o' b c c' ((e id).trans q1) ((e id').trans q2), fun id o b c q => h.hr.off id o b c ((e id).trans q), h.hr.zlt⟩, fun id q1 q2 => ⟨(h.fr id q1 q2).1, (e id).symm.trans (h.fr id q1 q2).2⟩, h.lo, h.ext, h.dom, fun id o b c q => h.own id o b c ((e id).trans q), h.chg, h.zold, h.z0⟩
/-- a region that draws its order, nothing of the table left out -/
theorem region_full {id : Nat} {Q : Exit → Act → World → Prop} {l : List Oper} {T R' : List Ent} {is : List Info} (κ : List (Nat × Bool)) (ds : List Dir) {ts : List Nat} (hS : Sat E N R H nx a w) (h0 : R.all (fun e => e.p.isEmpty) = true) (hm : P.follows .mixedOrders = true) (hrun : anyRun P l.toArray κ N l ds R H nx = some (is, R', H', nx')) (b1 : befOk l (befAcc l []) = true) (b2 : confOk P κ (hlook H) is (befAcc l []) = true) (b3 : slotOk l.toArray is (befAcc l []) = true) (hk : keepR R' ts = some T) (htop : nx' ≤ E.top) (hob : AllOb (is.flatMap fun i => obsIf κ i.p i.out.obs)) (heq : AllEq (is.flatMap fun i => i.bs ++ i.out.eqs))
    (k : ∀ a' w', Sat E N T H' nx' a' w' → Q .normal a' w') : (Code.region id l.toArray true).wp P Q a w := by
  have e : ∀ i, hlook (restr H' (keysH H')) i = hlook H' i := fun i => by
    cases h : hlook (restr H' (keysH H')) i with
    | some o => exact (hlook_restr h).1.symm
    | none =>
      cases h2 : hlook H' i with
      | none => rfl
      | some o => have := hlook_restr_none h (hlook_key h2); rw [h2] at this; cases this
  refine region_a κ ds ts (keysH H') hS h0 hm (T := T) (H' := restr H' (keysH H')) (nx' := nx') (obs := is.flatMap fun i => obsIf κ i.p i.out.obs) ?_ ?_ htop hob fun a' w' ⟨σ, Z, hr⟩ => k a' w' ⟨σ, Z, hr.tellH e⟩
  · unfold anyFin
    rw [hrun]
    simp only [b1, b2, b3, Bool.and_self, cond_true, hk]
  · unfold anyA anyB
    rw [hrun]
    exact allEq_map heq
/-- what a region leaves -/
theorem runReg_inv {cf : CallF} {ts : List Nat} {l : List Oper} {draw : Bool} {rx : RX} (h : runReg cf P N ts l draw R H nx = some rx) : rx.R.all (fun e => e.p.isEmpty) = true ∧ nx ≤ rx.nx ∧ rx.e = .normal := by
  unfold runReg at h
  split at h
  · cases h
  · rename_i κ ds is R1 H1 n1 hplan
    rw [cond_eq_ite] at h
    split at h
    · simp only [Option.some.injEq] at h; subst h
      obtain ⟨ts', hk⟩ := keepF_spec R1 ts
      exact ⟨keepR_all hk, planX_nle hplan, rfl⟩
    · cases h
theorem runReg_sound {cf : CallF} (cs : CS P cf) {id : Nat} {ts : List Nat} {l : List Oper} {draw : Bool} {rx : RX} {Q : Exit → Act → World → Prop} (h : runReg cf P N ts l draw R H nx = some rx) (hR : R.all (fun e => e.p.isEmpty) = true) (hm : P.follows .mixedOrders = true) (hS : Sat E N R H nx a w) (htop : rx.nx ≤ E.top) (k : ∀ a' w', Sat E N rx.R rx.H rx.nx a' w' → Q .normal a' w') : (Code.region id l.toArray draw).wp P Q a w := by
  unfold runReg at h
  split at h
  · cases h
  · rename_i κ ds is R1 H1 n1 hplan
    rw [cond_eq_ite] at h
    split at h
    · rename_i hb
      simp only [Option.some.injEq] at h; subst h
      obtain ⟨ts', hk⟩ := keepF_spec R1 ts
      obtain ⟨σ, Z, hr⟩ := hS
      cases draw with
      | false =>
        obtain ⟨obs, eqs, h1, h2, h3⟩ := planX_seq cs hplan
        have := seq_sound (Q := Q) (rest := []) l ds h1 htop h2 h3 (hr.rs' (hr.rs.kap hR)) (fun a' w' σ' Z' hr' => k a' w' ⟨σ', Z', hr'.rs' (hr'.rs.keep hk)⟩)
        rw [List.append_nil] at this
        exact wp_region_lit this
      | true =>
        obtain ⟨h1, h2, h3⟩ := planX_any cs hplan
        simp only [Bool.not_true, Bool.false_or, Bool.and_eq_true] at hb
        exact region_full κ ds ⟨σ, Z, hr⟩ hR hm h1 hb.1.1 hb.1.2 hb.2 hk htop h2 h3 k
    · cases h
theorem runRegF_inv {ks : List Nat} {cf : CallF} {ts : List Nat} {l : List Oper} {draw : Bool} : ∀ (k : Nat) {R : List Ent} {H : Heap} {nx : Nat} {rx : RX}, runRegF ks cf P N ts l draw k R H nx = some rx → rx.R.all (fun e => e.p.isEmpty) = true ∧ nx ≤ rx.nx ∧ rx.e = .normal
  | 0, R, H, nx, rx, h => runReg_inv h
  | k + 1, R, H, nx, rx, h => by
    simp only [runRegF] at h
    split at h
    · rename_i rx' hr
      simp only [Option.some.injEq] at h; subst h; exact runReg_inv hr
    · split at h
      · cases h
      · rw [cond_eq_ite] at h
        split at h
        · cases h
        · split at h
          · cases h
          · rw [cond_eq_ite] at h
            split at h
            · exact runRegF_inv k h
            · cases h
theorem frzD_sound : ∀ (n : Nat) {id : Nat} {R R' : List Ent} {H H' : Heap}, Sat E N R H nx a w → frzD n id R H = some (R', H') → Sat E N R' H' nx a w
  | 0, _, _, _, _, _, _, h => by simp [frzD] at h
  | n + 1, id, R, R', H, H', hS, h => by
    simp only [frzD] at h
    split at h
    · split at h
      · cases h
      · rename_i hf
        rw [cond_eq_ite] at h
        split at h
        · rename_i hb
          simp only [Bool.and_eq_true] at hb
          simp only [Option.some.injEq, Prod.mk.injEq] at h
          obtain ⟨rfl, rfl⟩ := h
          exact freeze _ hS hf (allOb_b hb.1 hb.2)
        · cases h
    · split at h
      · cases h
      · split at h
        · cases h
        · rename_i hf
          exact frzD_sound n (frzD_sound n hS hf) h
    · cases h
theorem runRegF_sound {ks : List Nat} {cf : CallF} (cs : CS P cf) {id : Nat} {ts : List Nat} {l : List Oper} {draw : Bool} {Q : Exit → Act → World → Prop} (hm : P.follows .mixedOrders = true) : ∀ (k : Nat) {R : List Ent} {H : Heap} {nx : Nat} {rx : RX} {a : Act} {w : World}, runRegF ks cf P N ts l draw k R H nx = some rx → R.all (fun e => e.p.isEmpty) = true → Sat E N R H nx a w → rx.nx ≤ E.top → (∀ a' w', Sat E N rx.R rx.H rx.nx a' w' → Q .normal a' w') → (Code.region id l.toArray draw).wp P Q a w
  | 0, R, H, nx, rx, a, w, h, hR, hS, htop, hq => runReg_sound cs h hR hm hS htop hq
  | k + 1, R, H, nx, rx, a, w, h, hR, hS, htop, hq => by
    simp only [runRegF] at h
    split at h
    · rename_i rx' hr
      simp only [Option.some.injEq] at h; subst h; exact runReg_sound cs hr hR hm hS htop hq
    · split at h
      · cases h
      · rw [cond_eq_ite] at h
        split at h
        · cases h
        · split at h
          · cases h
          · rename_i R' H' hf
            rw [cond_eq_ite] at h
            split at h
            · rename_i hb
              exact runRegF_sound cs hm k h hb (frzD_sound _ hS hf) htop hq
            · cases h
theorem runC_inv {lv : FuncId → Nat → List Nat} {oc : Orc} : ∀ (n : Nat) {f N : Nat} {ks : List Nat × List Nat} {c : Code} {R : List Ent} {H : Heap} {nx : Nat} {rx : RX}, runC P lv oc n f N ks c R H nx = some rx → R.all (fun e => e.p.isEmpty) = true → rx.R.all (fun e => e.p.isEmpty) = true ∧ nx ≤ rx.nx
  | 0, _, _, _, _, _, _, _, _, h, _ => by simp [runC] at h
  | n + 1, f, N, ks, c, R, H, nx, rx, h, hR => by
    have two : ∀ {x y : Code} (g : List Ent → Heap → Heap), (match runC P lv oc n f N ks x R H nx with | some (.go R H nx) => runC P lv oc n f N ks y R (g R H) nx | r => r) = some rx → rx.R.all (fun e => e.p.isEmpty) = true ∧ nx ≤ rx.nx := fun {x y} g h => by
      cases hx : runC P lv oc n f N ks x R H nx with
      | none => rw [hx] at h; cases h
      | some r1 =>
        rw [hx] at h
        have i1 := runC_inv n hx hR
        cases r1 with
        | go R1 H1 nx1 =>
          have i2 := runC_inv n h i1.1
          exact ⟨i2.1, Nat.le_trans i1.2 i2.2⟩
        | ret R1 H1 nx1 => simp only [Option.some.injEq] at h; subst h; exact i1
        | ex l R1 H1 nx1 => simp only [Option.some.injEq] at h; subst h; exact i1
    cases c with
    | skip => simp only [runC, Option.some.injEq] at h; subst h; exact ⟨hR, Nat.le_refl _⟩
    | exit l => simp only [runC, Option.some.injEq] at h; subst h; exact ⟨hR, Nat.le_refl _⟩
    | ret => simp only [runC, Option.some.injEq] at h; subst h; exact ⟨hR, Nat.le_refl _⟩
    | region id ops draw =>
      simp only [runC] at h
      have := runRegF_inv 12 h
      exact ⟨this.1, this.2.1⟩
    | seq x y => exact two (fun _ H => H) (by simpa only [runC] using h)
    | loop x => exact two (prune ks.1) (by simpa only [runC] using h)
    | cond t x y =>
      simp only [runC] at h
      split at h
      · exact runC_inv n h hR
      · exact runC_inv n h hR
      · cases h
    | block l x =>
      simp only [runC] at h
      cases hx : runC P lv oc n f N ks x R H nx with
      | none => rw [hx] at h; cases h
      | some r1 =>
        rw [hx] at h
        have i1 := runC_inv n hx hR
        cases r1 with
        | go R1 H1 nx1 => simp only [Option.some.injEq] at h; subst h; exact i1
        | ret R1 H1 nx1 => simp only [Option.some.injEq] at h; subst h; exact i1
        | ex l' R1 H1 nx1 =>
          simp only at h
          cases hb : Nat.beq l' l with
          | true => rw [hb] at h; simp only [cond_true, Option.some.injEq] at h; subst h; exact i1
          | false => rw [hb] at h; simp only [cond_false, Option.some.injEq] at h; subst h; exact i1
    | _ => simp [runC] at h
/-- what the runner says of a piece of code holds -/
def SC (P : Program) (lv : FuncId → Nat → List Nat) (oc : Orc) (n : Nat) : Prop := ∀ {E : Env} {f N : Nat} {ks : List Nat × List Nat} {c : Code} {R : List Ent} {H : Heap} {nx : Nat} {rx : RX} {a : Act} {w : World} {Q : Exit → Act → World → Prop}, runC P lv oc n f N ks c R H nx = some rx → R.all (fun e => e.p.isEmpty) = true → Sat E N R H nx a w → rx.nx ≤ E.top → (∀ a' w', Sat E N rx.R rx.H rx.nx a' w' → Q rx.e a' w') → c.wp P Q a w
theorem runF_sound {lv : FuncId → Nat → List Nat} {oc : Orc} {n : Nat} (sc : SC P lv oc n) : CS P (runF (runC P lv oc n) P) := by
  intro g zs Hc nx r U nx' h
  unfold runF at h
  split at h
  · cases h
  · rename_i fn hf
    split at h
    · cases h
    · rename_i c hb
      split at h
      · cases h
      · cases h
      · rename_i rx hne hrun
        split at h
        · cases h
        · rename_i r1 hr
          simp only at h
          rw [cond_eq_ite] at h
          split at h
          · rename_i hk
            simp only [Option.some.injEq, Prod.mk.injEq] at h
            obtain ⟨rfl, rfl, rfl⟩ := h
            simp only [Bool.and_eq_true] at hk
            refine con_intro zs fn.ntmps hf hb rfl hk.1.1 (by simpa only [Bool.and_eq_true] using hk.2.1) fun E a hE hS => ?_
            refine sc hrun (initT_all zs 0) hS (by rw [hE.etop]; exact Nat.le_refl _) fun a' w' hS' => ?_
            refine ret_s hS' hE hr (okU_upd _ _) (by simpa only [Bool.and_eq_true] using hk.2.2) ?_
            cases rx with
            | go => exact .inr rfl
            | ret => exact .inl rfl
            | ex l R1 H1 n1 => exact absurd rfl (hne l R1 H1 n1)
          · cases h
theorem rounds_sound {lv : FuncId → Nat → List Nat} {oc : Orc} {x : Code} {Q : Exit → Act → World → Prop} {rx : RX} {f : Nat} {ks : List Nat × List Nat} (hQ : ∀ a' w', Sat E N rx.R rx.H rx.nx a' w' → Q rx.e a' w') (htop : rx.nx ≤ E.top) : ∀ (n : Nat), (∀ m, m < n → SC P lv oc m) → ∀ {R : List Ent} {H : Heap} {nx : Nat} {a : Act} {w : World}, runC P lv oc n f N ks (.loop x) R H nx = some rx → R.all (fun e => e.p.isEmpty) = true → Sat E N R H nx a w → Code.rounds P x Q n a w
  | 0, _, R, H, nx, a, w, h, _, _ => by simp [runC] at h
  | n + 1, sc, R, H, nx, a, w, h, hR, hS => by
    simp only [runC] at h
    show x.wp P (Exit.then (Code.rounds P x Q n) Q) a w
    cases hx : runC P lv oc n f N ks x R H nx with
    | none => rw [hx] at h; cases h
    | some r1 =>
      rw [hx] at h
      have i1 := runC_inv n hx hR
      cases r1 with
      | go R1 H1 nx1 =>
        have i2 := runC_inv n h i1.1
        exact sc n (Nat.lt_succ_self _) hx hR hS (Nat.le_trans i2.2 htop) fun a' w' hS' => rounds_sound hQ htop n (fun m hm => sc m (Nat.lt_succ_of_lt hm)) h i1.1 (by obtain ⟨σ, Z, q⟩ := hS'; exact ⟨σ, Z, q.restr _⟩)
      | ret R1 H1 nx1 => simp only [Option.some.injEq] at h; subst h; exact sc n (Nat.lt_succ_self _) hx hR hS htop fun a' w' hS' => hQ a' w' hS'
      | ex l R1 H1 nx1 => simp only [Option.some.injEq] at h; subst h; exact sc n (Nat.lt_succ_self _) hx hR hS htop fun a' w' hS' => hQ a' w' hS'
theorem runC_sound {lv : FuncId → Nat → List Nat} {oc : Orc} (ho : OS P oc) (hm : P.follows .mixedOrders = true) : ∀ n, SC P lv oc n := by
  intro n
  induction n using Nat.strongRecOn with
  | ind n ih =>
    intro E f N ks c R H nx rx a w Q h hR hS htop k
    cases n with
    | zero => simp [runC] at h
    | succ n =>
      have sc : SC P lv oc n := ih n (Nat.lt_succ_self _)
      cases c with
      | skip => simp only [runC, Option.some.injEq] at h; subst h; exact wp_skip (k _ _ hS)
      | exit l => simp only [runC, Option.some.injEq] at h; subst h; exact wp_exit (k _ _ hS)
      | ret => simp only [runC, Option.some.injEq] at h; subst h; exact wp_ret (k _ _ hS)
      | region id ops draw =>
        simp only [runC] at h
        have he := (runRegF_inv 12 h).2.2
        have := runRegF_sound (id := id) (Q := Q) (cfO_sound ho (runF_sound sc)) hm 12 h hR hS htop fun a' w' hS' => by have := k a' w' hS'; rwa [he] at this
        simpa using this
      | seq x y =>
        simp only [runC] at h
        refine wp_seq ?_
        cases hx : runC P lv oc n f N ks x R H nx with
        | none => rw [hx] at h; cases h
        | some r1 =>
          rw [hx] at h
          have i1 := runC_inv n hx hR
          cases r1 with
          | go R1 H1 nx1 =>
            have i2 := runC_inv n h i1.1
            exact sc hx hR hS (Nat.le_trans i2.2 htop) fun a' w' hS' => sc h i1.1 hS' htop k
          | ret R1 H1 nx1 => simp only [Option.some.injEq] at h; subst h; exact sc hx hR hS htop fun a' w' hS' => k a' w' hS'
          | ex l R1 H1 nx1 => simp only [Option.some.injEq] at h; subst h; exact sc hx hR hS htop fun a' w' hS' => k a' w' hS'
      | cond t x y =>
        simp only [runC] at h
        split at h
        · rename_i hb; exact cond_s true hS hb (fun _ => sc h hR hS htop k) (fun q => by cases q)
        · rename_i hb; exact cond_s false hS hb (fun q => by cases q) (fun _ => sc h hR hS htop k)
        · cases h
      | block l x =>
        simp only [runC] at h
        refine wp_block ?_
        cases hx : runC P lv oc n f N ks x R H nx with
        | none => rw [hx] at h; cases h
        | some r1 =>
          rw [hx] at h
          cases r1 with
          | go R1 H1 nx1 => simp only [Option.some.injEq] at h; subst h; exact sc hx hR hS htop fun a' w' hS' => k a' w' hS'
          | ret R1 H1 nx1 => simp only [Option.some.injEq] at h; subst h; exact sc hx hR hS htop fun a' w' hS' => k a' w' hS'
          | ex l' R1 H1 nx1 =>
            simp only at h
            cases hb : Nat.beq l' l with
            | true =>
              rw [hb] at h; simp only [cond_true, Option.some.injEq] at h; subst h
              refine sc hx hR hS htop fun a' w' hS' => ?_
              show (if l' = l then Q .normal a' w' else Q (.exit l') a' w')
              rw [if_pos (Nat.eq_of_beq_eq_true hb)]; exact k a' w' hS'
            | false =>
              rw [hb] at h; simp only [cond_false, Option.some.injEq] at h; subst h
              refine sc hx hR hS htop fun a' w' hS' => ?_
              show (if l' = l then Q .normal a' w' else Q (.exit l') a' w')
              rw [if_neg (by rintro rfl; simp at hb)]; exact k a' w' hS'
      | loop x => exact wp_loop_rounds (n + 1) (rounds_sound k htop (n + 1) (fun m hm' => ih m hm') h hR hS)
      | _ => simp [runC] at h
/-- ████ a call that the runner computes ████ -/
theorem run_con {lv : FuncId → Nat → List Nat} {oc : Orc} (ho : OS P oc) (hm : P.follows .mixedOrders = true) (n : Nat) {g : FuncId} {args : List PV} {H : Heap} {lo nx' : Nat} {r : PV} {U : Upd} (h : runF (runC P lv oc n) P g args H lo = some (r, U, nx')) : Con P g args H lo nx' r U := runF_sound (runC_sound ho hm n) _ _ _ _ _ _ _ h
theorem frzAll_sound {rs : List ResultVar} : ∀ (n : Nat) {R R' : List Ent} {H H' : Heap}, Sat E N R H nx a w → frzAll n rs P R H = some (R', H') → Sat E N R' H' nx a w
  | 0, _, _, _, _, _, h => by simp [frzAll] at h
  | n + 1, R, R', H, H', hS, h => by
    simp only [frzAll] at h
    split at h
    · cases h
    · split at h
      · simp only [Option.some.injEq, Prod.mk.injEq] at h
        obtain ⟨rfl, rfl⟩ := h
        exact hS
      · split at h
        · cases h
        · rename_i hf
          exact frzAll_sound n (frzD_sound 50 hS hf) h
/-- a call on values without names, its answer without names -/
def runZ (P : Program) (lv : FuncId → Nat → List Nat) (oc : Orc) (n : Nat) (g : FuncId) (args : List PV) : Option PV :=
  match P.funcs[g]? with
  | none => none
  | some fn => match fn.body with
    | none => none
    | some c => match runC P lv oc n g fn.ntmps ([], []) c (initT 0 args) [] 1 with
      | none => none
      | some (.ex ..) => none
      | some rx => match frzAll 200 fn.results.toList P rx.R rx.H with
        | none => none
        | some (R, H) => match retP P R H fn.results.toList with
          | none => none
          | some r => bif Nat.ble args.length fn.ntmps && (idsIn [] r && idsInL [] args) then some r else none
theorem runZ_con {lv : FuncId → Nat → List Nat} {oc : Orc} (ho : OS P oc) (hm : P.follows .mixedOrders = true) (n : Nat) {g : FuncId} {args : List PV} {r : PV} (h : runZ P lv oc n g args = some r) (lo top : Nat) : Con P g args [] lo top r [] := by
  unfold runZ at h
  split at h
  · cases h
  · rename_i fn hf
    split at h
    · cases h
    · rename_i c hb
      split at h
      · cases h
      · cases h
      · rename_i rx hne hrun
        split at h
        · cases h
        · rename_i R H hfz
          split at h
          · cases h
          · rename_i r1 hr
            rw [cond_eq_ite] at h
            split at h
            · rename_i hk
              simp only [Option.some.injEq] at h; subst h
              simp only [Bool.and_eq_true] at hk
              refine con_any (lo := 1) (top := rx.nx) (con_intro args fn.ntmps hf hb rfl hk.1 rfl fun E a hE hS => ?_) hk.2.1 hk.2.2
              refine runC_sound ho hm n hrun (initT_all args 0) hS (by rw [hE.etop]; exact Nat.le_refl _) fun a' w' hS' => ?_
              refine ret_s (frzAll_sound 200 hS' hfz) hE hr rfl (by simp only [keysH, List.map_nil, keysU, List.append_nil, Bool.and_eq_true]; exact ⟨hk.2.1, rfl⟩) ?_
              cases rx with
              | go => exact .inr rfl
              | ret => exact .inl rfl
              | ex l R1 H1 n1 => exact absurd rfl (hne l R1 H1 n1)
            · cases h
end
end Go.PX
