/- Proved: one operation on plain data, as a function that the kernel computes. Program-independent. -/
import Derived.Test.YtlaiafalilcgjaaGreatDoorQL2
import Derived.Laws.IdiomStrings
set_option linter.unusedVariables false
set_option linter.unusedSimpArgs false
namespace Go.PX
open Go.RowKit Go.SX

/-- what a call answers and changes: H is what it is handed of the table; its names are those from nx up to nx' -/
def Con (P : Program) (f : FuncId) (args : List PV) (H : Heap) (nx nx' : Nat) (r : PV) (U : Upd) : Prop :=
  ∀ (w : World) (σ : Nm) (Z : Nat → Prop) (vs : List Value), HR σ Z w H → VRs σ Z w vs args → (∀ id, nx ≤ id → id < nx' → σ id = none) →
    Calls P f vs.toArray w (fun e w' => ∃ v σ' Z', e = .returned v ∧ VR σ' Z' w' v r ∧ Eff σ Z w H U σ' Z' w')

inductive Dir where
  | au
  | pk
  | ix (k : Nat) (row : List PV)
  | lr (row : List PV)
  | nm (x : PV)
  | mk (k : Nat)
  | cl (ids : List Nat) (r : PV) (U : Upd) (nx : Nat)
  | cv (vs : List Nat) (r : PV) (nx : Nat)
  | sl (l h : Nat) (rs : List (List PV))
  | cr (vs : List Nat) (u : Value)
  | dd
  | mm
  | mu (es : Array MapEntry) (cl : Nat)
  | rg
  | en (kx vx : PV)
  | bs (u : Value)
  | rt (row : List PV) (gs : List (Nat × Nat))
  | fb
  | bt (l : List UInt8)
  | sx (c : UInt8)
  | ss (l h : Nat) (u : ByteArray)

structure Out where
  res : Option PV
  U : Upd := []
  nx : Nat
  obs : List Ob := []
  eqs : List (Bool × Bool) := []

def okPick (R : List Ent) (p : List (Nat × Bool)) (want : Bool) : Operand → Option (Option Nat × PV)
  | .tmp t => match look R t with
    | none => none
    | some e => bif sub e.p p then some (none, e.v) else match e.p with
      | (j, w) :: q => bif (w == want) && sub q p then some (some j, e.v) else none
      | [] => none
  | .const v => (ofV v).map (none, ·)
  | .func f => some (none, .fn f [] [])
  | .global _ => none
def pickP (cb : Bool) (a b : Operand) (xa xb : PV) : PV :=
  match b, xa with
  | .const (.bool false), .sc (.bool x) => .sc (.bool (cb && x))
  | _, _ => match a, xb with
    | .const (.bool true), .sc (.bool y) => .sc (.bool (cb || y))
    | _, _ => bif cb then xa else xb

def restr (H : Heap) : List Nat → Heap
  | [] => []
  | id :: l => match hlook H id with
    | some o => (id, o) :: restr H l
    | none => restr H l

def one (x : PV) (nx : Nat) : Option Out := some { res := some x, nx := nx }

/-- cells of which ghosts tell how they read -/
def retyp (H : Heap) : List (Nat × Nat) → List PV → Option (List PV × List Ob)
  | [], xs => some (xs, [])
  | (j, g) :: gs, xs => match xs[j]?, hlook H g with
    | some (.sc u), some (.ty v x) => match retyp H gs (xs.set j x) with
      | some (ys, ob) => some (ys, .q (u = v) :: ob)
      | none => none
    | _, _ => none
def retypV (H : Heap) (gs : List (Nat × Nat)) : PV → Option (PV × List Ob)
  | .agg xs => (retyp H gs xs).map fun q => (.agg q.1, q.2)
  | x => match retyp H gs [x] with
    | some ([y], ob) => some (y, ob)
    | _ => none

def stepLoad (P : Program) (R : List Ent) (H : Heap) (nx : Nat) (p : List (Nat × Bool)) (t : TypeId) (x : Operand) : Option Out :=
  match opd R p x with
  | some px => match behind H px with
    | some xs => match pack P t xs with
      | some r => one r nx
      | none => none
    | none => none
  | none => none
def stepStore (P : Program) (R : List Ent) (H : Heap) (nx : Nat) (p : List (Nat × Bool)) (t : TypeId) (x y : Operand) : Option Out :=
  match opd R p x, opd R p y, evl P (sizeOf t) with
  | some (.ptr id off), some py, some n => match hlook H id with
    | some (.box e xs) => bif !isTup py && Nat.beq (pcells py).length n && Nat.ble (off + n) xs.length then some { res := none, U := [(id, some (.box e (over xs off (pcells py))))], nx } else none
    | _ => none
  | some (.rptr id sz k i), some py, some n => match hlook H id with
    | some (.row e sz' pu rows) => match rows[k]? with
      | some r => bif Nat.beq sz sz' && !isTup py && Nat.beq (pcells py).length n && Nat.ble (i + n) sz then some { res := none, U := [(id, some (.row e sz (pu && pures (pcells py)) (rows.set k (over r i (pcells py)))))], nx } else none
      | none => none
    | _ => none
  | _, _, _ => none
def stepApp (P : Program) (R : List Ent) (H : Heap) (nx : Nat) (p : List (Nat × Bool)) (t : TypeId) (x y : Operand) : Option Out :=
  match P.underlying t with
  | some (.slice e) => match P.info? e with
    | some i => match i.zero, opd R p x, opd R p y with
      | some z, some px, some py => match baseRows H e i.size px, srcRows H i.size py with
        | some q, some (pu, rows, ok) => bif Nat.beq z.cells.size i.size && Nat.blt 0 i.size && Nat.ble i.bytes 100000 then
            some { res := some (.own nx i.size (q.2.2.1.length + rows.length)), U := appU nx q.1 (.row e i.size (q.2.1 && pu) (q.2.2.1 ++ rows)), nx := nx + 1, obs := [.b q.2.2.2, .b ok, .b (Nat.ble (q.2.2.1.length + rows.length) 1000000000)] } else none
        | _, _ => none
      | _, _, _ => none
    | none => none
  | _ => none
/-- a string's bytes -/
def stepAppS (P : Program) (R : List Ent) (H : Heap) (nx : Nat) (p : List (Nat × Bool)) (t u : TypeId) (x y : Operand) : Option Out :=
  match P.underlying t, P.underlying u with
  | some (.slice e), some .string => match P.info? e with
    | some i => match i.zero, opd R p x, opd R p y with
      | some (.int .u8 z), some px, some (.sc (.string s)) => match baseRows H e 1 px with
        | some q => bif decide (z = 0) && Nat.beq i.size 1 && Nat.beq i.bytes 1 then
            some { res := some (.own nx 1 (q.2.2.1.length + s.size)), U := appU nx q.1 (.row e 1 q.2.1 (q.2.2.1 ++ s.data.toList.map byteV)), nx := nx + 1, obs := [.b q.2.2.2, .b (Nat.ble (q.2.2.1.length + s.size) 1000000000)] } else none
        | none => none
      | _, _, _ => none
    | none => none
  | _, _ => none
def stepMake (P : Program) (R : List Ent) (nx : Nat) (p : List (Nat × Bool)) (t : TypeId) (x y : Operand) (k : Nat) : Option Out :=
  match evl P (underlying t), opd R p x, opd R p y with
  | some (.slice e), some (.sc (.int _ n)), some (.sc (.int _ m)) => match evl P (typeInfo e), evl P (sizeOf e), zeroCells P e with
    | some i, some size, some zs => bif Nat.beq zs.length size && Nat.blt 0 size && Nat.ble i.bytes 100000 && pures zs then
        some { res := some (.own nx size k), U := [(nx, some (.row e size true (List.replicate k zs)))], nx := nx + 1, obs := [.q (n = (k : Int)), .q (m = (k : Int)), .b (Nat.ble k 1000000000)] } else none
    | _, _, _ => none
  | _, _, _ => none

def stepCopy (P : Program) (R : List Ent) (H : Heap) (nx : Nat) (p : List (Nat × Bool)) (t : TypeId) (x y : Operand) : Option Out :=
  match P.underlying t with
  | some (.slice e) => match (P.info? e).map (·.size), opd R p x, opd R p y with
    | some s, some (.own i s1 n), some (.own j s2 m) => match hlook H i, hlook H j with
      | some (.row e1 t1 _ r1), some (.row _ t2 pu2 r2) => bif Nat.beq s 1 && Nat.beq s1 1 && Nat.beq s2 1 && Nat.beq t1 1 && Nat.beq t2 1 then
          some { res := some (.sc (.int .i64 (r2.length : Int))), U := [(i, some (.row e1 1 pu2 r2))], nx, obs := [.b (lenIs n r1), .b (lenIs m r2), .q (r1.length = r2.length)] } else none
      | _, _ => none
    | _, _, _ => none
  | _ => none
/-- an operation, computed without help; none: it wants another hint, or has no law here -/
def stepAu (P : Program) (R : List Ent) (H : Heap) (nx : Nat) (p : List (Nat × Bool)) (o : Oper) : Option Out :=
  match o.op with
  | .move x => (opd R p x).bind (one · nx)
  | .assign x => (opd R p x).bind (one · nx)
  | .pick c x y => match opd R p c with
    | some (.sc (.bool true)) => (opd R p x).bind (one · nx)
    | some (.sc (.bool false)) => (opd R p y).bind (one · nx)
    | _ => none
  | .load t x => stepLoad P R H nx p t x
  | .alloc t => match evl P (zeroValue t) with
    | some z => match ofV z with
      | some px => bif isTup px then none else some { res := some (.ptr nx 0), U := [(nx, some (.box t (pcells px)))], nx := nx + 1 }
      | none => none
    | none => none
  | .box t x => match opd R p x with
    | some px => bif isTup px then none else some { res := some (.ptr nx 0), U := [(nx, some (.box t (pcells px)))], nx := nx + 1 }
    | none => none
  | .store t x y => stepStore P R H nx p t x y
  | .fieldAddr s x f => match opd R p x, fieldOff P s f with
    | some px, some n => (addPtr n px).bind (one · nx)
    | _, _ => none
  | .field s x f => match opd R p x with
    | some px => (fieldP P s px f).bind (one · nx)
    | none => none
  | .extract x i => match opd R p x with
    | some (.tup xs) => (xs[i]?).bind (one · nx)
    | _ => none
  | .build t parts => match partsP R p parts.toList with
    | some xs => (buildP P t xs).bind (one · nx)
    | none => none
  | .buildSlice t len parts => match partsP R p parts.toList with
    | some xs => match buildSliceP P t len xs with
      | some (e, size, cs) => some { res := some (.own nx size len), U := [(nx, some (.row e size (pures cs) (chunk size len cs)))], nx := nx + 1 }
      | none => none
    | none => none
  | .nilCheck x => match opd R p x with
    | some px => bif isPtr px then one px nx else scal P R p o |>.bind (one · nx)
    | none => none
  | .indexAddr t x i => match opd R p x, opd R p i with
    | some px, some (.sc (.int _ (.ofNat k))) => (ixAu P t px k).bind (one · nx)
    | _, _ => none
  | .index t x i => match opd R p x, opd R p i with
    | some (.agg xs), some (.sc (.int _ (.ofNat k))) => (indexP P t (.agg xs) k).bind (one · nx)
    | _, _ => (scal P R p o).bind (one · nx)
  | .makeFunc (.func f) l1 l2 => match opds R p l1.toList, opds R p l2.toList with
    | some y1, some y2 => one (.fn f y1 y2) nx
    | _, _ => none
  | .makeMap t none => match mapTy P t with
    | some _ => some { res := some (.map nx), U := [(nx, some (.mp []))], nx := nx + 1 }
    | none => none
  | .lookup t m x ok => match mapTy P t, opd R p m, opd R p x with
    | some z, some (.map id), some (.sc (.int .i64 n)) => match hlook H id with
      | some (.mp D) => one (bif ok then .tup [.sc ((findV D n).getD z), .sc (.bool (findV D n).isSome)] else .sc ((findV D n).getD z)) nx
      | _ => none
    | _, _, _ => none
  | .mapUpdate t m x y => match mapTy P t, opd R p m, opd R p x, opd R p y with
    | some _, some (.map id), some (.sc (.int .i64 n)), some (.sc v) => match hlook H id with
      | some (.mp D) => some { res := none, U := [(id, some (.mp (updV D n v)))], nx }
      | _ => none
    | _, _, _, _ => none
  | .call { callee := .builtin .len, args := ⟨[x]⟩, argTypes := ty } => match ty[0]?, opd R p x with
    | some t, some px => match evl P (underlying t), plen px with
      | some (.slice _), some n => one (.sc (.int .i64 (n : Int))) nx
      | _, _ => (scal P R p o).bind (one · nx)
    | _, _ => none
  | .call { callee := .builtin .append, args := ⟨[x, y]⟩, argTypes := ⟨[t, t']⟩ } => bif Nat.beq t t' then stepApp P R H nx p t x y else stepAppS P R H nx p t t' x y
  | .call { callee := .builtin .copy, args := ⟨[x, y]⟩, argTypes := ⟨[t, _]⟩ } => stepCopy P R H nx p t x y
  | _ => (scal P R p o).bind (one · nx)

/-- the byte of a string at an index -/
def StrAt (s : ByteArray) (n : Int) (c : UInt8) : Prop := ∃ k : Nat, n = k ∧ s.data.toList[k]? = some c
def ownId : PV → List Nat
  | .own id _ _ => [id]
  | _ => []
def callB (P : Program) (g : FuncId) : Bool :=
  match P.funcs[g]? with
  | some fn => !(fn.name == "runtime.NumGoroutine") && fn.body.isSome
  | none => false
def stepDir (P : Program) (κ : List (Nat × Bool)) (R : List Ent) (H : Heap) (nx : Nat) (p : List (Nat × Bool)) (o : Oper) : Dir → Option Out
  | .au => stepAu P R H nx p o
  | .dd => bif pv κ p then none else some { res := some (.sc (.bool false)), nx }
  | .pk => match o.op with
    | .pick c x y => match opd R p c, okPick R p true x, okPick R p false y with
      | some (.sc (.bool cb)), some (ra, xa), some (rb, xb) => some { res := some (pickP cb x y xa xb), nx, eqs := ra.toList.map (fun j => (cb, kv κ j)) ++ rb.toList.map (fun j => (cb, kv κ j)) }
      | _, _, _ => none
    | _ => none
  | .ix k row => match o.op with
    | .indexAddr t x i => match opd R p x, opd R p i with
      | some px, some (.sc (.int _ n)) => match elemPtr P t px k row with
        | some (r, ob) => some { res := some r, nx, obs := .q (n = (k : Int)) :: ob.map .q }
        | none => none
      | _, _ => none
    | .index t x i => match opd R p x, opd R p i with
      | some px, some (.sc (.int _ n)) => match indexP P t px k with
        | some r => some { res := some r, nx, obs := [.q (n = (k : Int))] }
        | none => none
      | _, _ => none
    | _ => none
  | .lr row => match o.op with
    | .load t x => match opd R p x with
      | some (.rptr id sz k i) => match hlook H id with
        | some (.row _ sz' _ rows) => bif Nat.beq sz sz' then (pack P t (row.drop i)).bind fun r => some { res := some r, nx, obs := [.q (rows[k]? = some row)] } else none
        | _ => none
      | some (.ptr id off) => match hlook H id with
        | some (.box _ xs) => (pack P t row).bind fun r => some { res := some r, nx, obs := [.q ((xs.drop off).take row.length = row)] }
        | _ => none
      | _ => none
    | .store t x y => match opd R p x, opd R p y, evl P (sizeOf t) with
      | some (.rptr id sz k i), some py, some n => match hlook H id with
        | some (.row e sz' pu rows) => bif Nat.beq sz sz' && !isTup py && Nat.beq (pcells py).length n && Nat.ble (i + n) sz then some { res := none, U := [(id, some (.row e sz (pu && pures (pcells py)) (rows.set k (over row i (pcells py)))))], nx, obs := [.q (rows[k]? = some row)] } else none
        | _ => none
      | some (.ptr id off), some py, some n => match hlook H id with
        | some (.box e xs) => bif !isTup py && Nat.beq (pcells py).length n then some { res := none, U := [(id, some (.box e (over xs off (pcells py))))], nx, obs := [.q (off + n ≤ xs.length)] } else none
        | _ => none
      | _, _, _ => none
    | _ => none
  | .rt row gs => match o.op with
    | .load t x => match opd R p x with
      | some (.rptr id sz k i) => match hlook H id with
        | some (.row _ sz' _ rows) => bif Nat.beq sz sz' then match pack P t (row.drop i) with
            | some r => match retypV H gs r with
              | some (r', ob) => some { res := some r', nx, obs := .q (rows[k]? = some row) :: ob }
              | none => none
            | none => none
          else none
        | _ => none
      | some px => match behind H px with
        | some xs => match pack P t xs with
          | some r => match retypV H gs r with
            | some (r', ob) => some { res := some r', nx, obs := ob }
            | none => none
          | none => none
        | none => none
      | none => none
    | _ => none
  | .nm x => match stepAu P R H nx p o with
    | some out => match out.res, out.U with
      | some y, [] => some { res := some x, nx := out.nx, obs := .q (y = x) :: out.obs }
      | _, _ => none
    | none => none
  | .mk k => match o.op with
    | .makeSlice t x y => stepMake P R nx p t x y k
    | _ => none
  | .cl ids r U nx' => match o.op with
    | .call { callee := .value f, args, .. } => match opd R p f, opds R p args.toList with
      | some (.fn g first caps), some ys => bif U.all (fun x => ids.any (Nat.beq x.1) && (hlook H x.1).isSome || Nat.ble nx x.1 && Nat.blt x.1 nx') && Nat.ble nx nx' && callB P g then some { res := some r, U := U, nx := nx', obs := [.q (Con P g (first ++ ys ++ caps) (restr H ids) nx nx' r U)] } else none
      | _, _ => none
    | _ => none
  | .cv vs r nx' => match o.op with
    | .call { callee := .value f, args, .. } => match opd R p f, opds R p args.toList with
      | some (.fn g first caps), some ys => match vw vs H (first ++ ys ++ caps) with
        | some (ys', ob) => bif Nat.ble nx nx' && callB P g then some { res := some r, U := vs.map (·, none), nx := nx', obs := .q (Con P g ys' [] nx nx' r []) :: ob } else none
        | none => none
      | _, _ => none
    | _ => none
  | .cr vs u => match o.op with
    | .call { callee := .value f, args, .. } => match opd R p f, opds R p args.toList with
      | some (.fn g first caps), some ys => match vw vs H (first ++ ys ++ caps) with
        | some (ys', ob) => bif callB P g then some { res := some (.sc u), nx, obs := .q (Con P g ys' [] nx nx (.sc u) []) :: ob } else none
        | none => none
      | _, _ => none
    | _ => none
  | .sl l h rs => match o.op with
    | .slice t x lo hi none => match evl P (underlying t), opd R p x with
      | some (.slice e), some (.imm sz rows) => match evl P (sizeOf e), bnd R p l 0 lo, bnd R p h rows.length hi with
        | some sz', some o1, some o2 => bif Nat.beq sz' sz then some { res := some (.imm sz rs), nx, obs := .q (l ≤ h) :: .q (h ≤ rows.length) :: .q ((rows.take h).drop l = rs) :: (o1.map .q ++ o2.map .q) } else none
        | _, _, _ => none
      | some (.slice e), some (.own id sz _) => match hi with
        | some y => match evl P (sizeOf e), bnd R p 0 0 lo, bnd R p 0 1 (some y), hlook H id with
          | some sz', some o1, some o2, some (.row ..) => bif Nat.beq sz' sz then some { res := some (.imm sz []), nx, obs := (o1.map .q ++ o2.map .q) } else none
          | _, _, _, _ => none
        | none => none
      | _, _ => none
    | _ => none
  | .mm => match o.op with
    | .makeMap _ none => some { res := some (.map nx), U := [(nx, some (.rmap #[] 0))], nx := nx + 1 }
    | _ => none
  | .mu es' cl' => match o.op with
    | .mapUpdate t m x y => match opd R p m, (opd R p x).bind toV, (opd R p y).bind toV with
      | some (.map id), some k, some v => match hlook H id with
        | some (.rmap es cl) => some { res := none, U := [(id, some (.rmap es' cl'))], nx, obs := [.q (MapUpd P t es cl k v es' cl')] }
        | _ => none
      | _, _, _ => none
    | _ => none
  | .rg => match o.op with
    | .range t x => match P.underlying t, opd R p x with
      | some (.map _ _), some (.map id) => match hlook H id with
        | some (.rmap _ cl) => some { res := some (.ptr nx 0), U := [(nx, some (.rit id cl #[] cl))], nx := nx + 1 }
        | _ => none
      | _, _ => none
    | _ => none
  | .en kx vx => match o.op with
    | .entry x => match opd R p x with
      | some (.ptr i 0) => match hlook H i with
        | some (.rit m _ seen c0) => match hlook H m with
          | some (.rmap es cl) => some { res := some (.tup [kx, vx]), nx, obs := [.q (EntryIs es seen c0 cl kx vx)] }
          | _ => none
        | _ => none
      | _ => none
    | _ => none
  | .bs u => match o.op with
    | .binOp op t x y _ => match (opd R p x).bind toV, (opd R p y).bind toV with
      | some vx, some vy => bif scOk u then some { res := some (.sc u), nx, obs := [.q (BinIs P op t x y vx vy u)] } else none
      | _, _ => none
    | .lookup t m x ok => match opd R p m, (opd R p x).bind toV with
      | some (.map id), some k => match hlook H id with
        | some (.rmap es cl) => bif scOk u then some { res := some (.sc u), nx, obs := [.q (LookIs P t es cl k ok u)] } else none
        | _ => none
      | _, _ => none
    | _ => none
  | .fb => match o.op with
    | .convert t t' x => match P.underlying t, opd R p x with
      | some (.slice e), some (.own id sz n) => match P.underlying e, hlook H id, vw [id] H [.own id sz n] with
        | some (.int .u8), some (.row _ _ true _), some ([.imm s2 rs], ob) => bif Nat.beq t t' && !Nat.beq n 0 then some { res := some (.imm s2 rs), U := [(id, none)], nx, obs := ob } else none
        | _, _, _ => none
      | _, _ => none
    | _ => none
  | .bt l => match o.op with
    | .convert src dst x => match P.underlying src, P.underlying dst, opd R p x with
      | some (.slice e), some .string, some px => match P.underlying e, vw (ownId px) H [px] with
        | some (.int .u8), some ([px'], ob) => bif !l.isEmpty then some { res := some (.sc (.string ⟨l.toArray⟩)), nx, obs := .q (px' = .imm 1 (l.map byteV)) :: ob } else none
        | _, _ => none
      | _, _, _ => none
    | _ => none
  | .sx c => match o.op with
    | .index t x i => match P.underlying t, opd R p x, opd R p i with
      | some .string, some (.sc (.string s)), some (.sc (.int _ n)) => some { res := some (.sc (.int .u8 (c.toNat : Int))), nx, obs := [.q (StrAt s n c)] }
      | _, _, _ => none
    | _ => none
  | .ss l h u => match o.op with
    | .slice t x lo hi none => match P.underlying t, opd R p x with
      | some .string, some (.sc (.string s)) => match bnd R p l 0 lo, bnd R p h s.size hi with
        | some o1, some o2 => some { res := some (.sc (.string u)), nx, obs := .q (l ≤ h) :: .q (h ≤ s.size) :: .q (s.extract l h = u) :: (o1.map .q ++ o2.map .q) }
        | _, _ => none
      | _, _ => none
    | _ => none
end Go.PX
namespace Go.PX
open Go.RowKit Go.SX

section
variable {P : Program} {σ : Nm} {Z : Nat → Prop} {w : World} {N : Nat} {κ : List (Nat × Bool)} {R : List Ent} {a : Act} {H : Heap} {p : List (Nat × Bool)} {o : Oper}

theorem hlook_restr : ∀ {ids : List Nat} {id : Nat} {po : PO}, hlook (restr H ids) id = some po → hlook H id = some po ∧ id ∈ ids
  | [], id, po, h => by simp [restr, hlook] at h
  | i :: l, id, po, h => by
    simp only [restr] at h
    split at h
    · rename_i o' ho
      simp only [hlook] at h
      cases hb : Nat.beq i id with
      | true =>
        rw [hb] at h
        simp only [cond_true, Option.some.injEq] at h; subst h
        obtain rfl := Nat.eq_of_beq_eq_true hb
        exact ⟨ho, List.mem_cons_self⟩
      | false =>
        rw [hb] at h
        obtain ⟨h1, h2⟩ := hlook_restr h
        exact ⟨h1, List.mem_cons_of_mem _ h2⟩
    · obtain ⟨h1, h2⟩ := hlook_restr h
      exact ⟨h1, List.mem_cons_of_mem _ h2⟩
theorem hlook_restr_none : ∀ {ids : List Nat} {id : Nat}, hlook (restr H ids) id = none → id ∈ ids → hlook H id = none
  | i :: l, id, h, hm => by
    simp only [restr] at h
    split at h
    · rename_i o' ho
      simp only [hlook] at h
      cases hb : Nat.beq i id with
      | true => rw [hb] at h; simp at h
      | false =>
        rw [hb] at h
        rcases List.mem_cons.1 hm with rfl | hm
        · simp at hb
        · exact hlook_restr_none h hm
    · rename_i ho
      rcases List.mem_cons.1 hm with rfl | hm
      · exact ho
      · exact hlook_restr_none h hm
theorem HR.restr (h : HR σ Z w H) (ids : List Nat) : HR σ Z w (PX.restr H ids) :=
  ⟨fun id o ho => h.at_ id o (hlook_restr ho).1, fun id id' o o' b c c' h1 h2 => h.inj id id' o o' b c c' (hlook_restr h1).1 (hlook_restr h2).1, fun id o b c h1 => h.off id o b c (hlook_restr h1).1, h.zlt⟩
theorem Eff.restr {ids : List Nat} {U : Upd} {σ' : Nm} {Z' : Nat → Prop} {w' : World} (h : Eff σ Z w (PX.restr H ids) U σ' Z' w') (hk : ∀ id, ulook U id ≠ none → hlook H id ≠ none → id ∈ ids) : Eff σ Z w H U σ' Z' w' where
  ext := h.ext
  dom id h1 h2 := by
    refine h.dom id h1 ?_
    by_cases hu : ulook U id = none
    · exact .inl hu
    · rcases h2 with h2 | h2
      · exact absurd h2 hu
      · exact .inr fun e => h2 (hlook_restr_none e (hk id hu h2))
  zmono := h.zmono
  znew b hb := by
    rcases h.znew b hb with q | q | ⟨id, o, c, h1, h2, h3⟩
    · exact .inl q
    · exact .inr (.inl q)
    · exact .inr (.inr ⟨id, o, c, h1, (hlook_restr h2).1, h3⟩)
  chg := h.chg.mono fun b _ ⟨id, o, c, h1, h2, h3⟩ => ⟨id, o, c, h1, (hlook_restr h2).1, h3⟩
  objs := h.objs
  off id o b c h1 h2 := by
    obtain ⟨q1, q2⟩ := h.off id o b c h1 h2
    refine ⟨q1, ?_⟩
    rcases q2 with q2 | ⟨i, o', c', q3, q4, q5⟩
    · exact .inl q2
    · exact .inr ⟨i, o', c', q3, (hlook_restr q4).1, q5⟩
  inj := h.inj

theorem run_callFunc {g : FuncId} (h : callB P g = true) (args : Array Value) : (callFunc g args).run P w = .ok (.enter g args) w := by
  unfold callB at h
  split at h
  · rename_i fn hf
    simp only [Bool.and_eq_true, Bool.not_eq_true'] at h
    unfold callFunc
    have hb : fn.body.isNone = false := by cases hb : fn.body <;> simp [hb] at h ⊢
    have hp : (program : Sem Program).run P w = .ok P w := rfl
    simp only [Sem.run_bind, hp, Result.andThen_ok, hf, h.1, hb]
    rfl
  · cases h
theorem exec_call (hR : RS σ Z w N κ R a) (hH : HR σ Z w H) (hp : pv κ p = true) {f : Operand} {args : Array Operand} {ty : Array TypeId} (ho : o.op = .call { callee := .value f, args, argTypes := ty }) {g : FuncId} {first caps ys : List PV} {ids : List Nat} {nx nx' : Nat} {r : PV} {U : Upd} (hf : opd R p f = some (.fn g first caps)) (hy : opds R p args.toList = some ys) (hg : callB P g = true)
    (hu : ∀ id, nx ≤ id → id < nx' → σ id = none) (hk : ∀ id, ulook U id ≠ none → hlook H id ≠ none → id ∈ ids) (hc : Con P g (first ++ ys ++ caps) (restr H ids) nx nx' r U) : Exec P o a w σ Z H (some r) U := fun K Q hK => by
  have hv := hR.opd hp hf
  have hys := hR.opds hp hy
  generalize hav : a.eval f = vf at hv
  cases hv with
  | fn _ l1 l2 x1 x2 hl1 hl2 h1 h2 =>
    have hargs : VRs σ Z w (l1 ++ args.toList.map a.eval ++ l2) (first ++ ys ++ caps) := (VRs.append ⟨hl1, h1⟩ hys).append ⟨hl2, h2⟩
    have hrun : (execOp a.eval o).run P w = .ok (.enter g (l1 ++ args.toList.map a.eval ++ l2).toArray) w := by
      have : l1.toArray ++ args.map a.eval ++ l2.toArray = (l1 ++ args.toList.map a.eval ++ l2).toArray := by
        apply Array.ext'; simp
      rw [← this]
      simp [execOp, ho, resolve, hav, Deferred.ofValue, invoke, run_callFunc hg]
    unfold Oper.wp
    rw [hrun]
    simp only [Oper.upon]
    refine (hc w σ Z _ (hH.restr ids) hargs hu).mono fun e w' ⟨v, σ', Z', he, h3, h4⟩ => ?_
    subst he
    exact hK v w' σ' Z' (fun x hx => by injection hx with hx; subst hx; exact h3) (h4.restr hk)

theorem ulook_vs : ∀ {vs : List Nat} {id : Nat}, ulook (vs.map (·, (none : Option PO))) id = if id ∈ vs then some none else none
  | [], id => by simp [ulook]
  | v :: vs, id => by
    simp only [List.map_cons, ulook]
    cases hb : Nat.beq v id with
    | true => obtain rfl := Nat.eq_of_beq_eq_true hb; simp
    | false =>
      have hne : id ≠ v := by rintro rfl; simp at hb
      simp only [cond_false]
      rw [ulook_vs]
      simp [hne]
theorem exec_callV (hR : RS σ Z w N κ R a) (hH : HR σ Z w H) (hp : pv κ p = true) {f : Operand} {args : Array Operand} {ty : Array TypeId} (ho : o.op = .call { callee := .value f, args, argTypes := ty }) {g : FuncId} {first caps ys ys' : List PV} {vs : List Nat} {ob : List Ob} {nx nx' : Nat} {r : PV} (hf : opd R p f = some (.fn g first caps)) (hy : opds R p args.toList = some ys) (hg : callB P g = true)
    (hv : vw vs H (first ++ ys ++ caps) = some (ys', ob)) (hob : AllOb ob) (hu : ∀ id, nx ≤ id → id < nx' → σ id = none) (hc : Con P g ys' [] nx nx' r []) : Exec P o a w σ Z H (some r) (vs.map (·, none)) ∧ ∀ id ∈ vs, hlook H id ≠ none := by
  have hv' := hR.opd hp hf
  have hys := hR.opds hp hy
  generalize hav : a.eval f = vf at hv'
  cases hv' with
  | fn _ l1 l2 x1 x2 hl1 hl2 h1 h2 =>
    have hargs : VRs σ Z w (l1 ++ args.toList.map a.eval ++ l2) (first ++ ys ++ caps) := (VRs.append ⟨hl1, h1⟩ hys).append ⟨hl2, h2⟩
    obtain ⟨r1, Z1, r2, r3, r4, r5⟩ := vw_sound hv hob hH hargs
    refine ⟨fun K Q hK => ?_, r1⟩
    have hrun : (execOp a.eval o).run P w = .ok (.enter g (l1 ++ args.toList.map a.eval ++ l2).toArray) w := by
      have : l1.toArray ++ args.map a.eval ++ l2.toArray = (l1 ++ args.toList.map a.eval ++ l2).toArray := by
        apply Array.ext'; simp
      rw [← this]
      simp [execOp, ho, resolve, hav, Deferred.ofValue, invoke, run_callFunc hg]
    unfold Oper.wp
    rw [hrun]
    simp only [Oper.upon]
    have hH0 : HR σ Z1 w [] := ⟨fun id o h => by simp [hlook] at h, fun id id' o o' b c c' h => by simp [hlook] at h, fun id o b c h => by simp [hlook] at h, r5⟩
    refine (hc w σ Z1 _ hH0 r4 hu).mono fun e w' ⟨v, σ', Z', he, h3, h4⟩ => ?_
    subst he
    refine hK v w' σ' Z' (fun x hx => by injection hx with hx; subst hx; exact h3) ⟨h4.ext, fun id q _ => h4.dom id q (.inl rfl), fun b q => h4.zmono b (r2 b q), fun b q => ?_, h4.chg.mono (fun b _ ⟨id, o', c, q, _⟩ => absurd rfl q), fun id o' q => ?_, fun id o' b c q => ?_, fun id id' o' o'' b c c' q => ?_⟩
    · rcases h4.znew b q with q | q | ⟨id, o', c, q, _⟩
      · rcases r3 b q with q | ⟨id, o', c, q1, q2, q3⟩
        · exact .inl q
        · exact .inr (.inr ⟨id, o', c, by rw [ulook_vs, if_pos q1]; simp, q2, q3⟩)
      · exact .inr (.inl q)
      · exact absurd rfl q
    · rw [ulook_vs] at q; split at q <;> simp at q
    · rw [ulook_vs] at q; split at q <;> simp at q
    · rw [ulook_vs] at q; split at q <;> simp at q
/-- a call that only reads, with a scalar answer: what it is handed of the table stays -/
theorem exec_callR (hR : RS σ Z w N κ R a) (hH : HR σ Z w H) (hp : pv κ p = true) {f : Operand} {args : Array Operand} {ty : Array TypeId} (ho : o.op = .call { callee := .value f, args, argTypes := ty }) {g : FuncId} {first caps ys ys' : List PV} {vs : List Nat} {ob : List Ob} {nx : Nat} {u : Value} (hf : opd R p f = some (.fn g first caps)) (hy : opds R p args.toList = some ys) (hg : callB P g = true)
    (hv : vw vs H (first ++ ys ++ caps) = some (ys', ob)) (hob : AllOb ob) (hc : Con P g ys' [] nx nx (.sc u) []) : Exec P o a w σ Z H (some (.sc u)) [] := by
  have hv' := hR.opd hp hf
  have hys := hR.opds hp hy
  generalize hav : a.eval f = vf at hv'
  cases hv' with
  | fn _ l1 l2 x1 x2 hl1 hl2 h1 h2 =>
    have hargs : VRs σ Z w (l1 ++ args.toList.map a.eval ++ l2) (first ++ ys ++ caps) := (VRs.append ⟨hl1, h1⟩ hys).append ⟨hl2, h2⟩
    obtain ⟨r1, Z1, r2, r3, r4, r5⟩ := vw_sound hv hob hH hargs
    intro K Q hK
    have hrun : (execOp a.eval o).run P w = .ok (.enter g (l1 ++ args.toList.map a.eval ++ l2).toArray) w := by
      have : l1.toArray ++ args.map a.eval ++ l2.toArray = (l1 ++ args.toList.map a.eval ++ l2).toArray := by
        apply Array.ext'; simp
      rw [← this]
      simp [execOp, ho, resolve, hav, Deferred.ofValue, invoke, run_callFunc hg]
    unfold Oper.wp
    rw [hrun]
    simp only [Oper.upon]
    have hH0 : HR σ Z1 w [] := ⟨fun id o h => by simp [hlook] at h, fun id id' o o' b c c' h => by simp [hlook] at h, fun id o b c h => by simp [hlook] at h, r5⟩
    refine (hc w σ Z1 _ hH0 r4 (fun id h1 h2 => absurd h2 (Nat.not_lt.2 h1))).mono fun e w' ⟨v, σ', Z', he, h3, h4⟩ => ?_
    subst he
    refine hK v w' σ Z (fun x hx => by injection hx with hx; subst hx; cases h3 with | sc _ h => exact .sc _ h) ⟨fun _ _ h => h, fun _ q _ => q, fun _ q => q, fun _ q => .inl q, h4.chg.mono (fun b _ ⟨id, o', c, q, _⟩ => absurd rfl q), fun id o' q => (by cases q), fun id o' b c q => (by cases q), fun id id' o' o'' b c c' q => (by cases q)⟩
theorem okPick_spec (hR : RS σ Z w N κ R a) (hp : pv κ p = true) {want : Bool} {x : Operand} {r : Option Nat} {y : PV} (hx : okPick R p want x = some (r, y)) (hr : ∀ j, r = some j → kv κ j = want) : VR σ Z w (a.eval x) y := by
  cases x with
  | tmp t =>
    simp only [okPick] at hx
    cases hl : look R t with
    | none => rw [hl] at hx; simp at hx
    | some e =>
      rw [hl] at hx
      simp only at hx
      have key : pv κ e.p = true ∧ e.v = y := by
        cases hs : sub e.p p with
        | true =>
          rw [hs] at hx
          simp only [cond_true, Option.some.injEq, Prod.mk.injEq] at hx
          exact ⟨pv_sub hs hp, hx.2⟩
        | false =>
          rw [hs] at hx
          simp only [cond_false] at hx
          cases hep : e.p with
          | nil => rw [hep] at hx; simp at hx
          | cons z q =>
            rw [hep] at hx
            obtain ⟨j, w'⟩ := z
            simp only at hx
            cases hc : ((w' == want) && sub q p) with
            | false => rw [hc] at hx; simp at hx
            | true =>
              rw [hc] at hx
              simp only [cond_true, Option.some.injEq, Prod.mk.injEq] at hx
              simp only [Bool.and_eq_true, beq_iff_eq] at hc
              have := hr j hx.1.symm
              refine ⟨?_, hx.2⟩
              simp only [pv, Bool.and_eq_true]
              exact ⟨pv_sub hc.2 hp, by rw [this, hc.1]; simp⟩
      obtain ⟨v, h1, h2⟩ := (hR.at_ t e hl).1 key.1
      have e1 : a.eval (.tmp t) = v := by simp [Act.eval, h1]
      rw [e1, ← key.2]; exact h2
  | const v =>
    simp only [okPick, Option.map_eq_some_iff, Prod.mk.injEq] at hx
    obtain ⟨y', h1, _, rfl⟩ := hx
    exact ofV_spec h1
  | func f =>
    simp only [okPick, Option.some.injEq, Prod.mk.injEq] at hx
    obtain ⟨_, rfl⟩ := hx
    exact .fn f [] [] [] [] rfl rfl (fun i u x h => by simp at h) (fun i u x h => by simp at h)
  | global g => simp [okPick] at hx
theorem pickP_spec {cb : Bool} {x y : Operand} {xa xb : PV} (hx : cb = true → VR σ Z w (a.eval x) xa) (hy : cb = false → VR σ Z w (a.eval y) xb) : VR σ Z w (if cb = true then a.eval x else a.eval y) (pickP cb x y xa xb) := by
  cases cb with
  | false =>
    have h := hy rfl
    simp only [Bool.false_eq_true, if_false]
    unfold pickP
    split
    · exact .sc (.bool false) rfl
    · split
      · rw [Bool.false_or]; exact h
      · exact h
  | true =>
    have h := hx rfl
    simp only [if_true]
    unfold pickP
    split
    · rw [Bool.true_and]; exact h
    · split
      · exact .sc (.bool true) rfl
      · exact h
theorem exec_pick (hR : RS σ Z w N κ R a) (hp : pv κ p = true) {c x y : Operand} (ho : o.op = .pick c x y) {cb : Bool} {ra rb : Option Nat} {xa xb : PV} (hc : opd R p c = some (.sc (.bool cb))) (hx : okPick R p true x = some (ra, xa)) (hy : okPick R p false y = some (rb, xb))
    (ha : ∀ j, ra = some j → cb = kv κ j) (hb : ∀ j, rb = some j → cb = kv κ j) : Exec P o a w σ Z H (some (pickP cb x y xa xb)) [] := by
  have hv := hR.opd hp hc
  generalize hav : a.eval c = vc at hv
  cases hv
  refine exec_quiet (v := if cb = true then a.eval x else a.eval y) ?_ (pickP_spec (fun h => okPick_spec hR hp hx fun j hj => by rw [← ha j hj, h]) (fun h => okPick_spec hR hp hy fun j hj => by rw [← hb j hj, h]))
  simp [execOp, ho, hav, asBool]
theorem exec_pick_lit (hR : RS σ Z w N κ R a) (hp : pv κ p = true) {c x y : Operand} (ho : o.op = .pick c x y) {cb : Bool} {r : PV} (hc : opd R p c = some (.sc (.bool cb))) (hr : opd R p (if cb = true then x else y) = some r) : Exec P o a w σ Z H (some r) [] := by
  have hv := hR.opd hp hc
  generalize hav : a.eval c = vc at hv
  cases hv
  refine exec_quiet (v := a.eval (if cb = true then x else y)) ?_ (hR.opd hp hr)
  cases cb <;> simp [execOp, ho, hav, asBool]
end
end Go.PX
namespace Go.PX
open Go.RowKit Go.SX
section
variable {P : Program} {σ : Nm} {Z : Nat → Prop} {w : World} {N : Nat} {κ : List (Nat × Bool)} {R : List Ent} {a : Act} {H : Heap} {p : List (Nat × Bool)} {o : Oper}
theorem IR.cellsF {w w' : World} (hc : ∀ a v, w.cell? a = some v → w'.cell? a = some v) {v : Value} {x : PV} (h : IR Z w v x) : IR Z w' v x := by
  induction h with
  | sc v h => exact .sc v h
  | imm A cap sz rows U h1 h2 h3 h4 ih =>
    refine .imm A cap sz rows U h1 h2 (fun k row hr => ?_) ih
    obtain ⟨q1, q2, b, off, q3, q4, q5⟩ := h3 k row hr
    exact ⟨q1, q2, b, off, q3, q4, fun i hi => hc _ _ (q5 i hi)⟩
theorem frozen_get (w : World) (b n i : Nat) : (w.freeze ⟨b, n, none⟩ 1).heap[i]? = if b = i then (w.heap[i]?).map (fun o => match o with | .cells c elem (lo, hi) => .cells c elem (if lo == hi then (n, n + 1) else (min lo n, max hi (n + 1))) | o => o) else w.heap[i]? := by
  unfold World.freeze
  rw [if_neg (by decide)]
  simp only [Array.getElem?_modify]
  split
  · cases w.heap[i]? with
    | none => rfl
    | some o => cases o <;> rfl
  · rfl
theorem frozen_cell (w : World) (b n : Nat) (x : Addr) (v : Value) (h : w.cell? x = some v) : (w.freeze ⟨b, n, none⟩ 1).cell? x = some v := by
  rw [← h]
  unfold World.cell?
  rw [frozen_get]
  by_cases hb : b = x.block
  · rw [if_pos hb]
    cases w.heap[x.block]? with
    | none => rfl
    | some o => cases o <;> rfl
  · rw [if_neg hb]
theorem exec_fb (hR : RS σ Z w N κ R a) (hH : HR σ Z w H) (hp : pv κ p = true) {t e : TypeId} {x : Operand} (ho : o.op = .convert t t x) (ht : P.underlying t = some (.slice e)) (he : P.underlying e = some (.int .u8)) {id sz n e1 sz1 s2 : Nat} {rows rs : List (List PV)} {ob : List Ob}
    (hx : opd R p x = some (.own id sz n)) (hl : hlook H id = some (.row e1 sz1 true rows)) (hn : n ≠ 0) (hv : vw [id] H [.own id sz n] = some ([.imm s2 rs], ob)) (hob : AllOb ob) : Exec P o a w σ Z H (some (.imm s2 rs)) [(id, none)] ∧ hlook H id ≠ none := by
  have hv' := hR.opd hp hx
  generalize hav : a.eval x = v at hv'
  obtain ⟨r1, Z1, r2, r3, r4, r5⟩ := vw_sound hv hob hH (VRs.cons hv' .nil)
  obtain ⟨_, _, e1', r4, _⟩ := r4.inv
  simp only [List.cons.injEq] at e1'
  obtain ⟨rfl, _⟩ := e1'
  refine ⟨?_, r1 id (by simp)⟩
  cases hv' with
  | own0 => exact absurd rfl hn
  | own _ _ _ b c hs =>
    obtain ⟨h1, h2, h3⟩ := hH.at_ id _ hl
    obtain ⟨C, q1, q2, q3, q4, q5⟩ := h3 b c hs
    have hsh : w.shape? b = some (e1, C.length) := by
      unfold World.shape?; rw [q1]; simp
    have hrun : (execOp a.eval o).run P w = .ok (.value (.slice (some ⟨b, 0, none⟩) n c)) (w.freeze ⟨b, C.length, none⟩ 1) := by
      simp [execOp, ho, hav, convert, run_underlying ht, run_underlying he, markStringish, hsh, Sem.run_bind]
    have hblk : ∀ {i : Nat}, b ≠ i → (w.freeze ⟨b, C.length, none⟩ 1).heap[i]? = w.heap[i]? := fun hi => by rw [frozen_get, if_neg hi]
    have hsz : (w.freeze ⟨b, C.length, none⟩ 1).heap.size = w.heap.size := by
      unfold World.freeze; rw [if_neg (by decide)]; simp
    have hos : (w.freeze ⟨b, C.length, none⟩ 1).os = w.os ∧ (w.freeze ⟨b, C.length, none⟩ 1).tape = w.tape ∧ (w.freeze ⟨b, C.length, none⟩ 1).output = w.output := by
      unfold World.freeze; rw [if_neg (by decide)]; exact ⟨rfl, rfl, rfl⟩
    have hid : ulook [(id, (none : Option PO))] id ≠ none := by simp [ulook]
    have hu : ∀ {i : Nat} {o' : PO}, ulook [(id, (none : Option PO))] i = some (some o') → False := fun {i o'} q => by
      simp only [ulook] at q
      cases hb : Nat.beq id i <;> rw [hb] at q <;> simp at q
    refine exec_value hrun (.imm _ _ _ ?_) (σ' := σ) (Z' := Z1) ⟨Ext.refl σ, fun i q _ => q, r2, fun b' q => ?_, ⟨hos.1, hos.2.1, hos.2.2, by rw [hsz]; exact Nat.le_refl _, fun i hi hm => hblk (by rintro rfl; exact hm ⟨id, _, c, hid, hl, hs⟩)⟩, fun i o' q => (hu q).elim, fun i o' b' c' q => (hu q).elim, fun i i' o' o'' b' c' c'' q => (hu q).elim⟩
    · have := r4
      cases this with
      | imm _ _ _ h => exact h.cellsF (frozen_cell w b C.length)
    · rcases r3 b' q with q | ⟨i, o', c', q1, q2, q3⟩
      · exact .inl q
      · simp only [List.mem_singleton] at q1; subst q1
        exact .inr (.inr ⟨_, o', c', hid, q2, q3⟩)
theorem VR.sci {v u : Value} (h : VR σ Z w v (.sc u)) : v = u := by cases h; rfl
theorem exec_by (hR : RS σ Z w N κ R a) (hH : HR σ Z w H) (hp : pv κ p = true) {src dst e : TypeId} {x : Operand} (ho : o.op = .convert src dst x) (hs : P.underlying src = some (.slice e)) (he : P.underlying e = some (.int .u8)) (hd : P.underlying dst = some .string) {px px' : PV} {vs : List Nat} {ob : List Ob} {l : List UInt8}
    (hx : opd R p x = some px) (hv : vw vs H [px] = some ([px'], ob)) (hob : AllOb ob) (hne : l.isEmpty = false) (hq : px' = .imm 1 (l.map byteV)) : Exec P o a w σ Z H (some (.sc (.string ⟨l.toArray⟩))) [] := by
  have hv' := hR.opd hp hx
  generalize hav : a.eval x = v at hv'
  obtain ⟨r1, Z1, r2, r3, r4, r5⟩ := vw_sound hv hob hH (VRs.cons hv' .nil)
  obtain ⟨_, _, e1', r4, _⟩ := r4.inv
  simp only [List.cons.injEq] at e1'
  obtain ⟨rfl, _⟩ := e1'
  subst hq
  cases r4 with
  | imm _ _ _ h =>
    cases h with
    | imm A cap _ _ U h1 h2 h3 h4 =>
      have hcell : ∀ j (hj : j < l.length), ∃ b off, A = some ⟨b, off, none⟩ ∧ w.cell? ⟨b, off + j, none⟩ = some (.int .u8 (l[j].toNat : Int)) := fun j hj => by
        have hr : (l.map byteV)[j]? = some (byteV l[j]) := by simp [hj]
        obtain ⟨q1, q2, b, off, q3, q4, q5⟩ := h3 j _ hr
        have q6 := h4 j _ 0 _ hr (show (byteV l[j])[0]? = some (.sc (.int .u8 (l[j].toNat : Int))) from rfl)
        have q7 := q5 0 (by decide)
        refine ⟨b, off, q3, ?_⟩
        rw [Nat.mul_one, Nat.add_zero] at q7
        rw [q7]
        generalize U j 0 = u at q6
        cases q6; rfl
      cases l with
      | nil => cases hne
      | cons b0 l0 =>
        obtain ⟨b, off, rfl, _⟩ := hcell 0 (by simp)
        refine exec_quiet (v := .string ⟨(b0 :: l0).toArray⟩) ?_ (.sc _ rfl)
        have := run_convert_bytes_back (P := P) w src dst e ⟨b, off, none⟩ cap (b0 :: l0) hs he hd (fun j hj => by
          obtain ⟨b', off', q, q2⟩ := hcell j hj
          simp only [Option.some.injEq, Addr.mk.injEq, and_true] at q
          obtain ⟨rfl, rfl⟩ := q
          rw [← q2, show (⟨b, off, none⟩ : Addr).add j = ⟨b, off + j, none⟩ from by
            unfold Addr.add
            split
            · rename_i q; subst q; rfl
            · rfl])
        rw [List.length_map] at hav
        rw [List.length_cons] at hav this
        simp [execOp, ho, hav, Sem.run_bind, this]
theorem exec_sx (hR : RS σ Z w N κ R a) (hp : pv κ p = true) {t : TypeId} {x i : Operand} (ho : o.op = .index t x i) (ht : P.underlying t = some .string) {s : ByteArray} {K : IntKind} {n : Int} {c : UInt8}
    (hx : opd R p x = some (.sc (.string s))) (hi : opd R p i = some (.sc (.int K n))) (h : StrAt s n c) : Exec P o a w σ Z H (some (.sc (.int .u8 (c.toNat : Int)))) [] := by
  have e1 : a.eval x = .string s := (hR.opd hp hx).sci
  have e2 : a.eval i = .int K n := (hR.opd hp hi).sci
  obtain ⟨k, rfl, hc⟩ := h
  refine exec_quiet (v := .int .u8 (c.toNat : Int)) ?_ (.sc _ rfl)
  have hk : s[k]? = some c := by
    have h1 := (List.getElem?_eq_some_iff.1 hc)
    obtain ⟨h1, h2⟩ := h1
    have hlt : k < s.size := by simpa using h1
    rw [getElem?_pos s k hlt]
    congr 1
  simp [execOp, ho, e1, e2, Instr.index, asIntOf, run_underlying ht, Sem.run_bind, hk]
theorem exec_ss (hR : RS σ Z w N κ R a) (hp : pv κ p = true) {t : TypeId} {x : Operand} {lo hi : Option Operand} (ho : o.op = .slice t x lo hi none) {s u : ByteArray} {l h : Nat} {o1 o2 : List Prop} (ht : P.underlying t = some .string)
    (hx : opd R p x = some (.sc (.string s))) (hlo : bnd R p l 0 lo = some o1) (hhi : bnd R p h s.size hi = some o2) (b1 : AllP o1) (b2 : AllP o2) (hl : l ≤ h) (hh : h ≤ s.size) (hu : s.extract l h = u) : Exec P o a w σ Z H (some (.sc (.string u))) [] := by
  have e1 : a.eval x = .string s := (hR.opd hp hx).sci
  have q1 := bnd_spec (P := P) hR hp hlo b1
  have q2 := bnd_spec (P := P) hR hp hhi b2
  subst hu
  refine exec_quiet (v := .string (s.extract l h)) ?_ (.sc _ rfl)
  have z1 : (0 : Int) ≤ (l : Int) ∧ (l : Int) ≤ (h : Int) := ⟨by omega, by omega⟩
  have z2 : (0 : Int) ≤ (h : Int) ∧ (h : Int) ≤ (s.size : Int) := ⟨by omega, by omega⟩
  have hrun : ∀ (x y : Option Value), (x = none ∧ l = 0 ∨ ∃ K, x = some (.int K (l : Int))) → (y = none ∧ h = s.size ∨ ∃ K, y = some (.int K (h : Int))) → (Instr.sliceAt t (.string s) x y none).run P w = .ok (.string (s.extract l h)) w := fun x y q1 q2 => by
    rcases q1 with ⟨rfl, rfl⟩ | ⟨K1, rfl⟩ <;> rcases q2 with ⟨rfl, rfl⟩ | ⟨K2, rfl⟩ <;>
      simp [Instr.sliceAt, Instr.slice, Instr.sliceBounds, Instr.sliceBound, asIntOf, run_underlying ht, Sem.run_bind, hl, hh, z1, z2]
  simp [execOp, ho, e1, Sem.run_bind, hrun _ _ q1 q2]
end
end Go.PX
namespace Go.PX
open Go.RowKit Go.SX

section
variable {P : Program} {σ : Nm} {Z : Nat → Prop} {w : World} {N : Nat} {κ : List (Nat × Bool)} {R : List Ent} {a : Act} {H : Heap} {p : List (Nat × Bool)} {o : Oper} {nx : Nat}

/-- what is known of an operation's outcome -/
structure Good (P : Program) (o : Oper) (a : Act) (w : World) (σ : Nm) (Z : Nat → Prop) (H : Heap) (nx : Nat) (out : Out) : Prop where
  exec : Exec P o a w σ Z H out.res out.U
  nle : nx ≤ out.nx
  keys : ∀ id, ulook out.U id ≠ none → hlook H id ≠ none ∨ (nx ≤ id ∧ id < out.nx)

theorem good_one {x : PV} {out : Out} (h : one x nx = some out) (he : Exec P o a w σ Z H (some x) []) : Good P o a w σ Z H nx out := by
  simp only [one, Option.some.injEq] at h; subst h
  exact ⟨he, Nat.le_refl _, fun id h => absurd rfl h⟩
theorem good_new {x : PV} {po : PO} {ob : List Ob} (he : Exec P o a w σ Z H (some x) [(nx, some po)]) : Good P o a w σ Z H nx { res := some x, U := [(nx, some po)], nx := nx + 1, obs := ob } :=
  ⟨he, Nat.le_succ _, fun id h => by
    rw [ulook_one] at h
    split at h
    · rename_i e; subst e; exact .inr ⟨Nat.le_refl _, Nat.lt_succ_self _⟩
    · exact absurd rfl h⟩
theorem good_upd {id0 : Nat} {po po' : PO} {ob : List Ob} (hl : hlook H id0 = some po') (he : Exec P o a w σ Z H none [(id0, some po)]) : Good P o a w σ Z H nx { res := none, U := [(id0, some po)], nx := nx, obs := ob } :=
  ⟨he, Nat.le_refl _, fun id h => by
    rw [ulook_one] at h
    split at h
    · rename_i e; subst e; left; rw [hl]; simp
    · exact absurd rfl h⟩

theorem stepLoad_sound (hR : RS σ Z w N κ R a) (hH : HR σ Z w H) (hp : pv κ p = true) {t : TypeId} {x : Operand} (ho : o.op = .load t x) {out : Out} (h : stepLoad P R H nx p t x = some out) : Good P o a w σ Z H nx out := by
  unfold stepLoad at h
  split at h
  · rename_i px h1
    split at h
    · rename_i xs h2
      split at h
      · rename_i r h3; exact good_one h (exec_load hR hH hp ho h1 h2 h3)
      · cases h
    · cases h
  · cases h
theorem stepStore_sound (hR : RS σ Z w N κ R a) (hH : HR σ Z w H) (hp : pv κ p = true) {t : TypeId} {x y : Operand} (ho : o.op = .store t x y) {out : Out} (h : stepStore P R H nx p t x y = some out) : Good P o a w σ Z H nx out := by
  unfold stepStore at h
  split at h
  · rename_i id off py n h1 h2 h3
    split at h
    · rename_i e xs h4
      cases hb : (!isTup py && Nat.beq (pcells py).length n && Nat.ble (off + n) xs.length) with
      | false => rw [hb] at h; cases h
      | true =>
        rw [hb] at h
        simp only [cond_true, Option.some.injEq] at h; subst h
        simp only [Bool.and_eq_true, Bool.not_eq_true', Nat.beq_eq] at hb
        exact good_upd h4 (exec_store_box hR hH hp ho h1 h2 hb.1.1 h4 h3 hb.1.2 (Nat.le_of_ble_eq_true hb.2))
    · cases h
  · rename_i id sz k i py n h1 h2 h3
    split at h
    · rename_i e sz' pu rows h4
      split at h
      · rename_i r h5
        cases hb : (Nat.beq sz sz' && !isTup py && Nat.beq (pcells py).length n && Nat.ble (i + n) sz) with
        | false => rw [hb] at h; cases h
        | true =>
          rw [hb] at h
          simp only [cond_true, Option.some.injEq] at h; subst h
          simp only [Bool.and_eq_true, Bool.not_eq_true', Nat.beq_eq] at hb
          obtain ⟨⟨⟨rfl, b1⟩, b2⟩, b3⟩ := hb
          exact good_upd h4 (exec_store_row hR hH hp ho h1 h2 b1 h4 h3 b2 (Nat.le_of_ble_eq_true b3) h5)
      · cases h
    · cases h
  · cases h
theorem stepAppS_sound (hR : RS σ Z w N κ R a) (hH : HR σ Z w H) (hp : pv κ p = true) {top : Nat} (hfr : ∀ id, nx ≤ id → id < top → σ id = none ∧ hlook H id = none) {t u : TypeId} {x y : Operand} (ho : o.op = .call { callee := .builtin .append, args := #[x, y], argTypes := #[t, u] }) {out : Out} (h : stepAppS P R H nx p t u x y = some out) (htop : out.nx ≤ top) (hob : AllOb out.obs) : Good P o a w σ Z H nx out := by
  unfold stepAppS at h
  split at h
  · rename_i e h1 hu
    split at h
    · rename_i i h2
      split at h
      · rename_i z px s h3 h4 h5
        split at h
        · rename_i q h6
          cases hb : (decide (z = 0) && Nat.beq i.size 1 && Nat.beq i.bytes 1) with
          | false => rw [hb] at h; cases h
          | true =>
            rw [hb] at h
            simp only [cond_true, Option.some.injEq] at h; subst h
            simp only [Bool.and_eq_true, Nat.beq_eq, decide_eq_true_eq] at hb
            obtain ⟨⟨rfl, hb1⟩, hb2⟩ := hb
            refine ⟨exec_appendS hR hH hp (hfr nx (Nat.le_refl _) htop).2 (hfr nx (Nat.le_refl _) htop).1 ho h1 hu h2 h3 hb1 hb2 h4 h5 h6 hob.1 (Nat.le_of_ble_eq_true hob.2.1), Nat.le_succ _, fun id hid => ?_⟩
            have hq := (base_spec hH (hR.opd hp h4) h6 hob.1).2.1
            cases hq1 : q.1 with
            | none =>
              simp only [hq1, appU, ulook_one] at hid
              split at hid
              · rename_i e'; subst e'; exact .inr ⟨Nat.le_refl _, Nat.lt_succ_self _⟩
              · exact absurd rfl hid
            | some i0 =>
              obtain ⟨po, hpo⟩ := hq i0 hq1
              simp only [hq1, appU, ulook] at hid
              cases hb1 : Nat.beq nx id with
              | true => obtain rfl := Nat.eq_of_beq_eq_true hb1; exact .inr ⟨Nat.le_refl _, Nat.lt_succ_self _⟩
              | false =>
                rw [hb1] at hid
                cases hb2 : Nat.beq i0 id with
                | true => obtain rfl := Nat.eq_of_beq_eq_true hb2; left; rw [hpo]; simp
                | false => rw [hb2] at hid; exact absurd rfl hid
        · cases h
      · cases h
    · cases h
  · cases h
theorem stepApp_sound (hR : RS σ Z w N κ R a) (hH : HR σ Z w H) (hp : pv κ p = true) {top : Nat} (hfr : ∀ id, nx ≤ id → id < top → σ id = none ∧ hlook H id = none) {t : TypeId} {x y : Operand} (ho : o.op = .call { callee := .builtin .append, args := #[x, y], argTypes := #[t, t] }) {out : Out} (h : stepApp P R H nx p t x y = some out) (htop : out.nx ≤ top) (hob : AllOb out.obs) : Good P o a w σ Z H nx out := by
  unfold stepApp at h
  split at h
  · rename_i e h1
    split at h
    · rename_i i h2
      split at h
      · rename_i z px py h3 h4 h5
        split at h
        · rename_i q pu rows ok h6 h7
          cases hb : (Nat.beq z.cells.size i.size && Nat.blt 0 i.size && Nat.ble i.bytes 100000) with
          | false => rw [hb] at h; cases h
          | true =>
            rw [hb] at h
            simp only [cond_true, Option.some.injEq] at h; subst h
            simp only [Bool.and_eq_true, Nat.beq_eq] at hb
            refine ⟨exec_append hR hH hp (hfr nx (Nat.le_refl _) htop).2 (hfr nx (Nat.le_refl _) htop).1 ho h1 h2 h3 hb.1.1 (by simpa using hb.1.2) (Nat.le_of_ble_eq_true hb.2) h4 h5 h6 h7 hob.1 hob.2.1 (Nat.le_of_ble_eq_true hob.2.2.1), Nat.le_succ _, fun id hid => ?_⟩
            have hq := (base_spec hH (hR.opd hp h4) h6 hob.1).2.1
            cases hq1 : q.1 with
            | none =>
              simp only [hq1, appU, ulook_one] at hid
              split at hid
              · rename_i e'; subst e'; exact .inr ⟨Nat.le_refl _, Nat.lt_succ_self _⟩
              · exact absurd rfl hid
            | some i0 =>
              obtain ⟨po, hpo⟩ := hq i0 hq1
              simp only [hq1, appU, ulook] at hid
              cases hb1 : Nat.beq nx id with
              | true => obtain rfl := Nat.eq_of_beq_eq_true hb1; exact .inr ⟨Nat.le_refl _, Nat.lt_succ_self _⟩
              | false =>
                rw [hb1] at hid
                cases hb2 : Nat.beq i0 id with
                | true => obtain rfl := Nat.eq_of_beq_eq_true hb2; left; rw [hpo]; simp
                | false => rw [hb2] at hid; exact absurd rfl hid
        · cases h
      · cases h
    · cases h
  · cases h
theorem stepMake_sound (hR : RS σ Z w N κ R a) (hH : HR σ Z w H) (hp : pv κ p = true) {top : Nat} (hfr : ∀ id, nx ≤ id → id < top → σ id = none ∧ hlook H id = none) {t : TypeId} {x y : Operand} {k : Nat} (ho : o.op = .makeSlice t x y) {out : Out} (h : stepMake P R nx p t x y k = some out) (htop : out.nx ≤ top) (hob : AllOb out.obs) : Good P o a w σ Z H nx out := by
  unfold stepMake at h
  split at h
  · rename_i e K n K' m h1 h2 h3
    split at h
    · rename_i i size zs h4 h5 h6
      cases hb : (Nat.beq zs.length size && Nat.blt 0 size && Nat.ble i.bytes 100000 && pures zs) with
      | false => rw [hb] at h; cases h
      | true =>
        rw [hb] at h
        simp only [cond_true, Option.some.injEq] at h; subst h
        simp only [Bool.and_eq_true, Nat.beq_eq] at hb
        exact good_new (exec_makeSlice hR hH hp (hfr nx (Nat.le_refl _) htop).1 (hfr nx (Nat.le_refl _) htop).2 ho h2 h3 hob.1 hob.2.1 h1 h4 h5 h6 hb.1.1.1 hb.2 (by simpa using hb.1.1.2) (Nat.le_of_ble_eq_true hb.1.2) (Nat.le_of_ble_eq_true hob.2.2.1))
    · cases h
  · cases h
theorem scal_good (hR : RS σ Z w N κ R a) (hp : pv κ p = true) {out : Out} (h : (scal P R p o).bind (one · nx) = some out) : Good P o a w σ Z H nx out := by
  obtain ⟨x, h1, h2⟩ := Option.bind_eq_some_iff.1 h
  exact good_one h2 (scal_sound hR hp h1)

theorem stepAu_sound (hR : RS σ Z w N κ R a) (hH : HR σ Z w H) (hp : pv κ p = true) {top : Nat} (hfr : ∀ id, nx ≤ id → id < top → σ id = none ∧ hlook H id = none) {out : Out} (h : stepAu P R H nx p o = some out) (htop : out.nx ≤ top) (hob : AllOb out.obs) : Good P o a w σ Z H nx out := by
  unfold stepAu at h
  split at h
  · rename_i x ho
    obtain ⟨y, h1, h2⟩ := Option.bind_eq_some_iff.1 h
    exact good_one h2 (exec_move hR hp (.inl ho) h1)
  · rename_i x ho
    obtain ⟨y, h1, h2⟩ := Option.bind_eq_some_iff.1 h
    exact good_one h2 (exec_move hR hp (.inr ho) h1)
  · rename_i c x y ho
    split at h
    · rename_i hc
      obtain ⟨r, h1, h2⟩ := Option.bind_eq_some_iff.1 h
      exact good_one h2 (exec_pick_lit hR hp ho hc (by simpa using h1))
    · rename_i hc
      obtain ⟨r, h1, h2⟩ := Option.bind_eq_some_iff.1 h
      exact good_one h2 (exec_pick_lit hR hp ho hc (by simpa using h1))
    · cases h
  · rename_i t x ho; exact stepLoad_sound hR hH hp ho h
  · rename_i t ho
    split at h
    · rename_i z hz
      split at h
      · rename_i px hx
        cases hb : isTup px with
        | true => rw [hb] at h; cases h
        | false =>
          rw [hb] at h
          simp only [cond_false, Option.some.injEq] at h; subst h
          exact good_new (exec_alloc hH (hfr nx (Nat.le_refl _) htop).1 (hfr nx (Nat.le_refl _) htop).2 ho hz hx hb)
      · cases h
    · cases h
  · rename_i t x ho
    split at h
    · rename_i px hx
      cases hb : isTup px with
      | true => rw [hb] at h; cases h
      | false =>
        rw [hb] at h
        simp only [cond_false, Option.some.injEq] at h; subst h
        exact good_new (exec_box hR hH hp (hfr nx (Nat.le_refl _) htop).1 (hfr nx (Nat.le_refl _) htop).2 ho hx hb)
    · cases h
  · rename_i t x y ho; exact stepStore_sound hR hH hp ho h
  · rename_i s x f ho
    split at h
    · rename_i px n hx hf
      obtain ⟨r, h1, h2⟩ := Option.bind_eq_some_iff.1 h
      exact good_one h2 (exec_fieldAddr hR hp ho hx hf h1)
    · cases h
  · rename_i s x f ho
    split at h
    · rename_i px hx
      obtain ⟨r, h1, h2⟩ := Option.bind_eq_some_iff.1 h
      exact good_one h2 (exec_field hR hp ho hx h1)
    · cases h
  · rename_i x i ho
    split at h
    · rename_i xs hx
      obtain ⟨r, h1, h2⟩ := Option.bind_eq_some_iff.1 h
      exact good_one h2 (exec_extract hR hp ho hx h1)
    · cases h
  · rename_i t parts ho
    split at h
    · rename_i xs hx
      obtain ⟨r, h1, h2⟩ := Option.bind_eq_some_iff.1 h
      exact good_one h2 (exec_build hR hp ho hx h1)
    · cases h
  · rename_i t len parts ho
    split at h
    · rename_i xs hx
      split at h
      · rename_i e size cs hr
        simp only [Option.some.injEq] at h; subst h
        exact good_new (exec_buildSlice hR hH hp (hfr nx (Nat.le_refl _) htop).1 (hfr nx (Nat.le_refl _) htop).2 ho hx hr)
      · cases h
    · cases h
  · rename_i x ho
    split at h
    · rename_i px hx
      cases hb : isPtr px with
      | true => rw [hb] at h; exact good_one h (exec_nilCheck hR hp ho hx hb)
      | false => rw [hb] at h; exact scal_good hR hp h
    · cases h
  · rename_i t x i ho
    split at h
    · rename_i px K k hx hi
      obtain ⟨r, h1, h2⟩ := Option.bind_eq_some_iff.1 h
      exact good_one h2 (exec_ixAu hR hp ho hx hi h1)
    · cases h
  · rename_i t x i ho
    split at h
    · rename_i xs K k hx hi
      obtain ⟨r, h1, h2⟩ := Option.bind_eq_some_iff.1 h
      exact good_one h2 (exec_index hR hp ho hx hi h1)
    · exact scal_good hR hp h
  · rename_i f l1 l2 ho
    split at h
    · rename_i y1 y2 h1 h2
      exact good_one h (exec_makeFunc hR hp (l1 := l1.toList) (l2 := l2.toList) (by simpa using ho) h1 h2)
    · cases h
  · rename_i t ho
    split at h
    · simp only [Option.some.injEq] at h; subst h
      exact good_new (exec_mkmap hH (hfr nx (Nat.le_refl _) htop).1 (hfr nx (Nat.le_refl _) htop).2 ho)
    · cases h
  · rename_i t m x ok ho
    split at h
    · rename_i z id n ht hm hx
      split at h
      · rename_i D hl; exact good_one h (exec_look hR hH hp ho ht hm hx hl)
      · cases h
    · cases h
  · rename_i t m x y ho
    split at h
    · rename_i z id n v ht hm hx hy
      split at h
      · rename_i D hl
        simp only [Option.some.injEq] at h; subst h
        exact good_upd hl (exec_upd hR hH hp ho ht hm hx hy hl)
      · cases h
    · cases h
  · rename_i x ty ho
    split at h
    · rename_i t px ht hx
      split at h
      · rename_i e n hu hl
        exact good_one h (exec_len hR hp ho ht hu hx hl)
      · exact scal_good hR hp h
    · cases h
  · rename_i x y t t' ho
    cases hb : Nat.beq t t' with
    | false => rw [hb] at h; exact stepAppS_sound hR hH hp hfr ho h htop hob
    | true =>
      rw [hb] at h
      obtain rfl := Nat.eq_of_beq_eq_true hb
      exact stepApp_sound hR hH hp hfr ho h htop hob
  · rename_i x y t t' ho
    unfold stepCopy at h
    split at h
    · rename_i e hu
      split at h
      · rename_i s i s1 n j s2 m hs hx hy
        split at h
        · rename_i e1 t1 pu1 r1 e2 t2 pu2 r2 hi hj
          cases hb : (Nat.beq s 1 && Nat.beq s1 1 && Nat.beq s2 1 && Nat.beq t1 1 && Nat.beq t2 1) with
          | false => rw [hb] at h; cases h
          | true =>
            rw [hb] at h
            simp only [cond_true, Option.some.injEq] at h; subst h
            simp only [Bool.and_eq_true, Nat.beq_eq] at hb
            obtain ⟨⟨⟨⟨rfl, rfl⟩, rfl⟩, rfl⟩, rfl⟩ := hb
            obtain ⟨o1, o2, o3, _⟩ := hob
            refine ⟨exec_copy hR hH hp ho hu hs hx hy hi hj (by simpa [lenIs] using o1) (by simpa [lenIs] using o2) o3, Nat.le_refl _, fun id hid => ?_⟩
            simp only [ulook_one] at hid
            split at hid
            · rename_i e'; subst e'; left; rw [hi]; simp
            · exact absurd rfl hid
        · cases h
      · cases h
    · cases h
  · exact scal_good hR hp h
end
end Go.PX
namespace Go.PX
open Go.RowKit Go.SX

section
variable {P : Program} {σ : Nm} {Z : Nat → Prop} {w : World} {N : Nat} {κ : List (Nat × Bool)} {R : List Ent} {a : Act} {H : Heap} {p : List (Nat × Bool)} {o : Oper} {nx : Nat}

theorem pack_take {P : Program} {t : TypeId} {xs row : List PV} {r : PV} (h : xs.take row.length = row) (hp : pack P t row = some r) : pack P t xs = some r := by
  have hle : row.length ≤ xs.length := by have := congrArg List.length h; rw [List.length_take] at this; omega
  unfold pack at hp ⊢
  split at hp
  · rename_i n _ _
    cases hb : Nat.ble n row.length with
    | false => rw [hb] at hp; cases hp
    | true =>
      rw [hb] at hp
      have hn := Nat.le_of_ble_eq_true hb
      rw [show Nat.ble n xs.length = true from by rw [Nat.ble_eq]; omega]
      simp only [cond_true, Option.some.injEq] at hp ⊢
      rw [← hp, ← h, List.take_take, Nat.min_eq_left (by rw [← h] at hn; rw [List.length_take] at hn; omega)]
  · cases row with
    | nil => cases hp
    | cons y l =>
      cases xs with
      | nil => simp at h
      | cons x m =>
        simp only [List.length_cons, List.take_succ_cons, List.cons.injEq] at h
        rw [h.1]; exact hp
  · cases hp
theorem ones_set1 {xs : List PV} (h : ones xs = true) {j : Nat} {x : PV} (hx : x.one = true) : ones (xs.set j x) = true := by
  induction xs generalizing j with
  | nil => exact h
  | cons y xs ih =>
    simp only [ones, Bool.and_eq_true] at h
    cases j with
    | zero => simp [ones, hx, h.2]
    | succ j => simp [ones, h.1, ih h.2]
theorem retyp_spec (hH : HR σ Z w H) : ∀ {gs : List (Nat × Nat)} {xs ys : List PV} {ob : List Ob} {l : List Value}, retyp H gs xs = some (ys, ob) → AllOb ob → VRs σ Z w l xs → ones xs = true → VRs σ Z w l ys ∧ ones ys = true
  | [], xs, ys, ob, l, h, _, hv, ho => by simp only [retyp, Option.some.injEq, Prod.mk.injEq] at h; rw [← h.1]; exact ⟨hv, ho⟩
  | (j, g) :: gs, xs, ys, ob, l, h, hob, hv, ho => by
    simp only [retyp] at h
    split at h
    · rename_i u v x hj hg
      split at h
      · rename_i ys' ob' hr
        simp only [Option.some.injEq, Prod.mk.injEq] at h
        obtain ⟨rfl, rfl⟩ := h
        obtain ⟨rfl, hob⟩ := hob
        obtain ⟨_, g2, g3⟩ := hH.at_ _ _ hg
        obtain ⟨u', hu', hvr⟩ := hv.get hj
        cases hvr
        have hs := VRs.set hv (i := j) g3
        rw [show l.set j u = l from by
          refine List.ext_getElem? fun i => ?_
          rw [List.getElem?_set]
          split
          · rename_i e; subst e; split
            · exact hu'.symm
            · rename_i q; rw [List.getElem?_eq_none (by omega)]
          · rfl] at hs
        exact retyp_spec hH hr hob hs (ones_set1 ho g2)
      · cases h
    · cases h
theorem retypV_spec (hH : HR σ Z w H) {gs : List (Nat × Nat)} {x y : PV} {ob : List Ob} {v : Value} (h : retypV H gs x = some (y, ob)) (hob : AllOb ob) (hv : VR σ Z w v x) : VR σ Z w v y := by
  unfold retypV at h
  split at h
  · rename_i xs
    obtain ⟨⟨ys, ob'⟩, h1, h2⟩ := Option.map_eq_some_iff.1 h
    simp only [Prod.mk.injEq] at h2
    obtain ⟨rfl, rfl⟩ := h2
    cases hv with
    | agg l _ hl ho h =>
      obtain ⟨q1, q2⟩ := retyp_spec hH h1 hob ⟨hl, h⟩ ho
      exact .agg l ys q1.1 q2 q1.2
  · split at h
    · rename_i hx _ y' ob' h1
      simp only [Option.some.injEq, Prod.mk.injEq] at h
      obtain ⟨rfl, rfl⟩ := h
      cases gs with
      | nil =>
        simp only [retyp, Option.some.injEq, Prod.mk.injEq, List.cons.injEq, and_true] at h1
        rw [← h1.1]; exact hv
      | cons g gs =>
        have ho : ones [x] = true := by
          obtain ⟨j, g⟩ := g
          simp only [retyp] at h1
          split at h1
          · rename_i u _ _ hj _
            cases j with
            | zero => simp only [List.getElem?_cons_zero, Option.some.injEq] at hj; subst hj; rfl
            | succ j => simp at hj
          · cases h1
        obtain ⟨q1, _⟩ := retyp_spec hH h1 hob (l := [v]) (.cons hv .nil) ho
        obtain ⟨u, l', e, q2, _⟩ := q1.inv
        simp only [List.cons.injEq] at e
        rw [e.1]; exact q2
    · cases h
theorem stepDir_sound (hR : RS σ Z w N κ R a) (hH : HR σ Z w H) (hp : pv κ p = true) {top : Nat} (hfr : ∀ id, nx ≤ id → id < top → σ id = none ∧ hlook H id = none) {d : Dir} {out : Out} (h : stepDir P κ R H nx p o d = some out) (htop : out.nx ≤ top) (hob : AllOb out.obs) (heq : AllEq out.eqs) : Good P o a w σ Z H nx out := by
  cases d with
  | au => exact stepAu_sound hR hH hp hfr h htop hob
  | dd => simp only [stepDir, hp, cond_true] at h; cases h
  | pk =>
    simp only [stepDir] at h
    split at h
    · rename_i c x y ho
      split at h
      · rename_i cb ra xa rb xb hc hx hy
        simp only [Option.some.injEq] at h; subst h
        obtain ⟨e1, e2⟩ := allEq_append heq
        refine ⟨exec_pick hR hp ho hc hx hy (fun j hj => ?_) (fun j hj => ?_), Nat.le_refl _, fun id h => absurd rfl h⟩
        · subst hj; exact e1.1
        · subst hj; exact e2.1
      · cases h
    · cases h
  | ix k row =>
    simp only [stepDir] at h
    split at h
    · rename_i t x i ho
      split at h
      · rename_i px K n hx hi
        split at h
        · rename_i r ob hr
          simp only [Option.some.injEq] at h; subst h
          have hm : ∀ l : List Prop, AllOb (l.map Ob.q) → AllP l := fun l => by
            induction l with
            | nil => intro _; trivial
            | cons q l ih => intro h; exact ⟨h.1, ih h.2⟩
          exact ⟨exec_indexAddr hR hp ho hx hi hob.1 hr (hm _ hob.2), Nat.le_refl _, fun id h => absurd rfl h⟩
        · cases h
      · cases h
    · rename_i t x i ho
      split at h
      · rename_i px K n hx hi
        split at h
        · rename_i r hr
          simp only [Option.some.injEq] at h; subst h
          have hn := hob.1
          subst hn
          exact ⟨exec_index hR hp ho hx hi hr, Nat.le_refl _, fun id h => absurd rfl h⟩
        · cases h
      · cases h
    · cases h
  | lr row =>
    simp only [stepDir] at h
    split at h
    · rename_i t x ho
      split at h
      · rename_i id sz k i hx
        split at h
        · rename_i e sz' pu rows hl
          cases hb : Nat.beq sz sz' with
          | false => rw [hb] at h; cases h
          | true =>
            rw [hb] at h
            obtain rfl := Nat.eq_of_beq_eq_true hb
            simp only [cond_true] at h
            obtain ⟨r, h1, h2⟩ := Option.bind_eq_some_iff.1 h
            simp only [Option.some.injEq] at h2; subst h2
            have hrow := hob.1
            refine ⟨exec_load hR hH hp ho hx (xs := row.drop i) ?_ h1, Nat.le_refl _, fun id h => absurd rfl h⟩
            simp only [behind, hl]
            rw [show Nat.beq sz sz = true by simp, hrow]; rfl
        · cases h
      · rename_i id off hx
        split at h
        · rename_i e xs hl
          obtain ⟨r, h1, h2⟩ := Option.bind_eq_some_iff.1 h
          simp only [Option.some.injEq] at h2; subst h2
          refine ⟨exec_load hR hH hp ho hx (xs := xs.drop off) ?_ (pack_take hob.1 h1), Nat.le_refl _, fun id h => absurd rfl h⟩
          simp only [behind, hl]
        · cases h
      · cases h
    · rename_i t x y ho
      split at h
      · rename_i id sz k i py n h1 h2 h3
        split at h
        · rename_i e sz' pu rows h4
          cases hb : (Nat.beq sz sz' && !isTup py && Nat.beq (pcells py).length n && Nat.ble (i + n) sz) with
          | false => rw [hb] at h; cases h
          | true =>
            rw [hb] at h
            simp only [cond_true, Option.some.injEq] at h; subst h
            simp only [Bool.and_eq_true, Bool.not_eq_true', Nat.beq_eq] at hb
            obtain ⟨⟨⟨rfl, b1⟩, b2⟩, b3⟩ := hb
            exact good_upd h4 (exec_store_row hR hH hp ho h1 h2 b1 h4 h3 b2 (Nat.le_of_ble_eq_true b3) hob.1)
        · cases h
      · rename_i id off py n h1 h2 h3
        split at h
        · rename_i e xs h4
          cases hb : (!isTup py && Nat.beq (pcells py).length n) with
          | false => rw [hb] at h; cases h
          | true =>
            rw [hb] at h
            simp only [cond_true, Option.some.injEq] at h; subst h
            simp only [Bool.and_eq_true, Bool.not_eq_true', Nat.beq_eq] at hb
            exact good_upd h4 (exec_store_box hR hH hp ho h1 h2 hb.1 h4 h3 hb.2 hob.1)
        · cases h
      · cases h
    · cases h
  | rt row gs =>
    simp only [stepDir] at h
    split at h
    · rename_i t x ho
      split at h
      · rename_i id sz k i hx
        split at h
        · rename_i e sz' pu rows hl
          cases hb : Nat.beq sz sz' with
          | false => rw [hb] at h; cases h
          | true =>
            rw [hb] at h
            obtain rfl := Nat.eq_of_beq_eq_true hb
            simp only [cond_true] at h
            split at h
            · rename_i r h1
              split at h
              · rename_i r' ob h2
                simp only [Option.some.injEq] at h; subst h
                obtain ⟨hrow, hob⟩ := hob
                refine ⟨?_, Nat.le_refl _, fun id h => absurd rfl h⟩
                have hbh : behind H (.rptr id sz k i) = some (row.drop i) := by
                  simp only [behind, hl]
                  rw [show Nat.beq sz sz = true by simp, hrow]; rfl
                obtain ⟨b, off, l, e1, g1, g2, g3⟩ := behind_spec hH (hR.opd hp hx) hbh
                obtain ⟨v, h4, h5⟩ := run_loadVar g1 g2 g3 h1
                refine exec_quiet (v := v) ?_ (retypV_spec hH h2 hob h5)
                simp [execOp, ho, Instr.loadAt, e1, Instr.sureAddr, Sem.run_bind, h4]
              · cases h
            · cases h
        · cases h
      · rename_i px _ hx
        split at h
        · rename_i xs hb
          split at h
          · rename_i r h1
            split at h
            · rename_i r' ob h2
              simp only [Option.some.injEq] at h; subst h
              refine ⟨?_, Nat.le_refl _, fun id h => absurd rfl h⟩
              obtain ⟨b, off, l, e1, g1, g2, g3⟩ := behind_spec hH (hR.opd hp hx) hb
              obtain ⟨v, h4, h5⟩ := run_loadVar g1 g2 g3 h1
              refine exec_quiet (v := v) ?_ (retypV_spec hH h2 hob h5)
              simp [execOp, ho, Instr.loadAt, e1, Instr.sureAddr, Sem.run_bind, h4]
            · cases h
          · cases h
        · cases h
      · cases h
    · cases h
  | nm x =>
    simp only [stepDir] at h
    split at h
    · rename_i out' h1
      split at h
      · rename_i y hres hU
        simp only [Option.some.injEq] at h; subst h
        have g := stepAu_sound hR hH hp hfr h1 (by exact htop) hob.2
        have e := hob.1
        subst e
        refine ⟨?_, g.nle, fun id h => absurd rfl h⟩
        have := g.exec
        rw [hres, hU] at this; exact this
      · cases h
    · cases h
  | mk k =>
    simp only [stepDir] at h
    split at h
    · rename_i t x y ho; exact stepMake_sound hR hH hp hfr ho h htop hob
    · cases h
  | cv vs r nx' =>
    simp only [stepDir] at h
    split at h
    · rename_i f args ty ho
      split at h
      · rename_i g first caps ys hf hy
        split at h
        · rename_i ys' ob hv
          cases hb : (Nat.ble nx nx' && callB P g) with
          | false => rw [hb] at h; cases h
          | true =>
            rw [hb] at h
            simp only [cond_true, Option.some.injEq] at h; subst h
            simp only [Bool.and_eq_true] at hb
            obtain ⟨q1, q2⟩ := exec_callV hR hH hp ho hf hy hb.2 hv hob.2 (fun id h1 h2 => (hfr id h1 (Nat.lt_of_lt_of_le h2 htop)).1) hob.1
            refine ⟨q1, Nat.le_of_ble_eq_true hb.1, fun id h => .inl ?_⟩
            rw [ulook_vs] at h
            split at h
            · rename_i hm; exact q2 id hm
            · exact absurd rfl h
        · cases h
      · cases h
    · cases h
  | cr vs u =>
    simp only [stepDir] at h
    split at h
    · rename_i f args ty ho
      split at h
      · rename_i g first caps ys hf hy
        split at h
        · rename_i ys' ob hv
          cases hb : callB P g with
          | false => rw [hb] at h; cases h
          | true =>
            rw [hb] at h
            simp only [cond_true, Option.some.injEq] at h; subst h
            exact ⟨exec_callR hR hH hp ho hf hy hb hv hob.2 hob.1, Nat.le_refl _, fun id h => absurd rfl h⟩
        · cases h
      · cases h
    · cases h
  | sl l hh rs =>
    simp only [stepDir] at h
    split at h
    · rename_i t x lo hi ho
      split at h
      · rename_i e sz rows h1 hx
        split at h
        · rename_i sz' o1 o2 h2 hlo hhi
          cases hb : Nat.beq sz' sz with
          | false => rw [hb] at h; cases h
          | true =>
            rw [hb] at h
            obtain rfl := Nat.eq_of_beq_eq_true hb
            simp only [cond_true, Option.some.injEq] at h; subst h
            have hm : ∀ l : List Prop, AllOb (l.map Ob.q) → AllP l := fun l => by
              induction l with
              | nil => intro _; trivial
              | cons q l ih => intro h; exact ⟨h.1, ih h.2⟩
            obtain ⟨g1, g2, g3, g4⟩ := hob
            obtain ⟨g4, g5⟩ := allOb_append g4
            exact ⟨exec_slice hR hp ho h1 h2 hx hlo hhi (hm _ g4) (hm _ g5) g1 g2 g3, Nat.le_refl _, fun id h => absurd rfl h⟩
        · cases h
      · rename_i e id sz n h1 hx
        split at h
        · rename_i y
          split at h
          · rename_i sz' o1 o2 _ _ _ _ h2 hlo hhi hl
            cases hb : Nat.beq sz' sz with
            | false => rw [hb] at h; cases h
            | true =>
              rw [hb] at h
              obtain rfl := Nat.eq_of_beq_eq_true hb
              simp only [cond_true, Option.some.injEq] at h; subst h
              have hm : ∀ l : List Prop, AllOb (l.map Ob.q) → AllP l := fun l => by
                induction l with
                | nil => intro _; trivial
                | cons q l ih => intro h; exact ⟨h.1, ih h.2⟩
              obtain ⟨g4, g5⟩ := allOb_append hob
              exact ⟨exec_slice0 hR hH hp ho h1 h2 hx hl hlo hhi (hm _ g4) (hm _ g5), Nat.le_refl _, fun id h => absurd rfl h⟩
          · cases h
        · cases h
      · cases h
    · cases h
  | bs u =>
    simp only [stepDir] at h
    split at h
    · rename_i op t x y ty ho
      split at h
      · rename_i vx vy hx hy
        cases hb : scOk u with
        | false => rw [hb] at h; cases h
        | true =>
          rw [hb] at h
          simp only [cond_true, Option.some.injEq] at h; subst h
          exact ⟨exec_bs hR hp ho hx hy hb hob.1, Nat.le_refl _, fun id h => absurd rfl h⟩
      · cases h
    · rename_i t m x ok ho
      split at h
      · rename_i id k hm hx
        split at h
        · rename_i es cl hl
          cases hb : scOk u with
          | false => rw [hb] at h; cases h
          | true =>
            rw [hb] at h
            simp only [cond_true, Option.some.injEq] at h; subst h
            exact ⟨exec_lu hR hH hp ho hm hx hl hb hob.1, Nat.le_refl _, fun id h => absurd rfl h⟩
        · cases h
      · cases h
    · cases h
  | mm =>
    simp only [stepDir] at h
    split at h
    · rename_i t ho
      simp only [Option.some.injEq] at h; subst h
      have hf := hfr nx (Nat.le_refl _) (Nat.lt_of_lt_of_le (Nat.lt_succ_self _) htop)
      exact good_new (exec_mm hH hf.1 hf.2 ho)
    · cases h
  | mu es cl =>
    simp only [stepDir] at h
    split at h
    · rename_i t m x y ho
      split at h
      · rename_i id k v hm hx hy
        split at h
        · rename_i es0 cl0 hl
          simp only [Option.some.injEq] at h; subst h
          exact good_upd hl (exec_mu hR hH hp ho hm hx hy hl hob.1)
        · cases h
      · cases h
    · cases h
  | rg =>
    simp only [stepDir] at h
    split at h
    · rename_i t x ho
      split at h
      · rename_i k e id ht hx
        split at h
        · rename_i es cl hl
          simp only [Option.some.injEq] at h; subst h
          have hf := hfr nx (Nat.le_refl _) (Nat.lt_of_lt_of_le (Nat.lt_succ_self _) htop)
          exact good_new (exec_rg hR hH hp hf.1 hf.2 ho ht hx hl)
        · cases h
      · cases h
    · cases h
  | en kx vx =>
    simp only [stepDir] at h
    split at h
    · rename_i x ho
      split at h
      · rename_i i hx
        split at h
        · rename_i m since seen c0 hi
          split at h
          · rename_i es cl hl
            simp only [Option.some.injEq] at h; subst h
            exact ⟨exec_en hR hH hp ho hx hi hl hob.1, Nat.le_refl _, fun id h => absurd rfl h⟩
          · cases h
        · cases h
      · cases h
    · cases h
  | fb =>
    simp only [stepDir] at h
    split at h
    · rename_i t t' x ho
      split at h
      · rename_i e id sz n ht hx
        split at h
        · rename_i e1 sz1 rows s2 rs ob he hl hv
          cases hb : (Nat.beq t t' && !Nat.beq n 0) with
          | false => rw [hb] at h; cases h
          | true =>
            rw [hb] at h
            simp only [cond_true, Option.some.injEq] at h; subst h
            simp only [Bool.and_eq_true, Nat.beq_eq] at hb
            obtain ⟨rfl, hn⟩ := hb
            obtain ⟨q1, q2⟩ := exec_fb hR hH hp ho ht he hx hl (by rintro rfl; simp at hn) hv hob
            refine ⟨q1, Nat.le_refl _, fun i hi => .inl ?_⟩
            simp only [ulook] at hi
            cases hbi : Nat.beq id i with
            | true => obtain rfl := Nat.eq_of_beq_eq_true hbi; exact q2
            | false => rw [hbi] at hi; exact absurd rfl hi
        · cases h
      · cases h
    · cases h
  | bt l =>
    simp only [stepDir] at h
    split at h
    · rename_i src dst x ho
      split at h
      · rename_i e px hs hd hx
        split at h
        · rename_i px' ob he hv
          cases hb : l.isEmpty with
          | true => rw [hb] at h; cases h
          | false =>
            rw [hb] at h
            simp only [Bool.not_false, cond_true, Option.some.injEq] at h; subst h
            exact ⟨exec_by hR hH hp ho hs he hd hx hv hob.2 hb hob.1, Nat.le_refl _, fun id h => absurd rfl h⟩
        · cases h
      · cases h
    · cases h
  | sx c =>
    simp only [stepDir] at h
    split at h
    · rename_i t x i ho
      split at h
      · rename_i s K n ht hx hi
        simp only [Option.some.injEq] at h; subst h
        exact ⟨exec_sx hR hp ho ht hx hi hob.1, Nat.le_refl _, fun id h => absurd rfl h⟩
      · cases h
    · cases h
  | ss l hh u =>
    simp only [stepDir] at h
    split at h
    · rename_i t x lo hi ho
      split at h
      · rename_i s ht hx
        split at h
        · rename_i o1 o2 hlo hhi
          simp only [Option.some.injEq] at h; subst h
          have hm : ∀ l : List Prop, AllOb (l.map Ob.q) → AllP l := fun l => by
            induction l with
            | nil => intro _; trivial
            | cons q l ih => intro h; exact ⟨h.1, ih h.2⟩
          obtain ⟨g1, g2, g3, g4⟩ := hob
          obtain ⟨g4, g5⟩ := allOb_append g4
          exact ⟨exec_ss hR hp ho ht hx hlo hhi (hm _ g4) (hm _ g5) g1 g2 g3, Nat.le_refl _, fun id h => absurd rfl h⟩
        · cases h
      · cases h
    · cases h
  | cl ids r U nx' =>
    simp only [stepDir] at h
    split at h
    · rename_i f args ty ho
      split at h
      · rename_i g first caps ys hf hy
        cases hb : (U.all (fun x => ids.any (Nat.beq x.1) && (hlook H x.1).isSome || Nat.ble nx x.1 && Nat.blt x.1 nx') && Nat.ble nx nx' && callB P g) with
        | false => rw [hb] at h; cases h
        | true =>
          rw [hb] at h
          simp only [cond_true, Option.some.injEq] at h; subst h
          simp only [Bool.and_eq_true] at hb
          have hkey : ∀ (U : Upd), U.all (fun x => ids.any (Nat.beq x.1) && (hlook H x.1).isSome || Nat.ble nx x.1 && Nat.blt x.1 nx') = true → ∀ id, ulook U id ≠ none → (id ∈ ids ∧ hlook H id ≠ none) ∨ (nx ≤ id ∧ id < nx') := fun U => by
            induction U with
            | nil => intro _ id h; exact absurd rfl h
            | cons x U ih =>
              intro hall id hid
              simp only [List.all_cons, Bool.and_eq_true] at hall
              simp only [ulook] at hid
              cases hbx : Nat.beq x.1 id with
              | true =>
                obtain rfl := Nat.eq_of_beq_eq_true hbx
                have h1 := hall.1
                simp only [Bool.or_eq_true, Bool.and_eq_true, List.any_eq_true, Nat.beq_eq, Nat.blt_eq] at h1
                rcases h1 with ⟨⟨i, h2, h3⟩, h4⟩ | ⟨h2, h3⟩
                · exact .inl ⟨h3 ▸ h2, fun e => by rw [e] at h4; simp at h4⟩
                · exact .inr ⟨Nat.le_of_ble_eq_true h2, h3⟩
              | false => rw [hbx] at hid; exact ih hall.2 id hid
          have hk := hkey U hb.1.1
          refine ⟨exec_call hR hH hp ho hf hy hb.2 (fun id h1 h2 => (hfr id h1 (Nat.lt_of_lt_of_le h2 htop)).1) (fun id h1 h2 => ?_) hob.1, Nat.le_of_ble_eq_true hb.1.2, fun id h => ?_⟩
          · rcases hk id h1 with ⟨q1, q2⟩ | ⟨q1, q2⟩
            · exact q1
            · exact absurd (hfr id q1 (Nat.lt_of_lt_of_le q2 htop)).2 h2
          · rcases hk id h with ⟨_, q⟩ | q
            · exact .inl q
            · exact .inr q
      · cases h
    · cases h

/-! the heap after an operation -/
def happ : Upd → Heap → Heap
  | [], H => H
  | (id, some o) :: U, H => (id, o) :: hdel (happ U H) id
  | (id, none) :: U, H => hdel (happ U H) id
theorem hlook_happ {i : Nat} : ∀ {U : Upd} {H : Heap}, hlook (happ U H) i = match ulook U i with | some o => o | none => hlook H i
  | [], H => rfl
  | (id, some o) :: U, H => by
    simp only [happ, hlook, ulook]
    cases hb : Nat.beq id i with
    | true => rfl
    | false =>
      simp only [cond_false]
      rw [hlook_hdel, if_neg (by rintro rfl; simp at hb), hlook_happ]
  | (id, none) :: U, H => by
    simp only [happ, ulook]
    rw [hlook_hdel]
    cases hb : Nat.beq id i with
    | true => obtain rfl := Nat.eq_of_beq_eq_true hb; simp
    | false => rw [if_neg (by rintro rfl; simp at hb), hlook_happ]; rfl
end

/-- where a walk began: the world, the blocks of the caller's that may be written, and those that nobody writes -/
structure Env where
  w0 : World
  Wr : Nat → Prop
  Z0 : Nat → Prop
  σ0 : Nm
  lo : Nat
  top : Nat

structure Rel (E : Env) (N : Nat) (κ : List (Nat × Bool)) (R : List Ent) (H : Heap) (nx : Nat) (σ : Nm) (Z : Nat → Prop) (a : Act) (w : World) : Prop where
  rs : RS σ Z w N κ R a
  hr : HR σ Z w H
  fr : ∀ id, nx ≤ id → id < E.top → σ id = none ∧ hlook H id = none
  lo : E.lo ≤ nx
  ext : Ext E.σ0 σ
  dom : ∀ id, E.σ0 id = none → ¬ (E.lo ≤ id ∧ id < E.top) → σ id = none
  own : ∀ id o b c, hlook H id = some o → σ id = some (b, c) → E.w0.heap.size ≤ b ∨ E.Wr b
  chg : Chg E.Wr E.w0 w
  zold : ∀ b, Z b → E.Z0 b ∨ E.w0.heap.size ≤ b ∨ E.Wr b
  z0 : ∀ b, E.Z0 b → Z b

/-- what of the relation does not look at the slots -/
structure Mem (E : Env) (H : Heap) (nx : Nat) (σ : Nm) (Z : Nat → Prop) (w : World) : Prop where
  hr : HR σ Z w H
  fr : ∀ id, nx ≤ id → id < E.top → σ id = none ∧ hlook H id = none
  lo : E.lo ≤ nx
  ext : Ext E.σ0 σ
  dom : ∀ id, E.σ0 id = none → ¬ (E.lo ≤ id ∧ id < E.top) → σ id = none
  own : ∀ id o b c, hlook H id = some o → σ id = some (b, c) → E.w0.heap.size ≤ b ∨ E.Wr b
  chg : Chg E.Wr E.w0 w
  zold : ∀ b, Z b → E.Z0 b ∨ E.w0.heap.size ≤ b ∨ E.Wr b
  z0 : ∀ b, E.Z0 b → Z b
theorem Rel.mem {E : Env} {N : Nat} {κ : List (Nat × Bool)} {R : List Ent} {H : Heap} {nx : Nat} {σ : Nm} {Z : Nat → Prop} {a : Act} {w : World} (h : Rel E N κ R H nx σ Z a w) : Mem E H nx σ Z w := ⟨h.hr, h.fr, h.lo, h.ext, h.dom, h.own, h.chg, h.zold, h.z0⟩

section
variable {E : Env} {σ σ' : Nm} {Z Z' : Nat → Prop} {w w' : World} {H : Heap} {U : Upd} {nx nx' : Nat}
theorem eff_same (h : Eff σ Z w H U σ' Z' w') {id : Nat} (hu : ulook U id = none) : σ' id = σ id := by
  cases hs : σ id with
  | some x => exact h.ext id x hs
  | none => exact h.dom id hs (.inl hu)
theorem eff_free (hH : HR σ Z w H) {b : Nat} (hz : Z b) : ¬ ∃ id o c, ulook U id ≠ none ∧ hlook H id = some o ∧ σ id = some (b, c) :=
  fun ⟨id, o, c, _, h2, h3⟩ => hH.off id o b c h2 h3 hz
theorem Mem.step (h : Mem E H nx σ Z w) (he : Eff σ Z w H U σ' Z' w') (hle : nx ≤ nx') (htop : nx' ≤ E.top) (hk : ∀ id, ulook U id ≠ none → hlook H id ≠ none ∨ (nx ≤ id ∧ id < nx')) : Mem E (happ U H) nx' σ' Z' w' := by
  have old : ∀ {id : Nat} {o : PO} {b c : Nat}, hlook (happ U H) id = some o → ulook U id = none → σ' id = some (b, c) → hlook H id = some o ∧ σ id = some (b, c) ∧ b < w.heap.size := fun {id o b c} h1 h2 h3 => by
    rw [hlook_happ, h2] at h1
    have h4 := eff_same he h2
    rw [h4] at h3
    exact ⟨h1, h3, (h.hr.at_ id o h1).lt h3⟩
  have new : ∀ {id : Nat} {o : PO}, hlook (happ U H) id = some o → ulook U id ≠ none → ulook U id = some (some o) := fun {id o} h1 h2 => by
    rw [hlook_happ] at h1
    cases hu : ulook U id with
    | none => exact absurd hu h2
    | some q => rw [hu] at h1; rw [← h1]
  have clash : ∀ {id id' : Nat} {o o' : PO} {b c c' : Nat}, hlook (happ U H) id = some o → ulook U id ≠ none → σ' id = some (b, c) → hlook (happ U H) id' = some o' → ulook U id' = none → σ' id' = some (b, c') → False := fun {id id' o o' b c c'} h1 h2 h3 h4 h5 h6 => by
    obtain ⟨q1, q2, q3⟩ := old h4 h5 h6
    obtain ⟨_, q4⟩ := he.off id o b c (new h1 h2) h3
    rcases q4 with q4 | ⟨i, o2, c2, q4, q5, q6⟩
    · omega
    · have := h.hr.inj i id' o2 o' b c2 c' q5 q1 q6 q2
      subst this; exact q4 h5
  refine ⟨⟨fun id o h1 => ?_, fun id id' o o' b c c' h1 h2 h3 h4 => ?_, fun id o b c h1 h2 => ?_, fun b hb => ?_⟩, fun id hid hit => ?_, Nat.le_trans h.lo hle, h.ext.trans he.ext, fun id h0 hnot => ?_, fun id o b c h1 h2 => ?_, ?_, fun b hb => ?_, fun b hb => he.zmono b (h.z0 b hb)⟩
  · by_cases hu : ulook U id = none
    · have h2 := h1
      rw [hlook_happ, hu] at h2
      refine OR.mono he.ext he.zmono he.chg (fun b hz => eff_free h.hr hz) (eff_same he hu) (fun b c hs ⟨i, o', c', q1, q2, q3⟩ => ?_) (h.hr.at_ id o h2)
      have := h.hr.inj i id o' o b c' c q2 h2 q3 hs
      subst this; exact q1 hu
    · exact he.objs id o (new h1 hu)
  · by_cases hu : ulook U id = none
    · by_cases hu' : ulook U id' = none
      · obtain ⟨q1, q2, _⟩ := old h1 hu h3
        obtain ⟨r1, r2, _⟩ := old h2 hu' h4
        exact h.hr.inj id id' o o' b c c' q1 r1 q2 r2
      · exact (clash h2 hu' h4 h1 hu h3).elim
    · by_cases hu' : ulook U id' = none
      · exact (clash h1 hu h3 h2 hu' h4).elim
      · exact he.inj id id' o o' b c c' (new h1 hu) (new h2 hu') h3 h4
  · by_cases hu : ulook U id = none
    · obtain ⟨q1, q2, q3⟩ := old h1 hu h2
      intro hz
      rcases he.znew b hz with hz | ⟨hz, _⟩ | ⟨i, o', c', r1, r2, r3⟩
      · exact h.hr.off id o b c q1 q2 hz
      · omega
      · have := h.hr.inj i id o' o b c' c r2 q1 r3 q2
        subst this; exact r1 hu
    · exact (he.off id o b c (new h1 hu) h2).1
  · rcases he.znew b hb with hz | ⟨_, hz⟩ | ⟨i, o', c', _, r2, r3⟩
    · exact Nat.lt_of_lt_of_le (h.hr.zlt b hz) he.chg.size
    · exact hz
    · exact Nat.lt_of_lt_of_le ((h.hr.at_ i o' r2).lt r3) he.chg.size
  · have f := h.fr id (Nat.le_trans hle hid) hit
    have hu : ulook U id = none := by
      cases hu : ulook U id with
      | none => rfl
      | some q =>
        rcases hk id (by rw [hu]; simp) with h1 | ⟨_, h1⟩
        · exact absurd f.2 h1
        · omega
    exact ⟨he.dom id f.1 (.inl hu), by rw [hlook_happ, hu]; exact f.2⟩
  · refine he.dom id (h.dom id h0 hnot) ?_
    by_cases hu : ulook U id = none
    · exact .inl hu
    · rcases hk id hu with q | ⟨q1, q2⟩
      · exact .inr q
      · exact absurd ⟨Nat.le_trans h.lo q1, Nat.lt_of_lt_of_le q2 htop⟩ hnot
  · by_cases hu : ulook U id = none
    · obtain ⟨q1, q2, _⟩ := old h1 hu h2
      exact h.own id o b c q1 q2
    · obtain ⟨_, q⟩ := he.off id o b c (new h1 hu) h2
      rcases q with q | ⟨i, o', c', _, q2, q3⟩
      · left; have := h.chg.size; omega
      · exact h.own i o' b c' q2 q3
  · refine (h.chg.trans he.chg).mono fun b hb hm => ?_
    rcases hm with hm | ⟨i, o', c', _, q2, q3⟩
    · exact hm
    · rcases h.own i o' b c' q2 q3 with q | q
      · omega
      · exact q
  · rcases he.znew b hb with hz | ⟨hz, _⟩ | ⟨i, o', c', _, r2, r3⟩
    · exact h.zold b hz
    · right; left; have := h.chg.size; omega
    · exact .inr (h.own i o' b c' r2 r3)
end
end Go.PX
namespace Go.PX
open Go.RowKit Go.SX

def inK : List (Nat × Bool) → Nat → Bool
  | [], _ => false
  | x :: κ, j => bif Nat.beq x.1 j then true else inK κ j
/-- the path of an operation, and the answer of its guard beside what was said of it; a guard of which nothing is said must hold as it stands -/
def path (ops : Array Oper) (κ : List (Nat × Bool)) (R : List Ent) (o : Oper) : Option (List (Nat × Bool) × List (Bool × Bool)) :=
  match o.guard with
  | none => some ([], [])
  | some (j, want) =>
    match (ops[j]?).bind (·.dst) with
    | none => none
    | some t => match look R t with
      | some ⟨_, pj, .sc (.bool b)⟩ => bif inK κ j then some ((j, want) :: pj, [(b, kv κ j)]) else bif b == want then some (pj, []) else none
      | _ => none
theorem path_spec {σ : Nm} {Z : Nat → Prop} {w : World} {N : Nat} {ops : Array Oper} {κ : List (Nat × Bool)} {R : List Ent} {a : Act} (h : RS σ Z w N κ R a) {o : Oper} {p : List (Nat × Bool)} {bs : List (Bool × Bool)} (hp : path ops κ R o = some (p, bs)) (hb : AllEq bs) :
    Region.wanted o (yielded ops a.tmps) = pv κ p := by
  unfold path at hp
  unfold Region.wanted
  cases hg : o.guard with
  | none => rw [hg] at hp; simp only [Option.some.injEq, Prod.mk.injEq] at hp; rw [← hp.1]; rfl
  | some jw =>
    obtain ⟨j, want⟩ := jw
    rw [hg] at hp
    simp only at hp
    simp only
    cases ht : (ops[j]?).bind (·.dst) with
    | none => rw [ht] at hp; simp at hp
    | some t =>
      rw [ht] at hp
      simp only at hp
      split at hp
      · rename_i t' pj b hl
        have hat := h.at_ t _ hl
        have hun : yielded ops a.tmps j = if pv κ pj = true then some b else none := by
          unfold yielded
          rw [ht]
          simp only [Option.bind_some]
          cases hpj : pv κ pj with
          | false =>
            rw [hat.2 hpj]
            simp [undef]
          | true =>
            obtain ⟨v, h1, h2⟩ := hat.1 hpj
            cases h2
            rw [h1]
            rfl
        rw [hun]
        cases hin : inK κ j with
        | true =>
          rw [hin] at hp
          simp only [cond_true, Option.some.injEq, Prod.mk.injEq] at hp
          obtain ⟨rfl, rfl⟩ := hp
          have hbk : b = kv κ j := hb.1
          simp only [pv]
          cases hpj : pv κ pj with
          | false => simp
          | true =>
            simp only [if_true, hbk, Bool.true_and]
            cases kv κ j <;> cases want <;> rfl
        | false =>
          rw [hin] at hp
          simp only [cond_false] at hp
          cases hbw : b == want with
          | false => rw [hbw] at hp; cases hp
          | true =>
            rw [hbw] at hp
            simp only [cond_true, Option.some.injEq, Prod.mk.injEq] at hp
            obtain ⟨rfl, rfl⟩ := hp
            obtain rfl := eq_of_beq hbw
            cases hpj : pv κ pj with
            | false => simp
            | true => simp
      · cases hp

def setR (R : List Ent) (o : Oper) (p : List (Nat × Bool)) (x : Option PV) : Option (List Ent) :=
  match o.dst, x with
  | none, _ => some R
  | some t, some x => some (⟨t, p, x⟩ :: R)
  | some _, none => none
def dstOk (N : Nat) (o : Oper) : Bool :=
  match o.dst with
  | none => true
  | some t => Nat.blt t N

theorem RS.put {σ : Nm} {Z : Nat → Prop} {w : World} {N : Nat} {κ : List (Nat × Bool)} {R R' : List Ent} {a : Act} (h : RS σ Z w N κ R a) {o : Oper} (hd : dstOk N o = true) {p : List (Nat × Bool)} {x : Option PV} {u : Value} (hs : setR R o p x = some R')
    (h1 : pv κ p = true → ∀ y, x = some y → VR σ Z w u y) (h2 : pv κ p = false → u = undef) : RS σ Z w N κ R' (a.put o.dst u) := by
  unfold dstOk at hd
  unfold setR at hs
  cases ho : o.dst with
  | none => rw [ho] at hs; simp only [Option.some.injEq] at hs; subst hs; exact h
  | some t =>
    rw [ho] at hd hs
    cases x with
    | none => cases hs
    | some y =>
      simp only [Option.some.injEq] at hs; subst hs
      simp only [Nat.blt_eq] at hd
      refine ⟨h.defers, by simp [Act.put, h.size], fun t' e he => ?_⟩
      simp only [look] at he
      simp only [Act.put]
      cases hb : Nat.beq t t' with
      | true =>
        rw [hb] at he
        simp only [cond_true, Option.some.injEq] at he
        subst he
        obtain rfl := Nat.eq_of_beq_eq_true hb
        rw [Array.getElem?_setIfInBounds_self_of_lt (by rw [h.size]; exact hd)]
        exact ⟨fun hp => ⟨u, rfl, h1 hp y rfl⟩, fun hp => by rw [h2 hp]⟩
      | false =>
        rw [hb] at he
        simp only [cond_false] at he
        rw [Array.getElem?_setIfInBounds_ne (by rintro rfl; simp at hb)]
        exact h.at_ t' e he
theorem RS.mono {σ σ' : Nm} {Z Z' : Nat → Prop} {w w' : World} {M : Nat → Prop} {N : Nat} {κ : List (Nat × Bool)} {R : List Ent} {a : Act} (he : Ext σ σ') (hz : ∀ b, Z b → Z' b) (hw : Chg M w w') (hd : ∀ b, Z b → ¬ M b) (h : RS σ Z w N κ R a) : RS σ' Z' w' N κ R a :=
  ⟨h.defers, h.size, fun t e hl => (h.at_ t e hl).mono he hz hw hd⟩
theorem RS.eff {σ σ' : Nm} {Z Z' : Nat → Prop} {w w' : World} {H : Heap} {U : Upd} {N : Nat} {κ : List (Nat × Bool)} {R : List Ent} {a : Act} (h : RS σ Z w N κ R a) (hH : HR σ Z w H) (he : Eff σ Z w H U σ' Z' w') : RS σ' Z' w' N κ R a :=
  h.mono he.ext he.zmono he.chg fun _ hz => eff_free hH hz

structure Acc where
  R : List Ent
  H : Heap
  nx : Nat
  obs : List Ob
  eqs : List (Bool × Bool)

/-- what is owed of an operation is owed only where it is carried out -/
def obsIf (κ p : List (Nat × Bool)) (obs : List Ob) : List Ob := bif p.isEmpty || obs.isEmpty then obs else [.q (pv κ p = true → AllOb obs)]
theorem obsIf_spec {κ p : List (Nat × Bool)} {obs : List Ob} (h : AllOb (obsIf κ p obs)) (hp : pv κ p = true) : AllOb obs := by
  unfold obsIf at h
  cases hb : (p.isEmpty || obs.isEmpty) with
  | true => rw [hb] at h; exact h
  | false => rw [hb] at h; exact h.1 hp
/-- operations one behind the other -/
def seqRun (P : Program) (ops : Array Oper) (κ : List (Nat × Bool)) (N : Nat) : List Oper → List Dir → List Ent → Heap → Nat → Option Acc
  | [], [], R, H, nx => some ⟨R, H, nx, [], []⟩
  | o :: l, d :: ds, R, H, nx => match path ops κ R o with
    | none => none
    | some (p, bs) => match stepDir P κ R H nx p o d with
      | none => none
      | some out => bif dstOk N o && (p.isEmpty || out.U.isEmpty) && Nat.ble nx out.nx then match setR R o p out.res with
          | none => none
          | some R' => match seqRun P ops κ N l ds R' (happ out.U H) out.nx with
            | none => none
            | some acc => some { acc with obs := obsIf κ p out.obs ++ acc.obs, eqs := bs ++ (out.eqs ++ acc.eqs) }
        else none
  | _, _, _, _, _ => none
end Go.PX
namespace Go.PX
open Go.RowKit Go.SX
/-- what is owed of an operation counts only where it is carried out -/
def ObIf (b : Bool) (l : List Ob) : Prop := b = true → AllOb l
theorem Rel.exec {P : Program} {E : Env} {N : Nat} {κ : List (Nat × Bool)} {R R' : List Ent} {H : Heap} {nx : Nat} {σ : Nm} {Z : Nat → Prop} {a : Act} {w : World} {o : Oper} {p : List (Nat × Bool)} {d : Dir} {out : Out} (h : Rel E N κ R H nx σ Z a w) (hs : stepDir P κ R H nx p o d = some out) (htop : out.nx ≤ E.top) (hd : dstOk N o = true) (hR' : setR R o p out.res = some R') (hp : pv κ p = true) (hob : AllOb out.obs) (heq : AllEq out.eqs)
    {K : Act → World → Prop} {Q : Exit → Act → World → Prop} (k : ∀ a' w' σ' Z', Rel E N κ R' (happ out.U H) out.nx σ' Z' a' w' → K a' w') : o.wp P a w K Q := by
  have g := stepDir_sound h.rs h.hr hp h.fr hs htop hob heq
  refine g.exec K Q fun v w' σ' Z' hv he => ?_
  have hm := h.mem.step he g.nle htop g.keys
  exact k _ w' σ' Z' ⟨(h.rs.eff h.hr he).put hd hR' (fun _ => hv) (fun q => by rw [hp] at q; cases q), hm.hr, hm.fr, hm.lo, hm.ext, hm.dom, hm.own, hm.chg, hm.zold, hm.z0⟩
theorem Rel.skip {E : Env} {N : Nat} {κ : List (Nat × Bool)} {R R' : List Ent} {H : Heap} {nx : Nat} {σ : Nm} {Z : Nat → Prop} {a : Act} {w : World} {o : Oper} {p : List (Nat × Bool)} {x : Option PV} (h : Rel E N κ R H nx σ Z a w) (hd : dstOk N o = true) (hR' : setR R o p x = some R') (hp : pv κ p = false) : Rel E N κ R' H nx σ Z (a.put o.dst undef) w :=
  ⟨h.rs.put hd hR' (fun q => by rw [hp] at q; cases q) (fun _ => rfl), h.hr, h.fr, h.lo, h.ext, h.dom, h.own, h.chg, h.zold, h.z0⟩
theorem Rel.nx_mono {E : Env} {N : Nat} {κ : List (Nat × Bool)} {R : List Ent} {H : Heap} {nx nx' : Nat} {σ : Nm} {Z : Nat → Prop} {a : Act} {w : World} (h : Rel E N κ R H nx σ Z a w) (hle : nx ≤ nx') : Rel E N κ R H nx' σ Z a w :=
  ⟨h.rs, h.hr, fun id hid ht => h.fr id (Nat.le_trans hle hid) ht, Nat.le_trans h.lo hle, h.ext, h.dom, h.own, h.chg, h.zold, h.z0⟩

theorem seq_nle {P : Program} {ops : Array Oper} {N : Nat} {κ : List (Nat × Bool)} : ∀ {l : List Oper} {ds : List Dir} {R : List Ent} {H : Heap} {nx : Nat} {acc : Acc}, seqRun P ops κ N l ds R H nx = some acc → nx ≤ acc.nx
  | [], [], R, H, nx, acc, h => by simp only [seqRun, Option.some.injEq] at h; subst h; exact Nat.le_refl _
  | [], d :: ds, R, H, nx, acc, h => by simp [seqRun] at h
  | o :: l, [], R, H, nx, acc, h => by simp [seqRun] at h
  | o :: l, d :: ds, R, H, nx, acc, h => by
    simp only [seqRun] at h
    split at h
    · cases h
    · rename_i p bs hp
      split at h
      · cases h
      · rename_i out hs
        cases hb : (dstOk N o && (p.isEmpty || out.U.isEmpty) && Nat.ble nx out.nx) with
        | false => rw [hb] at h; cases h
        | true =>
          rw [hb] at h
          simp only [cond_true] at h
          simp only [Bool.and_eq_true] at hb
          split at h
          · cases h
          · split at h
            · cases h
            · rename_i acc' hacc
              simp only [Option.some.injEq] at h; subst h
              have := seq_nle hacc
              exact Nat.le_trans (Nat.le_of_ble_eq_true hb.2) this
theorem seq_sound {P : Program} {ops : Array Oper} {E : Env} {N : Nat} {κ : List (Nat × Bool)} {Q : Exit → Act → World → Prop} {rest : List Oper} : ∀ (l : List Oper) (ds : List Dir) {R : List Ent} {H : Heap} {nx : Nat} {acc : Acc} {σ : Nm} {Z : Nat → Prop} {a : Act} {w : World}, seqRun P ops κ N l ds R H nx = some acc → acc.nx ≤ E.top → AllOb acc.obs → AllEq acc.eqs → Rel E N κ R H nx σ Z a w →
    (∀ a' w' σ' Z', Rel E N κ acc.R acc.H acc.nx σ' Z' a' w' → wpList P ops Q rest a' w') → wpList P ops Q (l ++ rest) a w
  | [], [], R, H, nx, acc, σ, Z, a, w, h, _, _, _, hrel, k => by
    simp only [seqRun, Option.some.injEq] at h; subst h
    exact k a w σ Z hrel
  | [], d :: ds, R, H, nx, acc, σ, Z, a, w, h, _, _, _, _, _ => by simp [seqRun] at h
  | o :: l, [], R, H, nx, acc, σ, Z, a, w, h, _, _, _, _, _ => by simp [seqRun] at h
  | o :: l, d :: ds, R, H, nx, acc, σ, Z, a, w, h, htop, hob, heq, hrel, k => by
    simp only [seqRun] at h
    split at h
    · cases h
    · rename_i p bs hp
      split at h
      · cases h
      · rename_i out hs
        cases hb : (dstOk N o && (p.isEmpty || out.U.isEmpty) && Nat.ble nx out.nx) with
        | false => rw [hb] at h; cases h
        | true =>
          rw [hb] at h
          simp only [cond_true] at h
          simp only [Bool.and_eq_true, Bool.or_eq_true] at hb
          split at h
          · cases h
          · rename_i R' hR'
            split at h
            · cases h
            · rename_i acc' hacc
              simp only [Option.some.injEq] at h; subst h
              obtain ⟨ob1, ob2⟩ := allOb_append hob
              obtain ⟨e1, e2⟩ := allEq_append heq
              obtain ⟨e2, e3⟩ := allEq_append e2
              have hw := path_spec hrel.rs hp e1
              simp only [List.cons_append, wpList]
              rw [hw]
              cases hpv : pv κ p with
              | true =>
                simp only [if_true]
                exact .inl (hrel.exec hs (Nat.le_trans (seq_nle hacc) htop) hb.1.1 hR' hpv (obsIf_spec ob1 hpv) e2 fun a' w' σ' Z' hr => seq_sound l ds hacc htop ob2 e3 hr k)
              | false =>
                simp only [Bool.false_eq_true, if_false]
                have hU : out.U = [] := by
                  rcases hb.1.2 with q | q
                  · have : p = [] := by cases p <;> simp at q ⊢
                    subst this; cases hpv
                  · cases hq : out.U <;> rw [hq] at q <;> simp at q ⊢
                rw [hU] at hacc
                exact seq_sound l ds hacc htop ob2 e3 ((hrel.skip hb.1.1 hR' hpv).nx_mono (Nat.le_of_ble_eq_true hb.2)) k
end Go.PX
namespace Go.PX
open Go.RowKit Go.SX

/-! names -/
mutual
def idsIn (S : List Nat) : PV → Bool
  | .sc _ | .imm .. | .iptr .. | .any => true
  | .ptr id _ => S.any (Nat.beq id)
  | .rptr id _ _ _ => S.any (Nat.beq id)
  | .own id _ _ => S.any (Nat.beq id)
  | .map id => S.any (Nat.beq id)
  | .agg xs => idsInL S xs
  | .tup xs => idsInL S xs
  | .fn _ xs ys => idsInL S xs && idsInL S ys
def idsInL (S : List Nat) : List PV → Bool
  | [] => true
  | x :: l => idsIn S x && idsInL S l
end
theorem idsInL_get {S : List Nat} : ∀ {xs : List PV} {i : Nat} {x : PV}, idsInL S xs = true → xs[i]? = some x → idsIn S x = true
  | [], i, x, _, h => by simp at h
  | y :: xs, i, x, h, hx => by
    simp only [idsInL, Bool.and_eq_true] at h
    cases i with
    | zero => simp only [List.getElem?_cons_zero, Option.some.injEq] at hx; subst hx; exact h.1
    | succ i => exact idsInL_get h.2 (i := i) (by simpa using hx)
def idsInLL (S : List Nat) : List (List PV) → Bool
  | [] => true
  | x :: l => idsInL S x && idsInLL S l
theorem idsInL_append {S : List Nat} : ∀ {xs ys : List PV}, idsInL S xs = true → idsInL S ys = true → idsInL S (xs ++ ys) = true
  | [], ys, _, h => h
  | x :: xs, ys, h, h' => by simp only [idsInL, Bool.and_eq_true] at h; simp [idsInL, h.1, idsInL_append h.2 h']
theorem idsInLL_flat {S : List Nat} : ∀ {rows : List (List PV)}, idsInLL S rows = true → idsInL S rows.flatten = true
  | [], _ => rfl
  | x :: l, h => by simp only [idsInLL, Bool.and_eq_true] at h; rw [List.flatten_cons]; exact idsInL_append h.1 (idsInLL_flat h.2)

theorem VR.restrict {σ σ' : Nm} {Z : Nat → Prop} {w : World} {S : List Nat} (hS : ∀ id, S.any (Nat.beq id) = true → ∀ x, σ id = some x → σ' id = some x) {v : Value} {x : PV} (h : VR σ Z w v x) : idsIn S x = true → VR σ' Z w v x := by
  induction h with
  | sc v h => intro _; exact .sc v h
  | ptr id off b c h => intro hi; exact .ptr id off b c (hS _ (by simpa only [idsIn] using hi) _ h)
  | rptr id sz k i b c h => intro hi; exact .rptr id sz k i b c (hS _ (by simpa only [idsIn] using hi) _ h)
  | own id sz len b c h => intro hi; exact .own id sz len b c (hS _ (by simpa only [idsIn] using hi) _ h)
  | own0 id sz => intro _; exact .own0 id sz
  | imm v sz rows h => intro _; exact .imm v sz rows h
  | iptr b off i row U ho hz hc h => intro _; exact .iptr b off i row U ho hz hc h
  | agg l xs hl ho h ih => intro hi; simp only [idsIn] at hi; exact .agg l xs hl ho fun i u x hu hx => ih i u x hu hx (idsInL_get hi hx)
  | tup l xs hl h ih => intro hi; simp only [idsIn] at hi; exact .tup l xs hl fun i u x hu hx => ih i u x hu hx (idsInL_get hi hx)
  | map id b c h => intro hi; exact .map id b c (hS _ (by simpa only [idsIn] using hi) _ h)
  | any v h => intro _; exact .any v h
  | fn f l1 l2 x1 x2 hl1 hl2 h1 h2 ih1 ih2 =>
    intro hi
    simp only [idsIn, Bool.and_eq_true] at hi
    exact .fn f l1 l2 x1 x2 hl1 hl2 (fun i u x hu hx => ih1 i u x hu hx (idsInL_get hi.1 hx)) (fun i u x hu hx => ih2 i u x hu hx (idsInL_get hi.2 hx))
theorem VRs.restrict {σ σ' : Nm} {Z : Nat → Prop} {w : World} {S : List Nat} (hS : ∀ id, S.any (Nat.beq id) = true → ∀ x, σ id = some x → σ' id = some x) {l : List Value} {xs : List PV} (h : VRs σ Z w l xs) (hi : idsInL S xs = true) : VRs σ' Z w l xs :=
  ⟨h.1, fun i u x hu hx => (h.2 i u x hu hx).restrict hS (idsInL_get hi hx)⟩
def idsO (S : List Nat) : PO → Bool
  | .box _ xs => idsInL S xs
  | .row _ _ pure rows => pure || idsInLL S rows
  | .mp _ => true
  | .rmap _ _ => true
  | .rit m _ _ _ => S.any (Nat.beq m)
  | .ty _ x => idsIn S x
theorem OR.restrict {σ σ' : Nm} {Z : Nat → Prop} {w : World} {S : List Nat} (hS : ∀ id, S.any (Nat.beq id) = true → ∀ x, σ id = some x → σ' id = some x) {id : Nat} {o : PO} (hs : σ' id = σ id) (h : OR σ Z w id o) (hi : idsO S o = true) : OR σ' Z w id o := by
  cases o with
  | box e xs =>
    obtain ⟨b, c, C, h1, h2, h3, h4⟩ := h
    exact ⟨b, c, C, hs.trans h1, h2, h3, h4.restrict hS hi⟩
  | row e sz pu rows =>
    obtain ⟨h1, h2, h3⟩ := h
    refine ⟨h1, ⟨h2.1, fun q => by rw [hs]; exact h2.2 q⟩, fun b c hb => ?_⟩
    rw [hs] at hb
    obtain ⟨C, q1, q2, q3, q4, q5⟩ := h3 b c hb
    refine ⟨C, q1, q2, q3, q4, ?_, q5.2⟩
    simp only [idsO, Bool.or_eq_true] at hi
    rcases hi with hi | hi
    · exact (q5.2 hi).vrs
    · exact q5.1.restrict hS (idsInLL_flat hi)
  | mp D =>
    obtain ⟨h0, b, c, es, cl, h1, h2⟩ := h
    exact ⟨h0, b, c, es, cl, hs.trans h1, h2⟩
  | rmap es cl =>
    obtain ⟨b, c, h1, h2⟩ := h
    exact ⟨b, c, hs.trans h1, h2⟩
  | rit m since seen c0 =>
    obtain ⟨b, c, bm, cm, h1, h2, h3⟩ := h
    exact ⟨b, c, bm, cm, hs.trans h1, hS m (by simpa only [idsO] using hi) _ h2, h3⟩
  | ty v x => exact ⟨hs.trans h.1, h.2.1, h.2.2.restrict hS hi⟩

/-! the state between pieces of code -/
def Sat (E : Env) (N : Nat) (R : List Ent) (H : Heap) (nx : Nat) (a : Act) (w : World) : Prop := ∃ σ Z, Rel E N [] R H nx σ Z a w

def keepR (R : List Ent) : List Nat → Option (List Ent)
  | [] => some []
  | t :: ts => match look R t, keepR R ts with
    | some ⟨_, [], v⟩, some T => some (⟨t, [], v⟩ :: T)
    | _, _ => none
theorem keepR_spec {R : List Ent} : ∀ {ts : List Nat} {T : List Ent}, keepR R ts = some T → ∀ t e, look T t = some e → ∃ t', look R t = some ⟨t', [], e.v⟩ ∧ e.p = []
  | [], T, h, t, e, he => by simp only [keepR, Option.some.injEq] at h; subst h; simp [look] at he
  | s :: ts, T, h, t, e, he => by
    simp only [keepR] at h
    split at h
    · rename_i _ _ t' v T' h1 h2
      simp only [Option.some.injEq] at h
      subst h
      simp only [look] at he
      cases hb : Nat.beq s t with
      | true =>
        rw [hb] at he
        simp only [cond_true, Option.some.injEq] at he
        subst he
        obtain rfl := Nat.eq_of_beq_eq_true hb
        exact ⟨_, h1, rfl⟩
      | false =>
        rw [hb] at he
        simp only [cond_false] at he
        exact keepR_spec h2 t e he
    · simp at h
section
variable {P : Program} {E : Env} {N : Nat} {κ κ' : List (Nat × Bool)} {R T : List Ent} {H : Heap} {nx : Nat} {σ : Nm} {Z : Nat → Prop} {a : Act} {w : World}
theorem RS.keep (h : RS σ Z w N κ R a) {ts : List Nat} (hk : keepR R ts = some T) : RS σ Z w N κ' T a :=
  ⟨h.defers, h.size, fun t e he => by
    obtain ⟨t', h1, h2⟩ := keepR_spec hk t e he
    have := (h.at_ t _ h1).1 rfl
    exact ⟨fun _ => this, fun q => by rw [h2] at q; cases q⟩⟩
theorem RS.kap (h : RS σ Z w N κ R a) (h0 : R.all (fun e => e.p.isEmpty) = true) : RS σ Z w N κ' R a :=
  ⟨h.defers, h.size, fun t e he => by
    have hm : ∀ (R : List Ent), R.all (fun e => e.p.isEmpty) = true → look R t = some e → e.p = [] := fun R => by
      induction R with
      | nil => intro _ h; simp [look] at h
      | cons x R ih =>
        intro h h'
        simp only [List.all_cons, Bool.and_eq_true] at h
        simp only [look] at h'
        cases hb : Nat.beq x.t t with
        | true => rw [hb] at h'; simp only [cond_true, Option.some.injEq] at h'; subst h'; simpa using h.1
        | false => rw [hb] at h'; exact ih h.2 h'
    have hp := hm R h0 he
    have := (h.at_ t e he).1 (by rw [hp]; rfl)
    exact ⟨fun _ => this, fun q => by rw [hp] at q; cases q⟩⟩
theorem Rel.rs' (h : Rel E N κ R H nx σ Z a w) {κ' : List (Nat × Bool)} {T : List Ent} (hT : RS σ Z w N κ' T a) : Rel E N κ' T H nx σ Z a w := ⟨hT, h.hr, h.fr, h.lo, h.ext, h.dom, h.own, h.chg, h.zold, h.z0⟩
theorem Rel.restr (h : Rel E N κ R H nx σ Z a w) (ids : List Nat) : Rel E N κ R (PX.restr H ids) nx σ Z a w :=
  ⟨h.rs, h.hr.restr ids, fun id h1 h2 => ⟨(h.fr id h1 h2).1, by
    cases hl : hlook (PX.restr H ids) id with
    | none => rfl
    | some o => have := (hlook_restr hl).1; rw [(h.fr id h1 h2).2] at this; cases this⟩, h.lo, h.ext, h.dom, fun id o b c h1 => h.own id o b c (hlook_restr h1).1, h.chg, h.zold, h.z0⟩

/-- a region of a fixed order, and what is kept of its state -/
def regRun (P : Program) (l : List Oper) (κ : List (Nat × Bool)) (N : Nat) (ds : List Dir) (ts hs : List Nat) (R : List Ent) (H : Heap) (nx : Nat) : Option (List Ent × Heap × Nat × List Ob) :=
  match seqRun P l.toArray κ N l ds R H nx with
  | some acc => match keepR acc.R ts with
    | some T => some (T, PX.restr acc.H hs, acc.nx, acc.obs)
    | none => none
  | none => none
def regA (P : Program) (l : List Oper) (κ : List (Nat × Bool)) (N : Nat) (ds : List Dir) (R : List Ent) (H : Heap) (nx : Nat) : List Bool :=
  match seqRun P l.toArray κ N l ds R H nx with
  | some acc => acc.eqs.map (·.1)
  | none => []
def regB (P : Program) (l : List Oper) (κ : List (Nat × Bool)) (N : Nat) (ds : List Dir) (R : List Ent) (H : Heap) (nx : Nat) : List Bool :=
  match seqRun P l.toArray κ N l ds R H nx with
  | some acc => acc.eqs.map (·.2)
  | none => []
theorem region_s {id : Nat} {Q : Exit → Act → World → Prop} {l : List Oper} {H' : Heap} {nx' : Nat} {obs : List Ob} (κ : List (Nat × Bool)) (ds : List Dir) (ts hs : List Nat) (hS : Sat E N R H nx a w) (h0 : R.all (fun e => e.p.isEmpty) = true) (h : regRun P l κ N ds ts hs R H nx = some (T, H', nx', obs)) (he : regA P l κ N ds R H nx = regB P l κ N ds R H nx) (htop : nx' ≤ E.top) (hob : AllOb obs)
    (k : ∀ a' w', Sat E N T H' nx' a' w' → Q .normal a' w') : (Code.region id l.toArray false).wp P Q a w := by
  obtain ⟨σ, Z, hr⟩ := hS
  unfold regRun at h
  unfold regA regB at he
  cases hs' : seqRun P l.toArray κ N l ds R H nx with
  | none => rw [hs'] at h; cases h
  | some acc =>
    rw [hs'] at h he
    simp only at h he
    cases hk : keepR acc.R ts with
    | none => rw [hk] at h; cases h
    | some T' =>
      rw [hk] at h
      simp only [Option.some.injEq, Prod.mk.injEq] at h
      obtain ⟨rfl, rfl, rfl, rfl⟩ := h
      have := seq_sound (Q := Q) (rest := []) l ds hs' htop hob (allEq_of_map he) (hr.rs' (hr.rs.kap h0)) (fun a' w' σ' Z' hr' => k a' w' ⟨σ', Z', (hr'.rs' (hr'.rs.keep hk)).restr hs⟩)
      rw [List.append_nil] at this
      exact wp_region_lit this

theorem cond_s {Q : Exit → Act → World → Prop} {c : Operand} {x y : Code} (b : Bool) (hS : Sat E N R H nx a w) (hb : opd R [] c = some (.sc (.bool b))) (ht : b = true → x.wp P Q a w) (hf : b = false → y.wp P Q a w) : (Code.cond c x y).wp P Q a w := by
  obtain ⟨σ, Z, hr⟩ := hS
  have hv := hr.rs.opd (p := []) rfl hb
  generalize hav : a.eval c = vc at hv
  cases hv
  exact wp_cond_split hav ht hf

/-- what is returned -/
def retL (P : Program) (R : List Ent) (H : Heap) : List ResultVar → Option (List PV)
  | [] => some []
  | .tmp t :: l => match opd R [] (.tmp t), retL P R H l with
    | some x, some xs => some (x :: xs)
    | _, _ => none
  | .cell t ty :: l => match opd R [] (.tmp t), retL P R H l with
    | some px, some xs => match behind H px with
      | some ys => match pack P ty ys with
        | some x => some (x :: xs)
        | none => none
      | none => none
    | _, _ => none
def retP (P : Program) (R : List Ent) (H : Heap) (l : List ResultVar) : Option PV :=
  match retL P R H l with
  | some [x] => some x
  | some xs => some (.tup xs)
  | none => none
def resG (tmps : Array Value) : ResultVar → Sem Value
  | .tmp t => pure (tmps.getD t undef)
  | .cell a t => do loadVar t (← asAddr (tmps.getD a undef))
theorem retL_run (hr : Rel E N [] R H nx σ Z a w) : ∀ {l : List ResultVar} {xs : List PV}, retL P R H l = some xs → ∃ vs, (l.mapM (resG a.tmps)).run P w = .ok vs w ∧ VRs σ Z w vs xs
  | [], xs, h => by
    simp only [retL, Option.some.injEq] at h; subst h
    exact ⟨[], rfl, .nil⟩
  | .tmp t :: l, xs, h => by
    simp only [retL] at h
    split at h
    · rename_i x xs' h1 h2
      simp only [Option.some.injEq] at h; subst h
      obtain ⟨vs, h3, h4⟩ := retL_run hr h2
      refine ⟨a.eval (.tmp t) :: vs, ?_, .cons (hr.rs.opd rfl h1) h4⟩
      rw [List.mapM_cons, Sem.run_bind]
      show ((resG a.tmps (.tmp t)).run P w).andThen _ = _
      have : (resG a.tmps (.tmp t)).run P w = .ok (a.eval (.tmp t)) w := rfl
      rw [this]
      simp only [Result.andThen_ok, Sem.run_bind, h3, Sem.run_pure]
    · cases h
  | .cell t ty :: l, xs, h => by
    simp only [retL] at h
    split at h
    · rename_i px xs' h1 h2
      split at h
      · rename_i ys hb
        split at h
        · rename_i x hp
          simp only [Option.some.injEq] at h; subst h
          obtain ⟨vs, h3, h4⟩ := retL_run hr h2
          obtain ⟨b, off, l', e, q1, q2, q3⟩ := behind_spec hr.hr (hr.rs.opd rfl h1) hb
          obtain ⟨v, q4, q5⟩ := run_loadVar q1 q2 q3 hp
          refine ⟨v :: vs, ?_, .cons q5 h4⟩
          rw [List.mapM_cons, Sem.run_bind]
          have : (resG a.tmps (.cell t ty)).run P w = .ok v w := by
            have e' : a.tmps.getD t undef = .pointer (some ⟨b, off, none⟩) := e
            show (do loadVar ty (← asAddr (a.tmps.getD t undef)) : Sem Value).run P w = _
            rw [e']
            simp only [asAddr, Sem.run_bind, Sem.run_pure, Result.andThen_ok, q4]
          rw [this]
          simp only [Result.andThen_ok, Sem.run_bind, h3, Sem.run_pure]
        · cases h
      · cases h
    · cases h
theorem ret_run (hr : Rel E N [] R H nx σ Z a w) {fn : Func} {x : PV} (h : retP P R H fn.results.toList = some x) : ∃ v, (results fn a.tmps).run P w = .ok v w ∧ VR σ Z w v x := by
  unfold retP at h
  cases hl : retL P R H fn.results.toList with
  | none => rw [hl] at h; cases h
  | some xs =>
    obtain ⟨vs, h1, h2⟩ := retL_run hr hl
    have hm : (fn.results.mapM (resG a.tmps)).run P w = .ok vs.toArray w := by
      have e : fn.results.mapM (resG a.tmps) = List.toArray <$> fn.results.toList.mapM (resG a.tmps) := by
        rw [← List.mapM_toArray, Array.toArray_toList]
      rw [e, map_eq_pure_bind, Sem.run_bind, h1]; rfl
    have hres : (results fn a.tmps).run P w = ((fn.results.mapM (resG a.tmps)).run P w).andThen fun vs w => .ok (if h : vs.size = 1 then vs[0] else .tuple vs) w := by
      rw [show results fn a.tmps = (do let vs ← fn.results.mapM (resG a.tmps); pure (if h : vs.size = 1 then vs[0] else .tuple vs)) from rfl, Sem.run_bind]
      rfl
    rw [hres, hm]
    rw [hl] at h
    match xs, h, h2 with
    | [], h, h2 =>
      simp only [Option.some.injEq] at h; subst h
      have : vs = [] := List.length_eq_zero_iff.1 (by simpa using h2.1)
      subst this
      exact ⟨.tuple #[], by simp, .tup [] [] rfl fun i u x h => by simp at h⟩
    | [y], h, h2 =>
      simp only [Option.some.injEq] at h; subst h
      obtain ⟨u, l', rfl, q1, q2⟩ := h2.inv
      have : l' = [] := List.length_eq_zero_iff.1 (by simpa using q2.1)
      subst this
      exact ⟨u, by simp, q1⟩
    | y :: z :: ys, h, h2 =>
      simp only [Option.some.injEq] at h; subst h
      refine ⟨.tuple vs.toArray, ?_, .tup vs _ h2.1 h2.2⟩
      have : vs.length ≠ 1 := by rw [h2.1]; simp
      simp [this]
end
end Go.PX
