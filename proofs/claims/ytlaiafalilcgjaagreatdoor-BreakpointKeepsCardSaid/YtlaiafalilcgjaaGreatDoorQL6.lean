/- Proved: regions on plain data in the round of a range over a function, and beside deferred calls. Program-independent. -/
import Derived.Test.YtlaiafalilcgjaaGreatDoorQL5
import Derived.RangeFuncNested
import Derived.RangeFuncBound
import Derived.RangeFuncCalls
import Derived.RangeFuncLeaves
import Derived.OwnWalkIn
import Derived.OrdersIn
import Derived.Sort.LoopGhostIn
import Derived.LoopNIn
set_option linter.unusedVariables false
set_option linter.unusedSimpArgs false
namespace Go.PX
open Go.RowKit Go.SX

abbrev FW (ro : Option Nat) : Fence := { Fence.wide with round := ro }
def noDefer : Op → Bool
  | .defer _ => false
  | _ => true
theorem noDefer_ne {o : Op} (h : noDefer o = true) : ∀ c, o ≠ .defer c := fun c e => by subst e; cases h
def Act.with_ (a : Act) (ds : List Deferred) : Act := { a with defers := ds }
theorem with_put {a : Act} {ds : List Deferred} {d : Option Tmp} {v : Value} : (Act.with_ a ds).put d v = Act.with_ (a.put d v) ds := by cases d <;> rfl
theorem with_eval {a : Act} {ds : List Deferred} : (Act.with_ a ds).eval = a.eval := by funext x; cases x <;> rfl

section
variable {P : Program} {ro : Option Nat} {n : Nat} {ds : List Deferred}
theorem callsIn_fw {f : FuncId} {args : Array Value} {w : World} {R : Ending → World → Prop} (h : Calls P f args w R) : CallsIn (FW ro) n P f args w R := by
  have h1 : CallsIn Fence.wide n P f args w R := callsIn_wide.2 h
  exact h1
theorem rowsIn_fw {row : String} {args : Array Value} {w : World} {R : Value → World → Prop} (h : Rows P row args w R) : RowsIn (FW ro) n P row args w R := by
  have h1 : RowsIn Fence.wide n P row args w R := fun c cs _ => let ⟨v, w', r, s⟩ := h c cs; ⟨v, w', r, stepsIn_wide.2 s⟩
  exact h1
theorem oper_fw {o : Oper} {a : Act} {w : World} {K : Act → World → Prop} {Q : Exit → Act → World → Prop} (hd : noDefer o.op = true) (ha : a.defers = []) (h : o.wp P a w (fun a' w' => a'.defers = [] ∧ K (Act.with_ a' ds) w') (fun _ _ _ => False)) : o.wpIn (FW ro) n P (Act.with_ a ds) w K Q := by
  refine ⟨fun _ _ => trivial, ?_⟩
  rw [Oper.semAt_plain (FW ro) _ o (noDefer_ne hd), with_eval]
  unfold Oper.wp at h
  have hdep : (FW ro).depth.isSome = true → 1 ≤ n := fun q => by cases q
  cases hr : (execOp a.eval o).run P w with
  | halt e w' =>
    rw [hr] at h
    cases e <;> simp only [Oper.upon] at h
  | ok x w' =>
    rw [hr] at h
    cases x with
    | value v => simp only [Oper.upon] at h; simp only [Oper.uponIn]; rw [with_put]; exact h.2
    | skip => simp only [Oper.upon] at h; simp only [Oper.uponIn]; rw [with_put]; exact h.2
    | defer d =>
      simp only [Oper.upon] at h
      exfalso
      have := h.1
      revert this
      cases o.dst <;> simp [Act.put]
    | enter f args =>
      simp only [Oper.upon] at h
      refine ⟨hdep, callsIn_fw (h.mono ?_)⟩
      intro e w'' q
      cases e with
      | returned v => show K _ _; rw [with_put]; exact q.2
      | panicked c => exact q.elim
      | outgrown => obtain ⟨_, _, q⟩ := q; exact q.elim
    | row r args =>
      simp only [Oper.upon] at h
      exact ⟨hdep, rowsIn_fw (h.mono fun v w'' q => by rw [with_put]; exact q.2)⟩
    | _ => simp only [Oper.upon] at h

theorem seq_fw {ops : Array Oper} {E : Env} {N : Nat} {κ : List (Nat × Bool)} {Q : Exit → Act → World → Prop} {rest : List Oper} : ∀ (l : List Oper) (dr : List Dir) {R : List Ent} {H : Heap} {nx : Nat} {acc : Acc} {σ : Nm} {Z : Nat → Prop} {a : Act} {w : World}, l.all (fun o => noDefer o.op) = true → seqRun P ops κ N l dr R H nx = some acc → acc.nx ≤ E.top → AllOb acc.obs → AllEq acc.eqs → Rel E N κ R H nx σ Z a w →
    (∀ a' w' σ' Z', Rel E N κ acc.R acc.H acc.nx σ' Z' a' w' → wpListIn (FW ro) n P ops Q rest (Act.with_ a' ds) w') → wpListIn (FW ro) n P ops Q (l ++ rest) (Act.with_ a ds) w
  | [], [], R, H, nx, acc, σ, Z, a, w, _, h, _, _, _, hrel, k => by
    simp only [seqRun, Option.some.injEq] at h; subst h
    exact k a w σ Z hrel
  | [], d :: dr, R, H, nx, acc, σ, Z, a, w, _, h, _, _, _, _, _ => by simp [seqRun] at h
  | o :: l, [], R, H, nx, acc, σ, Z, a, w, _, h, _, _, _, _, _ => by simp [seqRun] at h
  | o :: l, d :: dr, R, H, nx, acc, σ, Z, a, w, hnd, h, htop, hob, heq, hrel, k => by
    simp only [List.all_cons, Bool.and_eq_true] at hnd
    simp only [seqRun] at h
    split at h
    · cases h
    · rename_i p bs hp
      split at h
      · cases h
      · rename_i out hs
        cases hb : (dstOk N o && (p.isEmpty || out.U.isEmpty) && Nat.ble nx out.nx) with
        | false => rw [hb] at h; cases h
        | true =>
          rw [hb] at h
          simp only [cond_true] at h
          simp only [Bool.and_eq_true, Bool.or_eq_true] at hb
          split at h
          · cases h
          · rename_i R' hR'
            split at h
            · cases h
            · rename_i acc' hacc
              simp only [Option.some.injEq] at h; subst h
              obtain ⟨ob1, ob2⟩ := allOb_append hob
              obtain ⟨e1, e2⟩ := allEq_append heq
              obtain ⟨e2, e3⟩ := allEq_append e2
              have hw := path_spec hrel.rs hp e1
              simp only [List.cons_append, wpListIn]
              rw [show Region.wanted o (yielded ops (Act.with_ a ds).tmps) = Region.wanted o (yielded ops a.tmps) from rfl, hw]
              cases hpv : pv κ p with
              | true =>
                simp only [if_true]
                exact oper_fw hnd.1 hrel.rs.defers (hrel.exec hs (Nat.le_trans (seq_nle hacc) htop) hb.1.1 hR' hpv (obsIf_spec ob1 hpv) e2 fun a' w' σ' Z' hr => ⟨hr.rs.defers, seq_fw l dr hnd.2 hacc htop ob2 e3 hr k⟩)
              | false =>
                simp only [Bool.false_eq_true, if_false]
                have hU : out.U = [] := by
                  rcases hb.1.2 with q | q
                  · have : p = [] := by cases p <;> simp at q ⊢
                    subst this; cases hpv
                  · cases hq : out.U <;> rw [hq] at q <;> simp at q ⊢
                rw [hU] at hacc
                refine ⟨fun _ _ => trivial, ?_⟩
                rw [with_put]
                exact seq_fw l dr hnd.2 hacc htop ob2 e3 ((hrel.skip hb.1.1 hR' hpv).nx_mono (Nat.le_of_ble_eq_true hb.2)) k

variable {E : Env} {N : Nat} {R T : List Ent} {H : Heap} {nx : Nat} {a : Act} {w : World}
theorem region_w {id : Nat} {Q : Exit → Act → World → Prop} {l : List Oper} {H' : Heap} {nx' : Nat} {obs : List Ob} (κ : List (Nat × Bool)) (dr : List Dir) (ts hs : List Nat) (hS : Sat E N R H nx a w) (h0 : R.all (fun e => e.p.isEmpty) = true) (h : regRun P l κ N dr ts hs R H nx = some (T, H', nx', obs)) (he : regA P l κ N dr R H nx = regB P l κ N dr R H nx) (hnd : l.all (fun o => noDefer o.op) = true) (htop : nx' ≤ E.top) (hob : AllOb obs)
    (k : ∀ a' w', Sat E N T H' nx' a' w' → Q .normal (Act.with_ a' ds) w') : (Code.region id l.toArray false).wpIn (FW ro) n P Q (Act.with_ a ds) w := by
  obtain ⟨σ, Z, hr⟩ := hS
  unfold regRun at h
  unfold regA regB at he
  cases hs' : seqRun P l.toArray κ N l dr R H nx with
  | none => rw [hs'] at h; cases h
  | some acc =>
    rw [hs'] at h he
    simp only at h he
    cases hk : keepR acc.R ts with
    | none => rw [hk] at h; cases h
    | some T' =>
      rw [hk] at h
      simp only [Option.some.injEq, Prod.mk.injEq] at h
      obtain ⟨rfl, rfl, rfl, rfl⟩ := h
      have := seq_fw (ro := ro) (n := n) (ds := ds) (Q := Q) (rest := []) l dr hnd hs' htop hob (allEq_of_map he) (hr.rs' (hr.rs.kap h0)) (fun a' w' σ' Z' hr' => k a' w' ⟨σ', Z', (hr'.rs' (hr'.rs.keep hk)).restr hs⟩)
      rw [List.append_nil] at this
      exact wpIn_region_lit this
theorem cond_w {Q : Exit → Act → World → Prop} {c : Operand} {x y : Code} (b : Bool) (hS : Sat E N R H nx a w) (hb : opd R [] c = some (.sc (.bool b))) (ht : b = true → x.wpIn (FW ro) n P Q (Act.with_ a ds) w) (hf : b = false → y.wpIn (FW ro) n P Q (Act.with_ a ds) w) : (Code.cond c x y).wpIn (FW ro) n P Q (Act.with_ a ds) w := by
  obtain ⟨σ, Z, hr⟩ := hS
  have hv := hr.rs.opd (p := []) rfl hb
  generalize hav : a.eval c = vc at hv
  cases hv
  exact wpIn_cond_split (by rw [with_eval]; exact hav) ht hf
end
end Go.PX
namespace Go.PX
open Go.RowKit Go.SX

theorem IR.cells {Z Z' : Nat → Prop} {w w' : World} (hz : ∀ b, Z b → Z' b) (hw : ∀ p v, w.cell? p = some v → w'.cell? p = some v) {v : Value} {x : PV} (h : IR Z w v x) : IR Z' w' v x := by
  induction h with
  | sc v h => exact .sc v h
  | imm A cap sz rows U h1 h2 h3 h4 ih =>
    refine .imm A cap sz rows U h1 h2 (fun k row hr => ?_) ih
    obtain ⟨q1, q2, b, off, q3, q4, q5⟩ := h3 k row hr
    exact ⟨q1, q2, b, off, q3, hz b q4, fun i hi => hw _ _ (q5 i hi)⟩
theorem VR.cells {σ : Nm} {Z : Nat → Prop} {w w' : World} (hw : ∀ p v, w.cell? p = some v → w'.cell? p = some v) {v : Value} {x : PV} (h : VR σ Z w v x) : VR σ Z w' v x := by
  induction h with
  | sc v h => exact .sc v h
  | ptr id off b c h => exact .ptr id off b c h
  | rptr id sz k i b c h => exact .rptr id sz k i b c h
  | own id sz len b c h => exact .own id sz len b c h
  | own0 id sz => exact .own0 id sz
  | imm v sz rows h => exact .imm v sz rows (h.cells (fun _ q => q) hw)
  | iptr b off i row U ho hzb hc h => exact .iptr b off i row U ho hzb (fun j hj => hw _ _ (hc j hj)) fun j x hx => (h j x hx).cells (fun _ q => q) hw
  | agg l xs hl ho h ih => exact .agg l xs hl ho ih
  | tup l xs hl h ih => exact .tup l xs hl ih
  | map id b c h => exact .map id b c h
  | any v h => exact .any v h
  | fn f l1 l2 x1 x2 hl1 hl2 h1 h2 ih1 ih2 => exact .fn f l1 l2 x1 x2 hl1 hl2 ih1 ih2

theorem turn_heap {W W' : World} {row : Option Nat} (hg : W.grownBy W' row) (hr : ∀ r, row = some r → ∃ o : Obj, W.heap[r]? = some o ∧ o.isCells = false) {b : Nat} {C : Array Value} {e : TypeId} {s : Nat × Nat} (h : W.heap[b]? = some (.cells C e s)) : W'.heap[b]? = some (.cells C e s) := by
  refine (hg.block b (Array.getElem?_eq_some_iff.1 h).1 fun e' => ?_).trans h
  obtain ⟨o, h1, h2⟩ := hr b e'.symm
  rw [h] at h1; injection h1 with h1; subst h1; cases h2
theorem cell_heap {W : World} {p : Addr} {v : Value} (h : W.cell? p = some v) : ∃ C e s, W.heap[p.block]? = some (.cells C e s) := by
  unfold World.cell? at h
  cases ho : W.heap[p.block]? with
  | none => rw [ho] at h; cases h
  | some o => rw [ho] at h; cases o <;> first | exact ⟨_, _, _, rfl⟩ | cases h
theorem turn_cell {W W' : World} {row : Option Nat} (hg : W.grownBy W' row) (hr : ∀ r, row = some r → ∃ o : Obj, W.heap[r]? = some o ∧ o.isCells = false) (p : Addr) (v : Value) (h : W.cell? p = some v) : W'.cell? p = some v := by
  obtain ⟨C, e, s, hc⟩ := cell_heap h
  rw [World.cell?_of_block ((turn_heap hg hr hc).trans hc.symm)]; exact h

def allU (H : Heap) : Upd := H.map fun x => (x.1, none)
theorem ulook_allU : ∀ {H : Heap} {id : Nat} {o : PO}, hlook H id = some o → ulook (allU H) id ≠ none
  | [], id, o, h => by cases h
  | x :: H, id, o, h => by
    simp only [hlook] at h
    simp only [allU, List.map_cons, ulook]
    cases hb : Nat.beq x.1 id with
    | true => simp
    | false => rw [hb] at h; exact ulook_allU (H := H) h
/-- the state as it stands, as the beginning of a walk -/
def Env.nest (E : Env) (H : Heap) (nx : Nat) (σ : Nm) (Z : Nat → Prop) (w : World) : Env := { w0 := w, Wr := WrOf σ H (allU H), Z0 := Z, σ0 := σ, lo := nx, top := E.top }

section
variable {P : Program} {E : Env} {N : Nat} {κ κ' : List (Nat × Bool)} {R R' : List Ent} {H H' : Heap} {nx nx' : Nat} {σ σ' : Nm} {Z Z' : Nat → Prop} {a a' : Act} {w w' : World}
theorem nest_wr {b : Nat} : (E.nest H nx σ Z w).Wr b → ∃ id o c, hlook H id = some o ∧ σ id = some (b, c) := fun ⟨id, o, c, _, h1, h2⟩ => ⟨id, o, c, h1, h2⟩
theorem Rel.nest (h : Rel E N κ R H nx σ Z a w) : Rel (E.nest H nx σ Z w) N κ R H nx σ Z a w :=
  ⟨h.rs, h.hr, h.fr, Nat.le_refl _, Ext.refl _, fun _ q _ => q, fun id o _ c h1 h2 => .inr ⟨id, o, c, ulook_allU h1, h1, h2⟩, Chg.refl _ _, fun _ q => .inl q, fun _ q => q⟩
theorem Rel.nestOk (h : Rel E N κ R H nx σ Z a w) (ht : E.top = 100000) : EnvOk (E.nest H nx σ Z w) H (allU H) nx 100000 :=
  ⟨rfl, ht, rfl, fun id h1 h2 => (h.fr id h1 (by rw [ht]; exact h2)).2, fun id h1 h2 => (h.fr id h1 (by rw [ht]; exact h2)).1⟩
theorem Rel.unnest (h : Rel E N κ R H nx σ Z a w) {N' : Nat} (k : Rel (E.nest H nx σ Z w) N' κ' R' H' nx' σ' Z' a' w') : Rel E N' κ' R' H' nx' σ' Z' a' w' := by
  have hs := h.chg.size
  refine ⟨k.rs, k.hr, k.fr, Nat.le_trans h.lo k.lo, h.ext.trans k.ext, fun id h0 hn => ?_, fun id o b c h1 h2 => ?_, ?_, fun b hb => ?_, fun b hb => k.z0 b (h.z0 b hb)⟩
  · exact k.dom id (h.dom id h0 hn) fun ⟨q1, q2⟩ => hn ⟨Nat.le_trans h.lo q1, q2⟩
  · rcases k.own id o b c h1 h2 with q | q
    · exact .inl (Nat.le_trans hs q)
    · obtain ⟨i, o', c', q1, q2⟩ := nest_wr q
      exact h.own i o' b c' q1 q2
  · refine (h.chg.trans k.chg).mono fun b hb q => ?_
    rcases q with q | q
    · exact q
    · obtain ⟨i, o', c', q1, q2⟩ := nest_wr q
      rcases h.own i o' b c' q1 q2 with q | q
      · omega
      · exact q
  · rcases k.zold b hb with q | q | q
    · exact h.zold b q
    · exact .inr (.inl (Nat.le_trans hs q))
    · obtain ⟨i, o', c', q1, q2⟩ := nest_wr q
      exact .inr (h.own i o' b c' q1 q2)
/-- what the slots held still holds -/
theorem Rel.back (h : Rel E N [] R H nx σ Z a w) {N' : Nat} (k : Rel (E.nest H nx σ Z w) N' κ' R' H' nx' σ' Z' a' w') : Rel (E.nest H nx σ Z w) N [] R H' nx' σ' Z' a w' :=
  ⟨⟨h.rs.defers, h.rs.size, fun t e he => ⟨fun hp => by
    obtain ⟨v, h1, h2⟩ := (h.rs.at_ t e he).1 hp
    exact ⟨v, h1, h2.mono k.ext k.z0 k.chg fun b hz q => by obtain ⟨i, o', c', q1, q2⟩ := nest_wr q; exact h.hr.off i o' b c' q1 q2 hz⟩, (h.rs.at_ t e he).2⟩⟩, k.hr, k.fr, k.lo, k.ext, k.dom, k.own, k.chg, k.zold, k.z0⟩

def isMp : PO → Bool
  | .mp _ | .rmap _ _ | .rit _ _ _ _ => true
  | _ => false
theorem isMp_blk {id : Nat} {o : PO} (h : OR σ Z w id o) (hm : isMp o = true) : ∃ b c, σ id = some (b, c) ∧ ∃ x : Obj, w.heap[b]? = some x ∧ x.isCells = false := by
  cases o with
  | box _ _ => cases hm
  | row _ _ _ _ => cases hm
  | ty _ _ => cases hm
  | mp D => obtain ⟨_, b, c, es, cl, h1, h2, _⟩ := h; exact ⟨b, c, h1, _, h2, rfl⟩
  | rmap es cl => obtain ⟨b, c, h1, h2⟩ := h; exact ⟨b, c, h1, _, h2, rfl⟩
  | rit m s x c0 => obtain ⟨b, c, bm, cm, h1, _, h2⟩ := h; exact ⟨b, c, h1, _, h2, rfl⟩
def mapsOld (E : Env) (H : Heap) : Prop := ∀ id o, hlook H id = some o → isMp o = true → ∃ b c, E.σ0 id = some (b, c) ∧ b < E.w0.heap.size
theorem RS.cells (h : RS σ Z w N κ R a) (hw : ∀ p v, w.cell? p = some v → w'.cell? p = some v) : RS σ Z w' N κ R a :=
  ⟨h.defers, h.size, fun t e he => ⟨fun hp => by obtain ⟨v, h1, h2⟩ := (h.at_ t e he).1 hp; exact ⟨v, h1, h2.cells hw⟩, (h.at_ t e he).2⟩⟩
theorem Rel.turn (h : Rel E N κ R H nx σ Z a w) {row : Option Nat} (hg : w.grownBy w' row) (hr : ∀ r, row = some r → E.w0.heap.size ≤ r ∧ ∃ o : Obj, w.heap[r]? = some o ∧ o.isCells = false) (hm : mapsOld E H) : Rel E N κ R H nx σ Z a w' := by
  have hr' := fun r e => (hr r e).2
  have hc := turn_cell hg hr'
  refine ⟨h.rs.cells hc, ⟨fun id o ho => ?_, h.hr.inj, h.hr.off, fun b q => Nat.lt_of_lt_of_le (h.hr.zlt b q) hg.size⟩, h.fr, h.lo, h.ext, h.dom, h.own, ⟨hg.os.trans h.chg.os, hg.tape.trans h.chg.tape, hg.output.trans h.chg.output, Nat.le_trans h.chg.size hg.size, fun b hb hn => ?_⟩, h.zold, h.z0⟩
  · have q := h.hr.at_ id o ho
    cases o with
    | box e xs =>
      obtain ⟨b, c, C, h1, h2, h3, h4⟩ := q
      exact ⟨b, c, C, h1, turn_heap hg hr' h2, h3, h4.1, fun i u x hu hx => (h4.2 i u x hu hx).cells hc⟩
    | row e sz pu rows =>
      obtain ⟨h1, h2, h3⟩ := q
      refine ⟨h1, h2, fun b c hb => ?_⟩
      obtain ⟨C, q1, q2, q3, q4, q5⟩ := h3 b c hb
      exact ⟨C, turn_heap hg hr' q1, q2, q3, q4, ⟨q5.1.1, fun i u x hu hx => (q5.1.2 i u x hu hx).cells hc⟩, fun hp => ⟨(q5.2 hp).1, fun i u x hu hx => ((q5.2 hp).2 i u x hu hx).cells (fun _ q => q) hc⟩⟩
    | mp D =>
      obtain ⟨h0, b, c, es, cl, h1, h2, h3⟩ := q
      refine ⟨h0, b, c, es, cl, h1, ?_, h3⟩
      refine (hg.block b (Array.getElem?_eq_some_iff.1 h2).1 fun e => ?_).trans h2
      obtain ⟨b', c', e1, e2⟩ := hm id _ ho rfl
      have := h.ext id _ e1
      rw [h1] at this; injection this with this; injection this with t1 t2; subst t1
      have := (hr b e.symm).1; omega
    | rmap es cl =>
      obtain ⟨b, c, h1, h2⟩ := q
      refine ⟨b, c, h1, (hg.block b (Array.getElem?_eq_some_iff.1 h2).1 fun e => ?_).trans h2⟩
      obtain ⟨b', c', e1, e2⟩ := hm id _ ho rfl
      have := h.ext id _ e1
      rw [h1] at this; injection this with this; injection this with t1 t2; subst t1
      have := (hr b e.symm).1; omega
    | rit m s x c0 =>
      obtain ⟨b, c, bm, cm, h1, h3, h2⟩ := q
      refine ⟨b, c, bm, cm, h1, h3, (hg.block b (Array.getElem?_eq_some_iff.1 h2).1 fun e => ?_).trans h2⟩
      obtain ⟨b', c', e1, e2⟩ := hm id _ ho rfl
      have := h.ext id _ e1
      rw [h1] at this; injection this with this; injection this with t1 t2; subst t1
      have := (hr b e.symm).1; omega
    | ty v x => exact ⟨q.1, q.2.1, q.2.2.cells hc⟩
  · rw [hg.block b (Nat.lt_of_lt_of_le hb h.chg.size) fun e => ?_]
    · exact h.chg.block b hb hn
    · have := (hr b e.symm).1; omega
theorem Sat.turn (h : Sat E N R H nx a w) {row : Option Nat} (hg : w.grownBy w' row) (hr : ∀ r, row = some r → E.w0.heap.size ≤ r ∧ ∃ o : Obj, w.heap[r]? = some o ∧ o.isCells = false) (hm : mapsOld E H) : Sat E N R H nx a w' := by
  obtain ⟨σ, Z, q⟩ := h
  exact ⟨σ, Z, q.turn hg hr hm⟩
theorem nest_keeps {B : Nat} (h : Rel E N κ R H nx σ Z a w) {N' : Nat} (k : Rel (E.nest H nx σ Z w) N' κ' R' H' nx' σ' Z' a' w') (hm : mapsOld E H) (hB : E.w0.heap.size ≤ B) : KeepsFrom B w w' :=
  ⟨k.chg.size, fun j o hj hk ho => (k.chg.block j (Array.getElem?_eq_some_iff.1 hk).1 fun q => by
    obtain ⟨i, o', c', q1, q2⟩ := nest_wr q
    have q3 := h.hr.at_ i o' q1
    cases o' with
    | box e xs =>
      obtain ⟨b, c, C, h1, h2, _⟩ := q3
      rw [q2] at h1; injection h1 with h1; injection h1 with t1 t2; subst t1
      rw [hk] at h2; injection h2 with h2; subst h2; cases ho
    | row e sz pu rows =>
      obtain ⟨C, h2, _⟩ := q3.2.2 j c' q2
      rw [hk] at h2; injection h2 with h2; subst h2; cases ho
    | mp D =>
      obtain ⟨b', c'', e1, e2⟩ := hm i _ q1 rfl
      have := h.ext i _ e1
      rw [q2] at this; injection this with this; injection this with t1 t2; subst t1
      omega
    | rmap es cl =>
      obtain ⟨b', c'', e1, e2⟩ := hm i _ q1 rfl
      have := h.ext i _ e1
      rw [q2] at this; injection this with this; injection this with t1 t2; subst t1
      omega
    | rit m s x c0 =>
      obtain ⟨b', c'', e1, e2⟩ := hm i _ q1 rfl
      have := h.ext i _ e1
      rw [q2] at this; injection this with this; injection this with t1 t2; subst t1
      omega
    | ty v x => have := q3.1; rw [q2] at this; cases this).trans hk⟩

/-- objects that aren't of the table stay -/
theorem nest_def (h : Rel E N κ R H nx σ Z a w) {N' : Nat} (k : Rel (E.nest H nx σ Z w) N' κ' R' H' nx' σ' Z' a' w') {D : Nat} {x : Option (List Deferred)} (hD : w.heap[D]? = some (.deferred x)) : w'.heap[D]? = some (.deferred x) :=
  (k.chg.block D (Array.getElem?_eq_some_iff.1 hD).1 fun q => by
    obtain ⟨i, o', c', q1, q2⟩ := nest_wr q
    have q3 := h.hr.at_ i o' q1
    cases o' with
    | box e xs =>
      obtain ⟨b, c, C, h1, h2, _⟩ := q3
      rw [q2] at h1; injection h1 with h1; injection h1 with t1 t2; subst t1
      rw [hD] at h2; cases h2
    | row e sz pu rows =>
      obtain ⟨C, h2, _⟩ := q3.2.2 D c' q2
      rw [hD] at h2; cases h2
    | mp M =>
      obtain ⟨_, b, c, es, cl, h1, h2, _⟩ := q3
      rw [q2] at h1; injection h1 with h1; injection h1 with t1 t2; subst t1
      rw [hD] at h2; cases h2
    | rmap es cl =>
      obtain ⟨b, c, h1, h2⟩ := q3
      rw [q2] at h1; injection h1 with h1; injection h1 with t1 t2; subst t1
      rw [hD] at h2; cases h2
    | rit m s x c0 =>
      obtain ⟨b, c, bm, cm, h1, _, h2⟩ := q3
      rw [q2] at h1; injection h1 with h1; injection h1 with t1 t2; subst t1
      rw [hD] at h2; cases h2
    | ty v x => have := q3.1; rw [q2] at this; cases this).trans hD
/-- a state, and what it leads to: E3 begins here -/
def Nested (E E3 : Env) (w : World) : Prop := E3.w0 = w ∧ E3.top = E.top ∧ ∀ N' R' H' nx' a' w', Sat E3 N' R' H' nx' a' w' → Sat E N' R' H' nx' a' w' ∧ ∀ (D : Nat) (x : Option (List Deferred)), w.heap[D]? = some (Obj.deferred x) → w'.heap[D]? = some (Obj.deferred x)
theorem Sat.nest (h : Sat E N R H nx a w) (ht : E.top = 100000) : ∃ E3, Nested E E3 w ∧ EnvOk E3 H (allU H) nx 100000 ∧ Sat E3 N R H nx a w := by
  obtain ⟨σ, Z, hr⟩ := h
  refine ⟨E.nest H nx σ Z w, ⟨rfl, rfl, fun N' R' H' nx' a' w' ⟨σ', Z', k⟩ => ⟨⟨σ', Z', hr.unnest k⟩, fun D x hD => nest_def hr k hD⟩⟩, hr.nestOk ht, ⟨σ, Z, hr.nest⟩⟩

/-! a range over a function -/
/-- how a round may be left -/
def rngPost (E : Env) (N nx : Nat) (Hn Hx : Heap) (pn p : Prop) : Exit → Act → World → Prop
  | .normal, a, w => pn ∧ Sat E N [] Hn nx a w
  | .ret, a, w => p ∧ Sat E N [] Hx nx a w
  | _, _, _ => False
theorem range_px {α : Type} {n : Nat} {ds : List Deferred} (hr : Rel E N [] R H nx σ Z a w) {g : Operand} {ps : Array Tmp} {assign body : Code} {Q : Exit → Act → World → Prop} (h1 : 1 ≤ n)
    {gf : Nat} {lb : Array Value} (hg : a.eval g = .func (.func gf) #[] lb) (eg : ∀ args w, (callFunc gf args).run P w = .ok (.enter gf args) w)
    {encs : α → Array Value} (hps : ∀ x, (encs x).size = ps.size) {S Sp : List α → Prop} {M : Nat}
    (hseq : SeqStopsK (FW none) (n - 1) P gf lb encs (fun A B => Chg (E.nest H nx σ Z w).Wr w A → Chg (E.nest H nx σ Z w).Wr w B) S Sp M w)
    (Pn Px : List α → Prop) (hp0 : Pn []) (Hh Hx : List α → Heap) (h00 : Hh [] = H) (hmh : ∀ pre, mapsOld (E.nest H nx σ Z w) (Hh pre)) (hmx : ∀ pre, mapsOld (E.nest H nx σ Z w) (Hx pre))
    (asg : α → Act) (hasg : ∀ (l : Nat) (x : α) (W : World) (K : Act → World → Prop), K (asg x) W → assign.wpIn (FW (some l)) (n - 1 - 1) P (Exit.then K (fun _ _ _ => False)) { tmps := (ps.zip (encs x)).foldl (fun t (p, v) => t.setIfInBounds p v) a.tmps, defers := [] } W)
    (R1 : α → List Ent) (hR1 : ∀ x σ' Z' W, RS σ' Z' W N [] R a → RS σ' Z' W N [] (R1 x) (asg x))
    (hbody : ∀ (l : Nat) (pre : List α) (x : α) (E3 : Env) (W : World), pre.length < M → Pn pre → E3.w0 = W → E3.top = E.top → EnvOk E3 (Hh pre) (allU (Hh pre)) nx E.top → Sat E3 N (R1 x) (Hh pre) nx (asg x) W → body.wpIn (FW (some l)) (n - 1 - 1) P (rngPost E3 N nx (Hh (pre ++ [x])) (Hx (pre ++ [x])) (Pn (pre ++ [x])) (Px (pre ++ [x]))) (asg x) W)
    (hdone : ∀ (D : Nat) (xs : List α) (W : World), w.heap.size ≤ D → S xs → Pn xs → Sat (E.nest H nx σ Z w) N R (Hh xs) nx a W → W.heap[D]? = some (.deferred (some [])) → Q .normal (Act.with_ a ({ target := .collected D, args := #[] } :: ds)) W)
    (hstop : ∀ (D : Nat) (pre : List α) (W : World), w.heap.size ≤ D → Sp pre → Px pre → Sat (E.nest H nx σ Z w) N R (Hx pre) nx a W → W.heap[D]? = some (.deferred (some [])) → Code.ret.wpIn (FW none) n P Q (Act.with_ a ({ target := .collected D, args := #[] } :: ds)) W) :
    (Code.rangeFunc g ps assign body).wpIn (FW none) n P Q (Act.with_ a ds) w := by
  have hn := hr.nest
  refine wpIn_rangeFunc_ownH (F := FW none) rfl h1 (gf := gf) (lb := lb) (by rw [with_eval]; exact hg) trivial eg hseq (fun h k q => k (h q))
    (fun W l o o' hl ho hc _ q => ⟨q.os, q.tape, q.output, by simpa using q.size, fun b hb hnb => by rw [World.putObj_heap_other (by omega)]; exact q.block b hb hnb⟩) (Below.refl _ _) hps
    (fun pre W => Pn pre ∧ Sat (E.nest H nx σ Z w) N R (Hh pre) nx a W) (fun c pre W => c = .ret ∧ Px pre ∧ Sat (E.nest H nx σ Z w) N R (Hx pre) nx a W)
    (fun s W W' row hs hg' hr' => ⟨hs.1, hs.2.turn hg' hr' (hmh s)⟩) (fun c s W W' row hs hg' hr' => ⟨hs.1, hs.2.1, hs.2.2.turn hg' hr' (hmx s)⟩)
    (by rw [h00]; exact ⟨hp0, σ, Z, hn⟩) (fun x a' _ => a' = asg x) (fun x a' _ W W' row h _ _ => h)
    (fun l pre x W K hI hK => hasg l x W K (hK _ _ (KeepsFrom.refl _ _) (fun q => q) hI rfl)) ?_ (fun D xs W hD hs hI hd => hdone D xs W hD hs hI.1 hI.2 hd) (fun D c pre W hD hs hI hd => by obtain ⟨rfl, hp, hI⟩ := hI; exact hstop D pre W hD hs hp hI hd)
  rintro l pre x a' W hl _ ⟨hpn, σ1, Z1, hr1⟩ rfl hlen
  have hr2 : Rel (E.nest H nx σ Z w) N [] (R1 x) (Hh pre) nx σ1 Z1 (asg x) W := ⟨hR1 x _ _ _ hr1.rs, hr1.hr, hr1.fr, hr1.lo, hr1.ext, hr1.dom, hr1.own, hr1.chg, hr1.zold, hr1.z0⟩
  refine wpIn_mono (hbody l pre x ((E.nest H nx σ Z w).nest (Hh pre) nx σ1 Z1 W) W hlen hpn rfl rfl ⟨rfl, rfl, rfl, fun id q1 q2 => (hr1.fr id q1 q2).2, fun id q1 q2 => (hr1.fr id q1 q2).1⟩ ⟨σ1, Z1, hr2.nest⟩) ?_
  intro e a'' W' hq
  cases e with
  | normal =>
    obtain ⟨hp, σ3, Z3, h3⟩ := hq
    have h4 := hr2.unnest h3
    exact ⟨nest_keeps hr2 h3 (hmh pre) (Nat.le_refl _), fun _ => h4.chg, hp, σ3, Z3, hr.back h4⟩
  | ret =>
    obtain ⟨hp, σ3, Z3, h3⟩ := hq
    have h4 := hr2.unnest h3
    exact ⟨nest_keeps hr2 h3 (hmh pre) (Nat.le_refl _), rfl, hp, σ3, Z3, hr.back h4⟩
  | exit _ => exact hq.elim
  | goto _ => exact hq.elim
  | panic _ => exact hq.elim
  | outgrown => exact hq.elim

/-! a function whose body holds such a range -/
theorem con_intro_w {n : Nat} {f : FuncId} {fn : Func} {c : Code} {H : Heap} {lo top : Nat} {r : PV} {U : Upd} (args : List PV) (N : Nat) (hf : P.funcs[f]? = some fn) (hb : fn.body = some c) (hN : fn.ntmps = N) (hle : Nat.ble args.length N = true) (hH : H = [])
    (h : ∀ (E : Env) (a : Act), EnvOk E H U lo top → Sat E N (initT 0 args) H lo a E.w0 → c.wpIn (FW none) n P (bodyPostM (FW none) n P fn (ConPost E H r U)) (Act.with_ a []) E.w0) : Con P f args H lo top r U := by
  subst hH
  intro w σ Z vs hh hv hfr
  let E : Env := { w0 := w, Wr := WrOf σ [] U, Z0 := Z, σ0 := σ, lo, top }
  have := h E { tmps := vs.toArray ++ Array.replicate (fn.ntmps - vs.toArray.size) undef, defers := [] } ⟨rfl, rfl, rfl, fun _ _ _ => rfl, hfr⟩
    ⟨σ, Z, ⟨rfl, ?_, fun t e he => ?_⟩, hh, fun id h1 h2 => ⟨hfr id h1 h2, rfl⟩, Nat.le_refl _, Ext.refl σ, fun id h0 _ => h0, fun id o b c h1 h2 => (by cases h1), Chg.refl _ _, fun b hb => .inl hb, fun b hb => hb⟩
  · exact (callsIn_wide (n := n)).1 (callsIn_of_wp_marks (F := FW none) hf hb trivial this)
  · have := Nat.le_of_ble_eq_true hle
    have hl := hv.1
    simp [hN]; omega
  · obtain ⟨h1, _, h3⟩ := look_initT args 0 t e he
    simp only [Nat.sub_zero] at h3
    obtain ⟨u, hu, hvu⟩ := hv.get h3
    have hl := (List.getElem?_eq_some_iff.1 hu).1
    refine ⟨fun _ => ⟨u, ?_, hvu⟩, fun q => by rw [h1] at q; cases q⟩
    rw [Array.getElem?_append_left (by simpa using hl)]
    simpa using hu
def noMp (H : Heap) : Bool := H.all fun x => !isMp x.2
theorem noMp_old {H : Heap} (h : noMp H = true) : mapsOld E H := fun id o hl ho => by
  obtain ⟨_, x, hx, e⟩ := key_of_look hl
  have := List.all_eq_true.1 h x hx
  rw [e, ho] at this; cases this
def colls (Ds : List Nat) : List Deferred := Ds.map fun D => { target := .collected D, args := #[] }
theorem ret_w {fn : Func} {n : Nat} {lo top : Nat} {H0 : Heap} {r : PV} {U : Upd} : ∀ (Ds : List Nat) {w : World}, Sat E N R H nx a w → EnvOk E H0 U lo top → Ds.Nodup → (∀ D ∈ Ds, E.w0.heap.size ≤ D ∧ w.heap[D]? = some (.deferred (some []))) → noMp H = true →
    retP P R H fn.results.toList = some r → (okU H U).map (·.1) = (okU H U).map (·.2) → (idsIn (keysH H0 ++ keysU U) r && idsU (keysH H0 ++ keysU U) U) = true → LeavesInM (FW none) n P fn a.tmps (ConPost E H0 r U) (colls Ds) .returning w
  | [], w, hS, hE, _, _, _, hr, hU, hi => by
    obtain ⟨_, v, h1, h2⟩ := ret_s (e := .ret) hS hE hr hU hi (.inl rfl)
    exact ⟨v, h1, h2⟩
  | D :: Ds, w, hS, hE, hn, hD, hm, hr, hU, hi => by
    obtain ⟨d1, d2⟩ := hD D List.mem_cons_self
    obtain ⟨n1, n2⟩ := List.nodup_cons.1 hn
    refine ⟨by simp, .inl ⟨D, _, rfl, run_takeDeferred d2, ret_w Ds (hS.turn (grownBy_putObj' w D (.deferred none)) (fun r e => by cases e; exact ⟨d1, _, d2, rfl⟩) (noMp_old hm)) hE n2 (fun D' h' => ?_) hm hr hU hi⟩⟩
    obtain ⟨q1, q2⟩ := hD D' (List.mem_cons_of_mem _ h')
    exact ⟨q1, by rw [World.putObj_heap_other (by rintro rfl; exact n1 h')]; exact q2⟩
end
end Go.PX
namespace Go.PX
open Go.RowKit Go.SX
section
variable {P : Program} {E : Env} {l : List Oper} {κ : List (Nat × Bool)} {N : Nat} {is : List Info} {bef : List (List Nat)} {R : List Ent} {h : Nat → Option PO} {nx nx' : Nat} {Q : Exit → Act → World → Prop}

theorem any_sound_w {ro : Option Nat} {n : Nat} {ds : List Deferred} (hnd : l.all (fun o => noDefer o.op) = true) (c : Chk P κ h l.toArray l is bef) (ha : ∀ (j : Nat) (i : Info), is[j]? = some i → At P l.toArray κ N is R h nx j i) (hnx : ∀ (j : Nat) (i : Info), is[j]? = some i → i.out.nx ≤ nx') (hlo : E.lo ≤ nx) (htop : nx' ≤ E.top)
    (hob : ∀ (k : Nat) (i : Info), is[k]? = some i → pv κ i.p = true → AllOb i.out.obs) (heq : ∀ (k : Nat) (i : Info), is[k]? = some i → AllEq i.bs ∧ AllEq i.out.eqs)
    (hQ : ∀ L a w σ Z, (∀ k, k < l.length → L k = true) → PRel E N κ is R h nx' L σ Z a w → Q .normal (Act.with_ a ds) w) :
    ∀ (fuel : Nat) (listed : Array Bool) (a : Act) (w : World) (σ : Nm) (Z : Nat → Prop), listed.size = l.length → listed.toList.count false = fuel → (∀ k o, l[k]? = some o → Lof listed k = true → ∀ j ∈ preds o, Lof listed j = true) → PRel E N κ is R h nx' (Lof listed) σ Z a w →
      wpAnyIn (FW ro) n P .any l.toArray Q fuel listed (Act.with_ a ds) w := by
  have hall : ∀ listed : Array Bool, listed.size = l.length → Region.ready .any l.toArray listed = [] → ∀ k, k < l.length → Lof listed k = true := fun listed hsz hre k => by
    induction k using Nat.strongRecOn with
    | ind k ih =>
      intro hk
      obtain ⟨o, ho⟩ : ∃ o, l[k]? = some o := ⟨l[k], List.getElem?_eq_getElem hk⟩
      cases hL : Lof listed k with
      | true => rfl
      | false =>
        have : k ∈ Region.ready .any l.toArray listed := (ready_iff hsz).2 ⟨o, ho, hL, fun j hj => by
          have := preds_lt c ho j hj
          exact ih j this (by omega)⟩
        rw [hre] at this; cases this
  intro fuel
  induction fuel with
  | zero =>
    intro listed a w σ Z hsz hcnt hcl hr
    have hre : Region.ready .any l.toArray listed = [] := by
      cases hq : Region.ready .any l.toArray listed with
      | nil => rfl
      | cons k ks =>
        obtain ⟨o, ho, hL, _⟩ := (ready_iff hsz).1 (show k ∈ Region.ready .any l.toArray listed by rw [hq]; exact List.mem_cons_self)
        have hk := (List.getElem?_eq_some_iff.1 ho).1
        have : false ∈ listed.toList := by
          rw [List.mem_iff_getElem?]
          refine ⟨k, ?_⟩
          have hlt : k < listed.size := by omega
          unfold Lof at hL
          simp [hlt] at hL ⊢; exact hL
        exact absurd hcnt (by rw [List.count_eq_zero]; exact fun q => q this)
    exact ⟨hre, hQ _ a w σ Z (hall listed hsz hre) hr⟩
  | succ fuel ih =>
    intro listed a w σ Z hsz hcnt hcl hr
    refine ⟨fun hre => hQ _ a w σ Z (hall listed hsz hre) hr, fun k hk => ?_⟩
    obtain ⟨o, ho, hL, hp⟩ := (ready_iff hsz).1 hk
    have hkl := (List.getElem?_eq_some_iff.1 ho).1
    have hks : k < listed.size := by omega
    obtain ⟨i, hi, rfl⟩ : ∃ i, is[k]? = some i ∧ i.o = o := by
      rw [← c.len] at ho
      rw [List.getElem?_map] at ho
      obtain ⟨i, hi, e⟩ := Option.map_eq_some_iff.1 ho
      exact ⟨i, hi, e⟩
    unfold wpOpIn
    have hop : l.toArray[k]? = some i.o := by simpa using ho
    rw [hop]
    simp only
    obtain ⟨e1, e2⟩ := heq k i hi
    have hno : noDefer i.o.op = true := List.all_eq_true.1 hnd _ (List.mem_of_getElem? ho)
    have hst := prel_step (K := fun a' w' => a'.defers = [] ∧ wpAnyIn (FW ro) n P .any l.toArray Q fuel (listed.setIfInBounds k true) (Act.with_ a' ds) w') (Q := fun _ _ _ => False) c ha hnx hlo htop hcl hr hi hL hp (hob k i hi) e1 e2 fun a' w' σ' Z' hr' => ?_
    · rw [show Region.wanted i.o (yielded l.toArray (Act.with_ a ds).tmps) = Region.wanted i.o (yielded l.toArray a.tmps) from rfl]
      cases hw : Region.wanted i.o (yielded l.toArray a.tmps) with
      | true =>
        rw [hw, if_pos rfl] at hst
        rw [if_pos rfl]
        rcases hst with hst | ⟨_, _, _, q⟩
        · exact oper_fw hno hr.defers hst
        · exact q.elim
      | false =>
        rw [hw, if_neg (by simp)] at hst
        rw [if_neg (by simp)]
        refine ⟨fun _ _ => trivial, ?_⟩
        rw [with_put]; exact hst.2
    refine ⟨hr'.defers, ?_⟩
    refine ih (listed.setIfInBounds k true) a' w' σ' Z' (by simpa using hsz) ?_ ?_ (by rw [Lof_set hks]; exact hr')
    · have hg : listed.toList[k]? = some false := by
        unfold Lof at hL
        simp [hks] at hL ⊢; exact hL
      have : (listed.toList.set k true).count false + 1 = listed.toList.count false := by
        have hlt : k < listed.toList.length := by simpa using hks
        have hv : listed.toList[k] = false := by
          have := List.getElem?_eq_some_iff.1 hg
          exact this.2
        rw [List.count_set hlt, hv]
        have hpos : 0 < listed.toList.count false := List.count_pos_iff.2 (by rw [List.mem_iff_getElem?]; exact ⟨k, hg⟩)
        rw [show (false == false) = true from rfl, show (true == false) = false from rfl]
        simp only [if_true, Bool.false_eq_true, if_false]
        omega
      rw [Array.toList_setIfInBounds]; omega
    · intro m om hom hLm j hj
      rw [Lof_set hks] at hLm ⊢
      by_cases hmk : m = k
      · subst hmk
        rw [ho] at hom; injection hom with hom; subst hom
        have := hp j hj
        unfold setL; rw [this]; simp
      · rw [setL_ne hmk] at hLm
        have := hcl m om hom hLm j hj
        unfold setL; rw [this]; simp

theorem any_w {ro : Option Nat} {n : Nat} {dfs : List Deferred} {id : Nat} {H H' : Heap} {T : List Ent} {a : Act} {w : World} {obs : List Ob} (κ : List (Nat × Bool)) (ds : List Dir) (ts hs : List Nat) (hS : Sat E N R H nx a w) (h0 : R.all (fun e => e.p.isEmpty) = true) (hm : P.follows .mixedOrders = true) (h : anyFin P l κ N ds ts hs R H nx = some (T, H', nx', obs)) (he : anyA P l κ N ds R H nx = anyB P l κ N ds R H nx) (htop : nx' ≤ E.top) (hob : AllOb obs)
    (hnd : l.all (fun o => noDefer o.op) = true) (k : ∀ a' w', Sat E N T H' nx' a' w' → Q .normal (Act.with_ a' dfs) w') : (Code.region id l.toArray true).wpIn (FW ro) n P Q (Act.with_ a dfs) w := by
  obtain ⟨σ, Z, hr⟩ := hS
  unfold anyFin at h
  unfold anyA anyB at he
  cases hrun : anyRun P l.toArray κ N l ds R H nx with
  | none => rw [hrun] at h; cases h
  | some x =>
    obtain ⟨is, R', H1, nx1⟩ := x
    rw [hrun] at h he
    simp only at h he
    cases hb : (befOk l (befAcc l []) && confOk P κ (hlook H) is (befAcc l []) && slotOk l.toArray is (befAcc l [])) with
    | false => rw [hb] at h; cases h
    | true =>
      rw [hb] at h
      simp only [cond_true] at h
      simp only [Bool.and_eq_true] at hb
      cases hk : keepR R' ts with
      | none => rw [hk] at h; cases h
      | some T' =>
        rw [hk] at h
        simp only [Option.some.injEq, Prod.mk.injEq] at h
        obtain ⟨rfl, rfl, rfl, rfl⟩ := h
        obtain ⟨a1, a2, a3, a4, a5⟩ := anyRun_at hrun
        have c : Chk P κ (hlook H) l.toArray l is (befAcc l []) := ⟨anyRun_len hrun, hb.1.1, hb.1.2, hb.2⟩
        have hch : Chg (fun _ => False) w { w with drawn := w.drawn + 1 } := ⟨rfl, rfl, rfl, Nat.le_refl _, fun _ _ _ => rfl⟩
        have hR0 := (hr.rs.kap (κ' := κ) h0).mono (Ext.refl σ) (fun _ q => q) hch (fun _ _ q => q)
        refine wpIn_region_any hm ?_
        have hLof : Lof (Array.replicate l.toArray.size false) = fun _ => false := by
          funext k; unfold Lof; exact getD_replicate_false _ _
        have heff : Eff σ Z w [] [] σ Z { w with drawn := w.drawn + 1 } := ⟨Ext.refl σ, fun _ q _ => q, fun _ q => q, fun _ q => .inl q, hch.mono fun _ _ q => q.elim, fun id o q => by simp [ulook] at q, fun id o b c q => by simp [ulook] at q, fun id id' o o' b c c' q => by simp [ulook] at q⟩
        have m0 : MF E (hlook H) (fun id => nx ≤ id ∧ id < E.top) σ Z w := ⟨hr.hr.at_, hr.hr.inj, hr.hr.off, hr.hr.zlt, fun id q => hr.fr id q.1 q.2, hr.ext, hr.dom, hr.own, hr.chg, hr.zold, hr.z0⟩
        have m1 : MF E (hOf is (fun _ => false) (hlook H)) (Fr is (fun _ => false) nx1 E.top) σ Z { w with drawn := w.drawn + 1 } := by
          have := m0.step (F' := Fr is (fun _ => false) nx1 E.top) (fun id o q => by simp [hlook] at q) heff (fun id q => absurd rfl q) (fun id q => ⟨?_, rfl⟩)
          · have e : happF [] (hlook H) = hOf is (fun _ => false) (hlook H) := by
              funext id; rw [hOf_none (fun _ _ _ _ => rfl)]; rfl
            rw [← e]; exact this
          · rcases q with ⟨q1, q2⟩ | ⟨j, i, q1, _, q3, q4⟩
            · exact ⟨Nat.le_trans a3 q1, q2⟩
            · have := (a1 j i q1).nx0; have := a4 j i q1; exact ⟨by omega, by omega⟩
        refine any_sound_w (ds := dfs) hnd (nx' := nx1) c a1 a4 hr.lo htop (flat_ob hob) (flat_eq (allEq_of_map he)) (fun L a' w' σ' Z' hall hp => ?_) l.toArray.size _ a _ σ Z (by simp) (by simp [List.count_replicate]) (fun k o _ q => by rw [hLof] at q; cases q) ⟨hR0.defers, hR0.size, (fun j i _ q => by rw [hLof] at q; cases q), fun t e q _ => hR0.at_ t e q, by rw [hLof]; exact m1⟩
        refine k a' w' ⟨σ', Z', ?_⟩
        have hisl : ∀ j i, is[j]? = some i → L j = true := fun j i hj => hall j (by have := (List.getElem?_eq_some_iff.1 (c.at_ hj)).1; exact this)
        have hfin : hOf is L (hlook H) = hlook H1 := by
          rw [a2]; funext id
          exact hOf_congr (fun j i hj _ => hisl j i hj) rfl
        have m := hp.mem
        rw [hfin] at m
        have hRf : RS σ' Z' w' N κ R' a' := ⟨hp.defers, hp.size, fun t e q => by
          rcases a5 t e q with ⟨j, i, x, q1, q2, q3, rfl⟩ | ⟨q1, q2⟩
          · exact hp.done j i q1 (hisl j i q1) t x q2 q3
          · exact hp.base t e q1 fun j i hj _ => q2 j i hj⟩
        have hrel : Rel E N κ R' H1 nx1 σ' Z' a' w' := ⟨hRf, ⟨m.at_, m.inj, m.off, m.zlt⟩, fun id q1 q2 => m.fr id (.inl ⟨q1, q2⟩), Nat.le_trans hr.lo a3, m.ext, m.dom, m.own, m.chg, m.zold, m.z0⟩
        exact (hrel.rs' (hRf.keep hk)).restr hs
end
theorem loop_w {P : Program} {ro : Option Nat} {n : Nat} {ds : List Deferred} {Q : Exit → Act → World → Prop} {a : Act} {w : World} {c : Code} (I : Nat → Act → World → Prop) (n₀ : Nat) (h₀ : I n₀ a w)
    (round : ∀ m a w, I m a w → c.wpIn (FW ro) n P (Exit.then (fun a' w' => ∃ n', n' < m ∧ ∃ a0, a' = Act.with_ a0 ds ∧ I n' a0 w') Q) (Act.with_ a ds) w) : (Code.loop c).wpIn (FW ro) n P Q (Act.with_ a ds) w :=
  wpIn_loop_ghost (fun m a w => ∃ a0, a = Act.with_ a0 ds ∧ I m a0 w) n₀ ⟨a, rfl, h₀⟩ fun m a w ⟨a0, e, h⟩ => e ▸ round m a0 w h

theorem asg_region {P : Program} {ro : Option Nat} {n id s d ty : Nat} {pos : String} {tm : Array Value} {v : Value} (ht : tm[s]? = some v) {W : World} {K : Act → World → Prop} (hK : K ⟨tm.setIfInBounds d v, []⟩ W) :
    (Code.region id #[{ dst := some d, op := .assign (.tmp s), type := ty, pos := pos, after := #[], guard := none }] false).wpIn (FW ro) n P (Exit.then K (fun _ _ _ => False)) ⟨tm, []⟩ W := by
  refine wpIn_region_lit (l := [_]) ?_
  simp only [wpListIn]
  rw [show (⟨tm, []⟩ : Act) = Act.with_ ⟨tm, []⟩ [] from rfl]
  refine oper_fw rfl rfl ?_
  unfold Oper.wp
  have e : Act.eval ⟨tm, []⟩ (.tmp s) = v := by simp [Act.eval, ht]
  simp only [execOp, e]
  exact ⟨rfl, hK⟩
theorem rs_asg {σ : Nm} {Z : Nat → Prop} {w : World} {N : Nat} {R : List Ent} {a : Act} {p d : Nat} {v : Value} {x : PV} (h : RS σ Z w N [] R a) (hd : d < N) (hn : R.all (fun e => !Nat.beq e.t p && !Nat.beq e.t d) = true) (hv : VR σ Z w v x) :
    RS σ Z w N [] (⟨d, [], x⟩ :: R) ⟨(a.tmps.setIfInBounds p v).setIfInBounds d v, []⟩ := by
  have hs := h.size
  refine ⟨rfl, by simpa using hs, fun t e he => ?_⟩
  simp only [look] at he
  cases hb : Nat.beq d t with
  | true =>
    rw [hb] at he; simp only [cond_true, Option.some.injEq] at he; subst he
    obtain rfl := Nat.eq_of_beq_eq_true hb
    exact ⟨fun _ => ⟨v, by simp [hs, hd], hv⟩, fun q => by cases q⟩
  | false =>
    rw [hb] at he; simp only [cond_false] at he
    have hm : ∀ (R : List Ent), R.all (fun e => !Nat.beq e.t p && !Nat.beq e.t d) = true → look R t = some e → Nat.beq t p = false ∧ Nat.beq t d = false := fun R => by
      induction R with
      | nil => intro _ q; cases q
      | cons y R ih =>
        intro q1 q2
        simp only [List.all_cons, Bool.and_eq_true, Bool.not_eq_true'] at q1
        simp only [look] at q2
        cases hy : Nat.beq y.t t with
        | true => rw [← Nat.eq_of_beq_eq_true hy]; exact q1.1
        | false => rw [hy] at q2; exact ih q1.2 q2
    obtain ⟨n1, n2⟩ := hm R hn he
    have n1 : p ≠ t := by rintro rfl; simp at n1
    have n2 : d ≠ t := by rintro rfl; simp at n2
    have e1 : ((a.tmps.setIfInBounds p v).setIfInBounds d v)[t]? = a.tmps[t]? := by rw [Array.getElem?_setIfInBounds_ne n2, Array.getElem?_setIfInBounds_ne n1]
    obtain ⟨q1, q2⟩ := h.at_ t e he
    refine ⟨fun q => ?_, fun q => ?_⟩
    · obtain ⟨u, hu, hv'⟩ := q1 q; exact ⟨u, e1.trans hu, hv'⟩
    · have := q2 q; simp only [e1]; exact this
theorem Sat.with0 {E : Env} {N : Nat} {R : List Ent} {H : Heap} {nx : Nat} {a : Act} {w : World} (h : Sat E N R H nx a w) : Sat E N R H nx (Act.with_ a []) w := by
  obtain ⟨σ, Z, q⟩ := h
  exact ⟨σ, Z, ⟨⟨rfl, q.rs.size, q.rs.at_⟩, q.hr, q.fr, q.lo, q.ext, q.dom, q.own, q.chg, q.zold, q.z0⟩⟩
def shape (H : Heap) : List (Nat × Bool) := H.map fun x => (x.1, isMp x.2)
theorem shape_mp : ∀ {H H' : Heap}, shape H = shape H' → ∀ {id : Nat} {o : PO}, hlook H id = some o → isMp o = true → ∃ o0, hlook H' id = some o0 ∧ isMp o0 = true
  | [], _, _, id, o, h, _ => by cases h
  | x :: H, [], e, id, o, h, _ => by cases e
  | x :: H, y :: H', e, id, o, h, ho => by
    simp only [shape, List.map_cons, List.cons.injEq, Prod.mk.injEq] at e
    obtain ⟨⟨e1, e2⟩, e3⟩ := e
    simp only [hlook] at h ⊢
    rw [← e1]
    cases hb : Nat.beq x.1 id with
    | true =>
      rw [hb] at h; simp only [cond_true, Option.some.injEq] at h ⊢
      subst h
      exact ⟨_, rfl, e2 ▸ ho⟩
    | false => rw [hb] at h; exact shape_mp (H := H) e3 h ho
section
variable {P : Program} {E : Env} {N : Nat} {R T : List Ent} {H H0 H' : Heap} {U : Upd} {lo top nx : Nat} {a : Act} {w : World} {Q : Exit → Act → World → Prop} {l : List Oper} {id : Nat} {rest : Code} {ro : Option Nat} {n : Nat} {dfs : List Deferred}
theorem Gw (nw : List Ent) (nh : Heap) (nx' : Nat) (obs : List Ob) (κ : List (Nat × Bool)) (dr : List Dir) (ts hs : List Nat) (hS : Sat E N R H nx a w) (hE : EnvOk E H0 U lo top) (hob : AllOb obs) (k : ∀ a w, Sat E N T H' nx' a w → rest.wpIn (FW ro) n P Q (Act.with_ a dfs) w)
    (hT : tabD R nw ts = T := by (simp only [Go.PX.tabD, Go.PX.lookV, Nat.reduceEqDiff, ↓reduceIte]; rfl)) (hH : heapD H nh hs = H' := by (simp only [Go.PX.heapD, Go.PX.lookO, Nat.reduceEqDiff, ↓reduceIte]; rfl))
    (h0 : R.all (fun e => e.p.isEmpty) = true := by kernel_rfl) (h : regRun P l κ N dr ts hs R H nx = some (T, H', nx', obs) := by kernel_rfl) (he : regA P l κ N dr R H nx = regB P l κ N dr R H nx := by kernel_rfl) (ht : Nat.ble nx' top = true := by kernel_rfl) (hnd : l.all (fun o => noDefer o.op) = true := by kernel_rfl) : (Code.seq (Code.region id l.toArray false) rest).wpIn (FW ro) n P Q (Act.with_ a dfs) w :=
  wpIn_seq_k fun _ hK => region_w κ dr ts hs hS h0 h he hnd (hE.le (Nat.le_of_ble_eq_true ht)) hob fun a w q => hK _ w (k a w q)
theorem G0w (nw : List Ent) (nh : Heap) (nx' : Nat) (obs : List Ob) (κ : List (Nat × Bool)) (dr : List Dir) (ts hs : List Nat) (hS : Sat E N R H nx a w) (hE : EnvOk E H0 U lo top) (hob : AllOb obs) (k : ∀ a w, Sat E N T H' nx' a w → Q .normal (Act.with_ a dfs) w)
    (hT : tabD R nw ts = T := by (simp only [Go.PX.tabD, Go.PX.lookV, Nat.reduceEqDiff, ↓reduceIte]; rfl)) (hH : heapD H nh hs = H' := by (simp only [Go.PX.heapD, Go.PX.lookO, Nat.reduceEqDiff, ↓reduceIte]; rfl))
    (h0 : R.all (fun e => e.p.isEmpty) = true := by kernel_rfl) (h : regRun P l κ N dr ts hs R H nx = some (T, H', nx', obs) := by kernel_rfl) (he : regA P l κ N dr R H nx = regB P l κ N dr R H nx := by kernel_rfl) (ht : Nat.ble nx' top = true := by kernel_rfl) (hnd : l.all (fun o => noDefer o.op) = true := by kernel_rfl) : (Code.region id l.toArray false).wpIn (FW ro) n P Q (Act.with_ a dfs) w :=
  region_w κ dr ts hs hS h0 h he hnd (hE.le (Nat.le_of_ble_eq_true ht)) hob k
theorem Dw (nw : List Ent) (nh : Heap) (nx' : Nat) (obs : List Ob) (κ : List (Nat × Bool)) (dr : List Dir) (ts hs : List Nat) (hS : Sat E N R H nx a w) (hm : P.follows .mixedOrders = true) (hE : EnvOk E H0 U lo top) (hob : AllOb obs) (k : ∀ a w, Sat E N T H' nx' a w → rest.wpIn (FW ro) n P Q (Act.with_ a dfs) w)
    (hT : tabD R nw ts = T := by (simp only [Go.PX.tabD, Go.PX.lookV, Nat.reduceEqDiff, ↓reduceIte]; rfl)) (hH : heapD H nh hs = H' := by (simp only [Go.PX.heapD, Go.PX.lookO, Nat.reduceEqDiff, ↓reduceIte]; rfl))
    (h0 : R.all (fun e => e.p.isEmpty) = true := by kernel_rfl) (h : anyFin P l κ N dr ts hs R H nx = some (T, H', nx', obs) := by kernel_rfl) (he : anyA P l κ N dr R H nx = anyB P l κ N dr R H nx := by kernel_rfl) (ht : Nat.ble nx' top = true := by kernel_rfl) (hnd : l.all (fun o => noDefer o.op) = true := by kernel_rfl) : (Code.seq (Code.region id l.toArray true) rest).wpIn (FW ro) n P Q (Act.with_ a dfs) w :=
  wpIn_seq_k fun _ hK => any_w κ dr ts hs hS h0 hm h he (hE.le (Nat.le_of_ble_eq_true ht)) hob hnd fun a w q => hK _ w (k a w q)
theorem D0w (nw : List Ent) (nh : Heap) (nx' : Nat) (obs : List Ob) (κ : List (Nat × Bool)) (dr : List Dir) (ts hs : List Nat) (hS : Sat E N R H nx a w) (hm : P.follows .mixedOrders = true) (hE : EnvOk E H0 U lo top) (hob : AllOb obs) (k : ∀ a w, Sat E N T H' nx' a w → Q .normal (Act.with_ a dfs) w)
    (hT : tabD R nw ts = T := by (simp only [Go.PX.tabD, Go.PX.lookV, Nat.reduceEqDiff, ↓reduceIte]; rfl)) (hH : heapD H nh hs = H' := by (simp only [Go.PX.heapD, Go.PX.lookO, Nat.reduceEqDiff, ↓reduceIte]; rfl))
    (h0 : R.all (fun e => e.p.isEmpty) = true := by kernel_rfl) (h : anyFin P l κ N dr ts hs R H nx = some (T, H', nx', obs) := by kernel_rfl) (he : anyA P l κ N dr R H nx = anyB P l κ N dr R H nx := by kernel_rfl) (ht : Nat.ble nx' top = true := by kernel_rfl) (hnd : l.all (fun o => noDefer o.op) = true := by kernel_rfl) : (Code.region id l.toArray true).wpIn (FW ro) n P Q (Act.with_ a dfs) w :=
  any_w κ dr ts hs hS h0 hm h he (hE.le (Nat.le_of_ble_eq_true ht)) hob hnd k
end
end Go.PX
namespace Go.PX
open Go.RowKit Go.SX
section
variable {P : Program} {E : Env} {N : Nat} {R : List Ent} {H : Heap} {nx : Nat} {σ : Nm} {Z : Nat → Prop} {a : Act} {w : World}
/-- a box that lies in the world and that no name speaks of gets a name -/
theorem Rel.newbox (h : Rel E N [] R H nx σ Z a w) (htop : nx < E.top) {b : Nat} {ty : TypeId} {C : List Value} {xs : List PV} (hb : w.heap[b]? = some (.cells C.toArray ty (0, 0))) (hz : ¬ Z b) (hs : ∀ id o c, hlook H id = some o → σ id ≠ some (b, c)) (hE : E.w0.heap.size ≤ b) (ho : ones xs = true) (hv : VRs σ Z w C xs) :
    Rel E N [] R ((nx, .box ty xs) :: H) (nx + 1) (upd σ nx b 0) Z a w := by
  obtain ⟨hn, hnh⟩ := h.fr nx (Nat.le_refl _) htop
  have he := upd_ext (b := b) (c := 0) hn
  have keep : ∀ id o, hlook ((nx, .box ty xs) :: H) id = some o → (id = nx ∧ o = .box ty xs) ∨ (id ≠ nx ∧ hlook H id = some o) := fun id o q => by
    simp only [hlook] at q
    cases hb : Nat.beq nx id with
    | true => rw [hb] at q; simp only [cond_true, Option.some.injEq] at q; exact .inl ⟨(Nat.eq_of_beq_eq_true hb).symm, q.symm⟩
    | false => rw [hb] at q; exact .inr ⟨by rintro rfl; simp at hb, q⟩
  have same : ∀ id, id ≠ nx → upd σ nx b 0 id = σ id := fun id q => by unfold upd; rw [if_neg q]
  have self : ∀ {b' c : Nat}, upd σ nx b 0 nx = some (b', c) → b' = b := fun q => by rw [upd_self] at q; injection q with q; injection q with q1 q2; exact q1.symm
  refine ⟨⟨h.rs.defers, h.rs.size, fun t e q => (h.rs.at_ t e q).mono he (fun _ z => z) (Chg.refl (fun _ => False) w) fun _ _ q => q⟩, ⟨fun id o q => ?_, fun id id' o o' b1 c1 c2 q1 q2 q3 q4 => ?_, fun id o b1 c1 q1 q2 => ?_, h.hr.zlt⟩, fun id q1 q2 => ?_, Nat.le_succ_of_le h.lo, h.ext.trans he, fun id q1 q2 => ?_, fun id o b1 c1 q1 q2 => ?_, h.chg, h.zold, h.z0⟩
  · rcases keep id o q with ⟨rfl, rfl⟩ | ⟨q1, q2⟩
    · exact ⟨b, 0, C, upd_self _ _ _ _, hb, ho, hv.mono he (fun _ z => z) (Chg.refl (fun _ => False) w) fun _ _ q => q⟩
    · exact OR.mono he (fun _ z => z) (Chg.refl (fun _ => False) w) (fun _ _ q => q) (same id q1) (fun _ _ _ q => q) (h.hr.at_ id o q2)
  · rcases keep id o q1 with ⟨rfl, rfl⟩ | ⟨r1, r2⟩
    · rcases keep id' o' q2 with ⟨rfl, rfl⟩ | ⟨s1, s2⟩
      · rfl
      · obtain rfl := self q3
        rw [same _ s1] at q4
        exact (hs id' o' _ s2 q4).elim
    · rw [same _ r1] at q3
      rcases keep id' o' q2 with ⟨rfl, rfl⟩ | ⟨s1, s2⟩
      · obtain rfl := self q4
        exact (hs id o _ r2 q3).elim
      · rw [same _ s1] at q4
        exact h.hr.inj id id' o o' b1 c1 c2 r2 s2 q3 q4
  · rcases keep id o q1 with ⟨rfl, rfl⟩ | ⟨r1, r2⟩
    · obtain rfl := self q2; exact hz
    · rw [same _ r1] at q2; exact h.hr.off id o b1 c1 r2 q2
  · have hne : id ≠ nx := by omega
    obtain ⟨r1, r2⟩ := h.fr id (by omega) q2
    refine ⟨(same id hne).trans r1, ?_⟩
    simp only [hlook]
    cases hq : Nat.beq nx id with
    | true => exact absurd (Nat.eq_of_beq_eq_true hq).symm hne
    | false => exact r2
  · have hne : id ≠ nx := by rintro rfl; exact q2 ⟨h.lo, htop⟩
    rw [same id hne]; exact h.dom id q1 q2
  · rcases keep id o q1 with ⟨rfl, rfl⟩ | ⟨r1, r2⟩
    · obtain rfl := self q2; exact .inl hE
    · rw [same _ r1] at q2; exact h.own id o b1 c1 r2 q2
theorem rs_asg2 {p d : Nat} {v u : Value} {x : PV} (h : RS σ Z w N [] R a) (hd : d < N) (hn : R.all (fun e => !Nat.beq e.t p && !Nat.beq e.t d) = true) (hv : VR σ Z w u x) :
    RS σ Z w N [] (⟨d, [], x⟩ :: R) ⟨(a.tmps.setIfInBounds p v).setIfInBounds d u, []⟩ := by
  have hs := h.size
  refine ⟨rfl, by simpa using hs, fun t e he => ?_⟩
  simp only [look] at he
  cases hb : Nat.beq d t with
  | true =>
    rw [hb] at he; simp only [cond_true, Option.some.injEq] at he; subst he
    obtain rfl := Nat.eq_of_beq_eq_true hb
    exact ⟨fun _ => ⟨u, by simp [hs, hd], hv⟩, fun q => by cases q⟩
  | false =>
    rw [hb] at he; simp only [cond_false] at he
    have hm : ∀ (R : List Ent), R.all (fun e => !Nat.beq e.t p && !Nat.beq e.t d) = true → look R t = some e → Nat.beq t p = false ∧ Nat.beq t d = false := fun R => by
      induction R with
      | nil => intro _ q; cases q
      | cons y R ih =>
        intro q1 q2
        simp only [List.all_cons, Bool.and_eq_true, Bool.not_eq_true'] at q1
        simp only [look] at q2
        cases hy : Nat.beq y.t t with
        | true => rw [← Nat.eq_of_beq_eq_true hy]; exact q1.1
        | false => rw [hy] at q2; exact ih q1.2 q2
    obtain ⟨n1, n2⟩ := hm R hn he
    have n1 : p ≠ t := by rintro rfl; simp at n1
    have n2 : d ≠ t := by rintro rfl; simp at n2
    have e1 : ((a.tmps.setIfInBounds p v).setIfInBounds d u)[t]? = a.tmps[t]? := by rw [Array.getElem?_setIfInBounds_ne n2, Array.getElem?_setIfInBounds_ne n1]
    obtain ⟨q1, q2⟩ := h.at_ t e he
    refine ⟨fun q => ?_, fun q => ?_⟩
    · obtain ⟨u', hu, hv'⟩ := q1 q; exact ⟨u', e1.trans hu, hv'⟩
    · have := q2 q; simp only [e1]; exact this
theorem grown_alloc (W : World) (o : Obj) : W.grownBy (W.alloc o) none := by
  have hb1 : Below W.heap.size W (W.alloc o) := (Below.refl _ _).alloc (Nat.le_refl _) _
  exact ⟨hb1.os, hb1.tape, hb1.output, hb1.size, fun i hi _ => hb1.block i hi⟩
/-- a range over a function of one round; the assign part boxes the element -/
theorem range_pxb {n : Nat} {ds : List Deferred} (hr : Rel E N [] R H nx σ Z a w) (htop : nx < E.top) {g : Operand} {p d : Tmp} {assign body : Code} {Q : Exit → Act → World → Prop} (h1 : 1 ≤ n)
    {gf : Nat} {lb : Array Value} (hg : a.eval g = .func (.func gf) #[] lb) (eg : ∀ args w, (callFunc gf args).run P w = .ok (.enter gf args) w)
    {v : Value} {ty : TypeId} {C : List Value} {xs : List PV} {S Sp : List Unit → Prop}
    (hseq : SeqStopsK (FW none) (n - 1) P gf lb (fun _ : Unit => #[v]) (fun A B => Chg (E.nest H nx σ Z w).Wr w A → Chg (E.nest H nx σ Z w).Wr w B) S Sp 1 w)
    (hS : ∀ l, S l → l = [()]) (ho : ones xs = true) (hv : ∀ σ Z W, VRs σ Z W C xs)
    (hm : mapsOld (E.nest H nx σ Z w) H) (H1 Hx : Heap) (nxf : Nat) (pn px : Prop) (hm1 : mapsOld (E.nest H nx σ Z w) H1) (hmx : mapsOld (E.nest H nx σ Z w) Hx)
    (hasg : ∀ (l : Nat) (W : World) (K : Act → World → Prop), K ⟨(a.tmps.setIfInBounds p v).setIfInBounds d (.pointer (some ⟨W.heap.size, 0, none⟩)), []⟩ (W.alloc (.cells C.toArray ty (0, 0))) → assign.wpIn (FW (some l)) (n - 1 - 1) P (Exit.then K (fun _ _ _ => False)) { tmps := a.tmps.setIfInBounds p v, defers := [] } W)
    (hd : d < N) (hR : R.all (fun e => !Nat.beq e.t p && !Nat.beq e.t d) = true)
    (hbody : ∀ (l : Nat) (E3 : Env) (W : World) (a' : Act), E3.w0 = W → E3.top = E.top → EnvOk E3 ((nx, .box ty xs) :: H) (allU ((nx, .box ty xs) :: H)) (nx + 1) E.top → Sat E3 N (⟨d, [], .ptr nx 0⟩ :: R) ((nx, .box ty xs) :: H) (nx + 1) a' W → body.wpIn (FW (some l)) (n - 1 - 1) P (rngPost E3 N nxf H1 Hx pn px) a' W)
    (hdone : ∀ (D : Nat) (W : World), w.heap.size ≤ D → pn → Sat (E.nest H nx σ Z w) N R H1 nxf a W → W.heap[D]? = some (.deferred (some [])) → Q .normal (Act.with_ a ({ target := .collected D, args := #[] } :: ds)) W)
    (hstop : ∀ (D : Nat) (W : World), w.heap.size ≤ D → px → Sat (E.nest H nx σ Z w) N R Hx nxf a W → W.heap[D]? = some (.deferred (some [])) → Code.ret.wpIn (FW none) n P Q (Act.with_ a ({ target := .collected D, args := #[] } :: ds)) W) :
    (Code.rangeFunc g #[p] assign body).wpIn (FW none) n P Q (Act.with_ a ds) w := by
  have hn := hr.nest
  refine wpIn_rangeFunc_ownH (F := FW none) rfl h1 (gf := gf) (lb := lb) (by rw [with_eval]; exact hg) trivial eg hseq (fun h k q => k (h q))
    (fun W l o o' hl ho hc _ q => ⟨q.os, q.tape, q.output, by simpa using q.size, fun b hb hnb => by rw [World.putObj_heap_other (by omega)]; exact q.block b hb hnb⟩) (Below.refl _ _) (fun _ => rfl)
    (fun pre W => (pre = [] ∧ Rel (E.nest H nx σ Z w) N [] R H nx σ Z a W) ∨ (pre = [()] ∧ pn ∧ Sat (E.nest H nx σ Z w) N R H1 nxf a W)) (fun c _ W => c = .ret ∧ px ∧ Sat (E.nest H nx σ Z w) N R Hx nxf a W)
    (fun s W W' row hs hg' hr' => hs.imp (fun q => ⟨q.1, q.2.turn hg' hr' hm⟩) fun q => ⟨q.1, q.2.1, q.2.2.turn hg' hr' hm1⟩) (fun c s W W' row hs hg' hr' => ⟨hs.1, hs.2.1, hs.2.2.turn hg' hr' hmx⟩)
    (.inl ⟨rfl, hn⟩) (fun _ a' W => ∃ b, w.heap.size ≤ b ∧ W.heap[b]? = some (.cells C.toArray ty (0, 0)) ∧ a' = ⟨(a.tmps.setIfInBounds p v).setIfInBounds d (.pointer (some ⟨b, 0, none⟩)), []⟩)
    (fun x a' _ W W' row h hg' hr' => by obtain ⟨b, b1, b2, b3⟩ := h; exact ⟨b, b1, turn_heap hg' (fun r e => (hr' r e).2) b2, b3⟩)
    (fun l pre x W K hI hK => ?_) ?_ (fun D xs W hD hs hI hd => ?_) (fun D c pre W hD hs hI hd => by obtain ⟨rfl, hp, hI⟩ := hI; exact hstop D W hD hp hI hd)
  · have hga := grown_alloc W (.cells C.toArray ty (0, 0))
    have hsz : w.heap.size ≤ W.heap.size := by
      rcases hI with ⟨_, q⟩ | ⟨_, _, _, _, q⟩
      · exact q.chg.size
      · exact q.chg.size
    have hf := hasg l W K (hK _ _ ⟨hga.size, fun j o _ hk _ => (hga.block j (Array.getElem?_eq_some_iff.1 hk).1 (by simp)).trans hk⟩ (fun q => (q.trans (chg_alloc (fun _ => False) W _)).mono fun _ _ h => h.elim (fun h => h) fun h => h.elim)
      (hI.imp (fun q => ⟨q.1, q.2.turn hga (fun r e => by cases e) hm⟩) fun q => ⟨q.1, q.2.1, q.2.2.turn hga (fun r e => by cases e) hm1⟩) ⟨W.heap.size, hsz, World.alloc_heap_new W _, rfl⟩)
    have hf2 : Code.wpIn ((FW none).inRound l) (n - 1 - 1) P assign (Exit.then K fun _ _ _ => False) { tmps := (Act.with_ a ds).tmps.setIfInBounds p v, defers := [] } W := hf
    simpa using hf2
  · rintro l pre x a' W hl _ hI ⟨b, hb1, hb2, rfl⟩ hlen
    obtain rfl : pre = [] := List.length_eq_zero_iff.1 (by omega)
    rcases hI with ⟨_, hRw⟩ | ⟨e, _⟩
    · have hnew := hRw.newbox htop (xs := xs) hb2 (fun q => by have := hr.hr.zlt b q; omega) (fun id o c q1 q2 => by have := (hr.hr.at_ id o q1).lt q2; omega) hb1 ho (hv _ _ _)
      have hrel : Rel (E.nest H nx σ Z w) N [] (⟨d, [], .ptr nx 0⟩ :: R) ((nx, .box ty xs) :: H) (nx + 1) (upd σ nx b 0) Z ⟨(a.tmps.setIfInBounds p v).setIfInBounds d (.pointer (some ⟨b, 0, none⟩)), []⟩ W :=
        ⟨rs_asg2 hnew.rs hd hR (.ptr nx 0 b 0 (upd_self _ _ _ _)), hnew.hr, hnew.fr, hnew.lo, hnew.ext, hnew.dom, hnew.own, hnew.chg, hnew.zold, hnew.z0⟩
      have hmb : mapsOld (E.nest H nx σ Z w) ((nx, .box ty xs) :: H) := fun id o q1 q2 => by
        simp only [hlook] at q1
        cases hb : Nat.beq nx id with
        | true => rw [hb] at q1; simp only [cond_true, Option.some.injEq] at q1; subst q1; cases q2
        | false => rw [hb] at q1; exact hm id o q1 q2
      refine wpIn_mono (hbody l ((E.nest H nx σ Z w).nest ((nx, .box ty xs) :: H) (nx + 1) (upd σ nx b 0) Z W) W _ rfl rfl ⟨rfl, rfl, rfl, fun id q1 q2 => (hrel.fr id q1 q2).2, fun id q1 q2 => (hrel.fr id q1 q2).1⟩ ⟨_, _, hrel.nest⟩) ?_
      intro e a'' W' hq
      cases e with
      | normal =>
        obtain ⟨hp, σ3, Z3, h3⟩ := hq
        have h4 := hrel.unnest h3
        exact ⟨nest_keeps hrel h3 hmb (Nat.le_refl _), fun _ => h4.chg, .inr ⟨rfl, hp, σ3, Z3, hr.back h4⟩⟩
      | ret =>
        obtain ⟨hp, σ3, Z3, h3⟩ := hq
        have h4 := hrel.unnest h3
        exact ⟨nest_keeps hrel h3 hmb (Nat.le_refl _), rfl, hp, σ3, Z3, hr.back h4⟩
      | exit _ => exact hq.elim
      | goto _ => exact hq.elim
      | panic _ => exact hq.elim
      | outgrown => exact hq.elim
    · cases e
  · obtain rfl := hS xs hs
    rcases hI with ⟨e, _⟩ | ⟨_, hp, hI⟩
    · cases e
    · exact hdone D W hD hp hI hd
end
end Go.PX
