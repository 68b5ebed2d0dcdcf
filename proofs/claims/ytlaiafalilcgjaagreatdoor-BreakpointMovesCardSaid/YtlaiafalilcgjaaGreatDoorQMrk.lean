/- Proved: the iterator of position.markRows over a Debug of one function of one marked row gives that row to every loop body that keeps the Debug. -/
import Derived.Test.YtlaiafalilcgjaaGreatDoorProg
import Derived.Test.YtlaiafalilcgjaaGreatDoorQL6
import Derived.Test.YtlaiafalilcgjaaGreatDoorQL4
import Derived.LoopIn
import Derived.WalkKit
import Derived.TacticsInMore
import Derived.Shelf.Abstract
set_option linter.unusedVariables false
set_option linter.unusedSimpArgs false
namespace Go.Proofs.YtlaiafalilcgjaaGreatDoor
open Go.RowKit Go.Shelf
attribute [local go_sem] Oper.semAt_some

def mrkRow : Value := .agg #[.int .i64 0, .int .i64 0, .int .i64 0, .bool true]
def mrkCells : List PX.PV := [.sc (.int .i64 0), .sc (.int .i64 0), .sc (.int .i64 0), .sc (.bool true)]
theorem mrk_cells (σ : PX.Nm) (Z : Nat → Prop) (W : World) : PX.VRs σ Z W [.int .i64 0, .int .i64 0, .int .i64 0, .bool true] mrkCells :=
  .cons (.sc _ rfl) (.cons (.sc _ rfl) (.cons (.sc _ rfl) (.cons (.sc _ rfl) .nil)))
set_option maxRecDepth 100000 in
set_option maxHeartbeats 2000000 in
theorem mrk_in (n : Nat) (hn : 1 ≤ n) (l bx bp op cp br ob cr : Nat) (s0 : ByteArray) (i1 i2 i3 : Int) (a4 a5 a7 a8 a9 a10 : Option Addr) (m4 m5 m7 m8 m9 m10 k4 k5 k7 k8 k9 k10 : Nat) (Q : World → Prop) (hQg : ∀ A B, A.grownBy B none → Q A → Q B)
    (hQ : ∀ W, Q W → W.cell? ⟨bx, 4, none⟩ = some (.slice (some ⟨bp, op, none⟩) 1 cp) ∧
      (W.cell? ⟨bp, op, none⟩ = some (.string s0) ∧ W.cell? ⟨bp, op + 1, none⟩ = some (.int .i64 i1) ∧ W.cell? ⟨bp, op + 2, none⟩ = some (.int .i64 i2) ∧ W.cell? ⟨bp, op + 3, none⟩ = some (.int .i64 i3) ∧ W.cell? ⟨bp, op + 4, none⟩ = some (.slice a4 m4 k4) ∧ W.cell? ⟨bp, op + 5, none⟩ = some (.slice a5 m5 k5) ∧ W.cell? ⟨bp, op + 6, none⟩ = some (.slice (some ⟨br, ob, none⟩) 1 cr) ∧ W.cell? ⟨bp, op + 7, none⟩ = some (.slice a7 m7 k7) ∧ W.cell? ⟨bp, op + 8, none⟩ = some (.slice a8 m8 k8) ∧ W.cell? ⟨bp, op + 9, none⟩ = some (.slice a9 m9 k9) ∧ W.cell? ⟨bp, op + 10, none⟩ = some (.slice a10 m10 k10)) ∧
      W.cell? ⟨br, ob, none⟩ = some (.int .i64 0) ∧ W.cell? ⟨br, ob + 1, none⟩ = some (.int .i64 0) ∧ W.cell? ⟨br, ob + 2, none⟩ = some (.int .i64 0) ∧ W.cell? ⟨br, ob + 3, none⟩ = some (.bool true))
    (J Jx : World → Prop) (J1 : World → Prop) (hJ : ∀ A B, A.grownBy B none → J A → J B) (hJ1 : ∀ A B, A.grownBy B none → J1 A → J1 B)
    (hY : ∀ W, J W → YieldAt Fence.wide (n - 1) Tryz.prog l #[mrkRow] W fun e W' => (e = .returned (.bool true) ∧ J1 W' ∧ (Q W → Q W')) ∨ (e = .returned (.bool false) ∧ Jx W'))
    (W : World) (hq : Q W) (h0 : J W) :
    CallsIn Fence.wide n Tryz.prog 174 #[.func (.yield l) #[] #[], .pointer (some ⟨bx, 0, none⟩)] W fun e W' => (∃ v, e = .returned v) ∧ (J1 W' ∨ Jx W') := by
  obtain ⟨hc, ⟨c0, c1, c2, c3, c4, c5, c6, c7, c8, c9, c10⟩, r0, r1, r2, r3⟩ := hQ W hq
  refine callsIn_of_wp Tryz.func174 rfl trivial ?_ rfl
  simp only [Tryz.ntmps174, List.size_toArray, List.length_cons, List.length_nil, Nat.reduceAdd, Nat.reduceSub, Array.replicate_succ, Array.replicate_zero, List.push_toArray, List.append_toArray, List.nil_append, List.cons_append]
  gi_wp2
  gi_loopw [10] (fun i wr => (i = .int .i64 0 ∧ J wr ∧ Q wr) ∨ (i = .int .i64 1 ∧ J1 wr))
    (fun i _ => 1 - (intOf i).toNat)
  case atStart => exact .inl ⟨rfl, h0, hq⟩
  case round =>
    clear hc c0 c1 c2 c3 c4 c5 c6 c7 c8 c9 c10 r0 r1 r2 r3 hq h0
    rcases hrel with ⟨rfl, hJs, hqs⟩ | ⟨rfl, hJs⟩
    · obtain ⟨hc, ⟨c0, c1, c2, c3, c4, c5, c6, c7, c8, c9, c10⟩, r0, r1, r2, r3⟩ := hQ wr hqs
      gi_wp2
      have hb1 : Below wr.heap.size wr (wr.alloc (.cells #[.string s0, .int .i64 i1, .int .i64 i2, .int .i64 i3, .slice a4 m4 k4, .slice a5 m5 k5, .slice (some ⟨br, ob, none⟩) 1 cr, .slice a7 m7 k7, .slice a8 m8 k8, .slice a9 m9 k9, .slice a10 m10 k10] 238)) := (Below.refl _ _).alloc (Nat.le_refl _) _
      have hg1 : wr.grownBy _ none := ⟨hb1.os, hb1.tape, hb1.output, hb1.size, fun i hi _ => hb1.block i hi⟩
      have hJ2 := hJ _ _ hg1 hJs
      have hQ2 := hQg _ _ hg1 hqs
      clear hb1 hg1 hJs hqs hc c0 c1 c2 c3 c4 c5 c6 c7 c8 c9 c10 r0 r1 r2 r3
      generalize hW2 : wr.alloc (.cells #[.string s0, .int .i64 i1, .int .i64 i2, .int .i64 i3, .slice a4 m4 k4, .slice a5 m5 k5, .slice (some ⟨br, ob, none⟩) 1 cr, .slice a7 m7 k7, .slice a8 m8 k8, .slice a9 m9 k9, .slice a10 m10 k10] 238) = W2 at hJ2 hQ2 ⊢
      gi_loopw [17] (fun i wr => (i = .int .i64 0 ∧ J wr ∧ Q wr) ∨ (i = .int .i64 1 ∧ J1 wr))
        (fun i _ => 1 - (intOf i).toNat)
      case atStart => exact .inl ⟨rfl, hJ2, hQ2⟩
      case round =>
        clear hJ2 hQ2
        rcases hrel with ⟨rfl, hJ3, hQ3⟩ | ⟨rfl, hJ3⟩
        · obtain ⟨hc, ⟨c0, c1, c2, c3, c4, c5, c6, c7, c8, c9, c10⟩, r0, r1, r2, r3⟩ := hQ _ hQ3
          have hb1 : Below wr.heap.size wr (wr.alloc (.cells #[.int .i64 0, .int .i64 0, .int .i64 0, .bool true] 233)) := (Below.refl _ _).alloc (Nat.le_refl _) _
          have hg1 : wr.grownBy _ none := ⟨hb1.os, hb1.tape, hb1.output, hb1.size, fun i hi _ => hb1.block i hi⟩
          have hJ4 := hJ _ _ hg1 hJ3
          obtain ⟨fn, tmps, assign, body, hy, hR⟩ := hY _ hJ4
          simp only [mrkRow] at hy
          clear hb1 hg1 hJ3 hQ3 hJ4
          gi_wp2
          refine hR.mono ?_
          rintro e W4 (⟨rfl, hJ4, hk4⟩ | ⟨rfl, hJx4⟩)
          · gi_wp2
            exact ⟨.inr ⟨rfl, hJ4⟩, by decide⟩
          · gi_wp2
            refine bodyPost_ret (results_none rfl _ _ _) rfl ?_
            exact ⟨⟨_, rfl⟩, .inr hJx4⟩
        · gi_wp2
          exact ⟨.inr ⟨rfl, hJ3⟩, by decide⟩
    · gi_wp2
      go_end0
      exact ⟨⟨_, rfl⟩, .inl hJs⟩
theorem mrk_stops (n : Nat) (hn : 1 ≤ n) (bx bp op cp br ob cr : Nat) (s0 : ByteArray) (i1 i2 i3 : Int) (a4 a5 a7 a8 a9 a10 : Option Addr) (m4 m5 m7 m8 m9 m10 k4 k5 k7 k8 k9 k10 : Nat) (Q : World → Prop) (hQg : ∀ A B, A.grownBy B none → Q A → Q B)
    (hQ : ∀ W, Q W → W.cell? ⟨bx, 4, none⟩ = some (.slice (some ⟨bp, op, none⟩) 1 cp) ∧
      (W.cell? ⟨bp, op, none⟩ = some (.string s0) ∧ W.cell? ⟨bp, op + 1, none⟩ = some (.int .i64 i1) ∧ W.cell? ⟨bp, op + 2, none⟩ = some (.int .i64 i2) ∧ W.cell? ⟨bp, op + 3, none⟩ = some (.int .i64 i3) ∧ W.cell? ⟨bp, op + 4, none⟩ = some (.slice a4 m4 k4) ∧ W.cell? ⟨bp, op + 5, none⟩ = some (.slice a5 m5 k5) ∧ W.cell? ⟨bp, op + 6, none⟩ = some (.slice (some ⟨br, ob, none⟩) 1 cr) ∧ W.cell? ⟨bp, op + 7, none⟩ = some (.slice a7 m7 k7) ∧ W.cell? ⟨bp, op + 8, none⟩ = some (.slice a8 m8 k8) ∧ W.cell? ⟨bp, op + 9, none⟩ = some (.slice a9 m9 k9) ∧ W.cell? ⟨bp, op + 10, none⟩ = some (.slice a10 m10 k10)) ∧
      W.cell? ⟨br, ob, none⟩ = some (.int .i64 0) ∧ W.cell? ⟨br, ob + 1, none⟩ = some (.int .i64 0) ∧ W.cell? ⟨br, ob + 2, none⟩ = some (.int .i64 0) ∧ W.cell? ⟨br, ob + 3, none⟩ = some (.bool true)) (w0 : World) (h0 : ∀ W, Below w0.heap.size w0 W → Q W) :
    SeqStopsK (PX.FW none) n Tryz.prog 174 #[.pointer (some ⟨bx, 0, none⟩)] (fun _ : Unit => #[mrkRow]) (fun W W' => Q W → Q W') (fun xs => xs = [()]) (fun pre => pre = [()]) 1 w0 :=
  fun l J Jx W hW hJ hJx hY hJ0 => (mrk_in n hn l bx bp op cp br ob cr s0 i1 i2 i3 a4 a5 a7 a8 a9 a10 m4 m5 m7 m8 m9 m10 k4 k5 k7 k8 k9 k10 Q hQg hQ (J []) (Jx [()]) (J [()]) (fun A B hg hs => hJ [] A B none hs hg (fun r e => by cases e)) (fun A B hg hs => hJ [()] A B none hs hg (fun r e => by cases e)) (fun W1 h => hY [] () W1 h (by simp)) W (h0 W hW) hJ0).mono fun e W' ⟨h1, h2⟩ => ⟨h1, h2.imp (fun q => ⟨_, rfl, q⟩) fun q => ⟨_, rfl, q⟩⟩

def isSl : PX.PV → Prop
  | .imm _ _ => True
  | .sc (.slice _ _ _) => True
  | _ => False
theorem isSl_of {Z : Nat → Prop} {W : World} {v : Value} {x : PX.PV} (h : PX.IR Z W v x) (hx : isSl x) : ∃ A m k, v = .slice A m k := by
  cases h with
  | sc v h => cases v <;> first | exact ⟨_, _, _, rfl⟩ | exact hx.elim
  | imm A cap sz rows U h1 h2 h3 h4 => exact ⟨_, _, _, rfl⟩
theorem imm_row {Z : Nat → Prop} {w : World} {sz : Nat} {v : Value} {xs : List (List PX.PV)} (h : PX.IR Z w v (.imm sz xs)) :
    ∃ A cap, v = .slice A xs.length cap ∧ ∀ (k : Nat) (x : List PX.PV), xs[k]? = some x → ∃ (b off : Nat) (l : List Value), A = some ⟨b, off, none⟩ ∧ Z b ∧ l.length = sz ∧ (∀ (i : Nat) (u : Value), l[i]? = some u → w.cell? ⟨b, off + k * sz + i, none⟩ = some u) ∧ ∀ (i : Nat) (u : Value) (y : PX.PV), l[i]? = some u → x[i]? = some y → PX.IR Z w u y := by
  obtain ⟨A, cap, h1, _, _, h2⟩ := PX.imm_of (f := id) (xs := xs) (by simpa using h)
  exact ⟨A, cap, h1, h2⟩
theorem ir_scv {Z : Nat → Prop} {W : World} {v u : Value} (h : PX.IR Z W v (.sc u)) : v = u := by cases h; rfl
set_option maxHeartbeats 1000000 in
theorem ir_mrk {Z : Nat → Prop} {W : World} {sv : Value} {s0 : ByteArray} {i1 i2 i3 : Int} {q4 q5 q7 q8 q9 q10 : PX.PV} (hs : isSl q4 ∧ isSl q5 ∧ isSl q7 ∧ isSl q8 ∧ isSl q9 ∧ isSl q10)
    (h : PX.IR Z W sv (.imm 11 [[.sc (.string s0), .sc (.int .i64 i1), .sc (.int .i64 i2), .sc (.int .i64 i3), q4, q5, .imm 4 [[.sc (.int .i64 0), .sc (.int .i64 0), .sc (.int .i64 0), .sc (.bool true)]], q7, q8, q9, q10]])) :
    ∃ bp op cp br ob cr a4 m4 k4 a5 m5 k5 a7 m7 k7 a8 m8 k8 a9 m9 k9 a10 m10 k10, sv = .slice (some ⟨bp, op, none⟩) 1 cp ∧ Z bp ∧ Z br ∧
      (W.cell? ⟨bp, op, none⟩ = some (.string s0) ∧ W.cell? ⟨bp, op + 1, none⟩ = some (.int .i64 i1) ∧ W.cell? ⟨bp, op + 2, none⟩ = some (.int .i64 i2) ∧ W.cell? ⟨bp, op + 3, none⟩ = some (.int .i64 i3) ∧ W.cell? ⟨bp, op + 4, none⟩ = some (.slice a4 m4 k4) ∧ W.cell? ⟨bp, op + 5, none⟩ = some (.slice a5 m5 k5) ∧ W.cell? ⟨bp, op + 6, none⟩ = some (.slice (some ⟨br, ob, none⟩) 1 cr) ∧ W.cell? ⟨bp, op + 7, none⟩ = some (.slice a7 m7 k7) ∧ W.cell? ⟨bp, op + 8, none⟩ = some (.slice a8 m8 k8) ∧ W.cell? ⟨bp, op + 9, none⟩ = some (.slice a9 m9 k9) ∧ W.cell? ⟨bp, op + 10, none⟩ = some (.slice a10 m10 k10)) ∧
      W.cell? ⟨br, ob, none⟩ = some (.int .i64 0) ∧ W.cell? ⟨br, ob + 1, none⟩ = some (.int .i64 0) ∧ W.cell? ⟨br, ob + 2, none⟩ = some (.int .i64 0) ∧ W.cell? ⟨br, ob + 3, none⟩ = some (.bool true) := by
  obtain ⟨A, cap, rfl, h3⟩ := imm_row h
  obtain ⟨b, off, l, q1, q2, q3, c, e⟩ := h3 0 _ rfl
  match l, q3, c, e with
  | [u0, u1, u2, u3, u4, u5, u6, u7, u8, u9, u10], _, c, e =>
    obtain rfl := ir_scv (e 0 u0 _ rfl rfl)
    obtain rfl := ir_scv (e 1 u1 _ rfl rfl)
    obtain rfl := ir_scv (e 2 u2 _ rfl rfl)
    obtain rfl := ir_scv (e 3 u3 _ rfl rfl)
    obtain ⟨a4, m4, k4, rfl⟩ := isSl_of (e 4 u4 _ rfl rfl) hs.1
    obtain ⟨a5, m5, k5, rfl⟩ := isSl_of (e 5 u5 _ rfl rfl) hs.2.1
    obtain ⟨a7, m7, k7, rfl⟩ := isSl_of (e 7 u7 _ rfl rfl) hs.2.2.1
    obtain ⟨a8, m8, k8, rfl⟩ := isSl_of (e 8 u8 _ rfl rfl) hs.2.2.2.1
    obtain ⟨a9, m9, k9, rfl⟩ := isSl_of (e 9 u9 _ rfl rfl) hs.2.2.2.2.1
    obtain ⟨a10, m10, k10, rfl⟩ := isSl_of (e 10 u10 _ rfl rfl) hs.2.2.2.2.2
    obtain ⟨B, cr, rfl, g3⟩ := imm_row (e 6 u6 _ rfl rfl)
    obtain ⟨br, ob, l, r1, r2, r3, d, f⟩ := g3 0 _ rfl
    match l, r3, d, f with
    | [v0, v1, v2, v3], _, d, f =>
      obtain rfl := ir_scv (f 0 v0 _ rfl rfl)
      obtain rfl := ir_scv (f 1 v1 _ rfl rfl)
      obtain rfl := ir_scv (f 2 v2 _ rfl rfl)
      obtain rfl := ir_scv (f 3 v3 _ rfl rfl)
      subst q1 r1
      refine ⟨b, off, cap, br, ob, cr, a4, m4, k4, a5, m5, k5, a7, m7, k7, a8, m8, k8, a9, m9, k9, a10, m10, k10, rfl, q2, r2, ⟨?_, ?_, ?_, ?_, ?_, ?_, ?_, ?_, ?_, ?_, ?_⟩, ?_, ?_, ?_, ?_⟩
      · simpa using c 0 _ rfl
      · simpa using c 1 _ rfl
      · simpa using c 2 _ rfl
      · simpa using c 3 _ rfl
      · simpa using c 4 _ rfl
      · simpa using c 5 _ rfl
      · simpa using c 6 _ rfl
      · simpa using c 7 _ rfl
      · simpa using c 8 _ rfl
      · simpa using c 9 _ rfl
      · simpa using c 10 _ rfl
      · simpa using d 0 _ rfl
      · simpa using d 1 _ rfl
      · simpa using d 2 _ rfl
      · simpa using d 3 _ rfl

set_option maxHeartbeats 1000000 in
theorem range_mrk {E : PX.Env} {N : Nat} {R0 R : List PX.Ent} {H0 Hk : PX.Heap} {nx : Nat} {a : Act} {w : World} {n : Nat} {ds : List Deferred} (hS : PX.Sat E N R0 H0 nx a w) (htop : E.top = 100000) {t p d : Tmp} {assign body : Code} {Q : Exit → Act → World → Prop} (h1 : 2 ≤ n) (hnx : nx < 100000)
    (ib : Nat) {c0 c1 c2 c3 : PX.PV} {s0 : ByteArray} {i1 i2 i3 : Int} {q4 q5 q7 q8 q9 q10 : PX.PV} (hs6 : isSl q4 ∧ isSl q5 ∧ isSl q7 ∧ isSl q8 ∧ isSl q9 ∧ isSl q10)
    (hib : PX.hlook H0 ib = some (.box 67 [c0, c1, c2, c3, .imm 11 [[.sc (.string s0), .sc (.int .i64 i1), .sc (.int .i64 i2), .sc (.int .i64 i3), q4, q5, .imm 4 [[.sc (.int .i64 0), .sc (.int .i64 0), .sc (.int .i64 0), .sc (.bool true)]], q7, q8, q9, q10]]])) (ht : PX.opd R0 [] (.tmp t) = some (.fn 174 [] [.ptr ib 0])) (ts hs : List Nat) (hk : PX.keepR R0 ts = some R) (hH : PX.restr H0 hs = Hk) (hnb : PX.hlook Hk ib = none)
    (H1 Hx : PX.Heap) (nxf : Nat) (pn px : Prop) (n0 : PX.noMp Hk = true) (n1 : PX.noMp H1 = true) (n2 : PX.noMp Hx = true)
    (hasg : ∀ (l : Nat) (W : World) (K : Act → World → Prop), K ⟨(a.tmps.setIfInBounds p mrkRow).setIfInBounds d (.pointer (some ⟨W.heap.size, 0, none⟩)), []⟩ (W.alloc (.cells #[.int .i64 0, .int .i64 0, .int .i64 0, .bool true] 233 (0, 0))) → assign.wpIn (PX.FW (some l)) (n - 1 - 1) Tryz.prog (Exit.then K (fun _ _ _ => False)) { tmps := a.tmps.setIfInBounds p mrkRow, defers := [] } W)
    (hd : d < N) (hR : R.all (fun e => !Nat.beq e.t p && !Nat.beq e.t d) = true)
    (hbody : ∀ (l : Nat) (E3 : PX.Env) (W : World) (a' : Act), PX.EnvOk E3 ((nx, .box 233 mrkCells) :: Hk) (PX.allU ((nx, .box 233 mrkCells) :: Hk)) (nx + 1) 100000 → PX.Sat E3 N (⟨d, [], .ptr nx 0⟩ :: R) ((nx, .box 233 mrkCells) :: Hk) (nx + 1) a' W → body.wpIn (PX.FW (some l)) (n - 1 - 1) Tryz.prog (PX.rngPost E3 N nxf H1 Hx pn px) (PX.Act.with_ a' []) W)
    (hdone : ∀ (D : Nat) (W : World) (E3 : PX.Env), w.heap.size ≤ D → pn → PX.Nested E E3 W → PX.EnvOk E3 H1 (PX.allU H1) nxf 100000 → PX.Sat E3 N R H1 nxf a W → W.heap[D]? = some (.deferred (some [])) → (∀ (D : Nat) (x : Option (List Deferred)), w.heap[D]? = some (.deferred x) → W.heap[D]? = some (.deferred x)) → Q .normal (PX.Act.with_ a ({ target := .collected D, args := #[] } :: ds)) W)
    (hstop : ∀ (D : Nat) (W : World), w.heap.size ≤ D → px → PX.Sat E N R Hx nxf a W → W.heap[D]? = some (.deferred (some [])) → (∀ (D : Nat) (x : Option (List Deferred)), w.heap[D]? = some (.deferred x) → W.heap[D]? = some (.deferred x)) → Code.ret.wpIn (PX.FW none) n Tryz.prog Q (PX.Act.with_ a ({ target := .collected D, args := #[] } :: ds)) W) :
    (Code.rangeFunc (.tmp t) #[p] assign body).wpIn (PX.FW none) n Tryz.prog Q (PX.Act.with_ a ds) w := by
  subst hH
  obtain ⟨σ, Z, hr0⟩ := hS
  have hv := hr0.rs.opd (p := []) rfl ht
  generalize hav : a.eval (.tmp t) = vf at hv
  cases hv with
  | fn _ l1 l2 x1 x2 hl1 hl2 g1 g2 =>
    obtain rfl : l1 = [] := List.length_eq_zero_iff.1 (by simpa using hl1)
    obtain ⟨u, l', rfl, g3, g4⟩ := PX.VRs.inv ⟨hl2, g2⟩
    obtain rfl := g4.inv0
    cases g3 with
    | ptr _ _ bx cx sx =>
      obtain ⟨b, c, C, s2, hcell, _, v2⟩ := hr0.hr.at_ ib _ hib
      rw [sx] at s2; injection s2 with s2; injection s2 with e1 e2; subst e1 e2
      obtain ⟨d0, C1, rfl, _, v3⟩ := v2.inv
      obtain ⟨d1, C2, rfl, _, v4⟩ := v3.inv
      obtain ⟨d2, C3, rfl, _, v5⟩ := v4.inv
      obtain ⟨d3, C4, rfl, _, v6⟩ := v5.inv
      obtain ⟨sv, C5, rfl, hsv, _⟩ := v6.inv
      have hir := hsv.ir rfl
      obtain ⟨bp, op, cp, br, ob, cr, a4, m4, k4, a5, m5, k5, a7, m7, k7, a8, m8, k8, a9, m9, k9, a10, m10, k10, rfl, hzp, hzr, ⟨y0, y1, y2, y3, y4, y5, y6, y7, y8, y9, y10⟩, z0, z1, z2, z3⟩ := ir_mrk hs6 hir
      have hr : PX.Rel E N [] R (PX.restr H0 hs) nx σ Z a w := (hr0.rs' (hr0.rs.keep hk)).restr hs
      have hbx : ¬ (E.nest (PX.restr H0 hs) nx σ Z w).Wr bx := fun q => by
        obtain ⟨i, o', c', q1, q2⟩ := PX.nest_wr q
        have := hr0.hr.inj i ib _ _ bx c' cx (PX.hlook_restr q1).1 hib q2 sx
        subst this; rw [hnb] at q1; cases q1
      have hzw : ∀ b, Z b → ¬ (E.nest (PX.restr H0 hs) nx σ Z w).Wr b := fun b hz q => by
        obtain ⟨i, o', c', q4, q5⟩ := PX.nest_wr q; exact hr.hr.off i o' b c' q4 q5 hz
      refine PX.range_pxb hr (by rw [htop]; exact hnx) (by omega) (gf := 174) (lb := #[.pointer (some ⟨bx, 0, none⟩)]) hav (enters_of Tryz.func174 (by kernel_rfl) rfl) (v := mrkRow) (ty := 233) (C := [.int .i64 0, .int .i64 0, .int .i64 0, .bool true]) (xs := mrkCells) (S := fun xs => xs = [()]) (Sp := fun pre => pre = [()])
        (mrk_stops (n - 1) (by omega) bx bp op cp br ob cr s0 i1 i2 i3 a4 a5 a7 a8 a9 a10 m4 m5 m7 m8 m9 m10 k4 k5 k7 k8 k9 k10 _ (fun A B hg q => ⟨hg.os.trans q.os, hg.tape.trans q.tape, hg.output.trans q.output, Nat.le_trans q.size hg.size, fun b hb hn => (hg.block b (Nat.lt_of_lt_of_le hb q.size) (by simp)).trans (q.block b hb hn)⟩) (fun W hq => ?_) w (fun W hb => (PX.Chg.of_below hb).mono fun _ _ q => q.elim))
        (fun l h => h) rfl mrk_cells (PX.noMp_old n0) H1 Hx nxf pn px (PX.noMp_old n1) (PX.noMp_old n2) hasg hd hR (fun l E3 W a' _ _ hE3 hS3 => ?_) (fun D W hD hpn hS3 hd => ?_) (fun D W hD hp hS3 hd => ?_)
      · have kp := fun {o : Nat} {v : Value} (h : w.cell? ⟨bp, o, none⟩ = some v) => hq.cell h (hzw _ hzp)
        have kr := fun {o : Nat} {v : Value} (h : w.cell? ⟨br, o, none⟩ = some v) => hq.cell h (hzw _ hzr)
        exact ⟨hq.cell (by simp [World.cell?, hcell]) hbx, ⟨kp y0, kp y1, kp y2, kp y3, kp y4, kp y5, kp y6, kp y7, kp y8, kp y9, kp y10⟩, kr z0, kr z1, kr z2, kr z3⟩
      · have hd3 : a'.defers = [] := by obtain ⟨_, _, q⟩ := hS3; exact q.rs.defers
        have e4 : PX.Act.with_ a' [] = a' := by
          cases a'; simp only at hd3; subst hd3; rfl
        rw [← e4]
        exact hbody l E3 W a' (by rw [htop] at hE3; exact hE3) hS3
      · obtain ⟨σ3, Z3, h3⟩ := hS3
        obtain ⟨E3, k1, k2, k3⟩ := PX.Sat.nest ⟨σ3, Z3, hr.unnest h3⟩ htop
        exact hdone D W E3 hD hpn k1 k2 k3 hd fun D' x hx => PX.nest_def hr h3 hx
      · obtain ⟨σ3, Z3, h3⟩ := hS3
        exact hstop D W hD hp ⟨σ3, Z3, hr.unnest h3⟩ hd fun D' x hx => PX.nest_def hr h3 hx
end Go.Proofs.YtlaiafalilcgjaaGreatDoor
