/- Proved: the iterator of position.marked over the row [true, false] gives 0 to every loop body that keeps the row. -/
import Derived.Test.YtlaiafalilcgjaaGreatDoorQMrk
set_option linter.unusedVariables false
set_option linter.unusedSimpArgs false
namespace Go.Proofs.YtlaiafalilcgjaaGreatDoor
open Go.RowKit Go.Shelf
attribute [local go_sem] Oper.semAt_some
set_option maxRecDepth 100000 in
set_option maxHeartbeats 2000000 in
theorem mkd_in (n : Nat) (hn : 1 ≤ n) (l bx bb ob cb : Nat) (Q : World → Prop)
    (hQ : ∀ W, Q W → W.cell? ⟨bx, 0, none⟩ = some (.slice (some ⟨bb, ob, none⟩) 2 cb) ∧ W.cell? ⟨bb, ob, none⟩ = some (.bool true) ∧ W.cell? ⟨bb, ob + 1, none⟩ = some (.bool false))
    (J Jx J1 : World → Prop)
    (hY : ∀ W, J W → YieldAt Fence.wide (n - 1) Tryz.prog l #[.int .i64 0] W fun e W' => (e = .returned (.bool true) ∧ J1 W' ∧ (Q W → Q W')) ∨ (e = .returned (.bool false) ∧ Jx W'))
    (W : World) (hq : Q W) (h0 : J W) :
    CallsIn Fence.wide n Tryz.prog 100 #[.func (.yield l) #[] #[], .pointer (some ⟨bx, 0, none⟩)] W fun e W' => (∃ v, e = .returned v) ∧ (J1 W' ∨ Jx W') := by
  obtain ⟨hc, r0, r1⟩ := hQ W hq
  refine callsIn_of_wp Tryz.func100 rfl trivial ?_ rfl
  simp only [Tryz.ntmps100, List.size_toArray, List.length_cons, List.length_nil, Nat.reduceAdd, Nat.reduceSub, Array.replicate_succ, Array.replicate_zero, List.push_toArray, List.append_toArray, List.nil_append, List.cons_append]
  gi_wp2
  gi_loopw [7] (fun i wr => (i = .int .i64 0 ∧ J wr ∧ Q wr) ∨ (i = .int .i64 1 ∧ J1 wr ∧ Q wr) ∨ (i = .int .i64 2 ∧ J1 wr))
    (fun i _ => 2 - (intOf i).toNat)
  case atStart => exact .inl ⟨rfl, h0, hq⟩
  case round =>
    clear hc r0 r1 hq h0
    rcases hrel with ⟨rfl, hJs, hqs⟩ | ⟨rfl, hJs, hqs⟩ | ⟨rfl, hJs⟩
    · obtain ⟨hc, r0, r1⟩ := hQ wr hqs
      obtain ⟨fn, tmps, assign, body, hy, hR⟩ := hY _ hJs
      gi_wp2
      refine hR.mono ?_
      rintro e W4 (⟨rfl, hJ4, hk4⟩ | ⟨rfl, hJx4⟩)
      · gi_wp2
        exact ⟨.inr (.inl ⟨rfl, hJ4, hk4 hqs⟩), by decide⟩
      · gi_wp2
        refine bodyPost_ret (results_none rfl _ _ _) rfl ?_
        exact ⟨⟨_, rfl⟩, .inr hJx4⟩
    · obtain ⟨hc, r0, r1⟩ := hQ wr hqs
      gi_wp2
      refine ⟨fun _ h => (nomatch h), ?_⟩
      gi_wp2
      exact ⟨.inr (.inr ⟨rfl, hJs⟩), by decide⟩
    · gi_wp2
      go_end0
      exact ⟨⟨_, rfl⟩, .inl hJs⟩
theorem mkd_stops (n : Nat) (hn : 1 ≤ n) (bx bb ob cb : Nat) (Q : World → Prop)
    (hQ : ∀ W, Q W → W.cell? ⟨bx, 0, none⟩ = some (.slice (some ⟨bb, ob, none⟩) 2 cb) ∧ W.cell? ⟨bb, ob, none⟩ = some (.bool true) ∧ W.cell? ⟨bb, ob + 1, none⟩ = some (.bool false)) (w0 : World) (h0 : ∀ W, Below w0.heap.size w0 W → Q W) :
    SeqStopsK (PX.FW none) n Tryz.prog 100 #[.pointer (some ⟨bx, 0, none⟩)] (fun x : Unit => #[.int .i64 0]) (fun W W' => Q W → Q W') (fun xs => xs = [()]) (fun pre => pre = [()]) 1 w0 :=
  fun l J Jx W hW hJ hJx hY hJ0 => (mkd_in n hn l bx bb ob cb Q hQ (J []) (Jx [()]) (J [()]) (fun W1 h => hY [] () W1 h (by simp)) W (h0 W hW) hJ0).mono fun e W' ⟨h1, h2⟩ => ⟨h1, h2.imp (fun q => ⟨_, rfl, q⟩) fun q => ⟨_, rfl, q⟩⟩

theorem ir_mkd {Z : Nat → Prop} {W : World} {sv : Value} (h : PX.IR Z W sv (.imm 1 [[.sc (.bool true)], [.sc (.bool false)]])) :
    ∃ bb ob cb, sv = .slice (some ⟨bb, ob, none⟩) 2 cb ∧ Z bb ∧ W.cell? ⟨bb, ob, none⟩ = some (.bool true) ∧ W.cell? ⟨bb, ob + 1, none⟩ = some (.bool false) := by
  obtain ⟨A, cap, rfl, h3⟩ := imm_row h
  obtain ⟨b, off, l, q1, q2, q3, c, e⟩ := h3 0 _ rfl
  obtain ⟨b', off', l', q1', _, q3', c', e'⟩ := h3 1 _ rfl
  subst q1
  injection q1' with q1'; injection q1' with e1 e2; subst e1 e2
  match l, q3, c, e, l', q3', c', e' with
  | [u0], _, c, e, [u1], _, c', e' =>
    obtain rfl := ir_scv (e 0 u0 _ rfl rfl)
    obtain rfl := ir_scv (e' 0 u1 _ rfl rfl)
    exact ⟨b, off, cap, rfl, q2, by simpa using c 0 _ rfl, by simpa using c' 0 _ rfl⟩

set_option maxHeartbeats 1000000 in
theorem range_mkd {E : PX.Env} {N : Nat} {R0 R : List PX.Ent} {H0 : PX.Heap} {nx : Nat} {a : Act} {w : World} {n : Nat} {ds : List Deferred} (hS : PX.Sat E N R0 H0 nx a w) (htop : E.top = 100000) {t p : Tmp} {assign body : Code} {Q : Exit → Act → World → Prop} (h1 : 2 ≤ n)
    (ib : Nat) (hib : PX.hlook H0 ib = some (.box 39 [.imm 1 [[.sc (.bool true)], [.sc (.bool false)]]])) (ht : PX.opd R0 [] (.tmp t) = some (.fn 100 [] [.ptr ib 0])) (ts hs : List Nat) (hk : PX.keepR R0 ts = some R) (Pn Px : List Unit → Prop) (hp0 : Pn []) (Hh Hx : List Unit → PX.Heap) (h00 : Hh [] = PX.restr H0 hs) (hnb : PX.hlook (PX.restr H0 hs) ib = none)
    (hmh : ∀ pre id o, PX.hlook (Hh pre) id = some o → PX.isMp o = true → ∃ o0, PX.hlook (PX.restr H0 hs) id = some o0 ∧ PX.isMp o0 = true) (hmx : ∀ pre id o, PX.hlook (Hx pre) id = some o → PX.isMp o = true → ∃ o0, PX.hlook (PX.restr H0 hs) id = some o0 ∧ PX.isMp o0 = true)
    (asg : Unit → Act) (hasg : ∀ (l : Nat) (x : Unit) (W : World) (K : Act → World → Prop), K (asg x) W → assign.wpIn (PX.FW (some l)) (n - 1 - 1) Tryz.prog (Exit.then K (fun _ _ _ => False)) { tmps := a.tmps.setIfInBounds p (.int .i64 0), defers := [] } W)
    (R1 : Unit → List PX.Ent) (hR1 : ∀ x σ' Z' W, PX.RS σ' Z' W N [] R a → PX.RS σ' Z' W N [] (R1 x) (asg x))
    (hbody : ∀ (l : Nat) (pre : List Unit) (x : Unit) (E3 : PX.Env) (W : World), pre.length < 1 → Pn pre → PX.EnvOk E3 (Hh pre) (PX.allU (Hh pre)) nx 100000 → PX.Sat E3 N (R1 x) (Hh pre) nx (asg x) W → body.wpIn (PX.FW (some l)) (n - 1 - 1) Tryz.prog (PX.rngPost E3 N nx (Hh (pre ++ [x])) (Hx (pre ++ [x])) (Pn (pre ++ [x])) (Px (pre ++ [x]))) (PX.Act.with_ (asg x) []) W)
    (hdone : ∀ (D : Nat) (W : World) (E3 : PX.Env), w.heap.size ≤ D → Pn [()] → PX.Nested E E3 W → PX.EnvOk E3 (Hh [()]) (PX.allU (Hh [()])) nx 100000 → PX.Sat E3 N R (Hh [()]) nx a W → W.heap[D]? = some (.deferred (some [])) → (∀ (D : Nat) (x : Option (List Deferred)), w.heap[D]? = some (.deferred x) → W.heap[D]? = some (.deferred x)) → Q .normal (PX.Act.with_ a ({ target := .collected D, args := #[] } :: ds)) W)
    (hstop : ∀ (D : Nat) (pre : List Unit) (W : World), w.heap.size ≤ D → pre = [()] → Px pre → PX.Sat E N R (Hx pre) nx a W → W.heap[D]? = some (.deferred (some [])) → (∀ (D : Nat) (x : Option (List Deferred)), w.heap[D]? = some (.deferred x) → W.heap[D]? = some (.deferred x)) → Code.ret.wpIn (PX.FW none) n Tryz.prog Q (PX.Act.with_ a ({ target := .collected D, args := #[] } :: ds)) W) :
    (Code.rangeFunc (.tmp t) #[p] assign body).wpIn (PX.FW none) n Tryz.prog Q (PX.Act.with_ a ds) w := by
  obtain ⟨σ, Z, hr0⟩ := hS
  have hv := hr0.rs.opd (p := []) rfl ht
  generalize hav : a.eval (.tmp t) = vf at hv
  cases hv with
  | fn _ l1 l2 x1 x2 hl1 hl2 g1 g2 =>
    obtain rfl : l1 = [] := List.length_eq_zero_iff.1 (by simpa using hl1)
    obtain ⟨u, l', rfl, g3, g4⟩ := PX.VRs.inv ⟨hl2, g2⟩
    obtain rfl := g4.inv0
    cases g3 with
    | ptr _ _ bx cx sx =>
      obtain ⟨b, c, C, s2, hcell, _, v2⟩ := hr0.hr.at_ ib _ hib
      rw [sx] at s2; injection s2 with s2; injection s2 with e1 e2; subst e1 e2
      obtain ⟨sv, C5, rfl, hsv, hn2⟩ := v2.inv
      obtain rfl : C5 = [] := List.length_eq_zero_iff.1 (by simpa using hn2.1)
      have hir := hsv.ir rfl
      obtain ⟨bb, ob, cb, rfl, hzb, y0, y1⟩ := ir_mkd hir
      have hr : PX.Rel E N [] R (PX.restr H0 hs) nx σ Z a w := (hr0.rs' (hr0.rs.keep hk)).restr hs
      have hbx : ¬ (E.nest (PX.restr H0 hs) nx σ Z w).Wr bx := fun q => by
        obtain ⟨i, o', c', q1, q2⟩ := PX.nest_wr q
        have := hr0.hr.inj i ib _ _ bx c' cx (PX.hlook_restr q1).1 hib q2 sx
        subst this; rw [hnb] at q1; cases q1
      have hzw : ∀ b, Z b → ¬ (E.nest (PX.restr H0 hs) nx σ Z w).Wr b := fun b hz q => by
        obtain ⟨i, o', c', q4, q5⟩ := PX.nest_wr q; exact hr.hr.off i o' b c' q4 q5 hz
      have hmo : ∀ (Hg : List Unit → PX.Heap), (∀ pre id o, PX.hlook (Hg pre) id = some o → PX.isMp o = true → ∃ o0, PX.hlook (PX.restr H0 hs) id = some o0 ∧ PX.isMp o0 = true) → ∀ pre, PX.mapsOld (E.nest (PX.restr H0 hs) nx σ Z w) (Hg pre) := fun Hg hg pre id o hl ho => by
        obtain ⟨o0, h0, h1⟩ := hg pre id o hl ho
        obtain ⟨b, c, q1, x, q2, _⟩ := PX.isMp_blk (hr.hr.at_ id _ h0) h1
        exact ⟨b, c, q1, (Array.getElem?_eq_some_iff.1 q2).1⟩
      refine PX.range_px hr (α := Unit) (by omega) (gf := 100) (lb := #[.pointer (some ⟨bx, 0, none⟩)]) hav (enters_of Tryz.func100 (by kernel_rfl) rfl) (encs := fun _ => #[.int .i64 0]) (fun _ => rfl) (S := fun xs => xs = [()]) (Sp := fun pre => pre = [()]) (M := 1)
        (mkd_stops (n - 1) (by omega) bx bb ob cb _ (fun W hq => ?_) w (fun W hb => (PX.Chg.of_below hb).mono fun _ _ q => q.elim))
        Pn Px hp0 Hh Hx h00 (hmo Hh hmh) (hmo Hx hmx) asg (fun l x W K hK => by simpa using hasg l x W K hK) R1 hR1 (fun l pre x E3 W hp hpn _ ht3 hE3 hS3 => ?_) (fun D xs W hD hs' hpn hS3 hd => ?_) (fun D pre W hD hs' hp hS3 hd => ?_)
      · have kp := fun {o : Nat} {v : Value} (h : w.cell? ⟨bb, o, none⟩ = some v) => hq.cell h (hzw _ hzb)
        exact ⟨hq.cell (by simp [World.cell?, hcell]) hbx, kp y0, kp y1⟩
      · have hd3 : (asg x).defers = [] := by obtain ⟨_, _, q⟩ := hS3; exact q.rs.defers
        have e4 : PX.Act.with_ (asg x) [] = asg x := by
          generalize asg x = a3 at hd3
          cases a3; simp only at hd3; subst hd3; rfl
        rw [← e4]
        exact hbody l pre x E3 W hp hpn (by rw [htop] at hE3; exact hE3) hS3
      · subst hs'
        obtain ⟨σ3, Z3, h3⟩ := hS3
        obtain ⟨E3, k1, k2, k3⟩ := PX.Sat.nest ⟨σ3, Z3, hr.unnest h3⟩ htop
        exact hdone D W E3 hD hpn k1 k2 k3 hd fun D' x hx => PX.nest_def hr h3 hx
      · obtain ⟨σ3, Z3, h3⟩ := hS3
        exact hstop D pre W hD hs' hp ⟨σ3, Z3, hr.unnest h3⟩ hd fun D' x hx => PX.nest_def hr h3 hx
end Go.Proofs.YtlaiafalilcgjaaGreatDoor
