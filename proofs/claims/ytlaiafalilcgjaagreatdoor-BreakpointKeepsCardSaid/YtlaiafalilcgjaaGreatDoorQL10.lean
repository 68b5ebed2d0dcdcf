/- Proved: rows that no name of the table stands for, opened and shut; a cell that is told as a raw value and reads as something without names is told so. Program-independent. -/
import Derived.Test.YtlaiafalilcgjaaGreatDoorQL9
import Derived.Test.YtlaiafalilcgjaaGreatDoorQL7
set_option linter.unusedVariables false
set_option linter.unusedSimpArgs false
namespace Go.PX
open Go.RowKit Go.SX
section
variable {P : Program} {E : Env} {N : Nat} {κ : List (Nat × Bool)} {R : List Ent} {H H' : Heap} {nx nx' : Nat} {σ σ' : Nm} {Z Z' : Nat → Prop} {a a' : Act} {w w' : World} {e sz : TypeId} {ls : List (Nat × Nat × List (List PV))}
theorem IRs.set1 {l : List Value} {xs : List PV} (h : IRs Z w l xs) {i : Nat} {u : Value} {x : PV} (hu : IR Z w u x) : IRs Z w (l.set i u) (xs.set i x) := by
  refine ⟨by simp [h.1], fun j u' x' h1 h2 => ?_⟩
  rw [List.getElem?_set] at h1 h2
  by_cases hij : i = j
  · subst hij
    simp only [if_true] at h1 h2
    split at h1
    · rename_i q
      rw [if_pos (by rw [← h.1]; exact q)] at h2
      simp only [Option.some.injEq] at h1 h2
      subst h1 h2; exact hu
    · simp at h1
  · rw [if_neg hij] at h1 h2
    exact h.2 j u' x' h1 h2
/-- a row without names says nothing of the others' names -/
theorem row_pure {id id' : Nat} {rows : List (List PV)} (hs : σ' id' = σ id) (h : OR σ Z w id (.row e sz true rows)) : OR σ' Z w id' (.row e sz true rows) := by
  obtain ⟨h1, h2, h3⟩ := h
  refine ⟨h1, ⟨h2.1, fun q => by rw [hs]; exact h2.2 q⟩, fun b c hb => ?_⟩
  rw [hs] at hb
  obtain ⟨C, q1, q2, q3, q4, q5⟩ := h3 b c hb
  exact ⟨C, q1, q2, q3, q4, (q5.2 rfl).vrs, q5.2⟩
/-- rows without names: their block, its capacity and their rows -/
structure LR (E : Env) (H : Heap) (σ : Nm) (Z : Nat → Prop) (w : World) (e sz : TypeId) (ls : List (Nat × Nat × List (List PV))) : Prop where
  row : ∀ x ∈ ls, OR (fun _ => some (x.1, x.2.1)) Z w 0 (.row e sz true x.2.2)
  old : ∀ x ∈ ls, E.w0.heap.size ≤ x.1 ∨ E.Wr x.1
  off : ∀ x ∈ ls, ¬ Z x.1
  sep : ∀ x ∈ ls, ∀ id o c, hlook H id = some o → σ id ≠ some (x.1, c)
  nd : (ls.map (·.1)).Nodup
theorem LR.lt (h : LR E H σ Z w e sz ls) {x : Nat × Nat × List (List PV)} (hx : x ∈ ls) : x.1 < w.heap.size := (h.row x hx).lt rfl
theorem LR.step {N' : Nat} {κ' : List (Nat × Bool)} {R' : List Ent} (h : LR E H σ Z w e sz ls) (hoff : ∀ id o b c, hlook H id = some o → σ id = some (b, c) → ¬ Z b) (k : Rel (E.nest H nx σ Z w) N' κ' R' H' nx' σ' Z' a' w') : LR E H' σ' Z' w' e sz ls := by
  have hn : ∀ x ∈ ls, ¬ (E.nest H nx σ Z w).Wr x.1 := fun x hx q => by
    obtain ⟨i, o', c', q1, q2⟩ := nest_wr q
    exact h.sep x hx i o' c' q1 q2
  refine ⟨fun x hx => ?_, h.old, fun x hx hz => ?_, fun x hx id o c h1 h2 => ?_, h.nd⟩
  · refine OR.mono (Ext.refl _) k.z0 k.chg (fun b hz q => ?_) rfl (fun b c q => ?_) (h.row x hx)
    · obtain ⟨i, o', c', q1, q2⟩ := nest_wr q
      exact hoff i o' b c' q1 q2 hz
    · injection q with q; injection q with q _; subst q; exact hn x hx
  · rcases k.zold _ hz with q | q | q
    · exact h.off x hx q
    · have := h.lt hx; change w.heap.size ≤ x.1 at q; omega
    · exact hn x hx q
  · rcases k.own id o x.1 c h1 h2 with q | q
    · have := h.lt hx; change w.heap.size ≤ x.1 at q; omega
    · exact hn x hx q
/-- a state, and rows beside its table -/
def SatR (E : Env) (N : Nat) (R : List Ent) (H : Heap) (nx : Nat) (a : Act) (w : World) (e sz : TypeId) (ls : List (Nat × Nat × List (List PV))) : Prop := ∃ σ Z, Rel E N [] R H nx σ Z a w ∧ LR E H σ Z w e sz ls
theorem SatR.nil (h : Sat E N R H nx a w) : SatR E N R H nx a w e sz [] := by
  obtain ⟨σ, Z, hr⟩ := h
  exact ⟨σ, Z, hr, nofun, nofun, nofun, nofun, List.nodup_nil⟩
theorem SatR.sat (h : SatR E N R H nx a w e sz ls) : Sat E N R H nx a w := by
  obtain ⟨σ, Z, hr, _⟩ := h
  exact ⟨σ, Z, hr⟩
theorem SatR.nest (h : SatR E N R H nx a w e sz ls) (ht : E.top = 100000) : ∃ E3 : Env, EnvOk E3 H (allU H) nx 100000 ∧ Sat E3 N R H nx a w ∧ ∀ N' R' H' nx' a' w', Sat E3 N' R' H' nx' a' w' → SatR E N' R' H' nx' a' w' e sz ls := by
  obtain ⟨σ, Z, hr, hl⟩ := h
  exact ⟨E.nest H nx σ Z w, hr.nestOk ht, ⟨σ, Z, hr.nest⟩, fun N' R' H' nx' a' w' ⟨σ', Z', k⟩ => ⟨σ', Z', hr.unnest k, hl.step hr.hr.off k⟩⟩
theorem SatR.sl (h : SatR E N R H nx a w e sz ls) (ts : List Nat) {T : List Ent} (hk : keepR R ts = some T) : SatR E N T H nx a w e sz ls := by
  obtain ⟨σ, Z, hr, hl⟩ := h
  exact ⟨σ, Z, hr.rs' (hr.rs.keep hk), hl⟩
theorem SatR.canon {H0 : Heap} {U : Upd} {lo top : Nat} (ρ : List (Nat × Nat)) (R' : List Ent) (H' : Heap) (nx' : Nat) (h : SatR E N R H nx a w e sz ls) (hE : EnvOk E H0 U lo top) (hR : renR ρ R' = R) (hH : (okH ρ H H').map (·.1) = (okH ρ H H').map (·.2)) (hc : canonB ρ lo top nx' R' H' = true) : SatR E N R' H' nx' a w e sz ls := by
  obtain ⟨σ, Z, hr, hl⟩ := h
  obtain ⟨σ', h1, h2⟩ := canonN ρ R' H' nx' hr hE hR hH hc
  have hat : ∀ {id : Nat} {o : PO}, hlook H' id = some o → hlook H (rn ρ id) = some (renO ρ o) := okH_spec (allEq_of_map hH)
  exact ⟨σ', Z, h1, hl.row, hl.old, hl.off, fun x hx id o c q1 q2 => by
    rw [h2 id (hlook_key q1)] at q2
    exact hl.sep x hx _ _ c (hat q1) q2, hl.nd⟩
/-- the first row gets a name -/
theorem SatR.opn {x : Nat × Nat × List (List PV)} (h : SatR E N R H nx a w e sz (x :: ls)) (ht : nx + 2 ≤ E.top) : SatR E N R ((nx, .row e sz true x.2.2) :: (nx + 1, .ty (.slice (some ⟨x.1, 0, none⟩) x.2.2.length x.2.1) (.own nx sz x.2.2.length)) :: H) (nx + 2) a w e sz ls := by
  obtain ⟨σ, Z, hr, hl⟩ := h
  have f0 := hr.fr nx (Nat.le_refl _) (by omega)
  have f1 := hr.fr (nx + 1) (by omega) (by omega)
  have hx := List.mem_cons_self (a := x) (l := ls)
  obtain ⟨τ, hτ⟩ : ∃ τ : Nm, τ = upd σ nx x.1 x.2.1 := ⟨_, rfl⟩
  have t0 : τ nx = some (x.1, x.2.1) := by rw [hτ]; exact upd_self ..
  have t1 : ∀ id, id ≠ nx → τ id = σ id := fun id q => by rw [hτ]; simp [upd, q]
  have hext : Ext σ τ := hτ ▸ upd_ext f0.1
  have lk : ∀ {id : Nat} {o : PO}, hlook ((nx, .row e sz true x.2.2) :: (nx + 1, .ty (.slice (some ⟨x.1, 0, none⟩) x.2.2.length x.2.1) (.own nx sz x.2.2.length)) :: H) id = some o → (id = nx ∧ o = .row e sz true x.2.2) ∨ (id = nx + 1 ∧ o = .ty (.slice (some ⟨x.1, 0, none⟩) x.2.2.length x.2.1) (.own nx sz x.2.2.length)) ∨ (id ≠ nx ∧ id ≠ nx + 1 ∧ hlook H id = some o) := fun {id o} q => by
    simp only [hlook] at q
    cases hb : Nat.beq nx id with
    | true => rw [hb] at q; simp only [cond_true, Option.some.injEq] at q; exact .inl ⟨(Nat.eq_of_beq_eq_true hb).symm, q.symm⟩
    | false =>
      rw [hb] at q
      simp only [cond_false] at q
      cases hb2 : Nat.beq (nx + 1) id with
      | true => rw [hb2] at q; simp only [cond_true, Option.some.injEq] at q; exact .inr (.inl ⟨(Nat.eq_of_beq_eq_true hb2).symm, q.symm⟩)
      | false => rw [hb2] at q; exact .inr (.inr ⟨(by rintro rfl; rw [f0.2] at q; cases q), (by rintro rfl; rw [f1.2] at q; cases q), q⟩)
  refine ⟨τ, Z, ⟨hr.rs.mono hext (fun _ q => q) (Chg.refl (fun _ => False) w) (fun _ _ q => q), ⟨fun id o q => ?_, fun id id' o o' b c c' q1 q2 q3 q4 => ?_, fun id o b c q1 q2 => ?_, hr.hr.zlt⟩, fun id q1 q2 => ⟨(t1 id (by omega)).trans (hr.fr id (by omega) q2).1, ?_⟩, Nat.le_trans hr.lo (by omega), hr.ext.trans hext, fun id q1 q2 => (t1 id (by rintro rfl; exact q2 ⟨hr.lo, by omega⟩)).trans (hr.dom id q1 q2), fun id o b c q1 q2 => ?_, hr.chg, hr.zold, hr.z0⟩, fun y hy => hl.row y (List.mem_cons_of_mem _ hy), fun y hy => hl.old y (List.mem_cons_of_mem _ hy), fun y hy => hl.off y (List.mem_cons_of_mem _ hy), fun y hy id o c q1 q2 => ?_, (List.nodup_cons.1 hl.nd).2⟩
  · rcases lk q with ⟨rfl, rfl⟩ | ⟨rfl, rfl⟩ | ⟨h1, h2, h3⟩
    · exact row_pure t0 (hl.row x hx)
    · exact ⟨(t1 _ (by omega)).trans f1.1, rfl, .own _ _ _ _ _ t0⟩
    · exact (hr.hr.at_ id o h3).mono hext (fun _ q => q) (Chg.refl (fun _ => False) w) (fun _ _ q => q) (t1 id h1) (fun _ _ _ q => q)
  · rcases lk q1 with ⟨rfl, rfl⟩ | ⟨rfl, rfl⟩ | ⟨h1, h2, h3⟩
    · rcases lk q2 with ⟨rfl, rfl⟩ | ⟨rfl, rfl⟩ | ⟨h1', h2', h3'⟩
      · rfl
      · rw [t1 _ (by omega), f1.1] at q4; cases q4
      · rw [t0] at q3; injection q3 with q3; injection q3 with q3 _; subst q3
        rw [t1 _ h1'] at q4; exact (hl.sep x hx _ _ _ h3' q4).elim
    · rw [t1 _ (by omega), f1.1] at q3; cases q3
    · rcases lk q2 with ⟨rfl, rfl⟩ | ⟨rfl, rfl⟩ | ⟨h1', h2', h3'⟩
      · rw [t0] at q4; injection q4 with q4; injection q4 with q4 _; subst q4
        rw [t1 _ h1] at q3; exact (hl.sep x hx _ _ _ h3 q3).elim
      · rw [t1 _ (by omega), f1.1] at q4; cases q4
      · rw [t1 _ h1] at q3; rw [t1 _ h1'] at q4; exact hr.hr.inj _ _ _ _ _ _ _ h3 h3' q3 q4
  · rcases lk q1 with ⟨rfl, rfl⟩ | ⟨rfl, rfl⟩ | ⟨h1, h2, h3⟩
    · rw [t0] at q2; injection q2 with q2; injection q2 with q2 _; subst q2; exact hl.off x hx
    · rw [t1 _ (by omega), f1.1] at q2; cases q2
    · rw [t1 _ h1] at q2; exact hr.hr.off _ _ _ _ h3 q2
  · cases q : hlook ((nx, .row e sz true x.2.2) :: (nx + 1, .ty (.slice (some ⟨x.1, 0, none⟩) x.2.2.length x.2.1) (.own nx sz x.2.2.length)) :: H) id with
    | none => rfl
    | some o =>
      rcases lk q with ⟨rfl, _⟩ | ⟨rfl, _⟩ | ⟨_, _, h3⟩
      · omega
      · omega
      · rw [(hr.fr id (by omega) q2).2] at h3; cases h3
  · rcases lk q1 with ⟨rfl, rfl⟩ | ⟨rfl, rfl⟩ | ⟨h1, h2, h3⟩
    · rw [t0] at q2; injection q2 with q2; injection q2 with q2 _; subst q2; exact hl.old x hx
    · rw [t1 _ (by omega), f1.1] at q2; cases q2
    · rw [t1 _ h1] at q2; exact hr.own _ _ _ _ h3 q2
  · rcases lk q1 with ⟨rfl, rfl⟩ | ⟨rfl, rfl⟩ | ⟨h1, h2, h3⟩
    · rw [t0] at q2; injection q2 with q2; injection q2 with q2 _
      exact (List.nodup_cons.1 hl.nd).1 (by show x.1 ∈ _; rw [q2]; exact List.mem_map_of_mem hy)
    · rw [t1 _ (by omega), f1.1] at q2; cases q2
    · rw [t1 _ h1] at q2; exact hl.sep y (List.mem_cons_of_mem _ hy) _ _ _ h3 q2
/-- a row loses its name -/
theorem SatR.shut {A g n : Nat} {rows : List (List PV)} {v : Value} (h : SatR E N R H nx a w e sz ls) (hA : hlook H A = some (.row e sz true rows)) (hg : hlook H g = some (.ty v (.own A sz n))) (hn : n ≠ 0) (hne : rows ≠ []) (ids : List Nat) (hAi : ids.all (fun i => !Nat.beq i A) = true) : ∃ b c, v = .slice (some ⟨b, 0, none⟩) n c ∧ SatR E N R (PX.restr H ids) nx a w e sz ((b, c, rows) :: ls) := by
  obtain ⟨σ, Z, hr, hl⟩ := h
  have hA0 := hr.hr.at_ A _ hA
  have hv := (hr.hr.at_ g _ hg).2.2
  cases hv with
  | own0 => exact absurd rfl hn
  | own _ _ _ b c q1 =>
    refine ⟨b, c, rfl, σ, Z, hr.restr ids, fun x hx => ?_, fun x hx => ?_, fun x hx => ?_, fun x hx id o c' r1 r2 => ?_, ?_⟩
    · rcases List.mem_cons.1 hx with rfl | hx
      · exact row_pure q1.symm hA0
      · exact hl.row x hx
    · rcases List.mem_cons.1 hx with rfl | hx
      · exact hr.own A _ b c hA q1
      · exact hl.old x hx
    · rcases List.mem_cons.1 hx with rfl | hx
      · exact hr.hr.off A _ b c hA q1
      · exact hl.off x hx
    · obtain ⟨r3, r4⟩ := hlook_restr r1
      rcases List.mem_cons.1 hx with rfl | hx
      · have := hr.hr.inj A id _ _ b c c' hA r3 q1 r2
        subst this
        have := List.all_eq_true.1 hAi A r4
        simp at this
      · exact hl.sep x hx id o c' r3 r2
    · rw [List.map_cons, List.nodup_cons]
      refine ⟨fun q => ?_, hl.nd⟩
      obtain ⟨x, hx, e⟩ := List.mem_map.1 q
      exact hl.sep x hx A _ c hA (by rw [e]; exact q1)
/-- a cell that is told as a raw value and reads as something without names is told so -/
theorem Sat.unraw {B g k i e1 sz1 : Nat} {rows : List (List PV)} {row : List PV} {v : Value} {x : PV} (hS : Sat E N R H nx a w) (htop : nx ≤ E.top) (hB : hlook H B = some (.row e1 sz1 true rows)) (hg : hlook H g = some (.ty v x)) (hx : isPure x = true) (hk : rows[k]? = some row) (hi : row[i]? = some (.sc v)) :
    Sat E N R ((B, .row e1 sz1 true (rows.set k (row.set i x))) :: H) nx a w := by
  obtain ⟨σ, Z, hr⟩ := hS
  obtain ⟨h1, h2, h3⟩ := hr.hr.at_ _ _ hB
  have hgo := hr.hr.at_ _ _ hg
  have hir : IR Z w v x := hgo.2.2.ir hx
  have hrow := h1 row (List.mem_of_getElem? hk)
  have hil : i < sz1 := by rw [← hrow.1]; exact (List.getElem?_eq_some_iff.1 hi).1
  have hlen : ∀ r ∈ rows, r.length = sz1 := fun r hr => (h1 r hr).1
  have hfl : rows.flatten[k * sz1 + i]? = some (.sc v) := by rw [flat_row rows k i row hlen hk hil]; exact hi
  have hlk : ∀ {j : Nat} {o : PO}, hlook ((B, PO.row e1 sz1 true (rows.set k (row.set i x))) :: H) j = some o → (j = B ∧ o = .row e1 sz1 true (rows.set k (row.set i x))) ∨ hlook H j = some o := fun {j o} q => by
    simp only [hlook] at q
    cases hb : Nat.beq B j with
    | true => rw [hb] at q; simp only [cond_true, Option.some.injEq] at q; exact .inl ⟨(Nat.eq_of_beq_eq_true hb).symm, q.symm⟩
    | false => rw [hb] at q; exact .inr q
  refine ⟨σ, Z, hr.reH (Nat.le_refl _) htop (fun j o q => ?_) (fun j o q => ?_)⟩
  · rcases hlk q with ⟨rfl, rfl⟩ | q
    · have hro : rowsOk sz1 (rows.set k (row.set i x)) := fun r hr' => by
        rcases List.mem_or_eq_of_mem_set hr' with hr' | rfl
        · exact h1 r hr'
        · exact ⟨by rw [List.length_set]; exact hrow.1, ones_set1 hrow.2 hgo.2.1⟩
      refine ⟨hro, ⟨by rw [List.length_set]; exact h2.1, fun q => h2.2 (by rintro rfl; simp at hk)⟩, fun b' c' hb => ?_⟩
      obtain ⟨C, q1, q2, q3, q4, q5⟩ := h3 b' c' hb
      refine ⟨C, q1, q2, by rw [List.length_set]; exact q3, q4, ?_⟩
      rw [List.length_set]
      obtain ⟨u, hu, huv⟩ := q5.1.get hfl
      have huv' : u = v := by cases huv; rfl
      subst huv'
      have hset := IRs.set1 (q5.2 rfl) (i := k * sz1 + i) hir
      rw [set_same hu, ← flat_set rows k i row x hlen hk hil] at hset
      exact ⟨hset.vrs, fun _ => hset⟩
    · exact hr.hr.at_ j o q
  · rcases hlk q with ⟨rfl, rfl⟩ | q
    · exact .inl ⟨_, hB⟩
    · exact .inl ⟨_, q⟩
end
end Go.PX
namespace Go.Proofs.YtlaiafalilcgjaaGreatDoor
open Go.RowKit Go.PX
set_option maxRecDepth 100000
open Go.BK
def nilR : List PV := [.sc (.slice none 0 0)]
def OUT (a b : Ls) (i : Nat) : List (List PV) := List.replicate i nilR ++ encG a b i
theorem OUT_len {a b : Ls} {i : Nat} (h : i ≤ a.length + 1) : (OUT a b i).length = a.length + 1 := by unfold OUT; rw [List.length_append, List.length_replicate, encG_len]; omega
theorem OUT_nil {a b : Ls} {i k : Nat} (h : k < i) : (OUT a b i)[k]? = some nilR := by unfold OUT; rw [List.getElem?_append_left (by simpa using h), List.getElem?_replicate_of_lt h]
theorem OUT_at {a b : Ls} {i k : Nat} (h : i ≤ k) (hk : k ≤ a.length) : (OUT a b i)[k]? = some [.imm 1 (encF a b k 0)] := out_at (by simp) h hk
theorem OUT_set {a b : Ls} {k : Nat} (hk : k ≤ a.length) : (OUT a b (k + 1)).set k [.imm 1 (encF a b k 0)] = OUT a b k := by unfold OUT; rw [List.replicate_succ']; exact out_set (by simp) hk
theorem OUT_top (a b : Ls) : List.replicate (a.length + 1) nilR = OUT a b (a.length + 1) := by unfold OUT; rw [encG_end, List.append_nil]
theorem OUT_0 (a b : Ls) : OUT a b 0 = encG a b 0 := rfl
theorem OUT_pu {a b : Ls} {i : Nat} : ∀ q ∈ OUT a b i, pures q = true := fun q hq => by
  unfold OUT encG at hq
  rcases List.mem_append.1 hq with h | h
  · rw [List.eq_of_mem_replicate h]; rfl
  · obtain ⟨z, _, rfl⟩ := List.mem_map.1 h; rfl
theorem pures_app2 : ∀ {a b : List PV}, pures a = true → pures b = true → pures (a ++ b) = true
  | [], _, _, h => h
  | x :: a, b, h, k => by
    simp only [pures, Bool.and_eq_true, List.cons_append] at h ⊢
    exact ⟨h.1, pures_app2 h.2 k⟩
theorem pures_flat2 : ∀ {l : List (List PV)}, (∀ r ∈ l, pures r = true) → pures l.flatten = true
  | [], _ => rfl
  | r :: l, h => by rw [List.flatten_cons]; exact pures_app2 (h r (by simp)) (pures_flat2 fun q hq => h q (by simp [hq]))
theorem pures_set {X : List (List PV)} {k : Nat} {r : List PV} (hX : ∀ q ∈ X, pures q = true) (hr : pures r = true) : pures (X.set k r).flatten = true := pures_flat2 fun q hq => by
  rcases List.mem_or_eq_of_mem_set hq with h | rfl
  · exact hX q h
  · exact hr
theorem set_get_ne {α : Type} {l : List α} {i j : Nat} {z u : α} (h : i ≠ j) (hj : l[j]? = some u) : (l.set i z)[j]? = some u := by rw [List.getElem?_set_ne h]; exact hj
theorem encF_0 {a b : Ls} {i j k : Nat} (h : k ≤ b.length) (hj : k < j) : (encF a b i j)[k]? = some (encN 0) := by
  unfold encF; rw [List.getElem?_map, rowF_get h, if_neg (by omega)]; rfl
theorem encG_at0 {a b : Ls} {k : Nat} (hk : k ≤ a.length) : (encG a b 0)[k]? = some [.imm 1 (encF a b k 0)] := by have := encG_at (a := a) (b := b) (Nat.zero_le k) hk; rwa [Nat.sub_zero] at this
/-- what has been written of the answer -/
def encM (n : Nat) (pre : List Nat) (i : Nat) : List (List PV) := pre.map encN ++ zeroR (n - i)
theorem encM_at {n i : Nat} {pre : List Nat} (h : pre.length = i) (hi : i < n) : (encM n pre i)[i]? = some (encN 0) := by
  unfold encM zeroR; rw [List.getElem?_append_right (by simp [h]), List.length_map, h, Nat.sub_self, List.getElem?_replicate_of_lt (by omega)]; rfl
theorem encM_set {n i y : Nat} {pre : List Nat} (h : pre.length = i) (hi : i < n) : (encM n pre i).set i (encN y) = encM n (pre ++ [y]) (i + 1) := by
  unfold encM zeroR
  rw [show n - i = (n - (i + 1)) + 1 by omega, List.replicate_succ, List.set_append_right _ _ (by simp [h]), List.length_map, h, Nat.sub_self, List.set_cons_zero]; simp
theorem encM_skip {n i : Nat} {pre : List Nat} (hi : i < n) : encM n pre i = encM n (pre ++ [0]) (i + 1) := by
  unfold encM zeroR
  rw [show n - i = (n - (i + 1)) + 1 by omega, List.replicate_succ]; simp; rfl
theorem encM_end {a b : Ls} {i j : Nat} {pre : List Nat} (h : pre.length = i) (hi : i ≤ a.length) (hj : j ≤ b.length) (hn : ¬ (i < a.length ∧ j < b.length)) (hm : pre ++ mvT a b i j = moveD a b) : encM a.length pre i = (moveD a b).map encN := by
  rw [← hm]
  unfold encM
  rcases Nat.lt_or_ge i a.length with q | q
  · obtain rfl : j = b.length := by omega
    rw [mvT_end, List.map_append, zero_enc]
  · obtain rfl : i = a.length := by omega
    rw [mvT_end', List.append_nil, Nat.sub_self]; simp [zeroR]

set_option maxHeartbeats 1000000 in
theorem con_moveR (l q : List UInt8) (la lb : Ls) (hla : linesL l = la) (hlb : linesL q = lb) (hl : l.length ≤ 1000000) (hq : q.length ≤ 1000000) (ha : la.length ≤ 400) (hb : lb.length ≤ 400) : PX.Con Tryz.prog 11 [(.sc (PX.sV l)), (.sc (PX.sV q))] [] 1 100000 (.imm 1 ((moveD la lb).map encN)) [] := by
  refine PX.con_intro [(.sc (PX.sV l)), (.sc (PX.sV q))] 189 Tryz.func11 rfl rfl (by kernel_rfl) (by kernel_rfl) ?_
  intro E a hE hS
  generalize E.w0 = w at hS ⊢
  have mix := mixed
  refine PX.G [] [] 1 [] [] [.au] [0, 1] [] hS hE trivial fun a w hS => ?_
  refine PX.G [⟨5, [], (.imm 1 (la.map encS))⟩, ⟨6, [], (.imm 1 (lb.map encS))⟩] [] 1 [.q (PX.Con Tryz.prog 16 [(.sc (PX.sV l))] [] 1 1 (.imm 1 (la.map encS)) []), .q (PX.Con Tryz.prog 16 [(.sc (PX.sV q))] [] 1 1 (.imm 1 (lb.map encS)) [])] [] [.au, .cl [] (.imm 1 (la.map encS)) [] 1, .au, .cl [] (.imm 1 (lb.map encS)) [] 1, .au, .au] [5, 6] [] hS hE ⟨hla ▸ PX.con_any (con_lines l hl), hlb ▸ PX.con_any (con_lines q hq), trivial⟩ fun a w hS => ?_
  refine wp_seq_k fun K1 hK1 => ?_
  refine PX.G [⟨24, [], (.sc (.bool (decide (400 < ((la.length : Nat) : Int)) || decide (400 < ((lb.length : Nat) : Int)))))⟩] [] 1 [.q ((.sc (.int .i64 (((la.map encS).length : Nat) : Int)) : PX.PV) = (.sc (.int .i64 ((la.length : Nat) : Int)))), .q (SX.pv [(3, decide (400 < ((la.length : Nat) : Int)))] [(3, false)] = true → PX.AllOb [.q ((.sc (.int .i64 (((lb.map encS).length : Nat) : Int)) : PX.PV) = (.sc (.int .i64 ((lb.length : Nat) : Int))))])] [(3, decide (400 < ((la.length : Nat) : Int)))] [.au, .nm (.sc (.int .i64 ((la.length : Nat) : Int))), .au, .au, .au, .nm (.sc (.int .i64 ((lb.length : Nat) : Int))), .au, .pk] [5, 6, 24] [] hS hE ⟨PX.nm_len (by simp), fun hg => ⟨PX.nm_len (by simp), trivial⟩, trivial⟩ fun a w hS => ?_
  refine PX.cond_s (decide (400 < ((la.length : Nat) : Int)) || decide (400 < ((lb.length : Nat) : Int))) hS (by kernel_rfl) (fun h2 => ?_) (fun h2 => ?_)
  · skip
    simp at h2; omega
  · skip
    refine wp_skip ?_
    refine hK1 _ _ ?_
    refine PX.G [⟨7, [], (.own 1 1 (la.length + 1))⟩] [(1, .row 22 1 true (List.replicate (la.length + 1) [(.sc (.slice none 0 0))]))] 2 [.q ((.sc (.int .i64 (((la.map encS).length : Nat) : Int)) : PX.PV) = (.sc (.int .i64 ((la.length : Nat) : Int)))), .q ((.sc (.int .i64 (IntKind.i64.wrap (((la.length : Nat) : Int) + 1))) : PX.PV) = (.sc (.int .i64 ((la.length + 1 : Nat) : Int)))), .q ((((la.length + 1 : Nat) : Int) : Int) = ((la.length + 1 : Nat) : Int)), .q ((((la.length + 1 : Nat) : Int) : Int) = ((la.length + 1 : Nat) : Int)), .b (Nat.ble (la.length + 1) 1000000000)] [] [.au, .nm (.sc (.int .i64 ((la.length : Nat) : Int))), .nm (.sc (.int .i64 ((la.length + 1 : Nat) : Int))), .mk (la.length + 1), .au] [5, 6, 7] [1] hS hE ⟨PX.nm_len (by simp), PX.nm_int (by rw [IntWalk.i64_in _ (by omega)]; omega), rfl, rfl, by rw [Nat.ble_eq]; omega, trivial⟩ fun a w hS => ?_
    replace hS := PX.rerow (id := 1) ((OUT la lb (la.length + 1))) hS rfl (OUT_top la lb)
    refine PX.G [] [(1, .row 22 1 false ((OUT la lb (la.length + 1)).set la.length [(.own 2 1 (lb.length + 1))])), (2, .row 3 1 true (List.replicate (lb.length + 1) [(.sc (.int .i64 0))]))] 3 [.q ((.sc (.int .i64 (((la.map encS).length : Nat) : Int)) : PX.PV) = (.sc (.int .i64 ((la.length : Nat) : Int)))), .q ((.sc (.int .i64 (((lb.map encS).length : Nat) : Int)) : PX.PV) = (.sc (.int .i64 ((lb.length : Nat) : Int)))), .q ((.sc (.int .i64 (IntKind.i64.wrap (((lb.length : Nat) : Int) + 1))) : PX.PV) = (.sc (.int .i64 ((lb.length + 1 : Nat) : Int)))), .q ((((lb.length + 1 : Nat) : Int) : Int) = ((lb.length + 1 : Nat) : Int)), .q ((((lb.length + 1 : Nat) : Int) : Int) = ((lb.length + 1 : Nat) : Int)), .b (Nat.ble (lb.length + 1) 1000000000), .q (((la.length : Nat) : Int) = ((la.length : Nat) : Int)), .q (la.length < la.length + 1), .q ((OUT la lb (la.length + 1))[la.length]? = some nilR)] [] [.au, .au, .nm (.sc (.int .i64 ((la.length : Nat) : Int))), .au, .nm (.sc (.int .i64 ((lb.length : Nat) : Int))), .nm (.sc (.int .i64 ((lb.length + 1 : Nat) : Int))), .mk (lb.length + 1), .ix la.length [], .lr nilR] [5, 6, 7] [1, 2] hS hE ⟨PX.nm_len (by simp), PX.nm_len (by simp), PX.nm_int (by rw [IntWalk.i64_in _ (by omega)]; omega), rfl, rfl, by rw [Nat.ble_eq]; omega, rfl, by omega, OUT_nil (by omega), trivial⟩ fun a w hS => ?_
    obtain ⟨v1, hvv1, hS⟩ := hS.rawN (B := 1) (k := la.length) (i := 0) (hE.le (by decide)) rfl (set_get (by rw [OUT_len (by omega)]; omega)) rfl (fun u => by simp only [List.set_set]; exact pures_set OUT_pu rfl)
    replace hS := PX.rerow (id := 1) (((OUT la lb (la.length + 1)).set la.length [.sc v1])) hS rfl (by simp only [List.set_set]; rfl)
    replace hS := PX.canon [] [⟨5, [], (.imm 1 (la.map encS))⟩, ⟨6, [], (.imm 1 (lb.map encS))⟩, ⟨7, [], (.own 1 1 (la.length + 1))⟩] [(1, .row 22 1 true ((OUT la lb (la.length + 1)).set la.length [.sc v1])), (2, .row 3 1 true (List.replicate (lb.length + 1) [(.sc (.int .i64 0))])), (3, .ty v1 (.own 2 1 (lb.length + 1)))] 4 hS hE (by kernel_rfl) (by kernel_rfl) (by kernel_rfl)
    replace hS := PX.rerow (id := 2) ((encF la lb (la.length) (0))) hS rfl (by rw [encF_n]; rfl)
    replace hS := PX.fz 2 [] [(3, .ty v1 (.imm 1 (encF la lb (la.length) (0))))] [5, 6, 7] [1, 3] [.b (PX.lenIs (lb.length + 1) (encF la lb (la.length) (0)))] hS ⟨(by simp [PX.lenIs, encF_len]), trivial⟩
    replace hS := PX.Sat.unraw (B := 1) (g := 3) (k := la.length) (i := 0) hS (hE.le (by decide)) rfl rfl rfl (set_get (by rw [OUT_len (by omega)]; omega)) rfl
    replace hS := PX.rerow (id := 1) ((OUT la lb (la.length))) hS rfl (by simp only [List.set_set]; exact OUT_set (by omega))
    replace hS := PX.canon [] [⟨5, [], (.imm 1 (la.map encS))⟩, ⟨6, [], (.imm 1 (lb.map encS))⟩, ⟨7, [], (.own 1 1 (la.length + 1))⟩] [(1, .row 22 1 true (OUT la lb (la.length))), (3, .ty v1 (.imm 1 (encF la lb (la.length) (0))))] 4 hS hE (by kernel_rfl) (by kernel_rfl) (by kernel_rfl)
    refine wp_seq_k fun K3 hK3 => ?_
    refine PX.G [⟨8, [], (.sc (.int .i64 (((la.length : Nat) : Int) - 1 - ((0 : Nat) : Int))))⟩] [] 4 [.q ((.sc (.int .i64 (((la.map encS).length : Nat) : Int)) : PX.PV) = (.sc (.int .i64 ((la.length : Nat) : Int)))), .q ((.sc (.int .i64 (IntKind.i64.wrap (((la.length : Nat) : Int) - 1))) : PX.PV) = (.sc (.int .i64 (((la.length : Nat) : Int) - 1 - ((0 : Nat) : Int)))))] [] [.au, .nm (.sc (.int .i64 ((la.length : Nat) : Int))), .nm (.sc (.int .i64 (((la.length : Nat) : Int) - 1 - ((0 : Nat) : Int)))), .au] [5, 6, 7, 8] [1] hS hE ⟨PX.nm_len (by simp), PX.nm_int (by rw [IntWalk.i64_in _ (by omega)]; omega), trivial⟩ fun a w hS => ?_
    refine wp_block ?_
    replace hS := PX.rerow (id := 1) ((OUT la lb (la.length - (0)))) hS rfl (rfl)
    refine wp_loop_ghost (fun m4 a' w' => ∃ k : Nat, m4 = la.length - k ∧ k ≤ la.length ∧ True ∧ PX.Sat E 189 [⟨5, [], (.imm 1 (la.map encS))⟩, ⟨6, [], (.imm 1 (lb.map encS))⟩, ⟨7, [], (.own 1 1 (la.length + 1))⟩, ⟨8, [], (.sc (.int .i64 (((la.length : Nat) : Int) - 1 - ((k : Nat) : Int))))⟩] [(1, .row 22 1 true (OUT la lb (la.length - (k))))] 2 a' w') (la.length - 0) ⟨0, rfl, Nat.zero_le _, trivial, (PX.canon [] _ _ 2 hS hE (by kernel_rfl) (by kernel_rfl) (by kernel_rfl))⟩ ?_
    clear hS; rintro m4 a w ⟨k, hm4, hlek, hIk, hS⟩
    refine wp_seq_k fun K5 hK5 => ?_
    refine PX.G [⟨41, [], (.sc (.bool (decide (0 ≤ (((la.length : Nat) : Int) - 1 - ((k : Nat) : Int))))))⟩] [] 2 [] [] [.au, .au] [5, 6, 7, 8, 41] [1] hS hE trivial fun a w hS => ?_
    refine PX.cond_s (decide (0 ≤ (((la.length : Nat) : Int) - 1 - ((k : Nat) : Int)))) hS (by kernel_rfl) (fun h6 => ?_) (fun h6 => ?_)
    · skip
      refine wp_skip ?_
      refine hK5 _ _ ?_
      refine wp_seq_k fun K7 hK7 => ?_
      refine wp_block ?_
      obtain ⟨i, hik⟩ : ∃ i, la.length = i + 1 + k := ⟨la.length - 1 - k, by have := of_decide_eq_true h6; omega⟩
      replace hS := PX.sl [5, 6, 7, 8, 41] (PX.reslot (t := 8) (.sc (.int .i64 ((i : Nat) : Int))) hS rfl (fun _ _ _ _ h => (show ((.sc (.int .i64 (((la.length : Nat) : Int) - 1 - ((k : Nat) : Int)))) : PX.PV) = (.sc (.int .i64 ((i : Nat) : Int))) from by rw [show (((la.length : Nat) : Int) - 1 - ((k : Nat) : Int)) = ((i : Nat) : Int) from by omega]) ▸ h))
      replace hS := PX.rerow (id := 1) ((OUT la lb (i + 1))) hS rfl (by rw [show la.length - k = i + 1 by omega])
      obtain ⟨x, hx⟩ := get_of_lt (show i < la.length by omega)
      refine PX.G [] [(1, .row 22 1 false ((OUT la lb (i + 1)).set i [(.own 2 1 (lb.length + 1))])), (2, .row 3 1 true (List.replicate (lb.length + 1) [(.sc (.int .i64 0))]))] 3 [.q ((.sc (.int .i64 (((lb.map encS).length : Nat) : Int)) : PX.PV) = (.sc (.int .i64 ((lb.length : Nat) : Int)))), .q ((.sc (.int .i64 (IntKind.i64.wrap (((lb.length : Nat) : Int) + 1))) : PX.PV) = (.sc (.int .i64 ((lb.length + 1 : Nat) : Int)))), .q ((((lb.length + 1 : Nat) : Int) : Int) = ((lb.length + 1 : Nat) : Int)), .q ((((lb.length + 1 : Nat) : Int) : Int) = ((lb.length + 1 : Nat) : Int)), .b (Nat.ble (lb.length + 1) 1000000000), .q (((i : Nat) : Int) = ((i : Nat) : Int)), .q (i < la.length + 1), .q ((OUT la lb (i + 1))[i]? = some nilR)] [] [.au, .au, .au, .nm (.sc (.int .i64 ((lb.length : Nat) : Int))), .nm (.sc (.int .i64 ((lb.length + 1 : Nat) : Int))), .mk (lb.length + 1), .ix i [], .lr nilR] [5, 6, 7, 8] [1, 2] hS hE ⟨PX.nm_len (by simp), PX.nm_int (by rw [IntWalk.i64_in _ (by omega)]; omega), rfl, rfl, by rw [Nat.ble_eq]; omega, rfl, by omega, OUT_nil (by omega), trivial⟩ fun a w hS => ?_
      obtain ⟨v2, hvv2, hS⟩ := hS.rawN (B := 1) (k := i) (i := 0) (hE.le (by decide)) rfl (set_get (by rw [OUT_len (by omega)]; omega)) rfl (fun u => by simp only [List.set_set]; exact pures_set OUT_pu rfl)
      replace hS := PX.rerow (id := 1) (((OUT la lb (i + 1)).set i [.sc v2])) hS rfl (by simp only [List.set_set]; rfl)
      replace hS := PX.canon [] [⟨5, [], (.imm 1 (la.map encS))⟩, ⟨6, [], (.imm 1 (lb.map encS))⟩, ⟨7, [], (.own 1 1 (la.length + 1))⟩, ⟨8, [], (.sc (.int .i64 ((i : Nat) : Int)))⟩] [(1, .row 22 1 true ((OUT la lb (i + 1)).set i [.sc v2])), (2, .row 3 1 true (List.replicate (lb.length + 1) [(.sc (.int .i64 0))])), (3, .ty v2 (.own 2 1 (lb.length + 1)))] 4 hS hE (by kernel_rfl) (by kernel_rfl) (by kernel_rfl)
      refine PX.G [⟨9, [], (.sc (.int .i64 (((lb.length : Nat) : Int) - 1 - ((0 : Nat) : Int))))⟩] [] 4 [.q ((.sc (.int .i64 (((lb.map encS).length : Nat) : Int)) : PX.PV) = (.sc (.int .i64 ((lb.length : Nat) : Int)))), .q ((.sc (.int .i64 (IntKind.i64.wrap (((lb.length : Nat) : Int) - 1))) : PX.PV) = (.sc (.int .i64 (((lb.length : Nat) : Int) - 1 - ((0 : Nat) : Int)))))] [] [.au, .nm (.sc (.int .i64 ((lb.length : Nat) : Int))), .nm (.sc (.int .i64 (((lb.length : Nat) : Int) - 1 - ((0 : Nat) : Int)))), .au] [5, 6, 7, 8, 9] [1, 2, 3] hS hE ⟨PX.nm_len (by simp), PX.nm_int (by rw [IntWalk.i64_in _ (by omega)]; omega), trivial⟩ fun a w hS => ?_
      refine wp_block ?_
      replace hS := PX.rerow (id := 2) ((encF la lb (i) (lb.length - (0)))) hS rfl (by rw [Nat.sub_zero, encF_z]; rfl)
      refine wp_loop_ghost (fun m8 a' w' => ∃ q : Nat, m8 = lb.length - q ∧ q ≤ lb.length ∧ True ∧ PX.Sat E 189 [⟨5, [], (.imm 1 (la.map encS))⟩, ⟨6, [], (.imm 1 (lb.map encS))⟩, ⟨7, [], (.own 1 1 (la.length + 1))⟩, ⟨8, [], (.sc (.int .i64 ((i : Nat) : Int)))⟩, ⟨9, [], (.sc (.int .i64 (((lb.length : Nat) : Int) - 1 - ((q : Nat) : Int))))⟩] [(1, .row 22 1 true ((OUT la lb (i + 1)).set i [.sc v2])), (2, .row 3 1 true (encF la lb (i) (lb.length - (q)))), (3, .ty v2 (.own 2 1 (lb.length + 1)))] 4 a' w') (lb.length - 0) ⟨0, rfl, Nat.zero_le _, trivial, (PX.canon [] _ _ 4 hS hE (by kernel_rfl) (by kernel_rfl) (by kernel_rfl))⟩ ?_
      clear hS; rintro m8 a w ⟨q, hm8, hleq, hIq, hS⟩
      refine wp_seq_k fun K9 hK9 => ?_
      refine PX.G [⟨55, [], (.sc (.bool (decide (0 ≤ (((lb.length : Nat) : Int) - 1 - ((q : Nat) : Int))))))⟩] [] 4 [] [] [.au, .au] [5, 6, 7, 8, 9, 55] [1, 2, 3] hS hE trivial fun a w hS => ?_
      refine PX.cond_s (decide (0 ≤ (((lb.length : Nat) : Int) - 1 - ((q : Nat) : Int)))) hS (by kernel_rfl) (fun h10 => ?_) (fun h10 => ?_)
      · skip
        refine wp_skip ?_
        refine hK9 _ _ ?_
        refine wp_seq_k fun K11 hK11 => ?_
        refine wp_block ?_
        obtain ⟨j, hjq⟩ : ∃ j, lb.length = j + 1 + q := ⟨lb.length - 1 - q, by have := of_decide_eq_true h10; omega⟩
        replace hS := PX.sl [5, 6, 7, 8, 9, 55] (PX.reslot (t := 9) (.sc (.int .i64 ((j : Nat) : Int))) hS rfl (fun _ _ _ _ h => (show ((.sc (.int .i64 (((lb.length : Nat) : Int) - 1 - ((q : Nat) : Int)))) : PX.PV) = (.sc (.int .i64 ((j : Nat) : Int))) from by rw [show (((lb.length : Nat) : Int) - 1 - ((q : Nat) : Int)) = ((j : Nat) : Int) from by omega]) ▸ h))
        replace hS := PX.rerow (id := 2) ((encF la lb (i) (j + 1))) hS rfl (by rw [show lb.length - q = j + 1 by omega])
        obtain ⟨y, hy⟩ := get_of_lt (show j < lb.length by omega)
        have ht1 := tabD_le la lb (i + 1) (j + 1)
        refine PX.D [] [(2, .row 3 1 true ((encF la lb (i) (j + 1)).set j [(.sc (.int .i64 (if (((tabD la lb i (j + 1)) : Nat) : Int) > (((tabD la lb (i + 1) j) : Nat) : Int) then (((tabD la lb i (j + 1)) : Nat) : Int) else (((tabD la lb (i + 1) j) : Nat) : Int))))]))] 4 [.q (((i : Nat) : Int) = ((i : Nat) : Int)), .q (i < la.length + 1), .q (((OUT la lb (i + 1)).set i [.sc v2])[i]? = some ([.sc v2])), .q ((v2 : Value) = v2), .q ((.sc (.int .i64 (IntKind.i64.wrap (((i : Nat) : Int) + 1))) : PX.PV) = (.sc (.int .i64 ((i + 1 : Nat) : Int)))), .q (((i + 1 : Nat) : Int) = ((i + 1 : Nat) : Int)), .q (i + 1 < la.length + 1), .q (((OUT la lb (i + 1)).set i [.sc v2])[i + 1]? = some ([.imm 1 (encF la lb (i + 1) (0))])), .q (((j : Nat) : Int) = ((j : Nat) : Int)), .q ((encF la lb (i + 1) (0))[j]? = some (encN (tabD la lb (i + 1) j))), .q (((i : Nat) : Int) = ((i : Nat) : Int)), .q (i < la.length + 1), .q (((OUT la lb (i + 1)).set i [.sc v2])[i]? = some ([.sc v2])), .q ((v2 : Value) = v2), .q ((.sc (.int .i64 (IntKind.i64.wrap (((j : Nat) : Int) + 1))) : PX.PV) = (.sc (.int .i64 ((j + 1 : Nat) : Int)))), .q (((j + 1 : Nat) : Int) = ((j + 1 : Nat) : Int)), .q (j + 1 < lb.length + 1), .q ((encF la lb (i) (j + 1))[j + 1]? = some (encN (tabD la lb i (j + 1)))), .q (((j : Nat) : Int) = ((j : Nat) : Int)), .q (j < lb.length + 1), .q ((encF la lb (i) (j + 1))[j]? = some (encN 0))] [] [.au, .au, .ix i [], .rt ([.sc v2]) [(0, 3)], .au, .au, .au, .nm (.sc (.int .i64 ((i + 1 : Nat) : Int))), .ix (i + 1) [], .lr ([.imm 1 (encF la lb (i + 1) (0))]), .au, .ix j (encN (tabD la lb (i + 1) j)), .au, .au, .au, .ix i [], .rt ([.sc v2]) [(0, 3)], .au, .nm (.sc (.int .i64 ((j + 1 : Nat) : Int))), .ix (j + 1) [], .lr (encN (tabD la lb i (j + 1))), .au, .ix j [], .lr (encN 0)] [5, 6, 7, 8, 9] [1, 2, 3] hS mixed hE ⟨rfl, by omega, set_get (by rw [OUT_len (by omega)]; omega), rfl, PX.nm_int (by rw [IntWalk.i64_in _ (by omega)]; omega), rfl, by omega, set_get_ne (by omega) (OUT_at (by omega) (by omega)), rfl, encF_at (by omega) (by omega), rfl, by omega, set_get (by rw [OUT_len (by omega)]; omega), rfl, PX.nm_int (by rw [IntWalk.i64_in _ (by omega)]; omega), rfl, by omega, encF_at (by omega) (by omega), rfl, by omega, encF_0 (by omega) (by omega), trivial⟩ fun a w hS => ?_
        replace hS := PX.rerow (id := 2) (((encF la lb (i) (j + 1)).set j (encN (max (tabD la lb (i + 1) j) (tabD la lb i (j + 1)))))) hS rfl (by rw [max_nat]; rfl)
        refine PX.D [⟨89, [], (.sc (.bool (x == y)))⟩] [] 4 [.q (((i : Nat) : Int) = ((i : Nat) : Int)), .q ((la.map encS)[i]? = some (encS x)), .q (((j : Nat) : Int) = ((j : Nat) : Int)), .q ((lb.map encS)[j]? = some (encS y)), .q (PX.BinIs Tryz.prog .eql 9 (.tmp 84) (.tmp 88) (PX.sV x) (PX.sV y) (.bool (x == y)))] [] [.au, .au, .ix i (encS x), .au, .au, .au, .ix j (encS y), .au, .bs (.bool (x == y))] [5, 6, 7, 8, 9, 89] [1, 2, 3] hS mixed hE ⟨rfl, PX.map_get hx, rfl, PX.map_get hy, PX.str_eq _ _, trivial⟩ fun a w hS => ?_
        refine PX.cond_s (x == y) hS (by kernel_rfl) (fun h12 => ?_) (fun h12 => ?_)
        · skip
          refine PX.D0 [] [(2, .row 3 1 true (((encF la lb (i) (j + 1)).set j (encN (max (tabD la lb (i + 1) j) (tabD la lb i (j + 1))))).set j [(.sc (.int .i64 (if (((tabD la lb (i + 1) (j + 1)) + 1 : Nat) : Int) > (((max (tabD la lb (i + 1) j) (tabD la lb i (j + 1))) : Nat) : Int) then (((tabD la lb (i + 1) (j + 1)) + 1 : Nat) : Int) else (((max (tabD la lb (i + 1) j) (tabD la lb i (j + 1))) : Nat) : Int))))]))] 4 [.q (((i : Nat) : Int) = ((i : Nat) : Int)), .q (i < la.length + 1), .q (((OUT la lb (i + 1)).set i [.sc v2])[i]? = some ([.sc v2])), .q ((v2 : Value) = v2), .q (((i : Nat) : Int) = ((i : Nat) : Int)), .q (i < la.length + 1), .q (((OUT la lb (i + 1)).set i [.sc v2])[i]? = some ([.sc v2])), .q ((v2 : Value) = v2), .q (((j : Nat) : Int) = ((j : Nat) : Int)), .q (j < lb.length + 1), .q (((encF la lb (i) (j + 1)).set j (encN (max (tabD la lb (i + 1) j) (tabD la lb i (j + 1)))))[j]? = some (encN (max (tabD la lb (i + 1) j) (tabD la lb i (j + 1))))), .q ((.sc (.int .i64 (IntKind.i64.wrap (((i : Nat) : Int) + 1))) : PX.PV) = (.sc (.int .i64 ((i + 1 : Nat) : Int)))), .q (((i + 1 : Nat) : Int) = ((i + 1 : Nat) : Int)), .q (i + 1 < la.length + 1), .q (((OUT la lb (i + 1)).set i [.sc v2])[i + 1]? = some ([.imm 1 (encF la lb (i + 1) (0))])), .q ((.sc (.int .i64 (IntKind.i64.wrap (((j : Nat) : Int) + 1))) : PX.PV) = (.sc (.int .i64 ((j + 1 : Nat) : Int)))), .q (((j + 1 : Nat) : Int) = ((j + 1 : Nat) : Int)), .q ((encF la lb (i + 1) (0))[j + 1]? = some (encN (tabD la lb (i + 1) (j + 1)))), .q ((.sc (.int .i64 (IntKind.i64.wrap ((((tabD la lb (i + 1) (j + 1)) : Nat) : Int) + 1))) : PX.PV) = (.sc (.int .i64 (((tabD la lb (i + 1) (j + 1)) + 1 : Nat) : Int)))), .q (((j : Nat) : Int) = ((j : Nat) : Int)), .q (j < lb.length + 1), .q (((encF la lb (i) (j + 1)).set j (encN (max (tabD la lb (i + 1) j) (tabD la lb i (j + 1)))))[j]? = some (encN (max (tabD la lb (i + 1) j) (tabD la lb i (j + 1)))))] [] [.au, .au, .ix i [], .rt ([.sc v2]) [(0, 3)], .au, .au, .au, .ix i [], .rt ([.sc v2]) [(0, 3)], .au, .ix j [], .lr (encN (max (tabD la lb (i + 1) j) (tabD la lb i (j + 1)))), .au, .au, .nm (.sc (.int .i64 ((i + 1 : Nat) : Int))), .ix (i + 1) [], .lr ([.imm 1 (encF la lb (i + 1) (0))]), .au, .nm (.sc (.int .i64 ((j + 1 : Nat) : Int))), .ix (j + 1) (encN (tabD la lb (i + 1) (j + 1))), .au, .nm (.sc (.int .i64 (((tabD la lb (i + 1) (j + 1)) + 1 : Nat) : Int))), .au, .ix j [], .lr (encN (max (tabD la lb (i + 1) j) (tabD la lb i (j + 1))))] [5, 6, 7, 8, 9] [1, 2, 3] hS mixed hE ⟨rfl, by omega, set_get (by rw [OUT_len (by omega)]; omega), rfl, rfl, by omega, set_get (by rw [OUT_len (by omega)]; omega), rfl, rfl, by omega, set_get (by rw [encF_len]; omega), PX.nm_int (by rw [IntWalk.i64_in _ (by omega)]; omega), rfl, by omega, set_get_ne (by omega) (OUT_at (by omega) (by omega)), PX.nm_int (by rw [IntWalk.i64_in _ (by omega)]; omega), rfl, encF_at (by omega) (by omega), PX.nm_int (by rw [IntWalk.i64_in _ (by omega)]; omega), rfl, by omega, set_get (by rw [encF_len]; omega), trivial⟩ fun a w hS => ?_
          refine hK11 _ _ ?_
          refine PX.G0 [⟨9, [], (.sc (.int .i64 (((lb.length : Nat) : Int) - 1 - ((q + 1 : Nat) : Int))))⟩] [] 4 [.q ((.sc (.int .i64 (IntKind.i64.wrap (((j : Nat) : Int) - 1))) : PX.PV) = (.sc (.int .i64 (((lb.length : Nat) : Int) - 1 - ((q + 1 : Nat) : Int)))))] [] [.au, .nm (.sc (.int .i64 (((lb.length : Nat) : Int) - 1 - ((q + 1 : Nat) : Int)))), .au] [5, 6, 7, 8, 9] [1, 2, 3] hS hE ⟨PX.nm_int (by rw [IntWalk.i64_in _ (by omega)]; omega), trivial⟩ fun a w hS => ?_
          replace hS := PX.rerow (id := 2) ((encF la lb (i) (lb.length - (q + 1)))) hS rfl (by have hxy : x = y := (by simpa using h12); subst hxy; rw [max_nat, List.set_set, show lb.length - (q + 1) = j by omega, ← encF_set (a := la) (b := lb) (i := i) (j := j) (by omega), tabD_eq' hx hy]; rfl)
          exact ⟨lb.length - (q + 1), by omega, q + 1, rfl, by omega, trivial, (PX.canon [] _ _ 4 hS hE (by kernel_rfl) (by kernel_rfl) (by kernel_rfl))⟩
        · skip
          refine wp_skip ?_
          refine hK11 _ _ ?_
          refine PX.G0 [⟨9, [], (.sc (.int .i64 (((lb.length : Nat) : Int) - 1 - ((q + 1 : Nat) : Int))))⟩] [] 4 [.q ((.sc (.int .i64 (IntKind.i64.wrap (((j : Nat) : Int) - 1))) : PX.PV) = (.sc (.int .i64 (((lb.length : Nat) : Int) - 1 - ((q + 1 : Nat) : Int)))))] [] [.au, .nm (.sc (.int .i64 (((lb.length : Nat) : Int) - 1 - ((q + 1 : Nat) : Int)))), .au] [5, 6, 7, 8, 9] [1, 2, 3] hS hE ⟨PX.nm_int (by rw [IntWalk.i64_in _ (by omega)]; omega), trivial⟩ fun a w hS => ?_
          replace hS := PX.rerow (id := 2) ((encF la lb (i) (lb.length - (q + 1)))) hS rfl (by rw [show lb.length - (q + 1) = j by omega, ← encF_set (a := la) (b := lb) (i := i) (j := j) (by omega), tabD_ne hx hy (by simpa using h12)])
          exact ⟨lb.length - (q + 1), by omega, q + 1, rfl, by omega, trivial, (PX.canon [] _ _ 4 hS hE (by kernel_rfl) (by kernel_rfl) (by kernel_rfl))⟩
      · skip
        refine wp_exit ?_
        refine hK7 _ _ ?_
        have hqe : lb.length - q = 0 := by have := of_decide_eq_false h10; omega
        replace hS := PX.rerow (id := 2) ((encF la lb (i) (0))) hS rfl (by rw [hqe])
        replace hS := PX.fz 2 [] [(3, .ty v2 (.imm 1 (encF la lb (i) (0))))] [5, 6, 7, 8, 9, 55] [1, 3] [.b (PX.lenIs (lb.length + 1) (encF la lb (i) (0)))] hS ⟨(by simp [PX.lenIs, encF_len]), trivial⟩
        replace hS := PX.Sat.unraw (B := 1) (g := 3) (k := i) (i := 0) hS (hE.le (by decide)) rfl rfl rfl (set_get (by rw [OUT_len (by omega)]; omega)) rfl
        replace hS := PX.rerow (id := 1) ((OUT la lb (i))) hS rfl (by simp only [List.set_set]; exact OUT_set (by omega))
        replace hS := PX.canon [] [⟨5, [], (.imm 1 (la.map encS))⟩, ⟨6, [], (.imm 1 (lb.map encS))⟩, ⟨7, [], (.own 1 1 (la.length + 1))⟩, ⟨8, [], (.sc (.int .i64 ((i : Nat) : Int)))⟩, ⟨9, [], (.sc (.int .i64 (((lb.length : Nat) : Int) - 1 - ((q : Nat) : Int))))⟩, ⟨55, [], (.sc (.bool (decide (0 ≤ (((lb.length : Nat) : Int) - 1 - ((q : Nat) : Int))))))⟩] [(1, .row 22 1 true (OUT la lb (i))), (3, .ty v2 (.imm 1 (encF la lb (i) (0))))] 4 hS hE (by kernel_rfl) (by kernel_rfl) (by kernel_rfl)
        refine PX.G0 [⟨8, [], (.sc (.int .i64 (((la.length : Nat) : Int) - 1 - ((k + 1 : Nat) : Int))))⟩] [] 4 [.q ((.sc (.int .i64 (IntKind.i64.wrap (((i : Nat) : Int) - 1))) : PX.PV) = (.sc (.int .i64 (((la.length : Nat) : Int) - 1 - ((k + 1 : Nat) : Int)))))] [] [.au, .nm (.sc (.int .i64 (((la.length : Nat) : Int) - 1 - ((k + 1 : Nat) : Int)))), .au] [5, 6, 7, 8] [1] hS hE ⟨PX.nm_int (by rw [IntWalk.i64_in _ (by omega)]; omega), trivial⟩ fun a w hS => ?_
        replace hS := PX.rerow (id := 1) ((OUT la lb (la.length - (k + 1)))) hS rfl (by rw [show la.length - (k + 1) = i by omega])
        exact ⟨la.length - (k + 1), by omega, k + 1, rfl, by omega, trivial, (PX.canon [] _ _ 2 hS hE (by kernel_rfl) (by kernel_rfl) (by kernel_rfl))⟩
    · skip
      refine wp_exit ?_
      refine hK3 _ _ ?_
      have hke : la.length - k = 0 := by have := of_decide_eq_false h6; omega
      replace hS := PX.rerow (id := 1) ((encG la lb 0)) hS rfl (by rw [hke]; rfl)
      replace hS := PX.fz 1 [⟨7, [], (.imm 1 (encG la lb 0))⟩] [] [5, 6, 7, 8, 41] [] [.b (PX.lenIs (la.length + 1) (encG la lb 0))] hS ⟨(by simp [PX.lenIs, encG_len]), trivial⟩
      clear hke
      refine PX.G [⟨10, [], (.own 2 1 la.length)⟩] [(2, .row 3 1 true (List.replicate la.length [(.sc (.int .i64 0))]))] 3 [.q ((.sc (.int .i64 (((la.map encS).length : Nat) : Int)) : PX.PV) = (.sc (.int .i64 ((la.length : Nat) : Int)))), .q ((((la.length : Nat) : Int) : Int) = ((la.length : Nat) : Int)), .q ((((la.length : Nat) : Int) : Int) = ((la.length : Nat) : Int)), .b (Nat.ble la.length 1000000000)] [] [.au, .nm (.sc (.int .i64 ((la.length : Nat) : Int))), .mk la.length, .au] [5, 6, 7, 10] [2] hS hE ⟨PX.nm_len (by simp), rfl, rfl, by rw [Nat.ble_eq]; omega, trivial⟩ fun a w hS => ?_
      refine PX.G [⟨11, [], (.sc (.int .i64 0))⟩, ⟨12, [], (.sc (.int .i64 0))⟩] [] 3 [] [] [.au, .au] [5, 6, 7, 10, 11, 12] [2] hS hE trivial fun a w hS => ?_
      refine wp_seq_k fun K13 hK13 => ?_
      refine wp_block ?_
      replace hS := PX.rerow (id := 2) ((encM la.length ([]) (0))) hS rfl (by unfold encM zeroR; rw [Nat.sub_zero]; rfl)
      refine wp_loop_ghost (fun m14 a' w' => ∃ (i j : Nat) (p : List Nat), m14 = (la.length - i) + (lb.length - j) ∧ (i ≤ la.length ∧ j ≤ lb.length ∧ p.length = i ∧ p ++ mvT la lb i j = moveD la lb) ∧ PX.Sat E 189 [⟨5, [], (.imm 1 (la.map encS))⟩, ⟨6, [], (.imm 1 (lb.map encS))⟩, ⟨7, [], (.imm 1 (encG la lb 0))⟩, ⟨10, [], (.own 2 1 la.length)⟩, ⟨11, [], (.sc (.int .i64 ((i : Nat) : Int)))⟩, ⟨12, [], (.sc (.int .i64 ((j : Nat) : Int)))⟩] [(2, .row 3 1 true (encM la.length p (i)))] 3 a' w') ((la.length - 0) + (lb.length - 0)) ⟨0, 0, [], rfl, ⟨Nat.zero_le _, Nat.zero_le _, rfl, rfl⟩, (PX.canon [] _ _ 3 hS hE (by kernel_rfl) (by kernel_rfl) (by kernel_rfl))⟩ ?_
      clear hS; rintro m14 a w ⟨i, j, p, hm14, hInv, hS⟩
      refine wp_seq_k fun K15 hK15 => ?_
      refine PX.G [⟨126, [], (.sc (.bool (decide (((i : Nat) : Int) < ((la.length : Nat) : Int)) && decide (((j : Nat) : Int) < ((lb.length : Nat) : Int)))))⟩] [] 3 [.q ((.sc (.int .i64 (((la.map encS).length : Nat) : Int)) : PX.PV) = (.sc (.int .i64 ((la.length : Nat) : Int)))), .q (SX.pv [(4, decide (((i : Nat) : Int) < ((la.length : Nat) : Int)))] [(4, true)] = true → PX.AllOb [.q ((.sc (.int .i64 (((lb.map encS).length : Nat) : Int)) : PX.PV) = (.sc (.int .i64 ((lb.length : Nat) : Int))))])] [(4, decide (((i : Nat) : Int) < ((la.length : Nat) : Int)))] [.au, .au, .nm (.sc (.int .i64 ((la.length : Nat) : Int))), .au, .au, .au, .au, .nm (.sc (.int .i64 ((lb.length : Nat) : Int))), .au, .pk] [5, 6, 7, 10, 11, 12, 126] [2] hS hE ⟨PX.nm_len (by simp), fun hg => ⟨PX.nm_len (by simp), trivial⟩, trivial⟩ fun a w hS => ?_
      refine PX.cond_s (decide (((i : Nat) : Int) < ((la.length : Nat) : Int)) && decide (((j : Nat) : Int) < ((lb.length : Nat) : Int))) hS (by kernel_rfl) (fun h16 => ?_) (fun h16 => ?_)
      · skip
        refine wp_skip ?_
        refine hK15 _ _ ?_
        refine wp_block ?_
        refine wp_block ?_
        have hij : i < la.length ∧ j < lb.length := by simpa using h16
        obtain ⟨hi1, hj1, hpl, hmv⟩ := hInv
        obtain ⟨x, hx⟩ := get_of_lt hij.1; obtain ⟨y, hy⟩ := get_of_lt hij.2
        have ht1 := tabD_le la lb (i + 1) (j + 1)
        refine PX.D [⟨129, [], (.sc (.bool ((x == y) && ((((tabD la lb i j) : Nat) : Int) == (((tabD la lb (i + 1) (j + 1)) + 1 : Nat) : Int)))))⟩] [] 3 [.q (((i : Nat) : Int) = ((i : Nat) : Int)), .q ((la.map encS)[i]? = some (encS x)), .q (((j : Nat) : Int) = ((j : Nat) : Int)), .q ((lb.map encS)[j]? = some (encS y)), .q (PX.BinIs Tryz.prog .eql 9 (.tmp 133) (.tmp 137) (PX.sV x) (PX.sV y) (.bool (x == y))), .q (SX.pv [(9, (x == y))] [(9, true)] = true → PX.AllOb [.q (((i : Nat) : Int) = ((i : Nat) : Int)), .q ((encG la lb 0)[i]? = some ([.imm 1 (encF la lb (i) (0))]))]), .q (SX.pv [(9, (x == y))] [(9, true)] = true → PX.AllOb [.q (((j : Nat) : Int) = ((j : Nat) : Int)), .q ((encF la lb (i) (0))[j]? = some (encN (tabD la lb i j)))]), .q (SX.pv [(9, (x == y))] [(9, true)] = true → PX.AllOb [.q ((.sc (.int .i64 (IntKind.i64.wrap (((i : Nat) : Int) + 1))) : PX.PV) = (.sc (.int .i64 ((i + 1 : Nat) : Int))))]), .q (SX.pv [(9, (x == y))] [(9, true)] = true → PX.AllOb [.q (((i + 1 : Nat) : Int) = ((i + 1 : Nat) : Int)), .q ((encG la lb 0)[i + 1]? = some ([.imm 1 (encF la lb (i + 1) (0))]))]), .q (SX.pv [(9, (x == y))] [(9, true)] = true → PX.AllOb [.q ((.sc (.int .i64 (IntKind.i64.wrap (((j : Nat) : Int) + 1))) : PX.PV) = (.sc (.int .i64 ((j + 1 : Nat) : Int))))]), .q (SX.pv [(9, (x == y))] [(9, true)] = true → PX.AllOb [.q (((j + 1 : Nat) : Int) = ((j + 1 : Nat) : Int)), .q ((encF la lb (i + 1) (0))[j + 1]? = some (encN (tabD la lb (i + 1) (j + 1))))]), .q (SX.pv [(9, (x == y))] [(9, true)] = true → PX.AllOb [.q ((.sc (.int .i64 (IntKind.i64.wrap ((((tabD la lb (i + 1) (j + 1)) : Nat) : Int) + 1))) : PX.PV) = (.sc (.int .i64 (((tabD la lb (i + 1) (j + 1)) + 1 : Nat) : Int))))])] [(9, (x == y))] [.au, .au, .ix i (encS x), .au, .au, .au, .ix j (encS y), .au, .bs (.bool (x == y)), .au, .au, .au, .ix i ([.imm 1 (encF la lb (i) (0))]), .au, .au, .ix j (encN (tabD la lb i j)), .au, .au, .au, .nm (.sc (.int .i64 ((i + 1 : Nat) : Int))), .ix (i + 1) ([.imm 1 (encF la lb (i + 1) (0))]), .au, .au, .nm (.sc (.int .i64 ((j + 1 : Nat) : Int))), .ix (j + 1) (encN (tabD la lb (i + 1) (j + 1))), .au, .nm (.sc (.int .i64 (((tabD la lb (i + 1) (j + 1)) + 1 : Nat) : Int))), .au, .pk, .au] [5, 6, 7, 10, 11, 12, 129] [2] hS mixed hE ⟨rfl, PX.map_get hx, rfl, PX.map_get hy, PX.str_eq _ _, fun hg => ⟨rfl, encG_at0 (by omega), trivial⟩, fun hg => ⟨rfl, encF_at (by omega) (by omega), trivial⟩, fun hg => ⟨PX.nm_int (by rw [IntWalk.i64_in _ (by omega)]; omega), trivial⟩, fun hg => ⟨rfl, encG_at0 (by omega), trivial⟩, fun hg => ⟨PX.nm_int (by rw [IntWalk.i64_in _ (by omega)]; omega), trivial⟩, fun hg => ⟨rfl, encF_at (by omega) (by omega), trivial⟩, fun hg => ⟨PX.nm_int (by rw [IntWalk.i64_in _ (by omega)]; omega), trivial⟩, trivial⟩ fun a w hS => ?_
        refine PX.cond_s ((x == y) && ((((tabD la lb i j) : Nat) : Int) == (((tabD la lb (i + 1) (j + 1)) + 1 : Nat) : Int))) hS (by kernel_rfl) (fun h17 => ?_) (fun h17 => ?_)
        · skip
          have hxy : x = y := by simp at h17; exact h17.1
          have hy2 : lb[j]? = some x := hxy ▸ hy
          refine PX.G [] [(2, .row 3 1 true ((encM la.length p (i)).set i [(.sc (.int .i64 ((j + 1 : Nat) : Int)))]))] 3 [.q ((.sc (.int .i64 (IntKind.i64.wrap (((j : Nat) : Int) + 1))) : PX.PV) = (.sc (.int .i64 ((j + 1 : Nat) : Int)))), .q (((i : Nat) : Int) = ((i : Nat) : Int)), .q (i < la.length), .q ((encM la.length p (i))[i]? = some (encN 0))] [] [.au, .au, .au, .nm (.sc (.int .i64 ((j + 1 : Nat) : Int))), .ix i [], .lr (encN 0)] [5, 6, 7, 10, 11, 12] [2] hS hE ⟨PX.nm_int (by rw [IntWalk.i64_in _ (by omega)]; omega), rfl, by omega, encM_at hpl hij.1, trivial⟩ fun a w hS => ?_
          refine PX.G [⟨11, [], (.sc (.int .i64 ((i + 1 : Nat) : Int)))⟩] [] 3 [.q ((.sc (.int .i64 (IntKind.i64.wrap (((i : Nat) : Int) + 1))) : PX.PV) = (.sc (.int .i64 ((i + 1 : Nat) : Int))))] [] [.au, .nm (.sc (.int .i64 ((i + 1 : Nat) : Int))), .au] [5, 6, 7, 10, 11, 12] [2] hS hE ⟨PX.nm_int (by rw [IntWalk.i64_in _ (by omega)]; omega), trivial⟩ fun a w hS => ?_
          refine PX.G0 [⟨12, [], (.sc (.int .i64 ((j + 1 : Nat) : Int)))⟩] [] 3 [.q ((.sc (.int .i64 (IntKind.i64.wrap (((j : Nat) : Int) + 1))) : PX.PV) = (.sc (.int .i64 ((j + 1 : Nat) : Int))))] [] [.au, .nm (.sc (.int .i64 ((j + 1 : Nat) : Int))), .au] [5, 6, 7, 10, 11, 12] [2] hS hE ⟨PX.nm_int (by rw [IntWalk.i64_in _ (by omega)]; omega), trivial⟩ fun a w hS => ?_
          replace hS := PX.rerow (id := 2) ((encM la.length (p ++ [j + 1]) (i + 1))) hS rfl (encM_set hpl hij.1)
          exact ⟨(la.length - (i + 1)) + (lb.length - (j + 1)), by omega, i + 1, j + 1, p ++ [j + 1], rfl, ⟨by omega, by omega, by simp [hpl], by rw [List.append_assoc, List.singleton_append, ← mvT_eq hx hy2]; exact hmv⟩, (PX.canon [] _ _ 3 hS hE (by kernel_rfl) (by kernel_rfl) (by kernel_rfl))⟩
        · skip
          have hne : x ≠ y := by rintro rfl; rw [tabD_eq hx hy] at h17; simp at h17
          refine PX.D [⟨168, [], (.sc (.bool (decide ((((tabD la lb i (j + 1)) : Nat) : Int) ≤ (((tabD la lb (i + 1) j) : Nat) : Int)))))⟩] [] 3 [.q ((.sc (.int .i64 (IntKind.i64.wrap (((i : Nat) : Int) + 1))) : PX.PV) = (.sc (.int .i64 ((i + 1 : Nat) : Int)))), .q (((i + 1 : Nat) : Int) = ((i + 1 : Nat) : Int)), .q ((encG la lb 0)[i + 1]? = some ([.imm 1 (encF la lb (i + 1) (0))])), .q (((j : Nat) : Int) = ((j : Nat) : Int)), .q ((encF la lb (i + 1) (0))[j]? = some (encN (tabD la lb (i + 1) j))), .q (((i : Nat) : Int) = ((i : Nat) : Int)), .q ((encG la lb 0)[i]? = some ([.imm 1 (encF la lb (i) (0))])), .q ((.sc (.int .i64 (IntKind.i64.wrap (((j : Nat) : Int) + 1))) : PX.PV) = (.sc (.int .i64 ((j + 1 : Nat) : Int)))), .q (((j + 1 : Nat) : Int) = ((j + 1 : Nat) : Int)), .q ((encF la lb (i) (0))[j + 1]? = some (encN (tabD la lb i (j + 1))))] [] [.au, .au, .nm (.sc (.int .i64 ((i + 1 : Nat) : Int))), .ix (i + 1) ([.imm 1 (encF la lb (i + 1) (0))]), .au, .au, .ix j (encN (tabD la lb (i + 1) j)), .au, .au, .au, .ix i ([.imm 1 (encF la lb (i) (0))]), .au, .au, .nm (.sc (.int .i64 ((j + 1 : Nat) : Int))), .ix (j + 1) (encN (tabD la lb i (j + 1))), .au, .au, .au] [5, 6, 7, 10, 11, 12, 168] [2] hS mixed hE ⟨PX.nm_int (by rw [IntWalk.i64_in _ (by omega)]; omega), rfl, encG_at0 (by omega), rfl, encF_at (by omega) (by omega), rfl, encG_at0 (by omega), PX.nm_int (by rw [IntWalk.i64_in _ (by omega)]; omega), rfl, encF_at (by omega) (by omega), trivial⟩ fun a w hS => ?_
          refine PX.cond_s (decide ((((tabD la lb i (j + 1)) : Nat) : Int) ≤ (((tabD la lb (i + 1) j) : Nat) : Int))) hS (by kernel_rfl) (fun h18 => ?_) (fun h18 => ?_)
          · skip
            refine PX.G0 [⟨11, [], (.sc (.int .i64 ((i + 1 : Nat) : Int)))⟩] [] 3 [.q ((.sc (.int .i64 (IntKind.i64.wrap (((i : Nat) : Int) + 1))) : PX.PV) = (.sc (.int .i64 ((i + 1 : Nat) : Int))))] [] [.au, .nm (.sc (.int .i64 ((i + 1 : Nat) : Int))), .au] [5, 6, 7, 10, 11, 12] [2] hS hE ⟨PX.nm_int (by rw [IntWalk.i64_in _ (by omega)]; omega), trivial⟩ fun a w hS => ?_
            replace hS := PX.rerow (id := 2) ((encM la.length (p ++ [0]) (i + 1))) hS rfl (encM_skip hij.1)
            exact ⟨(la.length - (i + 1)) + (lb.length - j), by omega, i + 1, j, p ++ [0], rfl, ⟨by omega, by omega, by simp [hpl], by rw [List.append_assoc, List.singleton_append, ← mvT_down hx hy hne (by have := of_decide_eq_true h18; omega)]; exact hmv⟩, (PX.canon [] _ _ 3 hS hE (by kernel_rfl) (by kernel_rfl) (by kernel_rfl))⟩
          · skip
            refine PX.G0 [⟨12, [], (.sc (.int .i64 ((j + 1 : Nat) : Int)))⟩] [] 3 [.q ((.sc (.int .i64 (IntKind.i64.wrap (((j : Nat) : Int) + 1))) : PX.PV) = (.sc (.int .i64 ((j + 1 : Nat) : Int))))] [] [.au, .nm (.sc (.int .i64 ((j + 1 : Nat) : Int))), .au] [5, 6, 7, 10, 11, 12] [2] hS hE ⟨PX.nm_int (by rw [IntWalk.i64_in _ (by omega)]; omega), trivial⟩ fun a w hS => ?_
            exact ⟨(la.length - i) + (lb.length - (j + 1)), by omega, i, j + 1, p, rfl, ⟨by omega, by omega, hpl, by rw [← mvT_right hx hy hne (by have := of_decide_eq_false h18; omega)]; exact hmv⟩, (PX.canon [] _ _ 3 hS hE (by kernel_rfl) (by kernel_rfl) (by kernel_rfl))⟩
      · skip
        refine wp_exit ?_
        refine hK13 _ _ ?_
        obtain ⟨hi1, hj1, hpl, hmv⟩ := hInv
        replace hS := PX.rerow (id := 2) (((moveD la lb).map encN)) hS rfl (encM_end hpl hi1 hj1 (by simpa using h16) hmv)
        replace hS := PX.sl [5, 6, 7, 10, 11, 12, 126] (PX.reslot (t := 10) (.own 2 1 ((moveD la lb).length)) hS rfl (fun _ _ _ _ h => (show ((.own 2 1 la.length) : PX.PV) = (.own 2 1 ((moveD la lb).length)) from by rw [moveD_len]) ▸ h))
        replace hS := PX.fz 2 [⟨10, [], (.imm 1 ((moveD la lb).map encN))⟩] [] [5, 6, 7, 10, 11, 12, 126] [] [.b (PX.lenIs ((moveD la lb).length) ((moveD la lb).map encN))] hS ⟨(by simp [PX.lenIs]), trivial⟩
        refine PX.G [⟨4, [], (.imm 1 ((moveD la lb).map encN))⟩] [] 3 [] [] [.au, .au] [4] [] hS hE trivial fun a w hS => ?_
        refine wp_ret ?_
        try simp only [Exit.then, Exit.inBlock, Nat.reduceEqDiff, ↓reduceIte]
        rw [show (.imm 1 ((moveD la lb).map encN)) = ((.imm 1 ((moveD la lb).map encN)) : PX.PV) from rfl]
        exact PX.ret_s hS hE (by kernel_rfl) (by kernel_rfl) (by kernel_rfl) (.inl rfl)
end Go.Proofs.YtlaiafalilcgjaaGreatDoor
namespace Go.Proofs.YtlaiafalilcgjaaGreatDoor
open Go.RowKit Go.PX
set_option maxRecDepth 100000
open Go.BK
def rawC (m : Nat) (x : Nat × Nat) : List PV := [.sc (.slice (some ⟨x.1, 0, none⟩) (m + 1) x.2)]
def lsZ (m : Nat) (l : List (Nat × Nat)) : List (Nat × Nat × List (List PV)) := l.map fun x => (x.1, x.2, zeroR (m + 1))
theorem zeroR_len (n : Nat) : (zeroR n).length = n := by unfold zeroR; simp
theorem opnZ {E : PX.Env} {N : Nat} {R : List PX.Ent} {H : PX.Heap} {nx : Nat} {a : Act} {w : World} {m b c : Nat} {l : List (Nat × Nat)} (h : PX.SatR E N R H nx a w 3 1 (lsZ m ((b, c) :: l))) (ht : nx + 2 ≤ E.top) :
    PX.SatR E N R ((nx, .row 3 1 true (zeroR (m + 1))) :: (nx + 1, .ty (.slice (some ⟨b, 0, none⟩) (m + 1) c) (.own nx 1 (m + 1))) :: H) (nx + 2) a w 3 1 (lsZ m l) := by
  have h2 := PX.SatR.opn (x := (b, c, zeroR (m + 1))) (ls := lsZ m l) h ht
  simp only [zeroR_len] at h2
  exact h2
theorem shutZ {E : PX.Env} {N : Nat} {R : List PX.Ent} {H : PX.Heap} {nx : Nat} {a : Act} {w : World} {m A g : Nat} {v : Value} {l : List (Nat × Nat)} (h : PX.SatR E N R H nx a w 3 1 (lsZ m l)) (hA : PX.hlook H A = some (.row 3 1 true (zeroR (m + 1)))) (hg : PX.hlook H g = some (.ty v (.own A 1 (m + 1)))) (ids : List Nat) (hi : ids.all (fun i => !Nat.beq i A) = true) :
    ∃ b c, v = .slice (some ⟨b, 0, none⟩) (m + 1) c ∧ PX.SatR E N R (PX.restr H ids) nx a w 3 1 (lsZ m ((b, c) :: l)) := by
  obtain ⟨b, c, h1, h2⟩ := PX.SatR.shut h hA hg (by omega) (by unfold zeroR; simp [List.replicate_succ]) ids hi
  exact ⟨b, c, h1, h2⟩
def P1 (a b : Ls) (k : Nat) (l : List (Nat × Nat)) : List (List PV) := l.reverse.map (rawC b.length) ++ List.replicate (a.length + 1 - k) nilR
theorem P1_len {a b : Ls} {k : Nat} {l : List (Nat × Nat)} (h : l.length = k) (hk : k ≤ a.length + 1) : (P1 a b k l).length = a.length + 1 := by unfold P1; simp [h]; omega
theorem P1_at {a b : Ls} {k : Nat} {l : List (Nat × Nat)} (h : l.length = k) (hk : k < a.length + 1) : (P1 a b k l)[k]? = some nilR := by
  unfold P1; rw [List.getElem?_append_right (by simp [h]), List.length_map, List.length_reverse, h, Nat.sub_self, List.getElem?_replicate_of_lt (by omega)]
theorem P1_pu {a b : Ls} {k : Nat} {l : List (Nat × Nat)} : ∀ q ∈ P1 a b k l, pures q = true := fun q hq => by
  unfold P1 at hq
  rcases List.mem_append.1 hq with h | h
  · obtain ⟨z, _, rfl⟩ := List.mem_map.1 h; rfl
  · rw [List.eq_of_mem_replicate h]; rfl
theorem P1_set {a b : Ls} {k x y : Nat} {l : List (Nat × Nat)} (h : l.length = k) (hk : k < a.length + 1) : (P1 a b k l).set k [.sc (.slice (some ⟨x, 0, none⟩) (b.length + 1) y)] = P1 a b (k + 1) ((x, y) :: l) := by
  unfold P1
  rw [show a.length + 1 - k = (a.length + 1 - (k + 1)) + 1 by omega, List.replicate_succ, List.set_append_right _ _ (by simp [h]), List.length_map, List.length_reverse, h, Nat.sub_self, List.set_cons_zero]
  simp [rawC]
theorem P1_end {a b : Ls} {k x y : Nat} {l : List (Nat × Nat)} (hk : k = a.length + 1) : P1 a b k ((x, y) :: l) = l.reverse.map (rawC b.length) ++ [[.sc (.slice (some ⟨x, 0, none⟩) (b.length + 1) y)]] ++ encG a b (a.length + 1) := by
  subst hk; unfold P1; rw [encG_end]; simp [rawC]
theorem Q2_cons {a b : Ls} {i j x y : Nat} {l : List (Nat × Nat)} (hj : j = i + 1) : ((x, y) :: l).reverse.map (rawC b.length) ++ encG a b j = l.reverse.map (rawC b.length) ++ [[.sc (.slice (some ⟨x, 0, none⟩) (b.length + 1) y)]] ++ encG a b (i + 1) := by
  subst hj; simp [rawC]
theorem Q2_mid {a b : Ls} {i : Nat} {r : List PV} {l : List (Nat × Nat)} (h : l.length = i) : (l.reverse.map (rawC b.length) ++ [r] ++ encG a b (i + 1))[i]? = some r := by
  rw [List.append_assoc, List.getElem?_append_right (by simp [h]), List.length_map, List.length_reverse, h, Nat.sub_self]; rfl
theorem Q2_at {a b : Ls} {i : Nat} {r : List PV} {l : List (Nat × Nat)} (h : l.length = i) (hi : i + 1 ≤ a.length) : (l.reverse.map (rawC b.length) ++ [r] ++ encG a b (i + 1))[i + 1]? = some [.imm 1 (encF a b (i + 1) 0)] := out_at (by simp [h]) (Nat.le_refl _) hi
theorem Q2_set {a b : Ls} {i : Nat} {r : List PV} {l : List (Nat × Nat)} (h : l.length = i) (hi : i ≤ a.length) : (l.reverse.map (rawC b.length) ++ [r] ++ encG a b (i + 1)).set i [.imm 1 (encF a b i 0)] = l.reverse.map (rawC b.length) ++ encG a b i := out_set (by simp [h]) hi
theorem pos_cons {α : Type} {l : List α} (h : 0 < l.length) : ∃ x l1, l = x :: l1 := by
  cases l with
  | nil => simp at h
  | cons x l => exact ⟨x, l, rfl⟩

set_option maxHeartbeats 1000000 in
theorem con_common (la lb : Ls) (ha : la.length ≤ 400) (hb : lb.length ≤ 400) : PX.Con Tryz.prog 25 [(.imm 1 (la.map encS)), (.imm 1 (lb.map encS))] [] 1 100000 (.imm 1 (encG la lb 0)) [] := by
  refine PX.con_intro [(.imm 1 (la.map encS)), (.imm 1 (lb.map encS))] 89 Tryz.func25 rfl rfl (by kernel_rfl) (by kernel_rfl) ?_
  intro E0 a hE hS
  generalize E0.w0 = w at hS ⊢
  have mix := mixed
  refine PX.G [] [] 1 [] [] [.au] [0, 1] [] hS hE trivial fun a w hS => ?_
  refine PX.G [⟨5, [], (.own 1 1 (la.length + 1))⟩] [(1, .row 22 1 true (List.replicate (la.length + 1) [(.sc (.slice none 0 0))]))] 2 [.q ((.sc (.int .i64 (((la.map encS).length : Nat) : Int)) : PX.PV) = (.sc (.int .i64 ((la.length : Nat) : Int)))), .q ((.sc (.int .i64 (IntKind.i64.wrap (((la.length : Nat) : Int) + 1))) : PX.PV) = (.sc (.int .i64 ((la.length + 1 : Nat) : Int)))), .q ((((la.length + 1 : Nat) : Int) : Int) = ((la.length + 1 : Nat) : Int)), .q ((((la.length + 1 : Nat) : Int) : Int) = ((la.length + 1 : Nat) : Int)), .b (Nat.ble (la.length + 1) 1000000000)] [] [.au, .nm (.sc (.int .i64 ((la.length : Nat) : Int))), .nm (.sc (.int .i64 ((la.length + 1 : Nat) : Int))), .mk (la.length + 1), .au] [0, 1, 5] [1] hS hE ⟨PX.nm_len (by simp), PX.nm_int (by rw [IntWalk.i64_in _ (by omega)]; omega), rfl, rfl, by rw [Nat.ble_eq]; omega, trivial⟩ fun a w hS => ?_
  refine wp_seq_k fun K1 hK1 => ?_
  refine PX.G [⟨14, [], (.sc (.int .i64 ((la.length + 1 : Nat) : Int)))⟩, ⟨15, [], (.sc (.int .i64 0))⟩] [] 2 [] [] [.au, .au, .au] [0, 1, 5, 14, 15] [1] hS hE trivial fun a w hS => ?_
  refine wp_block ?_
  have hE0 := hE
  replace hS := PX.rerow (id := 1) ((P1 la lb (0) ([] : List (Nat × Nat)))) hS rfl (rfl)
  refine wp_loop_ghost (fun m a' w' => ∃ (k : Nat) (l : List (Nat × Nat)), m = la.length + 1 - k ∧ k ≤ la.length + 1 ∧ l.length = k ∧ PX.SatR E0 89 [⟨0, [], (.imm 1 (la.map encS))⟩, ⟨1, [], (.imm 1 (lb.map encS))⟩, ⟨5, [], (.own 1 1 (la.length + 1))⟩, ⟨14, [], (.sc (.int .i64 ((la.length + 1 : Nat) : Int)))⟩, ⟨15, [], (.sc (.int .i64 ((k : Nat) : Int)))⟩] [(1, .row 22 1 true (P1 la lb (k) l))] 2 a' w' 3 1 (lsZ lb.length l)) (la.length + 1 - 0) ⟨0, [], rfl, Nat.zero_le _, rfl, PX.SatR.nil (PX.canon [] _ _ 2 hS hE (by kernel_rfl) (by kernel_rfl) (by kernel_rfl))⟩ ?_
  clear hS hE; rintro m a w ⟨k, l, hm, hlek, hll, hR⟩
  obtain ⟨E, hE, hS, hback⟩ := hR.nest hE0.etop
  refine PX.G [⟨16, [], (.sc (.bool (decide (((k : Nat) : Int) < ((la.length + 1 : Nat) : Int)))))⟩] [] 2 [] [] [.au] [0, 1, 5, 14, 15, 16] [1] hS hE trivial fun a w hS => ?_
  refine wp_seq_k fun K2 hK2 => ?_
  refine PX.cond_s (decide (((k : Nat) : Int) < ((la.length + 1 : Nat) : Int))) hS (by kernel_rfl) (fun h3 => ?_) (fun h3 => ?_)
  · skip
    refine wp_skip ?_
    refine hK2 _ _ ?_
    refine wp_seq_k fun K4 hK4 => ?_
    refine wp_block ?_
    refine PX.G [⟨6, [], (.sc (.int .i64 ((k : Nat) : Int)))⟩] [] 2 [] [] [.au, .au] [0, 1, 5, 6, 14, 15] [1] hS hE trivial fun a w hS => ?_
    have hkl : k < la.length + 1 := by have := h3; simp at this; omega
    refine PX.G0 [] [(1, .row 22 1 false ((P1 la lb (k) l).set k [(.own 2 1 (lb.length + 1))])), (2, .row 3 1 true (List.replicate (lb.length + 1) [(.sc (.int .i64 0))]))] 3 [.q ((.sc (.int .i64 (((lb.map encS).length : Nat) : Int)) : PX.PV) = (.sc (.int .i64 ((lb.length : Nat) : Int)))), .q ((.sc (.int .i64 (IntKind.i64.wrap (((lb.length : Nat) : Int) + 1))) : PX.PV) = (.sc (.int .i64 ((lb.length + 1 : Nat) : Int)))), .q ((((lb.length + 1 : Nat) : Int) : Int) = ((lb.length + 1 : Nat) : Int)), .q ((((lb.length + 1 : Nat) : Int) : Int) = ((lb.length + 1 : Nat) : Int)), .b (Nat.ble (lb.length + 1) 1000000000), .q (((k : Nat) : Int) = ((k : Nat) : Int)), .q (k < la.length + 1), .q ((P1 la lb (k) l)[k]? = some nilR)] [] [.au, .au, .au, .nm (.sc (.int .i64 ((lb.length : Nat) : Int))), .nm (.sc (.int .i64 ((lb.length + 1 : Nat) : Int))), .mk (lb.length + 1), .ix k [], .lr nilR] [0, 1, 5, 14, 15] [1, 2] hS hE ⟨PX.nm_len (by simp), PX.nm_int (by rw [IntWalk.i64_in _ (by omega)]; omega), rfl, rfl, by rw [Nat.ble_eq]; omega, rfl, hkl, P1_at hll hkl, trivial⟩ fun a w hS => ?_
    obtain ⟨v1, hv1, hS⟩ := hS.rawN (B := 1) (k := k) (i := 0) (hE.le (by decide)) rfl (set_get (by rw [P1_len hll (by omega)]; omega)) rfl (fun u => by simp only [List.set_set]; exact pures_set P1_pu rfl)
    replace hS := PX.rerow (id := 1) (((P1 la lb (k) l).set k [.sc v1])) hS rfl (by simp only [List.set_set]; rfl)
    replace hS := PX.canon [] [⟨0, [], (.imm 1 (la.map encS))⟩, ⟨1, [], (.imm 1 (lb.map encS))⟩, ⟨5, [], (.own 1 1 (la.length + 1))⟩, ⟨14, [], (.sc (.int .i64 ((la.length + 1 : Nat) : Int)))⟩, ⟨15, [], (.sc (.int .i64 ((k : Nat) : Int)))⟩] [(1, .row 22 1 true ((P1 la lb (k) l).set k [.sc v1])), (2, .row 3 1 true (List.replicate (lb.length + 1) [(.sc (.int .i64 0))])), (3, .ty v1 (.own 2 1 (lb.length + 1)))] 4 hS hE (by kernel_rfl) (by kernel_rfl) (by kernel_rfl)
    replace hS := PX.rerow (id := 2) ((zeroR (lb.length + 1))) hS rfl (rfl)
    refine hK4 _ _ ?_
    refine PX.G0 [⟨15, [], (.sc (.int .i64 ((k + 1 : Nat) : Int)))⟩] [] 4 [.q ((.sc (.int .i64 (IntKind.i64.wrap (((k : Nat) : Int) + 1))) : PX.PV) = (.sc (.int .i64 ((k + 1 : Nat) : Int))))] [] [.nm (.sc (.int .i64 ((k + 1 : Nat) : Int))), .au] [0, 1, 5, 14, 15] [1, 2, 3] hS hE ⟨PX.nm_int (by rw [IntWalk.i64_in _ (by omega)]; omega), trivial⟩ fun a w hS => ?_
    replace hS := PX.sl [0, 1, 5, 14, 15] hS
    have hR := hback _ _ _ _ _ _ hS
    obtain ⟨b, c, hv, hR⟩ := shutZ (A := 2) (g := 3) hR rfl rfl [1] (by decide)
    subst hv
    have hR := PX.SatR.canon [] [⟨0, [], (.imm 1 (la.map encS))⟩, ⟨1, [], (.imm 1 (lb.map encS))⟩, ⟨5, [], (.own 1 1 (la.length + 1))⟩, ⟨14, [], (.sc (.int .i64 ((la.length + 1 : Nat) : Int)))⟩, ⟨15, [], (.sc (.int .i64 ((k + 1 : Nat) : Int)))⟩] [(1, .row 22 1 true ((P1 la lb (k) l).set k [.sc (.slice (some ⟨b, 0, none⟩) (lb.length + 1) c)]))] 2 hR hE0 (by kernel_rfl) (by kernel_rfl) (by kernel_rfl)
    rw [P1_set hll hkl] at hR
    exact ⟨la.length + 1 - (k + 1), by omega, k + 1, (b, c) :: l, rfl, by omega, by simp [hll], hR⟩
  · skip
    refine wp_exit ?_
    refine hK1 _ _ ?_
    refine wp_seq_k fun K5 hK5 => ?_
    refine PX.G [⟨7, [], (.sc (.int .i64 (((la.length : Nat) : Int) - 1 - ((0 : Nat) : Int))))⟩] [] 2 [.q ((.sc (.int .i64 (((la.map encS).length : Nat) : Int)) : PX.PV) = (.sc (.int .i64 ((la.length : Nat) : Int)))), .q ((.sc (.int .i64 (IntKind.i64.wrap (((la.length : Nat) : Int) - 1))) : PX.PV) = (.sc (.int .i64 (((la.length : Nat) : Int) - 1 - ((0 : Nat) : Int)))))] [] [.au, .nm (.sc (.int .i64 ((la.length : Nat) : Int))), .nm (.sc (.int .i64 (((la.length : Nat) : Int) - 1 - ((0 : Nat) : Int)))), .au] [0, 1, 5, 7] [1] hS hE ⟨PX.nm_len (by simp), PX.nm_int (by rw [IntWalk.i64_in _ (by omega)]; omega), trivial⟩ fun a w hS => ?_
    refine wp_block ?_
    replace hS := PX.sl [0, 1, 5, 7] hS
    have hR := hback _ _ _ _ _ _ hS
    clear hS hE hback
    have hk1 : k = la.length + 1 := by have := h3; simp at this; omega
    obtain ⟨⟨b, c⟩, l, rfl⟩ := pos_cons (show 0 < l.length by omega)
    have hR := opnZ hR (by rw [hE0.etop]; decide)
    obtain ⟨E, hE, hS, hback⟩ := hR.nest hE0.etop
    replace hS := PX.canon [] [⟨0, [], (.imm 1 (la.map encS))⟩, ⟨1, [], (.imm 1 (lb.map encS))⟩, ⟨5, [], (.own 1 1 (la.length + 1))⟩, ⟨7, [], (.sc (.int .i64 (((la.length : Nat) : Int) - 1 - ((0 : Nat) : Int))))⟩] [(1, .row 22 1 true (P1 la lb (k) ((b, c) :: l))), (2, .row 3 1 true (zeroR (lb.length + 1))), (3, .ty (.slice (some ⟨b, 0, none⟩) (lb.length + 1) c) (.own 2 1 (lb.length + 1)))] 4 hS hE (by kernel_rfl) (by kernel_rfl) (by kernel_rfl)
    replace hS := PX.rerow (id := 1) ((l.reverse.map (rawC lb.length) ++ [[.sc (.slice (some ⟨b, 0, none⟩) (lb.length + 1) c)]] ++ encG la lb (la.length + 1))) hS rfl (P1_end hk1)
    replace hS := PX.rerow (id := 2) ((encF la lb (la.length) (0))) hS rfl ((encF_n la lb).symm)
    have hl2 : l.length = la.length := by simp at hll; omega
    replace hS := PX.fz 2 [] [(3, .ty (.slice (some ⟨b, 0, none⟩) (lb.length + 1) c) (.imm 1 (encF la lb (la.length) (0))))] [0, 1, 5, 7] [1, 3] [.b (PX.lenIs (lb.length + 1) (encF la lb (la.length) (0)))] hS ⟨(by simp [PX.lenIs, encF_len]), trivial⟩
    replace hS := PX.Sat.unraw (B := 1) (g := 3) (k := la.length) (i := 0) hS (hE.le (by decide)) rfl rfl rfl (Q2_mid hl2) rfl
    replace hS := PX.rerow (id := 1) ((l.reverse.map (rawC lb.length) ++ encG la lb (la.length))) hS rfl (by exact Q2_set hl2 (by omega))
    replace hS := PX.canon [] [⟨0, [], (.imm 1 (la.map encS))⟩, ⟨1, [], (.imm 1 (lb.map encS))⟩, ⟨5, [], (.own 1 1 (la.length + 1))⟩, ⟨7, [], (.sc (.int .i64 (((la.length : Nat) : Int) - 1 - ((0 : Nat) : Int))))⟩] [(1, .row 22 1 true (l.reverse.map (rawC lb.length) ++ encG la lb (la.length))), (3, .ty (.slice (some ⟨b, 0, none⟩) (lb.length + 1) c) (.imm 1 (encF la lb (la.length) (0))))] 4 hS hE (by kernel_rfl) (by kernel_rfl) (by kernel_rfl)
    replace hS := PX.rerow (id := 1) ((l.reverse.map (rawC lb.length) ++ encG la lb (la.length - (0)))) hS rfl (rfl)
    refine wp_loop_ghost (fun m a' w' => ∃ (k : Nat) (l : List (Nat × Nat)), m = la.length - k ∧ k ≤ la.length ∧ l.length = la.length - k ∧ PX.SatR E0 89 [⟨0, [], (.imm 1 (la.map encS))⟩, ⟨1, [], (.imm 1 (lb.map encS))⟩, ⟨5, [], (.own 1 1 (la.length + 1))⟩, ⟨7, [], (.sc (.int .i64 (((la.length : Nat) : Int) - 1 - ((k : Nat) : Int))))⟩] [(1, .row 22 1 true (l.reverse.map (rawC lb.length) ++ encG la lb (la.length - (k))))] 4 a' w' 3 1 (lsZ lb.length l)) (la.length - 0) ⟨0, l, rfl, Nat.zero_le _, hl2, hback _ _ _ _ _ _ (PX.canon [] _ _ 4 hS hE (by kernel_rfl) (by kernel_rfl) (by kernel_rfl))⟩ ?_
    clear hS hE hback hR; rintro m a w ⟨k, l, hm, hlek, hll, hR⟩
    obtain ⟨E, hE, hS, hback⟩ := hR.nest hE0.etop
    refine wp_seq_k fun K6 hK6 => ?_
    refine PX.G [⟨30, [], (.sc (.bool (decide (0 ≤ (((la.length : Nat) : Int) - 1 - ((k : Nat) : Int))))))⟩] [] 4 [] [] [.au, .au] [0, 1, 5, 7, 30] [1] hS hE trivial fun a w hS => ?_
    refine PX.cond_s (decide (0 ≤ (((la.length : Nat) : Int) - 1 - ((k : Nat) : Int)))) hS (by kernel_rfl) (fun h7 => ?_) (fun h7 => ?_)
    · skip
      refine wp_skip ?_
      refine hK6 _ _ ?_
      refine wp_seq_k fun K8 hK8 => ?_
      refine wp_block ?_
      obtain ⟨i, hik⟩ : ∃ i, la.length = i + 1 + k := ⟨la.length - 1 - k, by have := of_decide_eq_true h7; omega⟩
      replace hS := PX.sl [0, 1, 5, 7, 30] (PX.reslot (t := 7) (.sc (.int .i64 ((i : Nat) : Int))) hS rfl (fun _ _ _ _ h => (show ((.sc (.int .i64 (((la.length : Nat) : Int) - 1 - ((k : Nat) : Int)))) : PX.PV) = (.sc (.int .i64 ((i : Nat) : Int))) from by rw [show (((la.length : Nat) : Int) - 1 - ((k : Nat) : Int)) = ((i : Nat) : Int) from by omega]) ▸ h))
      replace hS := PX.sl [0, 1, 5, 7, 30] hS
      have hR := hback _ _ _ _ _ _ hS
      clear hS hE hback
      obtain ⟨⟨b, c⟩, l, rfl⟩ := pos_cons (show 0 < l.length by omega)
      have hl2 : l.length = i := by simp at hll; omega
      have hR := opnZ hR (by rw [hE0.etop]; decide)
      obtain ⟨E, hE, hS, hback⟩ := hR.nest hE0.etop
      replace hS := PX.canon [] [⟨0, [], (.imm 1 (la.map encS))⟩, ⟨1, [], (.imm 1 (lb.map encS))⟩, ⟨5, [], (.own 1 1 (la.length + 1))⟩, ⟨7, [], (.sc (.int .i64 ((i : Nat) : Int)))⟩, ⟨30, [], (.sc (.bool (decide (0 ≤ (((la.length : Nat) : Int) - 1 - ((k : Nat) : Int))))))⟩] [(1, .row 22 1 true (((b, c) :: l).reverse.map (rawC lb.length) ++ encG la lb (la.length - (k)))), (4, .row 3 1 true (zeroR (lb.length + 1))), (5, .ty (.slice (some ⟨b, 0, none⟩) (lb.length + 1) c) (.own 4 1 (lb.length + 1)))] 6 hS hE (by kernel_rfl) (by kernel_rfl) (by kernel_rfl)
      replace hS := PX.rerow (id := 1) ((l.reverse.map (rawC lb.length) ++ [[.sc (.slice (some ⟨b, 0, none⟩) (lb.length + 1) c)]] ++ encG la lb (i + 1))) hS rfl (Q2_cons (by omega))
      obtain ⟨x, hx⟩ := get_of_lt (show i < la.length by omega)
      refine PX.G [⟨8, [], (.sc (.int .i64 (((lb.length : Nat) : Int) - 1 - ((0 : Nat) : Int))))⟩] [] 6 [.q ((.sc (.int .i64 (((lb.map encS).length : Nat) : Int)) : PX.PV) = (.sc (.int .i64 ((lb.length : Nat) : Int)))), .q ((.sc (.int .i64 (IntKind.i64.wrap (((lb.length : Nat) : Int) - 1))) : PX.PV) = (.sc (.int .i64 (((lb.length : Nat) : Int) - 1 - ((0 : Nat) : Int)))))] [] [.au, .nm (.sc (.int .i64 ((lb.length : Nat) : Int))), .nm (.sc (.int .i64 (((lb.length : Nat) : Int) - 1 - ((0 : Nat) : Int)))), .au] [0, 1, 5, 7, 8] [1, 4, 5] hS hE ⟨PX.nm_len (by simp), PX.nm_int (by rw [IntWalk.i64_in _ (by omega)]; omega), trivial⟩ fun a w hS => ?_
      refine wp_block ?_
      replace hS := PX.rerow (id := 4) ((encF la lb (i) (lb.length - (0)))) hS rfl (by rw [Nat.sub_zero, encF_z])
      refine wp_loop_ghost (fun m9 a' w' => ∃ q : Nat, m9 = lb.length - q ∧ q ≤ lb.length ∧ True ∧ PX.Sat E 89 [⟨0, [], (.imm 1 (la.map encS))⟩, ⟨1, [], (.imm 1 (lb.map encS))⟩, ⟨5, [], (.own 1 1 (la.length + 1))⟩, ⟨7, [], (.sc (.int .i64 ((i : Nat) : Int)))⟩, ⟨8, [], (.sc (.int .i64 (((lb.length : Nat) : Int) - 1 - ((q : Nat) : Int))))⟩] [(1, .row 22 1 true (l.reverse.map (rawC lb.length) ++ [[.sc (.slice (some ⟨b, 0, none⟩) (lb.length + 1) c)]] ++ encG la lb (i + 1))), (4, .row 3 1 true (encF la lb (i) (lb.length - (q)))), (5, .ty (.slice (some ⟨b, 0, none⟩) (lb.length + 1) c) (.own 4 1 (lb.length + 1)))] 6 a' w') (lb.length - 0) ⟨0, rfl, Nat.zero_le _, trivial, (PX.canon [] _ _ 6 hS hE (by kernel_rfl) (by kernel_rfl) (by kernel_rfl))⟩ ?_
      clear hS; rintro m9 a w ⟨q, hm9, hleq, hIq, hS⟩
      refine wp_seq_k fun K10 hK10 => ?_
      refine PX.G [⟨37, [], (.sc (.bool (decide (0 ≤ (((lb.length : Nat) : Int) - 1 - ((q : Nat) : Int))))))⟩] [] 6 [] [] [.au, .au] [0, 1, 5, 7, 8, 37] [1, 4, 5] hS hE trivial fun a w hS => ?_
      refine PX.cond_s (decide (0 ≤ (((lb.length : Nat) : Int) - 1 - ((q : Nat) : Int)))) hS (by kernel_rfl) (fun h11 => ?_) (fun h11 => ?_)
      · skip
        refine wp_skip ?_
        refine hK10 _ _ ?_
        refine wp_seq_k fun K12 hK12 => ?_
        refine wp_block ?_
        obtain ⟨j, hjq⟩ : ∃ j, lb.length = j + 1 + q := ⟨lb.length - 1 - q, by have := of_decide_eq_true h11; omega⟩
        replace hS := PX.sl [0, 1, 5, 7, 8, 37] (PX.reslot (t := 8) (.sc (.int .i64 ((j : Nat) : Int))) hS rfl (fun _ _ _ _ h => (show ((.sc (.int .i64 (((lb.length : Nat) : Int) - 1 - ((q : Nat) : Int)))) : PX.PV) = (.sc (.int .i64 ((j : Nat) : Int))) from by rw [show (((lb.length : Nat) : Int) - 1 - ((q : Nat) : Int)) = ((j : Nat) : Int) from by omega]) ▸ h))
        replace hS := PX.rerow (id := 4) ((encF la lb (i) (j + 1))) hS rfl (by rw [show lb.length - q = j + 1 by omega])
        obtain ⟨y, hy⟩ := get_of_lt (show j < lb.length by omega)
        have ht1 := tabD_le la lb (i + 1) (j + 1)
        refine PX.D [⟨48, [], (.sc (.bool (x == y)))⟩] [] 6 [.q (((i : Nat) : Int) = ((i : Nat) : Int)), .q ((la.map encS)[i]? = some (encS x)), .q (((j : Nat) : Int) = ((j : Nat) : Int)), .q ((lb.map encS)[j]? = some (encS y)), .q (PX.BinIs Tryz.prog .eql 9 (.tmp 43) (.tmp 47) (PX.sV x) (PX.sV y) (.bool (x == y)))] [] [.au, .au, .ix i (encS x), .au, .au, .au, .ix j (encS y), .au, .bs (.bool (x == y))] [0, 1, 5, 7, 8, 48] [1, 4, 5] hS mixed hE ⟨rfl, PX.map_get hx, rfl, PX.map_get hy, PX.str_eq _ _, trivial⟩ fun a w hS => ?_
        refine PX.cond_s (x == y) hS (by kernel_rfl) (fun h13 => ?_) (fun h13 => ?_)
        · skip
          refine PX.D0 [] [(4, .row 3 1 true ((encF la lb (i) (j + 1)).set j [(.sc (.int .i64 (((tabD la lb (i + 1) (j + 1)) + 1 : Nat) : Int)))]))] 6 [.q (((i : Nat) : Int) = ((i : Nat) : Int)), .q (i < la.length + 1), .q (((l.reverse.map (rawC lb.length) ++ [[.sc (.slice (some ⟨b, 0, none⟩) (lb.length + 1) c)]] ++ encG la lb (i + 1)) : List (List PX.PV))[i]? = some ([.sc (.slice (some ⟨b, 0, none⟩) (lb.length + 1) c)])), .q ((.slice (some ⟨b, 0, none⟩) (lb.length + 1) c : Value) = (.slice (some ⟨b, 0, none⟩) (lb.length + 1) c)), .q ((.sc (.int .i64 (IntKind.i64.wrap (((i : Nat) : Int) + 1))) : PX.PV) = (.sc (.int .i64 ((i + 1 : Nat) : Int)))), .q (((i + 1 : Nat) : Int) = ((i + 1 : Nat) : Int)), .q (i + 1 < la.length + 1), .q (((l.reverse.map (rawC lb.length) ++ [[.sc (.slice (some ⟨b, 0, none⟩) (lb.length + 1) c)]] ++ encG la lb (i + 1)) : List (List PX.PV))[i + 1]? = some ([.imm 1 (encF la lb (i + 1) (0))])), .q ((.sc (.int .i64 (IntKind.i64.wrap (((j : Nat) : Int) + 1))) : PX.PV) = (.sc (.int .i64 ((j + 1 : Nat) : Int)))), .q (((j + 1 : Nat) : Int) = ((j + 1 : Nat) : Int)), .q ((encF la lb (i + 1) (0))[j + 1]? = some (encN (tabD la lb (i + 1) (j + 1)))), .q ((.sc (.int .i64 (IntKind.i64.wrap ((((tabD la lb (i + 1) (j + 1)) : Nat) : Int) + 1))) : PX.PV) = (.sc (.int .i64 (((tabD la lb (i + 1) (j + 1)) + 1 : Nat) : Int)))), .q (((j : Nat) : Int) = ((j : Nat) : Int)), .q (j < lb.length + 1), .q ((encF la lb (i) (j + 1))[j]? = some (encN 0))] [] [.au, .au, .ix i [], .rt ([.sc (.slice (some ⟨b, 0, none⟩) (lb.length + 1) c)]) [(0, 5)], .au, .au, .au, .nm (.sc (.int .i64 ((i + 1 : Nat) : Int))), .ix (i + 1) [], .lr ([.imm 1 (encF la lb (i + 1) (0))]), .au, .nm (.sc (.int .i64 ((j + 1 : Nat) : Int))), .ix (j + 1) (encN (tabD la lb (i + 1) (j + 1))), .au, .nm (.sc (.int .i64 (((tabD la lb (i + 1) (j + 1)) + 1 : Nat) : Int))), .ix j [], .lr (encN 0)] [0, 1, 5, 7, 8] [1, 4, 5] hS mixed hE ⟨rfl, by omega, Q2_mid hl2, rfl, PX.nm_int (by rw [IntWalk.i64_in _ (by omega)]; omega), rfl, by omega, Q2_at hl2 (by omega), PX.nm_int (by rw [IntWalk.i64_in _ (by omega)]; omega), rfl, encF_at (by omega) (by omega), PX.nm_int (by rw [IntWalk.i64_in _ (by omega)]; omega), rfl, by omega, encF_0 (by omega) (by omega), trivial⟩ fun a w hS => ?_
          refine hK12 _ _ ?_
          refine PX.G0 [⟨8, [], (.sc (.int .i64 (((lb.length : Nat) : Int) - 1 - ((q + 1 : Nat) : Int))))⟩] [] 6 [.q ((.sc (.int .i64 (IntKind.i64.wrap (((j : Nat) : Int) - 1))) : PX.PV) = (.sc (.int .i64 (((lb.length : Nat) : Int) - 1 - ((q + 1 : Nat) : Int)))))] [] [.au, .nm (.sc (.int .i64 (((lb.length : Nat) : Int) - 1 - ((q + 1 : Nat) : Int)))), .au] [0, 1, 5, 7, 8] [1, 4, 5] hS hE ⟨PX.nm_int (by rw [IntWalk.i64_in _ (by omega)]; omega), trivial⟩ fun a w hS => ?_
          replace hS := PX.rerow (id := 4) ((encF la lb (i) (lb.length - (q + 1)))) hS rfl (by have hxy : x = y := (by simpa using h13); subst hxy; rw [show lb.length - (q + 1) = j by omega, ← encF_set (a := la) (b := lb) (i := i) (j := j) (by omega), tabD_eq hx hy]; rfl)
          exact ⟨lb.length - (q + 1), by omega, q + 1, rfl, by omega, trivial, (PX.canon [] _ _ 6 hS hE (by kernel_rfl) (by kernel_rfl) (by kernel_rfl))⟩
        · skip
          refine PX.D0 [] [(4, .row 3 1 true ((encF la lb (i) (j + 1)).set j [(.sc (.int .i64 (if (((tabD la lb i (j + 1)) : Nat) : Int) > (((tabD la lb (i + 1) j) : Nat) : Int) then (((tabD la lb i (j + 1)) : Nat) : Int) else (((tabD la lb (i + 1) j) : Nat) : Int))))]))] 6 [.q (((i : Nat) : Int) = ((i : Nat) : Int)), .q (i < la.length + 1), .q (((l.reverse.map (rawC lb.length) ++ [[.sc (.slice (some ⟨b, 0, none⟩) (lb.length + 1) c)]] ++ encG la lb (i + 1)) : List (List PX.PV))[i]? = some ([.sc (.slice (some ⟨b, 0, none⟩) (lb.length + 1) c)])), .q ((.slice (some ⟨b, 0, none⟩) (lb.length + 1) c : Value) = (.slice (some ⟨b, 0, none⟩) (lb.length + 1) c)), .q ((.sc (.int .i64 (IntKind.i64.wrap (((i : Nat) : Int) + 1))) : PX.PV) = (.sc (.int .i64 ((i + 1 : Nat) : Int)))), .q (((i + 1 : Nat) : Int) = ((i + 1 : Nat) : Int)), .q (i + 1 < la.length + 1), .q (((l.reverse.map (rawC lb.length) ++ [[.sc (.slice (some ⟨b, 0, none⟩) (lb.length + 1) c)]] ++ encG la lb (i + 1)) : List (List PX.PV))[i + 1]? = some ([.imm 1 (encF la lb (i + 1) (0))])), .q (((j : Nat) : Int) = ((j : Nat) : Int)), .q ((encF la lb (i + 1) (0))[j]? = some (encN (tabD la lb (i + 1) j))), .q (((i : Nat) : Int) = ((i : Nat) : Int)), .q (i < la.length + 1), .q (((l.reverse.map (rawC lb.length) ++ [[.sc (.slice (some ⟨b, 0, none⟩) (lb.length + 1) c)]] ++ encG la lb (i + 1)) : List (List PX.PV))[i]? = some ([.sc (.slice (some ⟨b, 0, none⟩) (lb.length + 1) c)])), .q ((.slice (some ⟨b, 0, none⟩) (lb.length + 1) c : Value) = (.slice (some ⟨b, 0, none⟩) (lb.length + 1) c)), .q ((.sc (.int .i64 (IntKind.i64.wrap (((j : Nat) : Int) + 1))) : PX.PV) = (.sc (.int .i64 ((j + 1 : Nat) : Int)))), .q (((j + 1 : Nat) : Int) = ((j + 1 : Nat) : Int)), .q (j + 1 < lb.length + 1), .q ((encF la lb (i) (j + 1))[j + 1]? = some (encN (tabD la lb i (j + 1)))), .q (((j : Nat) : Int) = ((j : Nat) : Int)), .q (j < lb.length + 1), .q ((encF la lb (i) (j + 1))[j]? = some (encN 0))] [] [.au, .au, .ix i [], .rt ([.sc (.slice (some ⟨b, 0, none⟩) (lb.length + 1) c)]) [(0, 5)], .au, .au, .au, .nm (.sc (.int .i64 ((i + 1 : Nat) : Int))), .ix (i + 1) [], .lr ([.imm 1 (encF la lb (i + 1) (0))]), .au, .ix j (encN (tabD la lb (i + 1) j)), .au, .au, .au, .ix i [], .rt ([.sc (.slice (some ⟨b, 0, none⟩) (lb.length + 1) c)]) [(0, 5)], .au, .nm (.sc (.int .i64 ((j + 1 : Nat) : Int))), .ix (j + 1) [], .lr (encN (tabD la lb i (j + 1))), .au, .ix j [], .lr (encN 0)] [0, 1, 5, 7, 8] [1, 4, 5] hS mixed hE ⟨rfl, by omega, Q2_mid hl2, rfl, PX.nm_int (by rw [IntWalk.i64_in _ (by omega)]; omega), rfl, by omega, Q2_at hl2 (by omega), rfl, encF_at (by omega) (by omega), rfl, by omega, Q2_mid hl2, rfl, PX.nm_int (by rw [IntWalk.i64_in _ (by omega)]; omega), rfl, by omega, encF_at (by omega) (by omega), rfl, by omega, encF_0 (by omega) (by omega), trivial⟩ fun a w hS => ?_
          refine hK12 _ _ ?_
          refine PX.G0 [⟨8, [], (.sc (.int .i64 (((lb.length : Nat) : Int) - 1 - ((q + 1 : Nat) : Int))))⟩] [] 6 [.q ((.sc (.int .i64 (IntKind.i64.wrap (((j : Nat) : Int) - 1))) : PX.PV) = (.sc (.int .i64 (((lb.length : Nat) : Int) - 1 - ((q + 1 : Nat) : Int)))))] [] [.au, .nm (.sc (.int .i64 (((lb.length : Nat) : Int) - 1 - ((q + 1 : Nat) : Int)))), .au] [0, 1, 5, 7, 8] [1, 4, 5] hS hE ⟨PX.nm_int (by rw [IntWalk.i64_in _ (by omega)]; omega), trivial⟩ fun a w hS => ?_
          replace hS := PX.rerow (id := 4) ((encF la lb (i) (lb.length - (q + 1)))) hS rfl (by rw [show lb.length - (q + 1) = j by omega, ← encF_set (a := la) (b := lb) (i := i) (j := j) (by omega), tabD_ne hx hy (by simpa using h13), max_nat]; rfl)
          exact ⟨lb.length - (q + 1), by omega, q + 1, rfl, by omega, trivial, (PX.canon [] _ _ 6 hS hE (by kernel_rfl) (by kernel_rfl) (by kernel_rfl))⟩
      · skip
        refine wp_exit ?_
        refine hK8 _ _ ?_
        have hqe : lb.length - q = 0 := by have := of_decide_eq_false h11; omega
        replace hS := PX.rerow (id := 4) ((encF la lb (i) (0))) hS rfl (by rw [hqe])
        replace hS := PX.fz 4 [] [(5, .ty (.slice (some ⟨b, 0, none⟩) (lb.length + 1) c) (.imm 1 (encF la lb (i) (0))))] [0, 1, 5, 7, 8, 37] [1, 5] [.b (PX.lenIs (lb.length + 1) (encF la lb (i) (0)))] hS ⟨(by simp [PX.lenIs, encF_len]), trivial⟩
        replace hS := PX.Sat.unraw (B := 1) (g := 5) (k := i) (i := 0) hS (hE.le (by decide)) rfl rfl rfl (Q2_mid hl2) rfl
        replace hS := PX.rerow (id := 1) ((l.reverse.map (rawC lb.length) ++ encG la lb (i))) hS rfl (by exact Q2_set hl2 (by omega))
        replace hS := PX.canon [] [⟨0, [], (.imm 1 (la.map encS))⟩, ⟨1, [], (.imm 1 (lb.map encS))⟩, ⟨5, [], (.own 1 1 (la.length + 1))⟩, ⟨7, [], (.sc (.int .i64 ((i : Nat) : Int)))⟩, ⟨8, [], (.sc (.int .i64 (((lb.length : Nat) : Int) - 1 - ((q : Nat) : Int))))⟩, ⟨37, [], (.sc (.bool (decide (0 ≤ (((lb.length : Nat) : Int) - 1 - ((q : Nat) : Int))))))⟩] [(1, .row 22 1 true (l.reverse.map (rawC lb.length) ++ encG la lb (i))), (5, .ty (.slice (some ⟨b, 0, none⟩) (lb.length + 1) c) (.imm 1 (encF la lb (i) (0))))] 6 hS hE (by kernel_rfl) (by kernel_rfl) (by kernel_rfl)
        refine PX.G0 [⟨7, [], (.sc (.int .i64 (((la.length : Nat) : Int) - 1 - ((k + 1 : Nat) : Int))))⟩] [] 6 [.q ((.sc (.int .i64 (IntKind.i64.wrap (((i : Nat) : Int) - 1))) : PX.PV) = (.sc (.int .i64 (((la.length : Nat) : Int) - 1 - ((k + 1 : Nat) : Int)))))] [] [.au, .nm (.sc (.int .i64 (((la.length : Nat) : Int) - 1 - ((k + 1 : Nat) : Int)))), .au] [0, 1, 5, 7] [1] hS hE ⟨PX.nm_int (by rw [IntWalk.i64_in _ (by omega)]; omega), trivial⟩ fun a w hS => ?_
        replace hS := PX.rerow (id := 1) ((l.reverse.map (rawC lb.length) ++ encG la lb (la.length - (k + 1)))) hS rfl (by rw [show la.length - (k + 1) = i by omega])
        have hR := hback _ _ _ _ _ _ (PX.canon [] [⟨0, [], (.imm 1 (la.map encS))⟩, ⟨1, [], (.imm 1 (lb.map encS))⟩, ⟨5, [], (.own 1 1 (la.length + 1))⟩, ⟨7, [], (.sc (.int .i64 (((la.length : Nat) : Int) - 1 - ((k + 1 : Nat) : Int))))⟩] [(1, .row 22 1 true (l.reverse.map (rawC lb.length) ++ encG la lb (la.length - (k + 1))))] 6 hS hE (by kernel_rfl) (by kernel_rfl) (by kernel_rfl))
        exact ⟨la.length - (k + 1), by omega, k + 1, l, rfl, by omega, by omega, PX.SatR.canon [] [⟨0, [], (.imm 1 (la.map encS))⟩, ⟨1, [], (.imm 1 (lb.map encS))⟩, ⟨5, [], (.own 1 1 (la.length + 1))⟩, ⟨7, [], (.sc (.int .i64 (((la.length : Nat) : Int) - 1 - ((k + 1 : Nat) : Int))))⟩] [(1, .row 22 1 true (l.reverse.map (rawC lb.length) ++ encG la lb (la.length - (k + 1))))] 4 hR hE0 (by kernel_rfl) (by kernel_rfl) (by kernel_rfl)⟩
    · skip
      refine wp_exit ?_
      refine hK5 _ _ ?_
      have hke : la.length - k = 0 := by have := of_decide_eq_false h7; omega
      obtain rfl : l = [] := List.length_eq_zero_iff.1 (by omega)
      replace hS := PX.rerow (id := 1) ((encG la lb 0)) hS rfl (by rw [hke]; rfl)
      replace hS := PX.sl [0, 1, 5, 7, 30] hS
      have hR := hback _ _ _ _ _ _ hS
      clear hS hE hback
      have hS := PX.SatR.sat hR; have hE := hE0
      replace hS := PX.canon [] [⟨0, [], (.imm 1 (la.map encS))⟩, ⟨1, [], (.imm 1 (lb.map encS))⟩, ⟨5, [], (.own 1 1 (la.length + 1))⟩, ⟨7, [], (.sc (.int .i64 (((la.length : Nat) : Int) - 1 - ((k : Nat) : Int))))⟩, ⟨30, [], (.sc (.bool (decide (0 ≤ (((la.length : Nat) : Int) - 1 - ((k : Nat) : Int))))))⟩] [(1, .row 22 1 true (encG la lb 0))] 4 hS hE (by kernel_rfl) (by kernel_rfl) (by kernel_rfl)
      replace hS := PX.fz 1 [⟨5, [], (.imm 1 (encG la lb 0))⟩] [] [0, 1, 5, 7, 30] [] [.b (PX.lenIs (la.length + 1) (encG la lb 0))] hS ⟨(by simp [PX.lenIs, encG_len]), trivial⟩
      clear hke
      refine PX.G [⟨4, [], (.imm 1 (encG la lb 0))⟩] [] 4 [] [] [.au, .au] [4] [] hS hE trivial fun a w hS => ?_
      refine wp_ret ?_
      try simp only [Exit.then, Exit.inBlock, Nat.reduceEqDiff, ↓reduceIte]
      rw [show (.imm 1 (encG la lb 0)) = ((.imm 1 (encG la lb 0)) : PX.PV) from rfl]
      exact PX.ret_s hS hE (by kernel_rfl) (by kernel_rfl) (by kernel_rfl) (.inl rfl)
end Go.Proofs.YtlaiafalilcgjaaGreatDoor
namespace Go.Proofs.YtlaiafalilcgjaaGreatDoor
open Go.RowKit Go.PX
set_option maxRecDepth 100000
open Go.BK

set_option maxHeartbeats 1000000 in
theorem con_move (l q : List UInt8) (la lb : Ls) (hla : linesL l = la) (hlb : linesL q = lb) (hl : l.length ≤ 1000000) (hq : q.length ≤ 1000000) (ha : la.length ≤ 400) (hb : lb.length ≤ 400) (hca : la.length = l.count 10 + 1) (hcb : lb.length = q.count 10 + 1) : PX.Con Tryz.prog 10 [(.sc (PX.sV l)), (.sc (PX.sV q))] [] 1 100000 (.imm 1 ((moveD la lb).map encN)) [] := by
  refine PX.con_intro [(.sc (PX.sV l)), (.sc (PX.sV q))] 81 Tryz.func10 rfl rfl (by kernel_rfl) (by kernel_rfl) ?_
  intro E a hE hS
  generalize E.w0 = w at hS ⊢
  have mix := mixed
  refine PX.G [] [] 1 [] [] [.au] [0, 1] [] hS hE trivial fun a w hS => ?_
  refine wp_seq_k fun K1 hK1 => ?_
  refine PX.G [⟨18, [], (.sc (.bool (decide (400 ≤ (((l.count 10) : Nat) : Int)) || decide (400 ≤ (((q.count 10) : Nat) : Int)))))⟩] [] 1 [.q (PX.Con Tryz.prog 23 [(.sc (PX.sV l)), (.sc (PX.sV [10]))] [] 1 1 (.sc (.int .i64 (((l.count 10) : Nat) : Int))) []), .q (SX.pv [(3, decide (400 ≤ (((l.count 10) : Nat) : Int)))] [(3, false)] = true → PX.AllOb [.q (PX.Con Tryz.prog 23 [(.sc (PX.sV q)), (.sc (PX.sV [10]))] [] 1 1 (.sc (.int .i64 (((q.count 10) : Nat) : Int))) [])])] [(3, decide (400 ≤ (((l.count 10) : Nat) : Int)))] [.au, .cl [] (.sc (.int .i64 (((l.count 10) : Nat) : Int))) [] 1, .au, .au, .au, .cl [] (.sc (.int .i64 (((q.count 10) : Nat) : Int))) [] 1, .au, .pk] [0, 1, 18] [] hS hE ⟨con_count l 10 _ _, fun hg => ⟨con_count q 10 _ _, trivial⟩, trivial⟩ fun a w hS => ?_
  refine PX.cond_s (decide (400 ≤ (((l.count 10) : Nat) : Int)) || decide (400 ≤ (((q.count 10) : Nat) : Int))) hS (by kernel_rfl) (fun h2 => ?_) (fun h2 => ?_)
  · skip
    simp at h2; omega
  · skip
    refine wp_skip ?_
    refine hK1 _ _ ?_
    refine PX.G [⟨5, [], (.imm 1 (la.map encS))⟩, ⟨6, [], (.imm 1 (lb.map encS))⟩] [] 1 [.q (PX.Con Tryz.prog 24 [(.sc (PX.sV l)), (.sc (PX.sV [10]))] [] 1 1 (.imm 1 (la.map encS)) []), .q (PX.Con Tryz.prog 24 [(.sc (PX.sV q)), (.sc (PX.sV [10]))] [] 1 1 (.imm 1 (lb.map encS)) [])] [] [.au, .cl [] (.imm 1 (la.map encS)) [] 1, .au, .cl [] (.imm 1 (lb.map encS)) [] 1, .au, .au] [5, 6] [] hS hE ⟨hla ▸ PX.con_any (con_split l hl), hlb ▸ PX.con_any (con_split q hq), trivial⟩ fun a w hS => ?_
    refine PX.G [⟨7, [], (.imm 1 (encG la lb 0))⟩] [] 1 [.q (PX.Con Tryz.prog 25 [(.imm 1 (la.map encS)), (.imm 1 (lb.map encS))] [] 1 1 (.imm 1 (encG la lb 0)) [])] [] [.au, .au, .cl [] (.imm 1 (encG la lb 0)) [] 1, .au] [5, 6, 7] [] hS hE ⟨PX.con_any (con_common la lb ha hb), trivial⟩ fun a w hS => ?_
    refine PX.G [⟨8, [], (.own 1 1 la.length)⟩] [(1, .row 3 1 true (List.replicate la.length [(.sc (.int .i64 0))]))] 2 [.q ((.sc (.int .i64 (((la.map encS).length : Nat) : Int)) : PX.PV) = (.sc (.int .i64 ((la.length : Nat) : Int)))), .q ((((la.length : Nat) : Int) : Int) = ((la.length : Nat) : Int)), .q ((((la.length : Nat) : Int) : Int) = ((la.length : Nat) : Int)), .b (Nat.ble la.length 1000000000)] [] [.au, .nm (.sc (.int .i64 ((la.length : Nat) : Int))), .mk la.length, .au] [5, 6, 7, 8] [1] hS hE ⟨PX.nm_len (by simp), rfl, rfl, by rw [Nat.ble_eq]; omega, trivial⟩ fun a w hS => ?_
    refine wp_seq_k fun K3 hK3 => ?_
    refine PX.G [⟨9, [], (.sc (.int .i64 0))⟩, ⟨10, [], (.sc (.int .i64 0))⟩] [] 2 [] [] [.au, .au] [5, 6, 7, 8, 9, 10] [1] hS hE trivial fun a w hS => ?_
    refine wp_block ?_
    replace hS := PX.rerow (id := 1) ((encM la.length ([]) (0))) hS rfl (by unfold encM zeroR; rw [Nat.sub_zero]; rfl)
    refine wp_loop_ghost (fun m4 a' w' => ∃ (i j : Nat) (p : List Nat), m4 = (la.length - i) + (lb.length - j) ∧ (i ≤ la.length ∧ j ≤ lb.length ∧ p.length = i ∧ p ++ mvT la lb i j = moveD la lb) ∧ PX.Sat E 81 [⟨5, [], (.imm 1 (la.map encS))⟩, ⟨6, [], (.imm 1 (lb.map encS))⟩, ⟨7, [], (.imm 1 (encG la lb 0))⟩, ⟨8, [], (.own 1 1 la.length)⟩, ⟨9, [], (.sc (.int .i64 ((i : Nat) : Int)))⟩, ⟨10, [], (.sc (.int .i64 ((j : Nat) : Int)))⟩] [(1, .row 3 1 true (encM la.length p (i)))] 2 a' w') ((la.length - 0) + (lb.length - 0)) ⟨0, 0, [], rfl, ⟨Nat.zero_le _, Nat.zero_le _, rfl, rfl⟩, (PX.canon [] _ _ 2 hS hE (by kernel_rfl) (by kernel_rfl) (by kernel_rfl))⟩ ?_
    clear hS; rintro m4 a w ⟨i, j, p, hm4, hInv, hS⟩
    refine wp_seq_k fun K5 hK5 => ?_
    refine PX.G [⟨38, [], (.sc (.bool (decide (((i : Nat) : Int) < ((la.length : Nat) : Int)) && decide (((j : Nat) : Int) < ((lb.length : Nat) : Int)))))⟩] [] 2 [.q ((.sc (.int .i64 (((la.map encS).length : Nat) : Int)) : PX.PV) = (.sc (.int .i64 ((la.length : Nat) : Int)))), .q (SX.pv [(4, decide (((i : Nat) : Int) < ((la.length : Nat) : Int)))] [(4, true)] = true → PX.AllOb [.q ((.sc (.int .i64 (((lb.map encS).length : Nat) : Int)) : PX.PV) = (.sc (.int .i64 ((lb.length : Nat) : Int))))])] [(4, decide (((i : Nat) : Int) < ((la.length : Nat) : Int)))] [.au, .au, .nm (.sc (.int .i64 ((la.length : Nat) : Int))), .au, .au, .au, .au, .nm (.sc (.int .i64 ((lb.length : Nat) : Int))), .au, .pk] [5, 6, 7, 8, 9, 10, 38] [1] hS hE ⟨PX.nm_len (by simp), fun hg => ⟨PX.nm_len (by simp), trivial⟩, trivial⟩ fun a w hS => ?_
    refine PX.cond_s (decide (((i : Nat) : Int) < ((la.length : Nat) : Int)) && decide (((j : Nat) : Int) < ((lb.length : Nat) : Int))) hS (by kernel_rfl) (fun h6 => ?_) (fun h6 => ?_)
    · skip
      refine wp_skip ?_
      refine hK5 _ _ ?_
      refine wp_block ?_
      refine wp_block ?_
      have hij : i < la.length ∧ j < lb.length := by simpa using h6
      obtain ⟨hi1, hj1, hpl, hmv⟩ := hInv
      obtain ⟨x, hx⟩ := get_of_lt hij.1; obtain ⟨y, hy⟩ := get_of_lt hij.2
      refine PX.D [⟨41, [], (.sc (.bool (x == y)))⟩] [] 2 [.q (((i : Nat) : Int) = ((i : Nat) : Int)), .q ((la.map encS)[i]? = some (encS x)), .q (((j : Nat) : Int) = ((j : Nat) : Int)), .q ((lb.map encS)[j]? = some (encS y)), .q (PX.BinIs Tryz.prog .eql 9 (.tmp 45) (.tmp 49) (PX.sV x) (PX.sV y) (.bool (x == y)))] [] [.au, .au, .ix i (encS x), .au, .au, .au, .ix j (encS y), .au, .bs (.bool (x == y)), .au] [5, 6, 7, 8, 9, 10, 41] [1] hS mixed hE ⟨rfl, PX.map_get hx, rfl, PX.map_get hy, PX.str_eq _ _, trivial⟩ fun a w hS => ?_
      refine PX.cond_s (x == y) hS (by kernel_rfl) (fun h7 => ?_) (fun h7 => ?_)
      · skip
        have hxy : x = y := by simpa using h7
        have hy2 : lb[j]? = some x := hxy ▸ hy
        refine PX.G [] [(1, .row 3 1 true ((encM la.length p (i)).set i [(.sc (.int .i64 ((j + 1 : Nat) : Int)))]))] 2 [.q ((.sc (.int .i64 (IntKind.i64.wrap (((j : Nat) : Int) + 1))) : PX.PV) = (.sc (.int .i64 ((j + 1 : Nat) : Int)))), .q (((i : Nat) : Int) = ((i : Nat) : Int)), .q (i < la.length), .q ((encM la.length p (i))[i]? = some (encN 0))] [] [.au, .au, .au, .nm (.sc (.int .i64 ((j + 1 : Nat) : Int))), .ix i [], .lr (encN 0)] [5, 6, 7, 8, 9, 10] [1] hS hE ⟨PX.nm_int (by rw [IntWalk.i64_in _ (by omega)]; omega), rfl, by omega, encM_at hpl hij.1, trivial⟩ fun a w hS => ?_
        refine PX.G [⟨9, [], (.sc (.int .i64 ((i + 1 : Nat) : Int)))⟩] [] 2 [.q ((.sc (.int .i64 (IntKind.i64.wrap (((i : Nat) : Int) + 1))) : PX.PV) = (.sc (.int .i64 ((i + 1 : Nat) : Int))))] [] [.au, .nm (.sc (.int .i64 ((i + 1 : Nat) : Int))), .au] [5, 6, 7, 8, 9, 10] [1] hS hE ⟨PX.nm_int (by rw [IntWalk.i64_in _ (by omega)]; omega), trivial⟩ fun a w hS => ?_
        refine PX.G0 [⟨10, [], (.sc (.int .i64 ((j + 1 : Nat) : Int)))⟩] [] 2 [.q ((.sc (.int .i64 (IntKind.i64.wrap (((j : Nat) : Int) + 1))) : PX.PV) = (.sc (.int .i64 ((j + 1 : Nat) : Int))))] [] [.au, .nm (.sc (.int .i64 ((j + 1 : Nat) : Int))), .au] [5, 6, 7, 8, 9, 10] [1] hS hE ⟨PX.nm_int (by rw [IntWalk.i64_in _ (by omega)]; omega), trivial⟩ fun a w hS => ?_
        replace hS := PX.rerow (id := 1) ((encM la.length (p ++ [j + 1]) (i + 1))) hS rfl (encM_set hpl hij.1)
        exact ⟨(la.length - (i + 1)) + (lb.length - (j + 1)), by omega, i + 1, j + 1, p ++ [j + 1], rfl, ⟨by omega, by omega, by simp [hpl], by rw [List.append_assoc, List.singleton_append, ← mvT_eq hx hy2]; exact hmv⟩, (PX.canon [] _ _ 2 hS hE (by kernel_rfl) (by kernel_rfl) (by kernel_rfl))⟩
      · skip
        have hne : x ≠ y := by simpa using h7
        refine PX.D [⟨60, [], (.sc (.bool (decide ((((tabD la lb i (j + 1)) : Nat) : Int) ≤ (((tabD la lb (i + 1) j) : Nat) : Int)))))⟩] [] 2 [.q ((.sc (.int .i64 (IntKind.i64.wrap (((i : Nat) : Int) + 1))) : PX.PV) = (.sc (.int .i64 ((i + 1 : Nat) : Int)))), .q (((i + 1 : Nat) : Int) = ((i + 1 : Nat) : Int)), .q ((encG la lb 0)[i + 1]? = some ([.imm 1 (encF la lb (i + 1) (0))])), .q (((j : Nat) : Int) = ((j : Nat) : Int)), .q ((encF la lb (i + 1) (0))[j]? = some (encN (tabD la lb (i + 1) j))), .q (((i : Nat) : Int) = ((i : Nat) : Int)), .q ((encG la lb 0)[i]? = some ([.imm 1 (encF la lb (i) (0))])), .q ((.sc (.int .i64 (IntKind.i64.wrap (((j : Nat) : Int) + 1))) : PX.PV) = (.sc (.int .i64 ((j + 1 : Nat) : Int)))), .q (((j + 1 : Nat) : Int) = ((j + 1 : Nat) : Int)), .q ((encF la lb (i) (0))[j + 1]? = some (encN (tabD la lb i (j + 1))))] [] [.au, .au, .nm (.sc (.int .i64 ((i + 1 : Nat) : Int))), .ix (i + 1) ([.imm 1 (encF la lb (i + 1) (0))]), .au, .au, .ix j (encN (tabD la lb (i + 1) j)), .au, .au, .au, .ix i ([.imm 1 (encF la lb (i) (0))]), .au, .au, .nm (.sc (.int .i64 ((j + 1 : Nat) : Int))), .ix (j + 1) (encN (tabD la lb i (j + 1))), .au, .au, .au] [5, 6, 7, 8, 9, 10, 60] [1] hS mixed hE ⟨PX.nm_int (by rw [IntWalk.i64_in _ (by omega)]; omega), rfl, encG_at0 (by omega), rfl, encF_at (by omega) (by omega), rfl, encG_at0 (by omega), PX.nm_int (by rw [IntWalk.i64_in _ (by omega)]; omega), rfl, encF_at (by omega) (by omega), trivial⟩ fun a w hS => ?_
        refine PX.cond_s (decide ((((tabD la lb i (j + 1)) : Nat) : Int) ≤ (((tabD la lb (i + 1) j) : Nat) : Int))) hS (by kernel_rfl) (fun h8 => ?_) (fun h8 => ?_)
        · skip
          refine PX.G0 [⟨9, [], (.sc (.int .i64 ((i + 1 : Nat) : Int)))⟩] [] 2 [.q ((.sc (.int .i64 (IntKind.i64.wrap (((i : Nat) : Int) + 1))) : PX.PV) = (.sc (.int .i64 ((i + 1 : Nat) : Int))))] [] [.au, .nm (.sc (.int .i64 ((i + 1 : Nat) : Int))), .au] [5, 6, 7, 8, 9, 10] [1] hS hE ⟨PX.nm_int (by rw [IntWalk.i64_in _ (by omega)]; omega), trivial⟩ fun a w hS => ?_
          replace hS := PX.rerow (id := 1) ((encM la.length (p ++ [0]) (i + 1))) hS rfl (encM_skip hij.1)
          exact ⟨(la.length - (i + 1)) + (lb.length - j), by omega, i + 1, j, p ++ [0], rfl, ⟨by omega, by omega, by simp [hpl], by rw [List.append_assoc, List.singleton_append, ← mvT_down hx hy hne (by have := of_decide_eq_true h8; omega)]; exact hmv⟩, (PX.canon [] _ _ 2 hS hE (by kernel_rfl) (by kernel_rfl) (by kernel_rfl))⟩
        · skip
          refine PX.G0 [⟨10, [], (.sc (.int .i64 ((j + 1 : Nat) : Int)))⟩] [] 2 [.q ((.sc (.int .i64 (IntKind.i64.wrap (((j : Nat) : Int) + 1))) : PX.PV) = (.sc (.int .i64 ((j + 1 : Nat) : Int))))] [] [.au, .nm (.sc (.int .i64 ((j + 1 : Nat) : Int))), .au] [5, 6, 7, 8, 9, 10] [1] hS hE ⟨PX.nm_int (by rw [IntWalk.i64_in _ (by omega)]; omega), trivial⟩ fun a w hS => ?_
          exact ⟨(la.length - i) + (lb.length - (j + 1)), by omega, i, j + 1, p, rfl, ⟨by omega, by omega, hpl, by rw [← mvT_right hx hy hne (by have := of_decide_eq_false h8; omega)]; exact hmv⟩, (PX.canon [] _ _ 2 hS hE (by kernel_rfl) (by kernel_rfl) (by kernel_rfl))⟩
    · skip
      refine wp_exit ?_
      refine hK3 _ _ ?_
      obtain ⟨hi1, hj1, hpl, hmv⟩ := hInv
      replace hS := PX.rerow (id := 1) (((moveD la lb).map encN)) hS rfl (encM_end hpl hi1 hj1 (by simpa using h6) hmv)
      replace hS := PX.sl [5, 6, 7, 8, 9, 10, 38] (PX.reslot (t := 8) (.own 1 1 ((moveD la lb).length)) hS rfl (fun _ _ _ _ h => (show ((.own 1 1 la.length) : PX.PV) = (.own 1 1 ((moveD la lb).length)) from by rw [moveD_len]) ▸ h))
      replace hS := PX.fz 1 [⟨8, [], (.imm 1 ((moveD la lb).map encN))⟩] [] [5, 6, 7, 8, 9, 10, 38] [] [.b (PX.lenIs ((moveD la lb).length) ((moveD la lb).map encN))] hS ⟨(by simp [PX.lenIs]), trivial⟩
      refine PX.G [⟨4, [], (.imm 1 ((moveD la lb).map encN))⟩] [] 2 [] [] [.au, .au] [4] [] hS hE trivial fun a w hS => ?_
      refine wp_ret ?_
      try simp only [Exit.then, Exit.inBlock, Nat.reduceEqDiff, ↓reduceIte]
      rw [show (.imm 1 ((moveD la lb).map encN)) = ((.imm 1 ((moveD la lb).map encN)) : PX.PV) from rfl]
      exact PX.ret_s hS hE (by kernel_rfl) (by kernel_rfl) (by kernel_rfl) (.inl rfl)
end Go.Proofs.YtlaiafalilcgjaaGreatDoor
namespace Go.Proofs.YtlaiafalilcgjaaGreatDoor
open Go.RowKit Go.PX
set_option maxRecDepth 100000
open Go.BK
theorem rem_is {P : Program} {t : TypeId} {x y : Operand} (n k : Int) (hk : 0 < k) : PX.BinIs P .rem t x y (.int .i64 n) (.int .i64 k) (.int .i64 (Int.tmod n k)) := fun w => by
  have h0 : (k == 0) = false := by simp; omega
  have h1 : ¬ k = 0 := by omega
  have h2 : ¬ k = -1 := by omega
  simp [eqGuard, binOp, Op.intDiv, h0, h1, h2]

set_option maxHeartbeats 400000 in
theorem con_modk (n k : Int) (hk : 0 < k) : PX.Con Tryz.prog 12 [(.sc (.int .i64 n)), (.sc (.int .i64 k))] [] 1 100000 (.sc (.int .i64 (modD n k))) [] := by
  refine PX.con_intro [(.sc (.int .i64 n)), (.sc (.int .i64 k))] 14 Tryz.func12 rfl rfl (by kernel_rfl) (by kernel_rfl) ?_
  intro E a hE hS
  generalize E.w0 = w at hS ⊢
  have mix := mixed
  refine PX.G [] [] 1 [] [] [.au] [0, 1] [] hS hE trivial fun a w hS => ?_
  refine PX.G [⟨0, [], (.sc (.int .i64 (Int.tmod n k)))⟩] [] 1 [.q (PX.BinIs Tryz.prog .rem 3 (.tmp 5) (.tmp 6) (.int .i64 n) (.int .i64 k) (.int .i64 (Int.tmod n k)))] [] [.au, .au, .bs (.int .i64 (Int.tmod n k)), .au] [0, 1] [] hS hE ⟨rem_is n k hk, trivial⟩ fun a w hS => ?_
  refine wp_seq_k fun K1 hK1 => ?_
  refine PX.G [⟨9, [], (.sc (.bool (decide ((Int.tmod n k) < 0))))⟩] [] 1 [] [] [.au, .au] [0, 1, 9] [] hS hE trivial fun a w hS => ?_
  refine PX.cond_s (decide ((Int.tmod n k) < 0)) hS (by kernel_rfl) (fun h2 => ?_) (fun h2 => ?_)
  · skip
    refine PX.G0 [⟨0, [], (.sc (.int .i64 (IntKind.i64.wrap ((Int.tmod n k) + k))))⟩] [] 1 [] [] [.au, .au, .au, .au] [0] [] hS hE trivial fun a w hS => ?_
    refine hK1 _ _ ?_
    refine PX.G [⟨4, [], (.sc (.int .i64 (IntKind.i64.wrap ((Int.tmod n k) + k))))⟩] [] 1 [] [] [.au, .au] [4] [] hS hE trivial fun a w hS => ?_
    refine wp_ret ?_
    try simp only [Exit.then, Exit.inBlock, Nat.reduceEqDiff, ↓reduceIte]
    rw [show (.sc (.int .i64 (modD n k))) = ((.sc (.int .i64 (IntKind.i64.wrap ((Int.tmod n k) + k)))) : PX.PV) from by unfold modD; rw [if_pos (of_decide_eq_true h2)]]
    exact PX.ret_s hS hE (by kernel_rfl) (by kernel_rfl) (by kernel_rfl) (.inl rfl)
  · skip
    refine wp_skip ?_
    refine hK1 _ _ ?_
    refine PX.G [⟨4, [], (.sc (.int .i64 (Int.tmod n k)))⟩] [] 1 [] [] [.au, .au] [4] [] hS hE trivial fun a w hS => ?_
    refine wp_ret ?_
    try simp only [Exit.then, Exit.inBlock, Nat.reduceEqDiff, ↓reduceIte]
    rw [show (.sc (.int .i64 (modD n k))) = ((.sc (.int .i64 (Int.tmod n k))) : PX.PV) from by unfold modD; rw [if_neg (of_decide_eq_false h2)]]
    exact PX.ret_s hS hE (by kernel_rfl) (by kernel_rfl) (by kernel_rfl) (.inl rfl)
end Go.Proofs.YtlaiafalilcgjaaGreatDoor
namespace Go.Proofs.YtlaiafalilcgjaaGreatDoor
open Go.RowKit Go.PX
set_option maxRecDepth 100000
open Go.BK
theorem kB_in {other : List Int} {k : Nat} {z : Int} (h : other[k]? = some z) : kB other k = modD z 8 := by unfold kB; rw [h]
theorem kB_out {other : List Int} {k : Nat} (h : other.length ≤ k) : kB other k = 0 := by unfold kB; rw [List.getElem?_eq_none h]
theorem lnB_1 {x k : Int} (h : (k == 1) = true) : lnB x k = [] := by unfold lnB; rw [if_pos (by simpa using h)]
theorem lnB_2 {x k : Int} (h1 : (k == 1) = false) (h : (k == 2) = true) : lnB x k = [122, 10] := by unfold lnB; rw [if_neg (by simpa using h1), if_pos (by simpa using h)]
theorem lnB_3 {x k : Int} (h1 : (k == 1) = false) (h2 : (k == 2) = false) (h : (k == 3) = true) : lnB x k = [121, 10] ++ [kindA x, 10] := by unfold lnB; rw [if_neg (by simpa using h1), if_neg (by simpa using h2), if_pos (by simpa using h)]
theorem lnB_d {x k : Int} (h1 : (k == 1) = false) (h2 : (k == 2) = false) (h3 : (k == 3) = false) : lnB x k = [kindA x, 10] := by unfold lnB; rw [if_neg (by simpa using h1), if_neg (by simpa using h2), if_neg (by simpa using h3)]

set_option maxHeartbeats 400000 in
theorem con_texts (l other : List Int) : PX.Con Tryz.prog 9 [(.imm 1 (l.map encI)), (.imm 1 (other.map encI))] [] 1 100000 (.tup [.sc (PX.sV (tA l (min l.length 30))), .sc (PX.sV (tB l other (min l.length 30)))]) [] := by
  refine PX.con_intro [(.imm 1 (l.map encI)), (.imm 1 (other.map encI))] 74 Tryz.func9 rfl rfl (by kernel_rfl) (by kernel_rfl) ?_
  intro E a hE hS
  generalize E.w0 = w at hS ⊢
  have mix := mixed
  refine PX.G [] [] 1 [] [] [.au, .au] [0, 1] [] hS hE trivial fun a w hS => ?_
  refine PX.G [⟨6, [], (.sc (PX.sV []))⟩, ⟨7, [], (.sc (PX.sV []))⟩] [] 1 [] [] [.au, .au] [0, 1, 6, 7] [] hS hE trivial fun a w hS => ?_
  refine wp_seq_k fun K1 hK1 => ?_
  refine PX.G [⟨8, [], (.sc (.int .i64 0))⟩] [] 1 [] [] [.au] [0, 1, 6, 7, 8] [] hS hE trivial fun a w hS => ?_
  refine wp_block ?_
  refine wp_loop_ghost (fun m2 a' w' => ∃ k : Nat, m2 = (min l.length 30) - k ∧ k ≤ (min l.length 30) ∧ True ∧ PX.Sat E 74 [⟨0, [], (.imm 1 (l.map encI))⟩, ⟨1, [], (.imm 1 (other.map encI))⟩, ⟨6, [], (.sc (PX.sV (tA l (k))))⟩, ⟨7, [], (.sc (PX.sV (tB l other (k))))⟩, ⟨8, [], (.sc (.int .i64 ((k : Nat) : Int)))⟩] [] 1 a' w') ((min l.length 30) - 0) ⟨0, rfl, Nat.zero_le _, trivial, (PX.canon [] _ _ 1 hS hE (by kernel_rfl) (by kernel_rfl) (by kernel_rfl))⟩ ?_
  clear hS; rintro m2 a w ⟨k, hm2, hlek, hIk, hS⟩
  refine wp_seq_k fun K3 hK3 => ?_
  have hlA := tA_len l k; have hlB := tB_len l other k
  refine PX.G [⟨17, [], (.sc (.bool (decide (((k : Nat) : Int) < ((l.length : Nat) : Int)) && decide (((k : Nat) : Int) < 30))))⟩] [] 1 [.q ((.sc (.int .i64 (((l.map encI).length : Nat) : Int)) : PX.PV) = (.sc (.int .i64 ((l.length : Nat) : Int))))] [(4, decide (((k : Nat) : Int) < ((l.length : Nat) : Int)))] [.au, .au, .nm (.sc (.int .i64 ((l.length : Nat) : Int))), .au, .au, .au, .au, .pk] [0, 1, 6, 7, 8, 17] [] hS hE ⟨PX.nm_len (by simp), trivial⟩ fun a w hS => ?_
  refine PX.cond_s (decide (((k : Nat) : Int) < ((l.length : Nat) : Int)) && decide (((k : Nat) : Int) < 30)) hS (by kernel_rfl) (fun h4 => ?_) (fun h4 => ?_)
  · skip
    refine wp_skip ?_
    refine hK3 _ _ ?_
    refine wp_seq_k fun K5 hK5 => ?_
    refine wp_block ?_
    have hkk : k < l.length ∧ k < 30 := by have := h4; simp at this; omega
    obtain ⟨y, hy⟩ := get_of_lt hkk.1
    refine PX.G [⟨6, [], (.sc (PX.sV (tA l (k + 1))))⟩] [] 2 [.q (((k : Nat) : Int) = ((k : Nat) : Int)), .q ((l.map encI)[k]? = some (encI y)), .q (PX.Con Tryz.prog 12 [(.sc (.int .i64 y)), (.sc (.int .i64 4))] [] 1 1 (.sc (.int .i64 (modD y 4))) []), .q ((.sc (.int .u8 (IntKind.u8.wrap (IntKind.i64.wrap (97 + (modD y 4))))) : PX.PV) = (.sc (.int .u8 ((kindA y).toNat : Int)))), .q ((.imm 1 ([[(.sc (.int .u8 ((kindA y).toNat : Int)))], [(.sc (.int .u8 10))]]) : PX.PV) = .imm 1 (([kindA y, 10] : List UInt8).map PX.byteV)), .b (PX.lenIs 2 ([[(.sc (.int .u8 ((kindA y).toNat : Int)))], [(.sc (.int .u8 10))]])), .q (PX.BinIs Tryz.prog .add 9 (.tmp 20) (.tmp 29) (PX.sV (tA l (k))) (PX.sV [kindA y, 10]) (PX.sV (tA l (k + 1))))] [] [.au, .au, .au, .ix k (encI y), .au, .cl [] (.sc (.int .i64 (modD y 4))) [] 1, .au, .nm (.sc (.int .u8 ((kindA y).toNat : Int))), .au, .bt ([kindA y, 10]), .bs (PX.sV (tA l (k + 1))), .au] [0, 1, 6, 7, 8] [] hS hE ⟨rfl, PX.map_get hy, PX.con_any (con_mod4 y), by rw [kind_val], rfl, rfl, PX.str_add _ _ _ ((tA_succ hy).symm) (by have := tA_len l k; have := tB_len l other k; simp; omega), trivial⟩ fun a w hS => ?_
    refine PX.G [⟨9, [], (.sc (.int .i64 0))⟩] [] 2 [] [] [.au] [0, 1, 6, 7, 8, 9] [] hS hE trivial fun a w hS => ?_
    refine PX.seq_cut (E := E) (N := 74) (T := [⟨0, [], (.imm 1 (l.map encI))⟩, ⟨1, [], (.imm 1 (other.map encI))⟩, ⟨6, [], (.sc (PX.sV (tA l (k + 1))))⟩, ⟨7, [], (.sc (PX.sV (tB l other (k))))⟩, ⟨8, [], (.sc (.int .i64 ((k : Nat) : Int)))⟩, ⟨9, [], (.sc (.int .i64 (kB other k)))⟩]) (H := []) (nx := 1) ?_ ?_
    · skip
      refine PX.G [⟨34, [], (.sc (.bool (decide (((k : Nat) : Int) < ((other.length : Nat) : Int)))))⟩] [] 2 [.q ((.sc (.int .i64 (((other.map encI).length : Nat) : Int)) : PX.PV) = (.sc (.int .i64 ((other.length : Nat) : Int))))] [] [.au, .au, .nm (.sc (.int .i64 ((other.length : Nat) : Int))), .au] [0, 1, 6, 7, 8, 9, 34] [] hS hE ⟨PX.nm_len (by simp), trivial⟩ fun a w hS => ?_
      refine PX.cond_s (decide (((k : Nat) : Int) < ((other.length : Nat) : Int))) hS (by kernel_rfl) (fun h6 => ?_) (fun h6 => ?_)
      · skip
        have hko : k < other.length := by simpa using h6
        obtain ⟨z, hz⟩ := get_of_lt hko
        refine PX.G0 [⟨9, [], (.sc (.int .i64 (modD z 8)))⟩] [] 2 [.q (((k : Nat) : Int) = ((k : Nat) : Int)), .q ((other.map encI)[k]? = some (encI z)), .q (PX.Con Tryz.prog 12 [(.sc (.int .i64 z)), (.sc (.int .i64 8))] [] 2 2 (.sc (.int .i64 (modD z 8))) [])] [] [.au, .au, .ix k (encI z), .au, .cl [] (.sc (.int .i64 (modD z 8))) [] 2, .au] [0, 1, 6, 7, 8, 9] [] hS hE ⟨rfl, PX.map_get hz, PX.con_any (con_mod8 z), trivial⟩ fun a w hS => ?_
        replace hS := PX.sl [0, 1, 6, 7, 8, 9] (PX.reslot (t := 9) (.sc (.int .i64 (kB other k))) hS rfl (fun _ _ _ _ h => (show ((.sc (.int .i64 (modD z 8))) : PX.PV) = (.sc (.int .i64 (kB other k))) from by rw [kB_in hz]) ▸ h))
        exact (PX.canon [] _ _ 1 hS hE (by kernel_rfl) (by kernel_rfl) (by kernel_rfl))
      · skip
        refine wp_skip ?_
        replace hS := PX.sl [0, 1, 6, 7, 8, 9, 34] (PX.reslot (t := 9) (.sc (.int .i64 (kB other k))) hS rfl (fun _ _ _ _ h => (show ((.sc (.int .i64 0)) : PX.PV) = (.sc (.int .i64 (kB other k))) from by rw [kB_out (by have := h6; simp at this; omega)]) ▸ h))
        replace hS := PX.sl [0, 1, 6, 7, 8, 9] hS
        exact (PX.canon [] _ _ 1 hS hE (by kernel_rfl) (by kernel_rfl) (by kernel_rfl))
    clear hS; intro a w hS
    refine PX.G [⟨40, [], (.sc (.int .i64 (kB other k)))⟩] [] 1 [] [] [.au] [0, 1, 6, 7, 8, 40] [] hS hE trivial fun a w hS => ?_
    refine wp_block ?_
    refine PX.G [⟨52, [], (.sc (.bool ((kB other k) == 1)))⟩] [] 1 [] [] [.au, .au] [0, 1, 6, 7, 8, 40, 52] [] hS hE trivial fun a w hS => ?_
    refine PX.cond_s ((kB other k) == 1) hS (by kernel_rfl) (fun h7 => ?_) (fun h7 => ?_)
    · skip
      refine wp_skip ?_
      refine hK5 _ _ ?_
      refine PX.G0 [⟨8, [], (.sc (.int .i64 ((k + 1 : Nat) : Int)))⟩] [] 1 [.q ((.sc (.int .i64 (IntKind.i64.wrap (((k : Nat) : Int) + 1))) : PX.PV) = (.sc (.int .i64 ((k + 1 : Nat) : Int))))] [] [.au, .nm (.sc (.int .i64 ((k + 1 : Nat) : Int))), .au] [0, 1, 6, 7, 8] [] hS hE ⟨PX.nm_int (by rw [IntWalk.i64_in _ (by omega)]; omega), trivial⟩ fun a w hS => ?_
      replace hS := PX.sl [0, 1, 6, 7, 8] (PX.reslot (t := 7) (.sc (PX.sV (tB l other (k + 1)))) hS rfl (fun _ _ _ _ h => (show ((.sc (PX.sV (tB l other (k)))) : PX.PV) = (.sc (PX.sV (tB l other (k + 1)))) from by rw [tB_succ hy, lnB_1 h7] <;> simp) ▸ h))
      exact ⟨(min l.length 30) - (k + 1), by omega, k + 1, rfl, by omega, trivial, (PX.canon [] _ _ 1 hS hE (by kernel_rfl) (by kernel_rfl) (by kernel_rfl))⟩
    · skip
      refine PX.G [⟨54, [], (.sc (.bool ((kB other k) == 2)))⟩] [] 1 [] [] [.au, .au] [0, 1, 6, 7, 8, 40, 54] [] hS hE trivial fun a w hS => ?_
      refine PX.cond_s ((kB other k) == 2) hS (by kernel_rfl) (fun h8 => ?_) (fun h8 => ?_)
      · skip
        refine PX.G0 [⟨7, [], (.sc (PX.sV ((tB l other (k)) ++ ([122, 10] : List UInt8))))⟩] [] 1 [.q (PX.BinIs Tryz.prog .add 9 (.tmp 56) (.const (.string ⟨#[122, 10]⟩)) (PX.sV (tB l other (k))) (PX.sV [122, 10]) (PX.sV ((tB l other (k)) ++ ([122, 10] : List UInt8))))] [] [.au, .bs (PX.sV ((tB l other (k)) ++ ([122, 10] : List UInt8))), .au] [0, 1, 6, 7, 8] [] hS hE ⟨PX.str_add _ _ _ (rfl) (by have := tA_len l k; have := tB_len l other k; simp; omega), trivial⟩ fun a w hS => ?_
        refine hK5 _ _ ?_
        refine PX.G0 [⟨8, [], (.sc (.int .i64 ((k + 1 : Nat) : Int)))⟩] [] 1 [.q ((.sc (.int .i64 (IntKind.i64.wrap (((k : Nat) : Int) + 1))) : PX.PV) = (.sc (.int .i64 ((k + 1 : Nat) : Int))))] [] [.au, .nm (.sc (.int .i64 ((k + 1 : Nat) : Int))), .au] [0, 1, 6, 7, 8] [] hS hE ⟨PX.nm_int (by rw [IntWalk.i64_in _ (by omega)]; omega), trivial⟩ fun a w hS => ?_
        replace hS := PX.sl [0, 1, 6, 7, 8] (PX.reslot (t := 7) (.sc (PX.sV (tB l other (k + 1)))) hS rfl (fun _ _ _ _ h => (show ((.sc (PX.sV ((tB l other (k)) ++ ([122, 10] : List UInt8)))) : PX.PV) = (.sc (PX.sV (tB l other (k + 1)))) from by rw [tB_succ hy, lnB_2 h7 h8] <;> simp) ▸ h))
        exact ⟨(min l.length 30) - (k + 1), by omega, k + 1, rfl, by omega, trivial, (PX.canon [] _ _ 1 hS hE (by kernel_rfl) (by kernel_rfl) (by kernel_rfl))⟩
      · skip
        refine PX.G [⟨58, [], (.sc (.bool ((kB other k) == 3)))⟩] [] 1 [] [] [.au, .au] [0, 1, 6, 7, 8, 58] [] hS hE trivial fun a w hS => ?_
        refine PX.cond_s ((kB other k) == 3) hS (by kernel_rfl) (fun h9 => ?_) (fun h9 => ?_)
        · skip
          refine PX.G0 [⟨7, [], (.sc (PX.sV (((tB l other (k)) ++ ([121, 10] : List UInt8)) ++ ([kindA y, 10] : List UInt8))))⟩] [] 2 [.q (PX.BinIs Tryz.prog .add 9 (.tmp 60) (.const (.string ⟨#[121, 10]⟩)) (PX.sV (tB l other (k))) (PX.sV [121, 10]) (PX.sV ((tB l other (k)) ++ ([121, 10] : List UInt8)))), .q (((k : Nat) : Int) = ((k : Nat) : Int)), .q ((l.map encI)[k]? = some (encI y)), .q (PX.Con Tryz.prog 12 [(.sc (.int .i64 y)), (.sc (.int .i64 4))] [] 1 1 (.sc (.int .i64 (modD y 4))) []), .q ((.sc (.int .u8 (IntKind.u8.wrap (IntKind.i64.wrap (97 + (modD y 4))))) : PX.PV) = (.sc (.int .u8 ((kindA y).toNat : Int)))), .q ((.imm 1 ([[(.sc (.int .u8 ((kindA y).toNat : Int)))], [(.sc (.int .u8 10))]]) : PX.PV) = .imm 1 (([kindA y, 10] : List UInt8).map PX.byteV)), .b (PX.lenIs 2 ([[(.sc (.int .u8 ((kindA y).toNat : Int)))], [(.sc (.int .u8 10))]])), .q (PX.BinIs Tryz.prog .add 9 (.tmp 61) (.tmp 70) (PX.sV ((tB l other (k)) ++ ([121, 10] : List UInt8))) (PX.sV [kindA y, 10]) (PX.sV (((tB l other (k)) ++ ([121, 10] : List UInt8)) ++ ([kindA y, 10] : List UInt8))))] [] [.au, .bs (PX.sV ((tB l other (k)) ++ ([121, 10] : List UInt8))), .au, .au, .ix k (encI y), .au, .cl [] (.sc (.int .i64 (modD y 4))) [] 1, .au, .nm (.sc (.int .u8 ((kindA y).toNat : Int))), .au, .bt ([kindA y, 10]), .bs (PX.sV (((tB l other (k)) ++ ([121, 10] : List UInt8)) ++ ([kindA y, 10] : List UInt8))), .au] [0, 1, 6, 7, 8] [] hS hE ⟨PX.str_add _ _ _ (rfl) (by have := tA_len l k; have := tB_len l other k; simp; omega), rfl, PX.map_get hy, PX.con_any (con_mod4 y), by rw [kind_val], rfl, rfl, PX.str_add _ _ _ (rfl) (by have := tA_len l k; have := tB_len l other k; simp; omega), trivial⟩ fun a w hS => ?_
          refine hK5 _ _ ?_
          refine PX.G0 [⟨8, [], (.sc (.int .i64 ((k + 1 : Nat) : Int)))⟩] [] 2 [.q ((.sc (.int .i64 (IntKind.i64.wrap (((k : Nat) : Int) + 1))) : PX.PV) = (.sc (.int .i64 ((k + 1 : Nat) : Int))))] [] [.au, .nm (.sc (.int .i64 ((k + 1 : Nat) : Int))), .au] [0, 1, 6, 7, 8] [] hS hE ⟨PX.nm_int (by rw [IntWalk.i64_in _ (by omega)]; omega), trivial⟩ fun a w hS => ?_
          replace hS := PX.sl [0, 1, 6, 7, 8] (PX.reslot (t := 7) (.sc (PX.sV (tB l other (k + 1)))) hS rfl (fun _ _ _ _ h => (show ((.sc (PX.sV (((tB l other (k)) ++ ([121, 10] : List UInt8)) ++ ([kindA y, 10] : List UInt8)))) : PX.PV) = (.sc (PX.sV (tB l other (k + 1)))) from by rw [tB_succ hy, lnB_3 h7 h8 h9] <;> simp) ▸ h))
          exact ⟨(min l.length 30) - (k + 1), by omega, k + 1, rfl, by omega, trivial, (PX.canon [] _ _ 1 hS hE (by kernel_rfl) (by kernel_rfl) (by kernel_rfl))⟩
        · skip
          refine PX.G0 [⟨7, [], (.sc (PX.sV ((tB l other (k)) ++ ([kindA y, 10] : List UInt8))))⟩] [] 2 [.q (((k : Nat) : Int) = ((k : Nat) : Int)), .q ((l.map encI)[k]? = some (encI y)), .q (PX.Con Tryz.prog 12 [(.sc (.int .i64 y)), (.sc (.int .i64 4))] [] 1 1 (.sc (.int .i64 (modD y 4))) []), .q ((.sc (.int .u8 (IntKind.u8.wrap (IntKind.i64.wrap (97 + (modD y 4))))) : PX.PV) = (.sc (.int .u8 ((kindA y).toNat : Int)))), .q ((.imm 1 ([[(.sc (.int .u8 ((kindA y).toNat : Int)))], [(.sc (.int .u8 10))]]) : PX.PV) = .imm 1 (([kindA y, 10] : List UInt8).map PX.byteV)), .b (PX.lenIs 2 ([[(.sc (.int .u8 ((kindA y).toNat : Int)))], [(.sc (.int .u8 10))]])), .q (PX.BinIs Tryz.prog .add 9 (.tmp 41) (.tmp 50) (PX.sV (tB l other (k))) (PX.sV [kindA y, 10]) (PX.sV ((tB l other (k)) ++ ([kindA y, 10] : List UInt8))))] [] [.au, .au, .au, .ix k (encI y), .au, .cl [] (.sc (.int .i64 (modD y 4))) [] 1, .au, .nm (.sc (.int .u8 ((kindA y).toNat : Int))), .au, .bt ([kindA y, 10]), .bs (PX.sV ((tB l other (k)) ++ ([kindA y, 10] : List UInt8))), .au] [0, 1, 6, 7, 8] [] hS hE ⟨rfl, PX.map_get hy, PX.con_any (con_mod4 y), by rw [kind_val], rfl, rfl, PX.str_add _ _ _ (rfl) (by have := tA_len l k; have := tB_len l other k; simp; omega), trivial⟩ fun a w hS => ?_
          refine hK5 _ _ ?_
          refine PX.G0 [⟨8, [], (.sc (.int .i64 ((k + 1 : Nat) : Int)))⟩] [] 2 [.q ((.sc (.int .i64 (IntKind.i64.wrap (((k : Nat) : Int) + 1))) : PX.PV) = (.sc (.int .i64 ((k + 1 : Nat) : Int))))] [] [.au, .nm (.sc (.int .i64 ((k + 1 : Nat) : Int))), .au] [0, 1, 6, 7, 8] [] hS hE ⟨PX.nm_int (by rw [IntWalk.i64_in _ (by omega)]; omega), trivial⟩ fun a w hS => ?_
          replace hS := PX.sl [0, 1, 6, 7, 8] (PX.reslot (t := 7) (.sc (PX.sV (tB l other (k + 1)))) hS rfl (fun _ _ _ _ h => (show ((.sc (PX.sV ((tB l other (k)) ++ ([kindA y, 10] : List UInt8)))) : PX.PV) = (.sc (PX.sV (tB l other (k + 1)))) from by rw [tB_succ hy, lnB_d h7 h8 h9] <;> simp) ▸ h))
          exact ⟨(min l.length 30) - (k + 1), by omega, k + 1, rfl, by omega, trivial, (PX.canon [] _ _ 1 hS hE (by kernel_rfl) (by kernel_rfl) (by kernel_rfl))⟩
  · skip
    refine wp_exit ?_
    refine hK1 _ _ ?_
    refine PX.G [⟨4, [], (.sc (PX.sV (tA l (k))))⟩, ⟨5, [], (.sc (PX.sV (tB l other (k))))⟩] [] 1 [] [] [.au, .au, .au, .au] [4, 5] [] hS hE trivial fun a w hS => ?_
    refine wp_ret ?_
    try simp only [Exit.then, Exit.inBlock, Nat.reduceEqDiff, ↓reduceIte]
    rw [show (.tup [.sc (PX.sV (tA l (min l.length 30))), .sc (PX.sV (tB l other (min l.length 30)))]) = ((.tup [(.sc (PX.sV (tA l (k)))), (.sc (PX.sV (tB l other (k))))]) : PX.PV) from by rw [show k = min l.length 30 from by have := h4; simp at this; omega]]
    exact PX.ret_s hS hE (by kernel_rfl) (by kernel_rfl) (by kernel_rfl) (.inl rfl)
end Go.Proofs.YtlaiafalilcgjaaGreatDoor
