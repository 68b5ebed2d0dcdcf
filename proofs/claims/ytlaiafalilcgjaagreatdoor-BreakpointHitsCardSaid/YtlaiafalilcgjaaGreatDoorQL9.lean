/- Proved: what a reading of an argument says, opened at its cells, with the bound of the form's own reach. -/
import Derived.Deep.Slices
import Derived.Deep.Fields
import Derived.ChangeSame
import Derived.OpenShut
import Derived.SizedLaws
import Derived.Test.YtlaiafalilcgjaaGreatDoorRows
import Derived.Test.YtlaiafalilcgjaaGreatDoorQL4
import Derived.Test.YtlaiafalilcgjaaGreatDoorQL5
set_option linter.unusedVariables false
set_option linter.unusedSimpArgs false
namespace Go.Arg
open Go.ChangeShapes Go.WideShapes Go.Deep

section
variable {H : Type} (enc : TypeId × Value → H) (P : Program) (w : World)
/-- the cells read as a value of the type, and every slice under them is within the reach -/
def Op (n : Nat) (t : TypeId) (cs : List Value) : Prop :=
  ∃ y, DataW.trod enc P w 0 (fun _ => true) true n t cs = some y ∧ ∀ k ∈ y.1.weights P t, k ≤ 140737488351232
end
section
variable {H : Type} {enc : TypeId × Value → H} {P : Program} {w : World}
theorem mem_all {e : TypeId} : ∀ {l : List (DataW H)} {d : DataW H}, d ∈ l → ∀ n ∈ d.weights P e, n ∈ DataW.weightsAll P e l
  | d' :: r, d, hd, n, hn => by
    simp only [DataW.weightsAll, List.mem_append]
    rcases List.mem_cons.1 hd with rfl | h
    · exact Or.inl hn
    · exact Or.inr (mem_all h n hn)
theorem Op.int {n : Nat} {t : TypeId} {k : IntKind} {cs : List Value} (ht : P.underlying t = some (.int k)) (h : Op enc P w n t cs) : ∃ x, cs = [.int k x] ∧ (Lit.int k x).wf = true := by
  obtain ⟨y, h, _⟩ := h
  obtain ⟨x, h1, _, h2⟩ := DataW.trod_int ht h
  exact ⟨x, h1, h2⟩
theorem Op.fld {n : Nat} {t : TypeId} {fs : Array Field} {cs : List Value} (ht : P.underlying t = some (.struct fs)) (h : Op enc P w n t cs) :
    cs.length = P.cellsOf t ∧ ∃ m, ∀ (i : Nat) (f : Field), fs[i]? = some f → Op enc P w m f.type ((cs.drop f.offset).take (P.cellsOf f.type)) := by
  obtain ⟨y, h, hw⟩ := h
  obtain ⟨xs, m, _, rfl, hl, hx, hf⟩ := DataW.trod_struct ht h
  refine ⟨hl, m, fun i f hi => ?_⟩
  have h1 := hf i f hi
  have hlt : i < fs.size := (Array.getElem?_eq_some_iff.1 hi).1
  have hg : xs[i]? = some (xs[i]'(by omega)) := List.getElem?_eq_getElem (by omega)
  refine ⟨_, h1.trans hg, fun k hk => hw k ?_⟩
  simp only [DataW.weights, ht]
  exact DataW.weights_mem_each (j := i) (t := f.type) (d := (xs[i]'(by omega)).1) (by simp [hi]) (by simp [hg]) k hk
theorem Op.elt {n c : Nat} {t e : TypeId} {cs : List Value} (ht : P.underlying t = some (.array c e)) (h : Op enc P w n t cs) :
    cs.length = P.cellsOf t ∧ ∃ m, ∀ i, i < c → Op enc P w m e ((cs.drop (i * P.cellsOf e)).take (P.cellsOf e)) := by
  obtain ⟨y, h, hw⟩ := h
  obtain ⟨xs, m, _, rfl, hl, hx, hf⟩ := DataW.trod_array ht h
  refine ⟨hl, m, fun i hi => ?_⟩
  have hg : xs[i]? = some (xs[i]'(by omega)) := List.getElem?_eq_getElem (by omega)
  refine ⟨_, (hf i hi).trans hg, fun k hk => hw k ?_⟩
  simp only [DataW.weights, ht]
  exact mem_all (List.mem_map.2 ⟨_, List.getElem_mem (by omega), rfl⟩) k hk
theorem Op.sl {n : Nat} {t e : TypeId} {cs : List Value} (ht : P.underlying t = some (.slice e)) (h : Op enc P w n t cs) :
    cs = [.slice none 0 0] ∨ ∃ (a : Addr) (len cap m : Nat), cs = [.slice (some a) len cap] ∧ len ≤ cap ∧ cap ≤ maxLen ∧ len * P.bytesOf e ≤ 140737488351232 ∧
      ∀ i, i < len → ∃ cs', w.cells? 0 (a.add (i * P.cellsOf e)) (P.cellsOf e) = some cs' ∧ Op enc P w m e cs' := by
  obtain ⟨y, h, hw⟩ := h
  rcases open_slice ht h with ⟨h0, _⟩ | ⟨a, len, cap, m, n, D, Pl, hcs, _, hl, hm, hmm, rfl, hi⟩
  · exact .inl h0
  · have hmc : m = cap := by rw [hmm]; rfl
    simp only [DataW.weights, ht] at hw
    refine .inr ⟨a, len, cap, n, hcs, hl, hm, ?_, fun i him => ?_⟩
    · have := hw _ (List.mem_cons_self ..)
      simp only [List.length_map, List.length_range] at this
      exact Nat.le_trans (Nat.mul_le_mul_right _ (Nat.le_add_right _ _)) this
    · obtain ⟨cs', h1, h2⟩ := hi i (by omega)
      refine ⟨cs', h1, _, h2, fun k hk => hw k (List.mem_cons_of_mem _ (List.mem_append_left _ ?_))⟩
      exact mem_all (List.mem_map.2 ⟨i, List.mem_range.2 him, rfl⟩) k hk

/-- the type of a cell of a value of structs and arrays -/
def leaf (P : Program) : Nat → TypeId → Nat → Option TypeId
  | 0, _, _ => none
  | k + 1, t, i => match P.underlying t with
    | some (.int _) => if i = 0 then some t else none
    | some (.slice _) => if i = 0 then some t else none
    | some (.struct fs) => fs.toList.findSome? fun f => if f.offset ≤ i ∧ i < f.offset + P.cellsOf f.type then leaf P k f.type (i - f.offset) else none
    | some (.array n e) => if i / P.cellsOf e < n then leaf P k e (i % P.cellsOf e) else none
    | _ => none
theorem get_part {cs : List Value} {o s i : Nat} {v : Value} (h : ((cs.drop o).take s)[i]? = some v) : cs[o + i]? = some v := by
  rw [List.getElem?_take] at h
  split at h
  · rwa [List.getElem?_drop] at h
  · cases h
theorem Op.leaf : ∀ (k : Nat) {n : Nat} {t u : TypeId} {i : Nat} {cs : List Value}, Arg.leaf P k t i = some u → Op enc P w n t cs → ∃ m v, cs[i]? = some v ∧ Op enc P w m u [v]
  | k + 1, n, t, u, i, cs, hl, h => by
    unfold Arg.leaf at hl
    split at hl
    · rename_i kd ht
      by_cases h0 : i = 0
      · rw [if_pos h0] at hl
        injection hl with hl
        subst h0 hl
        obtain ⟨x, rfl, _⟩ := h.int ht
        exact ⟨n, _, rfl, h⟩
      · rw [if_neg h0] at hl; cases hl
    · rename_i e ht
      by_cases h0 : i = 0
      · rw [if_pos h0] at hl
        injection hl with hl
        subst h0 hl
        rcases h.sl ht with rfl | ⟨_, _, _, _, rfl, _⟩
        · exact ⟨n, _, rfl, h⟩
        · exact ⟨n, _, rfl, h⟩
      · rw [if_neg h0] at hl; cases hl
    · rename_i fs ht
      obtain ⟨f, hf, h1⟩ := List.exists_of_findSome?_eq_some hl
      split at h1
      · rename_i hb
        obtain ⟨j, hj⟩ := List.getElem?_of_mem hf
        obtain ⟨_, m, hm⟩ := h.fld ht
        obtain ⟨m', v, hv, ho⟩ := Op.leaf k h1 (hm j f (by simpa using hj))
        refine ⟨m', v, ?_, ho⟩
        have := get_part hv
        rwa [show f.offset + (i - f.offset) = i by omega] at this
      · cases h1
    · rename_i c e ht
      split at hl
      · rename_i hb
        obtain ⟨_, m, hm⟩ := h.elt ht
        obtain ⟨m', v, hv, ho⟩ := Op.leaf k hl (hm _ hb)
        refine ⟨m', v, ?_, ho⟩
        have := get_part hv
        rwa [Nat.div_add_mod'] at this
      · cases hl
    · cases hl
end
end Go.Arg
namespace Go.Proofs.YtlaiafalilcgjaaGreatDoor
open Go.ChangeShapes Go.WideShapes Go.Deep Go.RowKit Go.PX Go.SX
theorem spot_none {w : World} {a : Addr} {v : Value} (h : w.cell? (a.add 0) = some v) : ∃ b off, a = ⟨b, off, none⟩ := by
  obtain ⟨b, off, spot⟩ := a
  cases spot with
  | none => exact ⟨b, off, rfl⟩
  | some s => simp [Addr.add, World.cell?] at h; split at h <;> simp_all
theorem add_none (b off k : Nat) : (⟨b, off, none⟩ : Addr).add k = ⟨b, off + k, none⟩ := by unfold Addr.add; split <;> simp_all
theorem list_of {α : Type} {R : Nat → α → Prop} : ∀ n : Nat, (∀ i, i < n → ∃ p, R i p) → ∃ l : List α, l.length = n ∧ ∀ i p, l[i]? = some p → R i p
  | 0, _ => ⟨[], rfl, by simp⟩
  | n + 1, h => by
    obtain ⟨l, hl, hr⟩ := list_of n (fun i hi => h i (by omega))
    obtain ⟨p, hp⟩ := h n (by omega)
    refine ⟨l ++ [p], by simp [hl], fun i q hq => ?_⟩
    rcases Nat.lt_or_ge i l.length with hi | hi
    · rw [List.getElem?_append_left hi] at hq; exact hr i q hq
    · rw [List.getElem?_append_right hi] at hq
      have e0 : i - l.length = 0 := by have := (List.getElem?_eq_some_iff.1 hq).1; simp at this; omega
      rw [e0] at hq
      obtain rfl : p = q := by simpa using hq
      obtain rfl : i = n := by omega
      exact hp
section
variable {H : Type} {enc : TypeId × Value → H} {w : World}
abbrev Zw (w : World) : Nat → Prop := (· < w.heap.size)
theorem lt_of_cell {b off : Nat} {v : Value} (h : w.cell? ⟨b, off, none⟩ = some v) : b < w.heap.size := by
  unfold World.cell? at h
  cases hb : w.heap[b]? with
  | none => simp [hb] at h
  | some o => exact (Array.getElem?_eq_some_iff.1 hb).1

theorem open_imm {P : Program} {α : Type} {sz n : Nat} {t e : TypeId} {v : Value} (f : α → List PV) (Q : α → Prop) (ht : P.underlying t = some (.slice e)) (hC : P.cellsOf e = sz) (hB : 1 ≤ P.bytesOf e) (hs : 1 ≤ sz)
    (hf : ∀ x, (f x).length = sz ∧ ones (f x) = true)
    (he : ∀ (n : Nat) (cs : List Value), Arg.Op enc P w n e cs → cs.length = sz → ∃ x : α, Q x ∧ ∀ (i : Nat) (u : Value) (y : PV), cs[i]? = some u → (f x)[i]? = some y → IR (Zw w) w u y)
    (h : Arg.Op enc P w n t [v]) : ∃ xs : List α, (∀ x ∈ xs, Q x) ∧ xs.length ≤ 140737488351232 ∧ IR (Zw w) w v (.imm sz (xs.map f)) := by
  rcases h.sl ht with hcs | ⟨a, len, cap, m, hcs, hl, hm, hb, hi⟩
  · obtain rfl : v = .slice none 0 0 := by simpa using hcs
    exact ⟨[], by simp, by simp, imm_to (A := none) (cap := 0) f [] (by simp) (by simp) (by simp)⟩
  · obtain rfl : v = .slice (some a) len cap := by simpa using hcs
    have hlen : len ≤ 140737488351232 := Nat.le_trans (Nat.le_mul_of_pos_right _ hB) hb
    obtain ⟨xs, hx, hr⟩ := list_of (R := fun i (x : α) => Q x ∧ ∃ (b off : Nat) (l : List Value), a = ⟨b, off, none⟩ ∧ b < w.heap.size ∧ l.length = sz ∧ (∀ (j : Nat) (u : Value), l[j]? = some u → w.cell? ⟨b, off + i * sz + j, none⟩ = some u) ∧ ∀ (j : Nat) (u : Value) (y : PV), l[j]? = some u → (f x)[j]? = some y → IR (Zw w) w u y) len (fun i him => by
      obtain ⟨cs, hc, ho⟩ := hi i him
      rw [hC] at hc
      obtain ⟨_, hcl, hat⟩ := World.cells?_some hc
      obtain ⟨x, hq, hy⟩ := he m cs ho hcl
      obtain ⟨b, off, rfl⟩ : ∃ b off, a = ⟨b, off, none⟩ := by
        obtain ⟨cs0, hc0, _⟩ := hi 0 (by omega)
        rw [hC] at hc0
        obtain ⟨_, hcl0, hat0⟩ := World.cells?_some hc0
        have := hat0 0 (by omega)
        rw [List.getElem?_eq_getElem (by omega), Go.Deep.add_add] at this
        exact spot_none (by simpa using this)
      have hcell : ∀ (j : Nat) (u : Value), cs[j]? = some u → w.cell? ⟨b, off + i * sz + j, none⟩ = some u := fun j u hu => by
        have hj : j < cs.length := (List.getElem?_eq_some_iff.1 hu).1
        have := hat j (by omega)
        rw [hu, add_none, add_none] at this
        exact this
      exact ⟨x, hq, b, off, cs, rfl, lt_of_cell (hcell 0 _ (List.getElem?_eq_getElem (by omega))), hcl, hcell, hy⟩)
    subst hx
    refine ⟨xs, fun x hx => ?_, hlen, imm_to f xs ⟨hl, hlen⟩ ⟨by simpa [maxLen] using hm, by simp⟩ fun k x hk => ?_⟩
    · obtain ⟨k, hk⟩ := List.getElem?_of_mem hx
      exact (hr k x hk).1
    · obtain ⟨_, b, off, l, rfl, q⟩ := hr k x hk
      exact ⟨(hf x).1, (hf x).2, b, off, l, rfl, q⟩

theorem op_bool {P : Program} {n : Nat} {t : TypeId} {cs : List Value} (ht : P.underlying t = some .bool) (h : Arg.Op enc P w n t cs) : ∃ b, cs = [.bool b] := by
  obtain ⟨y, h, _⟩ := h
  obtain ⟨b, h1, _⟩ := DataW.trod_bool ht h
  exact ⟨b, h1⟩
theorem op_str {P : Program} {n : Nat} {t : TypeId} {cs : List Value} (ht : P.underlying t = some .string) (h : Arg.Op enc P w n t cs) : ∃ l : List UInt8, cs = [sV l] := by
  obtain ⟨y, h, _⟩ := h
  obtain ⟨s, h1, _⟩ := DataW.trod_string ht h
  exact ⟨s.data.toList, by rw [h1]⟩
theorem open_intsX {n : Nat} {v : Value} (h : Arg.Op enc Tryz.prog w n 22 [v]) : ∃ xs : List Int, xs.length ≤ 140737488351232 ∧ IR (Zw w) w v (.imm 1 (xs.map encI)) := by
  obtain ⟨xs, _, h1, h2⟩ := open_imm encI (fun _ => True) Tryz.underlying22 (by kernel_rfl) (of_decide_eq_true (by kernel_rfl)) (by decide) (fun x => ⟨rfl, rfl⟩) (fun n cs ho hc => by
    obtain ⟨x, rfl, _⟩ := ho.int Tryz.underlying3
    refine ⟨x, trivial, fun i u y hu hy => ?_⟩
    cases i with
    | zero => simp [encI] at hu hy; subst hu hy; exact .sc _ rfl
    | succ i => simp at hu) h
  exact ⟨xs, h1, h2⟩
theorem open_boolsX {n : Nat} {v : Value} (h : Arg.Op enc Tryz.prog w n 39 [v]) : ∃ xs : List Bool, IR (Zw w) w v (.imm 1 (xs.map encT)) := by
  obtain ⟨xs, _, h1, h2⟩ := open_imm encT (fun _ => True) Tryz.underlying39 (by kernel_rfl) (of_decide_eq_true (by kernel_rfl)) (by decide) (fun x => ⟨rfl, rfl⟩) (fun n cs ho hc => by
    obtain ⟨x, rfl⟩ := op_bool Tryz.underlying4 ho
    refine ⟨x, trivial, fun i u y hu hy => ?_⟩
    cases i with
    | zero => simp [encT] at hu hy; subst hu hy; exact .sc _ rfl
    | succ i => simp at hu) h
  exact ⟨xs, h2⟩
theorem z3 : Tryz.prog.cellsOf 3 = 1 := by kernel_rfl
theorem z4 : Tryz.prog.cellsOf 4 = 1 := by kernel_rfl
theorem z9 : Tryz.prog.cellsOf 9 = 1 := by kernel_rfl
theorem z22 : Tryz.prog.cellsOf 22 = 1 := by kernel_rfl
theorem z39 : Tryz.prog.cellsOf 39 = 1 := by kernel_rfl
theorem cut1 {cs : List Value} {k : Nat} {u : Value} (h : cs[k]? = some u) : (cs.drop k).take 1 = [u] := by
  obtain ⟨h1, rfl⟩ := List.getElem?_eq_some_iff.1 h
  rw [List.drop_eq_getElem_cons h1]; rfl
set_option maxRecDepth 100000 in
theorem open_break {n : Nat} {cs : List Value} (h : Arg.Op enc Tryz.prog w n 38 cs) (hc : cs.length = 9) : ∃ b : BrkD, ∀ σ : Nm, VR σ (Zw w) w (.agg cs.toArray) (.agg (encK b)) := by
  obtain ⟨_, m, hf⟩ := h.fld Tryz.underlying38
  match cs, hc with
  | [u0, u1, u2, u3, u4, u5, u6, u7, u8], _ =>
    have f0 : Arg.Op enc Tryz.prog w m 3 [u0] := by have := hf 0 _ rfl; simpa [z3] using this
    have f1 : Arg.Op enc Tryz.prog w m 3 [u1] := by have := hf 1 _ rfl; simpa [z3] using this
    have f2 : Arg.Op enc Tryz.prog w m 3 [u2] := by have := hf 2 _ rfl; simpa [z3] using this
    have f3 : Arg.Op enc Tryz.prog w m 3 [u3] := by have := hf 3 _ rfl; simpa [z3] using this
    have f4 : Arg.Op enc Tryz.prog w m 3 [u4] := by have := hf 4 _ rfl; simpa [z3] using this
    have f5 : Arg.Op enc Tryz.prog w m 9 [u5] := by have := hf 5 _ rfl; simpa [z9] using this
    have f6 : Arg.Op enc Tryz.prog w m 9 [u6] := by have := hf 6 _ rfl; simpa [z9] using this
    have f7 : Arg.Op enc Tryz.prog w m 4 [u7] := by have := hf 7 _ rfl; simpa [z4] using this
    have f8 : Arg.Op enc Tryz.prog w m 22 [u8] := by have := hf 8 _ rfl; simpa [z22] using this
    obtain ⟨x0, e0, _⟩ := f0.int Tryz.underlying3
    obtain ⟨x1, e1, _⟩ := f1.int Tryz.underlying3
    obtain ⟨x2, e2, _⟩ := f2.int Tryz.underlying3
    obtain ⟨x3, e3, _⟩ := f3.int Tryz.underlying3
    obtain ⟨x4, e4, _⟩ := f4.int Tryz.underlying3
    obtain ⟨x5, e5⟩ := op_str Tryz.underlying9 f5
    obtain ⟨x6, e6⟩ := op_str Tryz.underlying9 f6
    obtain ⟨x7, e7⟩ := op_bool Tryz.underlying4 f7
    obtain ⟨x8, _, e8⟩ := open_intsX f8
    simp only [List.cons.injEq, and_true] at e0 e1 e2 e3 e4 e5 e6 e7
    subst e0 e1 e2 e3 e4 e5 e6 e7
    refine ⟨⟨x0, x1, x2, x3, x4, x5, x6, x7, x8⟩, fun σ => .agg [_, _, _, _, _, _, _, _, _] _ rfl rfl fun i u y hu hy => ?_⟩
    match i, hu, hy with
    | 0, hu, hy => simp [encK] at hu hy; subst hu hy; exact .sc _ rfl
    | 1, hu, hy => simp [encK] at hu hy; subst hu hy; exact .sc _ rfl
    | 2, hu, hy => simp [encK] at hu hy; subst hu hy; exact .sc _ rfl
    | 3, hu, hy => simp [encK] at hu hy; subst hu hy; exact .sc _ rfl
    | 4, hu, hy => simp [encK] at hu hy; subst hu hy; exact .sc _ rfl
    | 5, hu, hy => simp [encK] at hu hy; subst hu hy; exact .sc _ rfl
    | 6, hu, hy => simp [encK] at hu hy; subst hu hy; exact .sc _ rfl
    | 7, hu, hy => simp [encK] at hu hy; subst hu hy; exact .sc _ rfl
    | 8, hu, hy => simp only [encK, List.getElem?_cons_succ, List.getElem?_cons_zero, Option.some.injEq] at hu hy; subst hu hy; exact .imm _ _ _ e8
    | i + 9, hu, hy => simp at hu
set_option maxRecDepth 100000 in
theorem open_datum {n : Nat} {cs : List Value} (h : Arg.Op enc Tryz.prog w n 41 cs) (hc : cs.length = 4) : ∃ d : DatD, ∀ σ : Nm, VR σ (Zw w) w (.agg cs.toArray) (.agg (encD d)) := by
  obtain ⟨_, m, hf⟩ := h.fld Tryz.underlying41
  match cs, hc with
  | [u0, u1, u2, u3], _ =>
    have f0 : Arg.Op enc Tryz.prog w m 3 [u0] := by have := hf 0 _ rfl; simpa [z3] using this
    have f1 : Arg.Op enc Tryz.prog w m 3 [u1] := by have := hf 1 _ rfl; simpa [z3] using this
    have f2 : Arg.Op enc Tryz.prog w m 39 [u2] := by have := hf 2 _ rfl; simpa [z39] using this
    have f3 : Arg.Op enc Tryz.prog w m 22 [u3] := by have := hf 3 _ rfl; simpa [z22] using this
    obtain ⟨x0, e0, _⟩ := f0.int Tryz.underlying3
    obtain ⟨x1, e1, _⟩ := f1.int Tryz.underlying3
    obtain ⟨x2, e2⟩ := open_boolsX f2
    obtain ⟨x3, _, e3⟩ := open_intsX f3
    simp only [List.cons.injEq, and_true] at e0 e1
    subst e0 e1
    refine ⟨⟨x0, x1, x2, x3⟩, fun σ => .agg [_, _, _, _] _ rfl rfl fun i u y hu hy => ?_⟩
    match i, hu, hy with
    | 0, hu, hy => simp [encD] at hu hy; subst hu hy; exact .sc _ rfl
    | 1, hu, hy => simp [encD] at hu hy; subst hu hy; exact .sc _ rfl
    | 2, hu, hy => simp only [encD, List.getElem?_cons_succ, List.getElem?_cons_zero, Option.some.injEq] at hu hy; subst hu hy; exact .imm _ _ _ e2
    | 3, hu, hy => simp only [encD, List.getElem?_cons_succ, List.getElem?_cons_zero, Option.some.injEq] at hu hy; subst hu hy; exact .imm _ _ _ e3
    | i + 4, hu, hy => simp at hu
end
end Go.Proofs.YtlaiafalilcgjaaGreatDoor
