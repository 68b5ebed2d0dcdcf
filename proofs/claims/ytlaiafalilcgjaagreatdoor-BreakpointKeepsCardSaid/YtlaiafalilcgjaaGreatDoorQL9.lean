/- Proved: what a reading of an argument says, opened at its cells, with the bound of the form's own reach. -/
import Derived.Deep.Slices
import Derived.Deep.Fields
import Derived.ChangeSame
import Derived.OpenShut
import Derived.SizedLaws
import Derived.Test.YtlaiafalilcgjaaGreatDoorRows
import Derived.Test.YtlaiafalilcgjaaGreatDoorQL4
import Derived.Test.YtlaiafalilcgjaaGreatDoorQL5
import Derived.Test.YtlaiafalilcgjaaGreatDoorQK1
import Derived.Lib.Bytealg
import Derived.Test.YtlaiafalilcgjaaGreatDoorQL7
import Derived.Test.YtlaiafalilcgjaaGreatDoorQL8
import Derived.Test.YtlaiafalilcgjaaGreatDoorQL6
set_option linter.unusedVariables false
set_option linter.unusedSimpArgs false
namespace Go.Arg
open Go.ChangeShapes Go.WideShapes Go.Deep

section
variable {H : Type} (enc : TypeId × Value → H) (P : Program) (w : World)
/-- the cells read as a value of the type, and every slice under them is within the reach -/
def Op (n : Nat) (t : TypeId) (cs : List Value) : Prop :=
  ∃ y, DataW.trod enc P w 0 (fun _ => true) true n t cs = some y ∧ ∀ k ∈ y.1.weights P t, k ≤ 140737488351232
end
section
variable {H : Type} {enc : TypeId × Value → H} {P : Program} {w : World}
theorem mem_all {e : TypeId} : ∀ {l : List (DataW H)} {d : DataW H}, d ∈ l → ∀ n ∈ d.weights P e, n ∈ DataW.weightsAll P e l
  | d' :: r, d, hd, n, hn => by
    simp only [DataW.weightsAll, List.mem_append]
    rcases List.mem_cons.1 hd with rfl | h
    · exact Or.inl hn
    · exact Or.inr (mem_all h n hn)
theorem Op.int {n : Nat} {t : TypeId} {k : IntKind} {cs : List Value} (ht : P.underlying t = some (.int k)) (h : Op enc P w n t cs) : ∃ x, cs = [.int k x] ∧ (Lit.int k x).wf = true := by
  obtain ⟨y, h, _⟩ := h
  obtain ⟨x, h1, _, h2⟩ := DataW.trod_int ht h
  exact ⟨x, h1, h2⟩
theorem Op.fld {n : Nat} {t : TypeId} {fs : Array Field} {cs : List Value} (ht : P.underlying t = some (.struct fs)) (h : Op enc P w n t cs) :
    cs.length = P.cellsOf t ∧ ∃ m, ∀ (i : Nat) (f : Field), fs[i]? = some f → Op enc P w m f.type ((cs.drop f.offset).take (P.cellsOf f.type)) := by
  obtain ⟨y, h, hw⟩ := h
  obtain ⟨xs, m, _, rfl, hl, hx, hf⟩ := DataW.trod_struct ht h
  refine ⟨hl, m, fun i f hi => ?_⟩
  have h1 := hf i f hi
  have hlt : i < fs.size := (Array.getElem?_eq_some_iff.1 hi).1
  have hg : xs[i]? = some (xs[i]'(by omega)) := List.getElem?_eq_getElem (by omega)
  refine ⟨_, h1.trans hg, fun k hk => hw k ?_⟩
  simp only [DataW.weights, ht]
  exact DataW.weights_mem_each (j := i) (t := f.type) (d := (xs[i]'(by omega)).1) (by simp [hi]) (by simp [hg]) k hk
theorem Op.elt {n c : Nat} {t e : TypeId} {cs : List Value} (ht : P.underlying t = some (.array c e)) (h : Op enc P w n t cs) :
    cs.length = P.cellsOf t ∧ ∃ m, ∀ i, i < c → Op enc P w m e ((cs.drop (i * P.cellsOf e)).take (P.cellsOf e)) := by
  obtain ⟨y, h, hw⟩ := h
  obtain ⟨xs, m, _, rfl, hl, hx, hf⟩ := DataW.trod_array ht h
  refine ⟨hl, m, fun i hi => ?_⟩
  have hg : xs[i]? = some (xs[i]'(by omega)) := List.getElem?_eq_getElem (by omega)
  refine ⟨_, (hf i hi).trans hg, fun k hk => hw k ?_⟩
  simp only [DataW.weights, ht]
  exact mem_all (List.mem_map.2 ⟨_, List.getElem_mem (by omega), rfl⟩) k hk
theorem Op.sl {n : Nat} {t e : TypeId} {cs : List Value} (ht : P.underlying t = some (.slice e)) (h : Op enc P w n t cs) :
    cs = [.slice none 0 0] ∨ ∃ (a : Addr) (len cap m : Nat), cs = [.slice (some a) len cap] ∧ len ≤ cap ∧ cap ≤ maxLen ∧ len * P.bytesOf e ≤ 140737488351232 ∧
      ∀ i, i < len → ∃ cs', w.cells? 0 (a.add (i * P.cellsOf e)) (P.cellsOf e) = some cs' ∧ Op enc P w m e cs' := by
  obtain ⟨y, h, hw⟩ := h
  rcases open_slice ht h with ⟨h0, _⟩ | ⟨a, len, cap, m, n, D, Pl, hcs, _, hl, hm, hmm, rfl, hi⟩
  · exact .inl h0
  · have hmc : m = cap := by rw [hmm]; rfl
    simp only [DataW.weights, ht] at hw
    refine .inr ⟨a, len, cap, n, hcs, hl, hm, ?_, fun i him => ?_⟩
    · have := hw _ (List.mem_cons_self ..)
      simp only [List.length_map, List.length_range] at this
      exact Nat.le_trans (Nat.mul_le_mul_right _ (Nat.le_add_right _ _)) this
    · obtain ⟨cs', h1, h2⟩ := hi i (by omega)
      refine ⟨cs', h1, _, h2, fun k hk => hw k (List.mem_cons_of_mem _ (List.mem_append_left _ ?_))⟩
      exact mem_all (List.mem_map.2 ⟨i, List.mem_range.2 him, rfl⟩) k hk

/-- the type of a cell of a value of structs and arrays -/
def leaf (P : Program) : Nat → TypeId → Nat → Option TypeId
  | 0, _, _ => none
  | k + 1, t, i => match P.underlying t with
    | some (.int _) => if i = 0 then some t else none
    | some (.slice _) => if i = 0 then some t else none
    | some (.struct fs) => fs.toList.findSome? fun f => if f.offset ≤ i ∧ i < f.offset + P.cellsOf f.type then leaf P k f.type (i - f.offset) else none
    | some (.array n e) => if i / P.cellsOf e < n then leaf P k e (i % P.cellsOf e) else none
    | _ => none
theorem get_part {cs : List Value} {o s i : Nat} {v : Value} (h : ((cs.drop o).take s)[i]? = some v) : cs[o + i]? = some v := by
  rw [List.getElem?_take] at h
  split at h
  · rwa [List.getElem?_drop] at h
  · cases h
theorem Op.leaf : ∀ (k : Nat) {n : Nat} {t u : TypeId} {i : Nat} {cs : List Value}, Arg.leaf P k t i = some u → Op enc P w n t cs → ∃ m v, cs[i]? = some v ∧ Op enc P w m u [v]
  | k + 1, n, t, u, i, cs, hl, h => by
    unfold Arg.leaf at hl
    split at hl
    · rename_i kd ht
      by_cases h0 : i = 0
      · rw [if_pos h0] at hl
        injection hl with hl
        subst h0 hl
        obtain ⟨x, rfl, _⟩ := h.int ht
        exact ⟨n, _, rfl, h⟩
      · rw [if_neg h0] at hl; cases hl
    · rename_i e ht
      by_cases h0 : i = 0
      · rw [if_pos h0] at hl
        injection hl with hl
        subst h0 hl
        rcases h.sl ht with rfl | ⟨_, _, _, _, rfl, _⟩
        · exact ⟨n, _, rfl, h⟩
        · exact ⟨n, _, rfl, h⟩
      · rw [if_neg h0] at hl; cases hl
    · rename_i fs ht
      obtain ⟨f, hf, h1⟩ := List.exists_of_findSome?_eq_some hl
      split at h1
      · rename_i hb
        obtain ⟨j, hj⟩ := List.getElem?_of_mem hf
        obtain ⟨_, m, hm⟩ := h.fld ht
        obtain ⟨m', v, hv, ho⟩ := Op.leaf k h1 (hm j f (by simpa using hj))
        refine ⟨m', v, ?_, ho⟩
        have := get_part hv
        rwa [show f.offset + (i - f.offset) = i by omega] at this
      · cases h1
    · rename_i c e ht
      split at hl
      · rename_i hb
        obtain ⟨_, m, hm⟩ := h.elt ht
        obtain ⟨m', v, hv, ho⟩ := Op.leaf k hl (hm _ hb)
        refine ⟨m', v, ?_, ho⟩
        have := get_part hv
        rwa [Nat.div_add_mod'] at this
      · cases hl
    · cases hl
end
end Go.Arg
namespace Go.Proofs.YtlaiafalilcgjaaGreatDoor
open Go.ChangeShapes Go.WideShapes Go.Deep Go.RowKit Go.PX Go.SX
theorem spot_none {w : World} {a : Addr} {v : Value} (h : w.cell? (a.add 0) = some v) : ∃ b off, a = ⟨b, off, none⟩ := by
  obtain ⟨b, off, spot⟩ := a
  cases spot with
  | none => exact ⟨b, off, rfl⟩
  | some s => simp [Addr.add, World.cell?] at h; split at h <;> simp_all
theorem add_none (b off k : Nat) : (⟨b, off, none⟩ : Addr).add k = ⟨b, off + k, none⟩ := by unfold Addr.add; split <;> simp_all
theorem list_of {α : Type} {R : Nat → α → Prop} : ∀ n : Nat, (∀ i, i < n → ∃ p, R i p) → ∃ l : List α, l.length = n ∧ ∀ i p, l[i]? = some p → R i p
  | 0, _ => ⟨[], rfl, by simp⟩
  | n + 1, h => by
    obtain ⟨l, hl, hr⟩ := list_of n (fun i hi => h i (by omega))
    obtain ⟨p, hp⟩ := h n (by omega)
    refine ⟨l ++ [p], by simp [hl], fun i q hq => ?_⟩
    rcases Nat.lt_or_ge i l.length with hi | hi
    · rw [List.getElem?_append_left hi] at hq; exact hr i q hq
    · rw [List.getElem?_append_right hi] at hq
      have e0 : i - l.length = 0 := by have := (List.getElem?_eq_some_iff.1 hq).1; simp at this; omega
      rw [e0] at hq
      obtain rfl : p = q := by simpa using hq
      obtain rfl : i = n := by omega
      exact hp
section
variable {H : Type} {enc : TypeId × Value → H} {w : World}
abbrev Zw (w : World) : Nat → Prop := (· < w.heap.size)
theorem lt_of_cell {b off : Nat} {v : Value} (h : w.cell? ⟨b, off, none⟩ = some v) : b < w.heap.size := by
  unfold World.cell? at h
  cases hb : w.heap[b]? with
  | none => simp [hb] at h
  | some o => exact (Array.getElem?_eq_some_iff.1 hb).1

theorem open_imm {P : Program} {α : Type} {sz n : Nat} {t e : TypeId} {v : Value} (f : α → List PV) (Q : α → Prop) (ht : P.underlying t = some (.slice e)) (hC : P.cellsOf e = sz) (hB : 1 ≤ P.bytesOf e) (hs : 1 ≤ sz)
    (hf : ∀ x, (f x).length = sz ∧ ones (f x) = true)
    (he : ∀ (n : Nat) (cs : List Value), Arg.Op enc P w n e cs → cs.length = sz → ∃ x : α, Q x ∧ ∀ (i : Nat) (u : Value) (y : PV), cs[i]? = some u → (f x)[i]? = some y → IR (Zw w) w u y)
    (h : Arg.Op enc P w n t [v]) : ∃ xs : List α, (∀ x ∈ xs, Q x) ∧ xs.length ≤ 140737488351232 ∧ IR (Zw w) w v (.imm sz (xs.map f)) := by
  rcases h.sl ht with hcs | ⟨a, len, cap, m, hcs, hl, hm, hb, hi⟩
  · obtain rfl : v = .slice none 0 0 := by simpa using hcs
    exact ⟨[], by simp, by simp, imm_to (A := none) (cap := 0) f [] (by simp) (by simp) (by simp)⟩
  · obtain rfl : v = .slice (some a) len cap := by simpa using hcs
    have hlen : len ≤ 140737488351232 := Nat.le_trans (Nat.le_mul_of_pos_right _ hB) hb
    obtain ⟨xs, hx, hr⟩ := list_of (R := fun i (x : α) => Q x ∧ ∃ (b off : Nat) (l : List Value), a = ⟨b, off, none⟩ ∧ b < w.heap.size ∧ l.length = sz ∧ (∀ (j : Nat) (u : Value), l[j]? = some u → w.cell? ⟨b, off + i * sz + j, none⟩ = some u) ∧ ∀ (j : Nat) (u : Value) (y : PV), l[j]? = some u → (f x)[j]? = some y → IR (Zw w) w u y) len (fun i him => by
      obtain ⟨cs, hc, ho⟩ := hi i him
      rw [hC] at hc
      obtain ⟨_, hcl, hat⟩ := World.cells?_some hc
      obtain ⟨x, hq, hy⟩ := he m cs ho hcl
      obtain ⟨b, off, rfl⟩ : ∃ b off, a = ⟨b, off, none⟩ := by
        obtain ⟨cs0, hc0, _⟩ := hi 0 (by omega)
        rw [hC] at hc0
        obtain ⟨_, hcl0, hat0⟩ := World.cells?_some hc0
        have := hat0 0 (by omega)
        rw [List.getElem?_eq_getElem (by omega), Go.Deep.add_add] at this
        exact spot_none (by simpa using this)
      have hcell : ∀ (j : Nat) (u : Value), cs[j]? = some u → w.cell? ⟨b, off + i * sz + j, none⟩ = some u := fun j u hu => by
        have hj : j < cs.length := (List.getElem?_eq_some_iff.1 hu).1
        have := hat j (by omega)
        rw [hu, add_none, add_none] at this
        exact this
      exact ⟨x, hq, b, off, cs, rfl, lt_of_cell (hcell 0 _ (List.getElem?_eq_getElem (by omega))), hcl, hcell, hy⟩)
    subst hx
    refine ⟨xs, fun x hx => ?_, hlen, imm_to f xs ⟨hl, hlen⟩ ⟨by simpa [maxLen] using hm, by simp⟩ fun k x hk => ?_⟩
    · obtain ⟨k, hk⟩ := List.getElem?_of_mem hx
      exact (hr k x hk).1
    · obtain ⟨_, b, off, l, rfl, q⟩ := hr k x hk
      exact ⟨(hf x).1, (hf x).2, b, off, l, rfl, q⟩

theorem op_bool {P : Program} {n : Nat} {t : TypeId} {cs : List Value} (ht : P.underlying t = some .bool) (h : Arg.Op enc P w n t cs) : ∃ b, cs = [.bool b] := by
  obtain ⟨y, h, _⟩ := h
  obtain ⟨b, h1, _⟩ := DataW.trod_bool ht h
  exact ⟨b, h1⟩
theorem op_str {P : Program} {n : Nat} {t : TypeId} {cs : List Value} (ht : P.underlying t = some .string) (h : Arg.Op enc P w n t cs) : ∃ l : List UInt8, cs = [sV l] := by
  obtain ⟨y, h, _⟩ := h
  obtain ⟨s, h1, _⟩ := DataW.trod_string ht h
  exact ⟨s.data.toList, by rw [h1]⟩
theorem open_intsX {n : Nat} {v : Value} (h : Arg.Op enc Tryz.prog w n 22 [v]) : ∃ xs : List Int, xs.length ≤ 140737488351232 ∧ IR (Zw w) w v (.imm 1 (xs.map encI)) := by
  obtain ⟨xs, _, h1, h2⟩ := open_imm encI (fun _ => True) Tryz.underlying22 (by kernel_rfl) (of_decide_eq_true (by kernel_rfl)) (by decide) (fun x => ⟨rfl, rfl⟩) (fun n cs ho hc => by
    obtain ⟨x, rfl, _⟩ := ho.int Tryz.underlying3
    refine ⟨x, trivial, fun i u y hu hy => ?_⟩
    cases i with
    | zero => simp [encI] at hu hy; subst hu hy; exact .sc _ rfl
    | succ i => simp at hu) h
  exact ⟨xs, h1, h2⟩
theorem open_boolsX {n : Nat} {v : Value} (h : Arg.Op enc Tryz.prog w n 39 [v]) : ∃ xs : List Bool, IR (Zw w) w v (.imm 1 (xs.map encT)) := by
  obtain ⟨xs, _, h1, h2⟩ := open_imm encT (fun _ => True) Tryz.underlying39 (by kernel_rfl) (of_decide_eq_true (by kernel_rfl)) (by decide) (fun x => ⟨rfl, rfl⟩) (fun n cs ho hc => by
    obtain ⟨x, rfl⟩ := op_bool Tryz.underlying4 ho
    refine ⟨x, trivial, fun i u y hu hy => ?_⟩
    cases i with
    | zero => simp [encT] at hu hy; subst hu hy; exact .sc _ rfl
    | succ i => simp at hu) h
  exact ⟨xs, h2⟩
theorem z3 : Tryz.prog.cellsOf 3 = 1 := by kernel_rfl
theorem z4 : Tryz.prog.cellsOf 4 = 1 := by kernel_rfl
theorem z9 : Tryz.prog.cellsOf 9 = 1 := by kernel_rfl
theorem z22 : Tryz.prog.cellsOf 22 = 1 := by kernel_rfl
theorem z39 : Tryz.prog.cellsOf 39 = 1 := by kernel_rfl
theorem cut1 {cs : List Value} {k : Nat} {u : Value} (h : cs[k]? = some u) : (cs.drop k).take 1 = [u] := by
  obtain ⟨h1, rfl⟩ := List.getElem?_eq_some_iff.1 h
  rw [List.drop_eq_getElem_cons h1]; rfl
set_option maxRecDepth 100000 in
theorem open_break {n : Nat} {cs : List Value} (h : Arg.Op enc Tryz.prog w n 38 cs) (hc : cs.length = 9) : ∃ b : BrkD, ∀ σ : Nm, VR σ (Zw w) w (.agg cs.toArray) (.agg (encK b)) := by
  obtain ⟨_, m, hf⟩ := h.fld Tryz.underlying38
  match cs, hc with
  | [u0, u1, u2, u3, u4, u5, u6, u7, u8], _ =>
    have f0 : Arg.Op enc Tryz.prog w m 3 [u0] := by have := hf 0 _ rfl; simpa [z3] using this
    have f1 : Arg.Op enc Tryz.prog w m 3 [u1] := by have := hf 1 _ rfl; simpa [z3] using this
    have f2 : Arg.Op enc Tryz.prog w m 3 [u2] := by have := hf 2 _ rfl; simpa [z3] using this
    have f3 : Arg.Op enc Tryz.prog w m 3 [u3] := by have := hf 3 _ rfl; simpa [z3] using this
    have f4 : Arg.Op enc Tryz.prog w m 3 [u4] := by have := hf 4 _ rfl; simpa [z3] using this
    have f5 : Arg.Op enc Tryz.prog w m 9 [u5] := by have := hf 5 _ rfl; simpa [z9] using this
    have f6 : Arg.Op enc Tryz.prog w m 9 [u6] := by have := hf 6 _ rfl; simpa [z9] using this
    have f7 : Arg.Op enc Tryz.prog w m 4 [u7] := by have := hf 7 _ rfl; simpa [z4] using this
    have f8 : Arg.Op enc Tryz.prog w m 22 [u8] := by have := hf 8 _ rfl; simpa [z22] using this
    obtain ⟨x0, e0, _⟩ := f0.int Tryz.underlying3
    obtain ⟨x1, e1, _⟩ := f1.int Tryz.underlying3
    obtain ⟨x2, e2, _⟩ := f2.int Tryz.underlying3
    obtain ⟨x3, e3, _⟩ := f3.int Tryz.underlying3
    obtain ⟨x4, e4, _⟩ := f4.int Tryz.underlying3
    obtain ⟨x5, e5⟩ := op_str Tryz.underlying9 f5
    obtain ⟨x6, e6⟩ := op_str Tryz.underlying9 f6
    obtain ⟨x7, e7⟩ := op_bool Tryz.underlying4 f7
    obtain ⟨x8, _, e8⟩ := open_intsX f8
    simp only [List.cons.injEq, and_true] at e0 e1 e2 e3 e4 e5 e6 e7
    subst e0 e1 e2 e3 e4 e5 e6 e7
    refine ⟨⟨x0, x1, x2, x3, x4, x5, x6, x7, x8⟩, fun σ => .agg [_, _, _, _, _, _, _, _, _] _ rfl rfl fun i u y hu hy => ?_⟩
    match i, hu, hy with
    | 0, hu, hy => simp [encK] at hu hy; subst hu hy; exact .sc _ rfl
    | 1, hu, hy => simp [encK] at hu hy; subst hu hy; exact .sc _ rfl
    | 2, hu, hy => simp [encK] at hu hy; subst hu hy; exact .sc _ rfl
    | 3, hu, hy => simp [encK] at hu hy; subst hu hy; exact .sc _ rfl
    | 4, hu, hy => simp [encK] at hu hy; subst hu hy; exact .sc _ rfl
    | 5, hu, hy => simp [encK] at hu hy; subst hu hy; exact .sc _ rfl
    | 6, hu, hy => simp [encK] at hu hy; subst hu hy; exact .sc _ rfl
    | 7, hu, hy => simp [encK] at hu hy; subst hu hy; exact .sc _ rfl
    | 8, hu, hy => simp only [encK, List.getElem?_cons_succ, List.getElem?_cons_zero, Option.some.injEq] at hu hy; subst hu hy; exact .imm _ _ _ e8
    | i + 9, hu, hy => simp at hu
set_option maxRecDepth 100000 in
theorem open_datum {n : Nat} {cs : List Value} (h : Arg.Op enc Tryz.prog w n 41 cs) (hc : cs.length = 4) : ∃ d : DatD, ∀ σ : Nm, VR σ (Zw w) w (.agg cs.toArray) (.agg (encD d)) := by
  obtain ⟨_, m, hf⟩ := h.fld Tryz.underlying41
  match cs, hc with
  | [u0, u1, u2, u3], _ =>
    have f0 : Arg.Op enc Tryz.prog w m 3 [u0] := by have := hf 0 _ rfl; simpa [z3] using this
    have f1 : Arg.Op enc Tryz.prog w m 3 [u1] := by have := hf 1 _ rfl; simpa [z3] using this
    have f2 : Arg.Op enc Tryz.prog w m 39 [u2] := by have := hf 2 _ rfl; simpa [z39] using this
    have f3 : Arg.Op enc Tryz.prog w m 22 [u3] := by have := hf 3 _ rfl; simpa [z22] using this
    obtain ⟨x0, e0, _⟩ := f0.int Tryz.underlying3
    obtain ⟨x1, e1, _⟩ := f1.int Tryz.underlying3
    obtain ⟨x2, e2⟩ := open_boolsX f2
    obtain ⟨x3, _, e3⟩ := open_intsX f3
    simp only [List.cons.injEq, and_true] at e0 e1
    subst e0 e1
    refine ⟨⟨x0, x1, x2, x3⟩, fun σ => .agg [_, _, _, _] _ rfl rfl fun i u y hu hy => ?_⟩
    match i, hu, hy with
    | 0, hu, hy => simp [encD] at hu hy; subst hu hy; exact .sc _ rfl
    | 1, hu, hy => simp [encD] at hu hy; subst hu hy; exact .sc _ rfl
    | 2, hu, hy => simp only [encD, List.getElem?_cons_succ, List.getElem?_cons_zero, Option.some.injEq] at hu hy; subst hu hy; exact .imm _ _ _ e2
    | 3, hu, hy => simp only [encD, List.getElem?_cons_succ, List.getElem?_cons_zero, Option.some.injEq] at hu hy; subst hu hy; exact .imm _ _ _ e3
    | i + 4, hu, hy => simp at hu
end
end Go.Proofs.YtlaiafalilcgjaaGreatDoor
namespace Go.Proofs.YtlaiafalilcgjaaGreatDoor
open Go.RowKit Go.PX Go.BK
/-! the texts -/
def kindA (x : Int) : UInt8 := UInt8.ofNat (97 + (modD x 4).toNat)
theorem mod4 (x : Int) : modD x 4 = 0 ∨ modD x 4 = 1 ∨ modD x 4 = 2 ∨ modD x 4 = 3 := by
  have := modD_range (n := x) (k := 4) (by decide) (by decide); omega
theorem kind_val (x : Int) : IntKind.u8.wrap (IntKind.i64.wrap (97 + modD x 4)) = ((kindA x).toNat : Int) := by
  unfold kindA
  rcases mod4 x with h | h | h | h <;> rw [h] <;> rfl
theorem kind_ne (x : Int) : kindA x ≠ 10 := by
  unfold kindA
  rcases mod4 x with h | h | h | h <;> rw [h] <;> decide
def lnA (x : Int) : List UInt8 := [kindA x, 10]
def tA (l : List Int) (n : Nat) : List UInt8 := (l.take n).flatMap fun x => [kindA x, 10]
theorem tA_succ {l : List Int} {n : Nat} {x : Int} (h : l[n]? = some x) : tA l (n + 1) = tA l n ++ [kindA x, 10] := by
  unfold tA; rw [List.take_add_one, h]; simp
theorem flat_len (l : List Int) : (l.flatMap fun x => [kindA x, 10]).length = 2 * l.length := by
  induction l with
  | nil => rfl
  | cons x l ih => rw [List.flatMap_cons, List.length_append, ih, List.length_cons]; simp; omega
theorem tA_len (l : List Int) (n : Nat) : (tA l n).length ≤ 2 * n := by
  unfold tA; rw [flat_len, List.length_take]; omega
def kB (other : List Int) (n : Nat) : Int := match other[n]? with | some y => modD y 8 | none => 0
def lnB (x k : Int) : List UInt8 := if k = 1 then [] else if k = 2 then [122, 10] else if k = 3 then [121, 10] ++ [kindA x, 10] else [kindA x, 10]
def tB (l other : List Int) : Nat → List UInt8
  | 0 => []
  | n + 1 => tB l other n ++ (match l[n]? with | some x => lnB x (kB other n) | none => [])
theorem tB_succ {l other : List Int} {n : Nat} {x : Int} (h : l[n]? = some x) : tB l other (n + 1) = tB l other n ++ lnB x (kB other n) := by
  rw [tB, h]
theorem lnB_len (x k : Int) : (lnB x k).length ≤ 4 := by
  unfold lnB
  split
  · simp
  · split
    · simp
    · split <;> simp
theorem tB_len (l other : List Int) : ∀ n, (tB l other n).length ≤ 4 * n
  | 0 => by simp [tB]
  | n + 1 => by
    have := tB_len l other n
    rw [tB, List.length_append]
    split
    · have := lnB_len ‹Int› (kB other n); omega
    · simp; omega
theorem count_le_len (l : List UInt8) (c : UInt8) : l.count c ≤ l.length := List.count_le_length
/-! how Split cuts -/
theorem index_spec : ∀ (l : List UInt8), (Lib.indexByte l 10 = -1 ∧ ∀ c ∈ l, c ≠ 10) ∨ ∃ m : Nat, Lib.indexByte l 10 = (m : Int) ∧ l = l.take m ++ 10 :: l.drop (m + 1) ∧ (∀ c ∈ l.take m, c ≠ 10) ∧ m < l.length
  | [] => .inl ⟨rfl, by simp⟩
  | b :: l => by
    unfold Lib.indexByte
    by_cases hb : b = 10
    · subst hb
      exact .inr ⟨0, by simp, by simp, by simp, by simp⟩
    · have hb' : (b == (10 : UInt8)) = false := by simpa using hb
      rw [hb']
      simp only [Bool.false_eq_true, if_false]
      rcases index_spec l with ⟨h1, h2⟩ | ⟨m, h1, h2, h3, h4⟩
      · refine .inl ⟨by rw [h1]; rfl, fun c hc => ?_⟩
        rcases List.mem_cons.1 hc with rfl | hc
        · exact hb
        · exact h2 c hc
      · refine .inr ⟨m + 1, ?_, ?_, fun c hc => ?_, by simpa using h4⟩
        · rw [h1, if_neg (by simp)]; rfl
        · rw [List.take_succ_cons, List.drop_succ_cons, List.cons_append]; congr 1
        · rw [List.take_succ_cons] at hc
          rcases List.mem_cons.1 hc with rfl | hc
          · exact hb
          · exact h3 c hc
theorem count_none {l : List UInt8} (h : ∀ c ∈ l, c ≠ 10) : l.count 10 = 0 := by
  rw [List.count_eq_zero]; intro q; exact h 10 q rfl
theorem lines_one {l : List UInt8} (h : ∀ c ∈ l, c ≠ 10) : linesL l = [l] := by
  have := cutL_app l [] [] h
  rw [List.append_nil] at this
  exact this
theorem lines_cut {l : List UInt8} {m : Nat} (h2 : l = l.take m ++ 10 :: l.drop (m + 1)) (h3 : ∀ c ∈ l.take m, c ≠ 10) : linesL l = l.take m :: linesL (l.drop (m + 1)) := by
  have := linesL_line (l.take m) (l.drop (m + 1)) h3
  rw [← h2] at this; exact this
theorem count_cut {l : List UInt8} {m : Nat} (h2 : l = l.take m ++ 10 :: l.drop (m + 1)) (h3 : ∀ c ∈ l.take m, c ≠ 10) : l.count 10 = (l.drop (m + 1)).count 10 + 1 := by
  have h4 : l.count 10 = (l.take m ++ 10 :: l.drop (m + 1)).count 10 := congrArg _ h2
  rw [h4, List.count_append, count_none h3, List.count_cons]; simp
/-- what Split has behind k lines: the lines, and the rest -/
def spL (l : List UInt8) : Nat → List (List UInt8) × List UInt8
  | 0 => ([], l)
  | k + 1 => ((spL l k).1 ++ [(spL l k).2.take (Lib.indexByte (spL l k).2 10).toNat], (spL l k).2.drop ((Lib.indexByte (spL l k).2 10).toNat + 1))
theorem spL_inv (l : List UInt8) : ∀ k, k ≤ l.count 10 → (spL l k).1.length = k ∧ linesL l = (spL l k).1 ++ linesL (spL l k).2 ∧ (spL l k).2.count 10 + k = l.count 10 ∧ (spL l k).2.length ≤ l.length
  | 0, _ => ⟨rfl, rfl, rfl, Nat.le_refl _⟩
  | k + 1, hk => by
    obtain ⟨h1, h2, h3, h4⟩ := spL_inv l k (by omega)
    rcases index_spec (spL l k).2 with ⟨q1, q2⟩ | ⟨m, q1, q2, q3, q4⟩
    · have := count_none q2; omega
    · have e : (Lib.indexByte (spL l k).2 10).toNat = m := by rw [q1]; rfl
      refine ⟨?_, ?_, ?_, ?_⟩
      · rw [spL, List.length_append, h1]; rfl
      · rw [spL, e, h2]
        have := lines_cut q2 q3
        rw [this]; simp
      · rw [spL, e]
        have := count_cut q2 q3
        show ((spL l k).2.drop (m + 1)).count 10 + (k + 1) = _
        omega
      · rw [spL, e]
        show ((spL l k).2.drop (m + 1)).length ≤ _
        rw [List.length_drop]; omega
theorem spL_hit {l : List UInt8} {k : Nat} (hk : k < l.count 10) : ∃ m : Nat, Lib.indexByte (spL l k).2 10 = (m : Int) ∧ m < (spL l k).2.length ∧ spL l (k + 1) = ((spL l k).1 ++ [(spL l k).2.take m], (spL l k).2.drop (m + 1)) := by
  obtain ⟨h1, h2, h3, h4⟩ := spL_inv l k (by omega)
  rcases index_spec (spL l k).2 with ⟨q1, q2⟩ | ⟨m, q1, q2, q3, q4⟩
  · have := count_none q2; omega
  · exact ⟨m, q1, q4, by rw [spL, q1]; rfl⟩
theorem spL_end (l : List UInt8) : (spL l (l.count 10)).1 ++ [(spL l (l.count 10)).2] = linesL l := by
  obtain ⟨h1, h2, h3, h4⟩ := spL_inv l (l.count 10) (Nat.le_refl _)
  rw [h2, lines_one]
  intro c hc e
  subst e
  have := List.count_pos_iff.2 hc
  omega
end Go.Proofs.YtlaiafalilcgjaaGreatDoor
namespace Go.Proofs.YtlaiafalilcgjaaGreatDoor
open Go.RowKit Go.PX Go.BK
abbrev Ls : Type := List (List UInt8)
/-- row i of the table, filled from column j on -/
def rowF (a b : Ls) (i j : Nat) : List Nat := (List.range (b.length + 1)).map fun k => if j ≤ k then tabD a b i k else 0
theorem rowF_len (a b : Ls) (i j : Nat) : (rowF a b i j).length = b.length + 1 := by unfold rowF; simp
theorem rowF_get {a b : Ls} {i j k : Nat} (h : k ≤ b.length) : (rowF a b i j)[k]? = some (if j ≤ k then tabD a b i k else 0) := by
  unfold rowF
  rw [List.getElem?_map, List.getElem?_range (by omega)]; rfl
theorem rowF_at {a b : Ls} {i j k : Nat} (h : k ≤ b.length) (hj : j ≤ k) : (rowF a b i j)[k]? = some (tabD a b i k) := by rw [rowF_get h, if_pos hj]
theorem rowF_z (a b : Ls) (i : Nat) : rowF a b i b.length = List.replicate (b.length + 1) 0 := by
  apply List.ext_getElem?
  intro k
  by_cases h : k ≤ b.length
  · rw [rowF_get h, List.getElem?_replicate_of_lt (by omega)]
    split
    · rename_i q
      obtain rfl : k = b.length := by omega
      rw [tabD_end']
    · rfl
  · rw [List.getElem?_eq_none (by rw [rowF_len]; omega), List.getElem?_eq_none (by simp; omega)]
theorem rowF_n (a b : Ls) : rowF a b a.length 0 = List.replicate (b.length + 1) 0 := by
  apply List.ext_getElem?
  intro k
  by_cases h : k ≤ b.length
  · rw [rowF_at h (Nat.zero_le _), List.getElem?_replicate_of_lt (by omega), tabD_end]
  · rw [List.getElem?_eq_none (by rw [rowF_len]; omega), List.getElem?_eq_none (by simp; omega)]
theorem rowF_set {a b : Ls} {i j : Nat} (h : j < b.length) : (rowF a b i (j + 1)).set j (tabD a b i j) = rowF a b i j := by
  apply List.ext_getElem?
  intro k
  rw [List.getElem?_set]
  by_cases hk : j = k
  · subst hk
    rw [if_pos rfl, if_pos (by rw [rowF_len]; omega), rowF_at (by omega) (Nat.le_refl _)]
  · rw [if_neg hk]
    by_cases h2 : k ≤ b.length
    · rw [rowF_get h2, rowF_get h2]
      by_cases h3 : j ≤ k
      · rw [if_pos h3, if_pos (by omega)]
      · rw [if_neg h3, if_neg (by omega)]
    · rw [List.getElem?_eq_none (by rw [rowF_len]; omega), List.getElem?_eq_none (by rw [rowF_len]; omega)]
def zeroR (n : Nat) : List (List PV) := List.replicate n [.sc (.int .i64 0)]
theorem zero_enc (n : Nat) : (List.replicate n 0).map encN = zeroR n := by unfold zeroR; rw [List.map_replicate]; rfl
/-- row i of the table as memory -/
def encF (a b : Ls) (i j : Nat) : List (List PV) := (rowF a b i j).map encN
theorem encF_len (a b : Ls) (i j : Nat) : (encF a b i j).length = b.length + 1 := by unfold encF; rw [List.length_map, rowF_len]
theorem encF_z (a b : Ls) (i : Nat) : encF a b i b.length = zeroR (b.length + 1) := by unfold encF; rw [rowF_z, zero_enc]
theorem encF_n (a b : Ls) : encF a b a.length 0 = zeroR (b.length + 1) := by unfold encF; rw [rowF_n, zero_enc]
theorem encF_set {a b : Ls} {i j : Nat} (h : j < b.length) : (encF a b i (j + 1)).set j (encN (tabD a b i j)) = encF a b i j := by
  unfold encF; rw [← List.map_set, rowF_set h]
theorem encF_at {a b : Ls} {i j k : Nat} (h : k ≤ b.length) (hj : j ≤ k) : (encF a b i j)[k]? = some (encN (tabD a b i k)) := by
  unfold encF; rw [List.getElem?_map, rowF_at h hj]; rfl
theorem encF_some {a b : Ls} {i j k : Nat} (h : k ≤ b.length) : ∃ x, (encF a b i j)[k]? = some (encN x) ∧ x ≤ a.length := by
  unfold encF
  refine ⟨_, by rw [List.getElem?_map, rowF_get h]; rfl, ?_⟩
  split
  · exact tabD_le _ _ _ _
  · exact Nat.zero_le _
/-- the table's rows from i on, filled -/
def encG (a b : Ls) (i : Nat) : List (List PV) := ((List.range (a.length + 1)).drop i).map fun k => [.imm 1 (encF a b k 0)]
theorem encG_cons {a b : Ls} {i : Nat} (h : i ≤ a.length) : encG a b i = [.imm 1 (encF a b i 0)] :: encG a b (i + 1) := by
  unfold encG
  rw [List.drop_eq_getElem_cons (by simp; omega), List.map_cons]; simp
theorem encG_end (a b : Ls) : encG a b (a.length + 1) = [] := by unfold encG; rw [List.drop_of_length_le (by simp)]; rfl
theorem encG_len (a b : Ls) (i : Nat) : (encG a b i).length = a.length + 1 - i := by unfold encG; simp
theorem encG_at {a b : Ls} {i k : Nat} (h : i ≤ k) (hk : k ≤ a.length) : (encG a b i)[k - i]? = some [.imm 1 (encF a b k 0)] := by
  unfold encG
  rw [List.getElem?_map, List.getElem?_drop, show i + (k - i) = k by omega, List.getElem?_range (by omega)]; rfl
/-- the outer row: what is not filled yet lies ahead -/
theorem out_at {a b : Ls} {X : List (List PV)} {i k : Nat} (hX : X.length = i) (h : i ≤ k) (hk : k ≤ a.length) : (X ++ encG a b i)[k]? = some [.imm 1 (encF a b k 0)] := by
  rw [List.getElem?_append_right (by omega), hX, encG_at h hk]
theorem out_set {a b : Ls} {X : List (List PV)} {i : Nat} {r : List PV} (hX : X.length = i) (hi : i ≤ a.length) : (X ++ [r] ++ encG a b (i + 1)).set i [.imm 1 (encF a b i 0)] = X ++ encG a b i := by
  rw [encG_cons hi, List.append_assoc, List.set_append_right _ _ (by omega), hX, Nat.sub_self]; simp
theorem tab_eq {a b : Ls} {i j : Nat} {x : List UInt8} (hx : a[i]? = some x) (hy : b[j]? = some x) : tabD a b i j = tabD a b (i + 1) (j + 1) + 1 := tabD_eq hx hy
end Go.Proofs.YtlaiafalilcgjaaGreatDoor
namespace Go.Proofs.YtlaiafalilcgjaaGreatDoor
open Go.RowKit Go.PX
set_option maxRecDepth 100000
open Go.BK
theorem set_get {α : Type} {l : List α} {i : Nat} {z : α} (h : i < l.length) : (l.set i z)[i]? = some z := by rw [List.getElem?_set]; simp [h]
theorem max_nat (a b : Nat) : (if ((b : Nat) : Int) > ((a : Nat) : Int) then ((b : Nat) : Int) else ((a : Nat) : Int)) = ((max a b : Nat) : Int) := by split <;> omega
/-- the longest common subsequence of the first lines -/
def preD (a b : Ls) (i j : Nat) : Nat := lcs (a.take i) (b.take j)
theorem preD_0 (a b : Ls) (i : Nat) : preD a b i 0 = 0 := by unfold preD; rw [List.take_zero, lcs_nil']
theorem preD_0' (a b : Ls) (j : Nat) : preD a b 0 j = 0 := by unfold preD; rw [List.take_zero, lcs_nil]
theorem preD_le (a b : Ls) (i j : Nat) : preD a b i j ≤ a.length := by unfold preD; have := lcs_le_left (a.take i) (b.take j); rw [List.length_take] at this; omega
theorem preD_end (a b : Ls) : preD a b a.length b.length = lcs a b := by unfold preD; rw [List.take_length, List.take_length]
theorem take_at {α : Type} {a : List α} {i : Nat} {x : α} (h : a[i]? = some x) : a.take (i + 1) = a.take i ++ [x] := by rw [List.take_add_one, h]; rfl
theorem lcs_sn {α : Type} [DecidableEq α] (a b : List α) (x : α) : lcs (a ++ [x]) b ≤ lcs a b + 1 := by
  rw [← lcs_rev (a ++ [x]) b, ← lcs_rev a b, List.reverse_append, List.reverse_singleton, List.singleton_append]; exact lcs_left _ _ _
theorem lcs_sn' {α : Type} [DecidableEq α] (a b : List α) (y : α) : lcs a (b ++ [y]) ≤ lcs a b + 1 := by
  rw [← lcs_rev a (b ++ [y]), ← lcs_rev a b, List.reverse_append, List.reverse_singleton, List.singleton_append]; exact lcs_right _ _ _
theorem pre_ne {a b : Ls} {i j : Nat} {x y : List UInt8} (hx : a[i]? = some x) (hy : b[j]? = some y) (h : x ≠ y) : preD a b (i + 1) (j + 1) = max (preD a b (i + 1) j) (preD a b i (j + 1)) := by
  unfold preD; rw [take_at hx, take_at hy, lcs_snoc, if_neg h]; omega
theorem pre_eq {a b : Ls} {i j : Nat} {x : List UInt8} (hx : a[i]? = some x) (hy : b[j]? = some x) : preD a b (i + 1) (j + 1) = max (max (preD a b (i + 1) j) (preD a b i (j + 1))) (preD a b i j + 1) := by
  unfold preD; rw [take_at hx, take_at hy, lcs_snoc, if_pos rfl]
  have := lcs_sn (a.take i) (b.take j) x; have := lcs_sn' (a.take i) (b.take j) x; omega
/-- row i, filled up to column j -/
def encP (a b : Ls) (i j : Nat) : List (List PV) := (List.range (b.length + 1)).map fun k => encN (if k ≤ j then preD a b i k else 0)
theorem encP_len (a b : Ls) (i j : Nat) : (encP a b i j).length = b.length + 1 := by unfold encP; simp
theorem encP_get {a b : Ls} {i j k : Nat} (h : k ≤ b.length) : (encP a b i j)[k]? = some (encN (if k ≤ j then preD a b i k else 0)) := by
  unfold encP; rw [List.getElem?_map, List.getElem?_range (by omega)]; rfl
theorem encP_at {a b : Ls} {i j k : Nat} (h : k ≤ b.length) (hj : k ≤ j) : (encP a b i j)[k]? = some (encN (preD a b i k)) := by rw [encP_get h, if_pos hj]
theorem encP_z {a b : Ls} {i j k : Nat} (h : k ≤ b.length) (hj : j < k) : (encP a b i j)[k]? = some (encN 0) := by rw [encP_get h, if_neg (by omega)]
theorem encP_0 (a b : Ls) (i : Nat) : List.replicate (b.length + 1) (encN 0) = encP a b i 0 := by
  apply List.ext_getElem?
  intro k
  by_cases h : k ≤ b.length
  · rw [encP_get h, List.getElem?_replicate_of_lt (by omega)]
    split
    · rename_i q; obtain rfl : k = 0 := by omega
      rw [preD_0]
    · rfl
  · rw [List.getElem?_eq_none (by simp; omega), List.getElem?_eq_none (by rw [encP_len]; omega)]
theorem encP_0' (a b : Ls) : List.replicate (b.length + 1) (encN 0) = encP a b 0 b.length := by
  apply List.ext_getElem?
  intro k
  by_cases h : k ≤ b.length
  · rw [encP_at h h, List.getElem?_replicate_of_lt (by omega), preD_0']
  · rw [List.getElem?_eq_none (by simp; omega), List.getElem?_eq_none (by rw [encP_len]; omega)]
theorem encP_set {a b : Ls} {i j : Nat} (h : j < b.length) : (encP a b i j).set (j + 1) (encN (preD a b i (j + 1))) = encP a b i (j + 1) := by
  apply List.ext_getElem?
  intro k
  rw [List.getElem?_set]
  by_cases hk : j + 1 = k
  · subst hk
    rw [if_pos rfl, if_pos (by rw [encP_len]; omega), encP_at (by omega) (Nat.le_refl _)]
  · rw [if_neg hk]
    by_cases h2 : k ≤ b.length
    · rw [encP_get h2, encP_get h2]
      by_cases h3 : k ≤ j
      · rw [if_pos h3, if_pos (by omega)]
      · rw [if_neg h3, if_neg (by omega)]
    · rw [List.getElem?_eq_none (by rw [encP_len]; omega), List.getElem?_eq_none (by rw [encP_len]; omega)]

set_option maxHeartbeats 400000 in
theorem con_longest (la lb : Ls) (ha : la.length ≤ 1000000) (hb : lb.length ≤ 1000000) : PX.Con Tryz.prog 17 [(.imm 1 (la.map encS)), (.imm 1 (lb.map encS))] [] 1 100000 (.sc (.int .i64 ((lcs la lb : Nat) : Int))) [] := by
  refine PX.con_intro [(.imm 1 (la.map encS)), (.imm 1 (lb.map encS))] 73 Tryz.func17 rfl rfl (by kernel_rfl) (by kernel_rfl) ?_
  intro E a hE hS
  generalize E.w0 = w at hS ⊢
  have mix := mixed
  refine PX.G [] [] 1 [] [] [.au] [0, 1] [] hS hE trivial fun a w hS => ?_
  refine PX.G [⟨5, [], (.own 1 1 (lb.length + 1))⟩] [(1, .row 3 1 true (List.replicate (lb.length + 1) [(.sc (.int .i64 0))]))] 2 [.q ((.sc (.int .i64 (((lb.map encS).length : Nat) : Int)) : PX.PV) = (.sc (.int .i64 ((lb.length : Nat) : Int)))), .q ((.sc (.int .i64 (IntKind.i64.wrap (((lb.length : Nat) : Int) + 1))) : PX.PV) = (.sc (.int .i64 ((lb.length + 1 : Nat) : Int)))), .q ((((lb.length + 1 : Nat) : Int) : Int) = ((lb.length + 1 : Nat) : Int)), .q ((((lb.length + 1 : Nat) : Int) : Int) = ((lb.length + 1 : Nat) : Int)), .b (Nat.ble (lb.length + 1) 1000000000)] [] [.au, .nm (.sc (.int .i64 ((lb.length : Nat) : Int))), .nm (.sc (.int .i64 ((lb.length + 1 : Nat) : Int))), .mk (lb.length + 1), .au] [0, 1, 5] [1] hS hE ⟨PX.nm_len (by simp), PX.nm_int (by rw [IntWalk.i64_in _ (by omega)]; omega), rfl, rfl, by rw [Nat.ble_eq]; omega, trivial⟩ fun a w hS => ?_
  refine wp_seq_k fun K1 hK1 => ?_
  refine PX.G [⟨6, [], (.sc (.int .i64 0))⟩] [] 2 [] [] [.au] [0, 1, 5, 6] [1] hS hE trivial fun a w hS => ?_
  refine wp_block ?_
  replace hS := PX.rerow (id := 1) ((encP la lb (0) lb.length)) hS rfl (encP_0' la lb)
  refine wp_loop_ghost (fun m2 a' w' => ∃ i : Nat, m2 = la.length - i ∧ i ≤ la.length ∧ True ∧ PX.Sat E 73 [⟨0, [], (.imm 1 (la.map encS))⟩, ⟨1, [], (.imm 1 (lb.map encS))⟩, ⟨5, [], (.own 1 1 (lb.length + 1))⟩, ⟨6, [], (.sc (.int .i64 ((i : Nat) : Int)))⟩] [(1, .row 3 1 true (encP la lb (i) lb.length))] 2 a' w') (la.length - 0) ⟨0, rfl, Nat.zero_le _, trivial, (PX.canon [] _ _ 2 hS hE (by kernel_rfl) (by kernel_rfl) (by kernel_rfl))⟩ ?_
  clear hS; rintro m2 a w ⟨i, hm2, hlei, hIi, hS⟩
  refine wp_seq_k fun K3 hK3 => ?_
  refine PX.G [⟨16, [], (.sc (.bool (decide (((i : Nat) : Int) < ((la.length : Nat) : Int)))))⟩] [] 2 [.q ((.sc (.int .i64 (((la.map encS).length : Nat) : Int)) : PX.PV) = (.sc (.int .i64 ((la.length : Nat) : Int))))] [] [.au, .au, .nm (.sc (.int .i64 ((la.length : Nat) : Int))), .au] [0, 1, 5, 6, 16] [1] hS hE ⟨PX.nm_len (by simp), trivial⟩ fun a w hS => ?_
  refine PX.cond_s (decide (((i : Nat) : Int) < ((la.length : Nat) : Int))) hS (by kernel_rfl) (fun h4 => ?_) (fun h4 => ?_)
  · skip
    refine wp_skip ?_
    refine hK3 _ _ ?_
    refine wp_seq_k fun K5 hK5 => ?_
    refine wp_block ?_
    have hlti : i < la.length := by simpa using h4
    obtain ⟨x, hx⟩ := get_of_lt hlti
    refine PX.G [⟨7, [], (.own 2 1 (lb.length + 1))⟩] [(2, .row 3 1 true (List.replicate (lb.length + 1) [(.sc (.int .i64 0))]))] 3 [.q ((.sc (.int .i64 (((lb.map encS).length : Nat) : Int)) : PX.PV) = (.sc (.int .i64 ((lb.length : Nat) : Int)))), .q ((.sc (.int .i64 (IntKind.i64.wrap (((lb.length : Nat) : Int) + 1))) : PX.PV) = (.sc (.int .i64 ((lb.length + 1 : Nat) : Int)))), .q ((((lb.length + 1 : Nat) : Int) : Int) = ((lb.length + 1 : Nat) : Int)), .q ((((lb.length + 1 : Nat) : Int) : Int) = ((lb.length + 1 : Nat) : Int)), .b (Nat.ble (lb.length + 1) 1000000000)] [] [.au, .nm (.sc (.int .i64 ((lb.length : Nat) : Int))), .nm (.sc (.int .i64 ((lb.length + 1 : Nat) : Int))), .mk (lb.length + 1), .au] [0, 1, 5, 6, 7] [1, 2] hS hE ⟨PX.nm_len (by simp), PX.nm_int (by rw [IntWalk.i64_in _ (by omega)]; omega), rfl, rfl, by rw [Nat.ble_eq]; omega, trivial⟩ fun a w hS => ?_
    refine wp_seq_k fun K6 hK6 => ?_
    refine PX.G [⟨8, [], (.sc (.int .i64 0))⟩] [] 3 [] [] [.au] [0, 1, 5, 6, 7, 8] [1, 2] hS hE trivial fun a w hS => ?_
    refine wp_block ?_
    replace hS := PX.rerow (id := 2) ((encP la lb (i + 1) (0))) hS rfl (encP_0 la lb (i + 1))
    refine wp_loop_ghost (fun m7 a' w' => ∃ j : Nat, m7 = lb.length - j ∧ j ≤ lb.length ∧ True ∧ PX.Sat E 73 [⟨0, [], (.imm 1 (la.map encS))⟩, ⟨1, [], (.imm 1 (lb.map encS))⟩, ⟨5, [], (.own 1 1 (lb.length + 1))⟩, ⟨6, [], (.sc (.int .i64 ((i : Nat) : Int)))⟩, ⟨7, [], (.own 2 1 (lb.length + 1))⟩, ⟨8, [], (.sc (.int .i64 ((j : Nat) : Int)))⟩] [(1, .row 3 1 true (encP la lb (i) lb.length)), (2, .row 3 1 true (encP la lb (i + 1) (j)))] 3 a' w') (lb.length - 0) ⟨0, rfl, Nat.zero_le _, trivial, (PX.canon [] _ _ 3 hS hE (by kernel_rfl) (by kernel_rfl) (by kernel_rfl))⟩ ?_
    clear hS; rintro m7 a w ⟨j, hm7, hlej, hIj, hS⟩
    refine wp_seq_k fun K8 hK8 => ?_
    refine PX.G [⟨26, [], (.sc (.bool (decide (((j : Nat) : Int) < ((lb.length : Nat) : Int)))))⟩] [] 3 [.q ((.sc (.int .i64 (((lb.map encS).length : Nat) : Int)) : PX.PV) = (.sc (.int .i64 ((lb.length : Nat) : Int))))] [] [.au, .au, .nm (.sc (.int .i64 ((lb.length : Nat) : Int))), .au] [0, 1, 5, 6, 7, 8, 26] [1, 2] hS hE ⟨PX.nm_len (by simp), trivial⟩ fun a w hS => ?_
    refine PX.cond_s (decide (((j : Nat) : Int) < ((lb.length : Nat) : Int))) hS (by kernel_rfl) (fun h9 => ?_) (fun h9 => ?_)
    · skip
      refine wp_skip ?_
      refine hK8 _ _ ?_
      refine wp_seq_k fun K10 hK10 => ?_
      refine wp_block ?_
      have hltj : j < lb.length := by simpa using h9
      obtain ⟨y, hy⟩ := get_of_lt hltj
      have hp1 := preD_le la lb i j
      refine PX.D [] [(2, .row 3 1 true ((encP la lb (i + 1) (j)).set (j + 1) [(.sc (.int .i64 (if (((preD la lb i (j + 1)) : Nat) : Int) > (((preD la lb (i + 1) j) : Nat) : Int) then (((preD la lb i (j + 1)) : Nat) : Int) else (((preD la lb (i + 1) j) : Nat) : Int))))]))] 3 [.q ((.sc (.int .i64 (IntKind.i64.wrap (((j : Nat) : Int) + 1))) : PX.PV) = (.sc (.int .i64 ((j + 1 : Nat) : Int)))), .q (((j : Nat) : Int) = ((j : Nat) : Int)), .q (j < lb.length + 1), .q ((encP la lb (i + 1) (j))[j]? = some (encN (preD la lb (i + 1) j))), .q ((.sc (.int .i64 (IntKind.i64.wrap (((j : Nat) : Int) + 1))) : PX.PV) = (.sc (.int .i64 ((j + 1 : Nat) : Int)))), .q (((j + 1 : Nat) : Int) = ((j + 1 : Nat) : Int)), .q (j + 1 < lb.length + 1), .q ((encP la lb (i) lb.length)[j + 1]? = some (encN (preD la lb i (j + 1)))), .q (((j + 1 : Nat) : Int) = ((j + 1 : Nat) : Int)), .q (j + 1 < lb.length + 1), .q ((encP la lb (i + 1) (j))[j + 1]? = some (encN 0))] [] [.au, .au, .nm (.sc (.int .i64 ((j + 1 : Nat) : Int))), .au, .au, .ix j [], .lr (encN (preD la lb (i + 1) j)), .au, .au, .nm (.sc (.int .i64 ((j + 1 : Nat) : Int))), .ix (j + 1) [], .lr (encN (preD la lb i (j + 1))), .au, .ix (j + 1) [], .lr (encN 0)] [0, 1, 5, 6, 7, 8] [1, 2] hS mixed hE ⟨PX.nm_int (by rw [IntWalk.i64_in _ (by omega)]; omega), rfl, by omega, encP_at (by omega) (Nat.le_refl _), PX.nm_int (by rw [IntWalk.i64_in _ (by omega)]; omega), rfl, by omega, encP_at (by omega) (by omega), rfl, by omega, encP_z (by omega) (by omega), trivial⟩ fun a w hS => ?_
      replace hS := PX.rerow (id := 2) (((encP la lb (i + 1) (j)).set (j + 1) (encN (max (preD la lb (i + 1) j) (preD la lb i (j + 1)))))) hS rfl (by rw [max_nat]; rfl)
      refine PX.D [⟨51, [], (.sc (.bool (x == y)))⟩] [] 3 [.q (((i : Nat) : Int) = ((i : Nat) : Int)), .q ((la.map encS)[i]? = some (encS x)), .q (((j : Nat) : Int) = ((j : Nat) : Int)), .q ((lb.map encS)[j]? = some (encS y)), .q (PX.BinIs Tryz.prog .eql 9 (.tmp 46) (.tmp 50) (PX.sV x) (PX.sV y) (.bool (x == y)))] [] [.au, .au, .ix i (encS x), .au, .au, .au, .ix j (encS y), .au, .bs (.bool (x == y))] [0, 1, 5, 6, 7, 8, 51] [1, 2] hS mixed hE ⟨rfl, PX.map_get hx, rfl, PX.map_get hy, PX.str_eq _ _, trivial⟩ fun a w hS => ?_
      refine PX.cond_s (x == y) hS (by kernel_rfl) (fun h11 => ?_) (fun h11 => ?_)
      · skip
        refine PX.D0 [] [(2, .row 3 1 true (((encP la lb (i + 1) (j)).set (j + 1) (encN (max (preD la lb (i + 1) j) (preD la lb i (j + 1))))).set (j + 1) [(.sc (.int .i64 (if (((preD la lb i j) + 1 : Nat) : Int) > (((max (preD la lb (i + 1) j) (preD la lb i (j + 1))) : Nat) : Int) then (((preD la lb i j) + 1 : Nat) : Int) else (((max (preD la lb (i + 1) j) (preD la lb i (j + 1))) : Nat) : Int))))]))] 3 [.q ((.sc (.int .i64 (IntKind.i64.wrap (((j : Nat) : Int) + 1))) : PX.PV) = (.sc (.int .i64 ((j + 1 : Nat) : Int)))), .q ((.sc (.int .i64 (IntKind.i64.wrap (((j : Nat) : Int) + 1))) : PX.PV) = (.sc (.int .i64 ((j + 1 : Nat) : Int)))), .q (((j + 1 : Nat) : Int) = ((j + 1 : Nat) : Int)), .q (j + 1 < lb.length + 1), .q (((encP la lb (i + 1) (j)).set (j + 1) (encN (max (preD la lb (i + 1) j) (preD la lb i (j + 1)))))[j + 1]? = some (encN (max (preD la lb (i + 1) j) (preD la lb i (j + 1))))), .q (((j : Nat) : Int) = ((j : Nat) : Int)), .q (j < lb.length + 1), .q ((encP la lb (i) lb.length)[j]? = some (encN (preD la lb i j))), .q ((.sc (.int .i64 (IntKind.i64.wrap ((((preD la lb i j) : Nat) : Int) + 1))) : PX.PV) = (.sc (.int .i64 (((preD la lb i j) + 1 : Nat) : Int)))), .q (((j + 1 : Nat) : Int) = ((j + 1 : Nat) : Int)), .q (j + 1 < lb.length + 1), .q (((encP la lb (i + 1) (j)).set (j + 1) (encN (max (preD la lb (i + 1) j) (preD la lb i (j + 1)))))[j + 1]? = some (encN (max (preD la lb (i + 1) j) (preD la lb i (j + 1)))))] [] [.au, .au, .nm (.sc (.int .i64 ((j + 1 : Nat) : Int))), .au, .au, .nm (.sc (.int .i64 ((j + 1 : Nat) : Int))), .ix (j + 1) [], .lr (encN (max (preD la lb (i + 1) j) (preD la lb i (j + 1)))), .au, .au, .ix j [], .lr (encN (preD la lb i j)), .nm (.sc (.int .i64 (((preD la lb i j) + 1 : Nat) : Int))), .au, .ix (j + 1) [], .lr (encN (max (preD la lb (i + 1) j) (preD la lb i (j + 1))))] [0, 1, 5, 6, 7, 8] [1, 2] hS mixed hE ⟨PX.nm_int (by rw [IntWalk.i64_in _ (by omega)]; omega), PX.nm_int (by rw [IntWalk.i64_in _ (by omega)]; omega), rfl, by omega, set_get (by rw [encP_len]; omega), rfl, by omega, encP_at (by omega) (by omega), PX.nm_int (by rw [IntWalk.i64_in _ (by omega)]; omega), rfl, by omega, set_get (by rw [encP_len]; omega), trivial⟩ fun a w hS => ?_
        refine hK10 _ _ ?_
        refine PX.G0 [⟨8, [], (.sc (.int .i64 ((j + 1 : Nat) : Int)))⟩] [] 3 [.q ((.sc (.int .i64 (IntKind.i64.wrap (((j : Nat) : Int) + 1))) : PX.PV) = (.sc (.int .i64 ((j + 1 : Nat) : Int))))] [] [.au, .nm (.sc (.int .i64 ((j + 1 : Nat) : Int))), .au] [0, 1, 5, 6, 7, 8] [1, 2] hS hE ⟨PX.nm_int (by rw [IntWalk.i64_in _ (by omega)]; omega), trivial⟩ fun a w hS => ?_
        replace hS := PX.rerow (id := 2) ((encP la lb (i + 1) (j + 1))) hS rfl (by have hxy : x = y := (by simpa using h11); subst hxy; rw [max_nat, List.set_set, ← encP_set hltj, pre_eq hx hy]; rfl)
        exact ⟨lb.length - (j + 1), by omega, j + 1, rfl, by omega, trivial, (PX.canon [] _ _ 3 hS hE (by kernel_rfl) (by kernel_rfl) (by kernel_rfl))⟩
      · skip
        refine wp_skip ?_
        refine hK10 _ _ ?_
        refine PX.G0 [⟨8, [], (.sc (.int .i64 ((j + 1 : Nat) : Int)))⟩] [] 3 [.q ((.sc (.int .i64 (IntKind.i64.wrap (((j : Nat) : Int) + 1))) : PX.PV) = (.sc (.int .i64 ((j + 1 : Nat) : Int))))] [] [.au, .nm (.sc (.int .i64 ((j + 1 : Nat) : Int))), .au] [0, 1, 5, 6, 7, 8] [1, 2] hS hE ⟨PX.nm_int (by rw [IntWalk.i64_in _ (by omega)]; omega), trivial⟩ fun a w hS => ?_
        replace hS := PX.rerow (id := 2) ((encP la lb (i + 1) (j + 1))) hS rfl (by rw [← encP_set hltj, pre_ne hx hy (by simpa using h11)])
        exact ⟨lb.length - (j + 1), by omega, j + 1, rfl, by omega, trivial, (PX.canon [] _ _ 3 hS hE (by kernel_rfl) (by kernel_rfl) (by kernel_rfl))⟩
    · skip
      refine wp_exit ?_
      refine hK6 _ _ ?_
      have hje : j = lb.length := by have := h9; simp at this; omega
      replace hS := PX.rerow (id := 2) ((encP la lb (i + 1) lb.length)) hS rfl (by rw [hje])
      refine PX.G0 [⟨5, [], (.own 2 1 (lb.length + 1))⟩] [] 3 [] [] [.au, .au] [0, 1, 5, 6] [2] hS hE trivial fun a w hS => ?_
      refine hK5 _ _ ?_
      refine PX.G0 [⟨6, [], (.sc (.int .i64 ((i + 1 : Nat) : Int)))⟩] [] 3 [.q ((.sc (.int .i64 (IntKind.i64.wrap (((i : Nat) : Int) + 1))) : PX.PV) = (.sc (.int .i64 ((i + 1 : Nat) : Int))))] [] [.au, .nm (.sc (.int .i64 ((i + 1 : Nat) : Int))), .au] [0, 1, 5, 6] [2] hS hE ⟨PX.nm_int (by rw [IntWalk.i64_in _ (by omega)]; omega), trivial⟩ fun a w hS => ?_
      exact ⟨la.length - (i + 1), by omega, i + 1, rfl, by omega, trivial, (PX.canon [(1, 2)] _ _ 2 hS hE (by kernel_rfl) (by kernel_rfl) (by kernel_rfl))⟩
  · skip
    refine wp_exit ?_
    refine hK1 _ _ ?_
    have hie : i = la.length := by have := h4; simp at this; omega
    refine PX.G [⟨4, [], (.sc (.int .i64 (((preD la lb i lb.length) : Nat) : Int)))⟩] [] 2 [.q ((.sc (.int .i64 (((lb.map encS).length : Nat) : Int)) : PX.PV) = (.sc (.int .i64 ((lb.length : Nat) : Int)))), .q (((lb.length : Nat) : Int) = ((lb.length : Nat) : Int)), .q (lb.length < lb.length + 1), .q ((encP la lb (i) lb.length)[lb.length]? = some (encN (preD la lb i lb.length)))] [] [.au, .au, .nm (.sc (.int .i64 ((lb.length : Nat) : Int))), .ix lb.length [], .lr (encN (preD la lb i lb.length)), .au] [4] [] hS hE ⟨PX.nm_len (by simp), rfl, Nat.lt_succ_self _, encP_at (Nat.le_refl _) (Nat.le_refl _), trivial⟩ fun a w hS => ?_
    refine wp_ret ?_
    try simp only [Exit.then, Exit.inBlock, Nat.reduceEqDiff, ↓reduceIte]
    rw [show (.sc (.int .i64 ((lcs la lb : Nat) : Int))) = ((.sc (.int .i64 (((preD la lb i lb.length) : Nat) : Int))) : PX.PV) from by rw [hie, preD_end]]
    exact PX.ret_s hS hE (by kernel_rfl) (by kernel_rfl) (by kernel_rfl) (.inl rfl)
end Go.Proofs.YtlaiafalilcgjaaGreatDoor
namespace Go.Proofs.YtlaiafalilcgjaaGreatDoor
open Go.RowKit Go.PX
set_option maxRecDepth 100000
open Go.BK
theorem spL_set {l : List UInt8} {k m : Nat} (hk : k < l.count 10) (hst : spL l (k + 1) = ((spL l k).1 ++ [(spL l k).2.take m], (spL l k).2.drop (m + 1))) : ((spL l (k)).1.map encS ++ List.replicate (l.count 10 + 1 - (k)) (encS [])).set k [.sc (sV ((spL l (k)).2.take m))] = (spL l (k + 1)).1.map encS ++ List.replicate (l.count 10 + 1 - (k + 1)) (encS []) := by
  have h1 := (spL_inv l k (by omega)).1
  rw [hst, show l.count 10 + 1 - k = (l.count 10 + 1 - (k + 1)) + 1 by omega, List.replicate_succ, List.set_append_right _ _ (by simp [h1]), List.length_map, h1, Nat.sub_self, List.set_cons_zero]
  simp [encS]
theorem spL_fin (l : List UInt8) : ((spL l (l.count 10)).1.map encS ++ List.replicate (l.count 10 + 1 - (l.count 10)) (encS [])).set (l.count 10) [.sc (sV (spL l (l.count 10)).2)] = (linesL l).map encS := by
  have h1 := (spL_inv l _ (Nat.le_refl _)).1
  rw [show l.count 10 + 1 - l.count 10 = 1 by omega, ← spL_end, List.set_append_right _ _ (by simp [h1]), List.length_map, h1, Nat.sub_self]
  simp [encS]
theorem spL_at {l : List UInt8} {k : Nat} (hk : k ≤ l.count 10) : ((spL l (k)).1.map encS ++ List.replicate (l.count 10 + 1 - (k)) (encS []))[k]? = some (encS []) := by
  have h1 := (spL_inv l k hk).1
  rw [List.getElem?_append_right (by simp [h1]), List.length_map, h1, Nat.sub_self, List.getElem?_replicate_of_lt (by omega)]

set_option maxHeartbeats 400000 in
theorem con_gensplit (l : List UInt8) (hl : l.length ≤ 1000000) : PX.Con Tryz.prog 39 [(.sc (PX.sV l)), (.sc (PX.sV [10])), (.sc (.int .i64 0)), (.sc (.int .i64 (-1)))] [] 1 100000 (.imm 1 ((linesL l).map encS)) [] := by
  refine PX.con_intro [(.sc (PX.sV l)), (.sc (PX.sV [10])), (.sc (.int .i64 0)), (.sc (.int .i64 (-1)))] 66 Tryz.func39 rfl rfl (by kernel_rfl) (by kernel_rfl) ?_
  intro E a hE hS
  generalize E.w0 = w at hS ⊢
  have mix := mixed
  refine PX.G [] [] 1 [] [] [.au] [0, 1, 2, 3] [] hS hE trivial fun a w hS => ?_
  refine wp_seq_k fun K1 hK1 => ?_
  refine PX.G [⟨13, [], (.sc (.bool false))⟩] [] 1 [] [] [.au, .au] [0, 1, 2, 3, 13] [] hS hE trivial fun a w hS => ?_
  refine PX.cond_s false hS (by kernel_rfl) (fun h2 => nomatch h2) (fun h2 => ?_)
  refine wp_skip ?_
  refine hK1 _ _ ?_
  refine wp_seq_k fun K3 hK3 => ?_
  refine PX.G [⟨15, [], (.sc (.bool false))⟩] [] 1 [.q (PX.BinIs Tryz.prog .eql 9 (.tmp 14) (.const (.string ⟨#[]⟩)) (PX.sV [10]) (PX.sV []) (.bool false))] [] [.au, .bs (.bool false)] [0, 1, 2, 3, 15] [] hS hE ⟨PX.str_eq _ _, trivial⟩ fun a w hS => ?_
  refine PX.cond_s false hS (by kernel_rfl) (fun h4 => nomatch h4) (fun h4 => ?_)
  refine wp_skip ?_
  refine hK3 _ _ ?_
  refine wp_seq_k fun K5 hK5 => ?_
  refine PX.G [⟨20, [], (.sc (.bool true))⟩] [] 1 [] [] [.au, .au] [0, 1, 2, 3, 20] [] hS hE trivial fun a w hS => ?_
  refine PX.cond_s true hS (by kernel_rfl) (fun h6 => ?_) (fun h6 => nomatch h6)
  refine PX.G0 [⟨3, [], (.sc (.int .i64 ((l.count 10 + 1 : Nat) : Int)))⟩] [] 1 [.q (PX.Con Tryz.prog 23 [(.sc (PX.sV l)), (.sc (PX.sV [10]))] [] 1 1 (.sc (.int .i64 (((l.count 10) : Nat) : Int))) []), .q ((.sc (.int .i64 (IntKind.i64.wrap ((((l.count 10) : Nat) : Int) + 1))) : PX.PV) = (.sc (.int .i64 ((l.count 10 + 1 : Nat) : Int))))] [] [.au, .au, .cl [] (.sc (.int .i64 (((l.count 10) : Nat) : Int))) [] 1, .nm (.sc (.int .i64 ((l.count 10 + 1 : Nat) : Int))), .au] [0, 1, 2, 3] [] hS hE ⟨con_count l 10 _ _, PX.nm_int (by have := count_le_len l 10; rw [IntWalk.i64_in _ (by omega)]; omega), trivial⟩ fun a w hS => ?_
  refine hK5 _ _ ?_
  refine PX.G [⟨3, [], (.sc (.int .i64 (if ((l.length + 1 : Nat) : Int) < ((l.count 10 + 1 : Nat) : Int) then ((l.length + 1 : Nat) : Int) else ((l.count 10 + 1 : Nat) : Int))))⟩] [] 1 [.q ((.sc (.int .i64 (((PX.sB l).size : Nat) : Int)) : PX.PV) = (.sc (.int .i64 ((l.length : Nat) : Int)))), .q ((.sc (.int .i64 (IntKind.i64.wrap (((l.length : Nat) : Int) + 1))) : PX.PV) = (.sc (.int .i64 ((l.length + 1 : Nat) : Int))))] [] [.au, .au, .nm (.sc (.int .i64 ((l.length : Nat) : Int))), .nm (.sc (.int .i64 ((l.length + 1 : Nat) : Int))), .au, .au] [0, 1, 2, 3] [] hS hE ⟨PX.nm_len (PX.sB_size _), PX.nm_int (by have := count_le_len l 10; rw [IntWalk.i64_in _ (by omega)]; omega), trivial⟩ fun a w hS => ?_
  replace hS := PX.sl [0, 1, 2, 3] (PX.reslot (t := 3) (.sc (.int .i64 ((l.count 10 + 1 : Nat) : Int))) hS rfl (fun _ _ _ _ h => (show ((.sc (.int .i64 (if ((l.length + 1 : Nat) : Int) < ((l.count 10 + 1 : Nat) : Int) then ((l.length + 1 : Nat) : Int) else ((l.count 10 + 1 : Nat) : Int)))) : PX.PV) = (.sc (.int .i64 ((l.count 10 + 1 : Nat) : Int))) from by have := count_le_len l 10; rw [if_neg (by omega)]) ▸ h))
  refine PX.G [⟨9, [], (.own 1 1 (l.count 10 + 1))⟩] [(1, .row 9 1 true (List.replicate (l.count 10 + 1) [(.sc (PX.sV []))]))] 2 [.q ((((l.count 10 + 1 : Nat) : Int) : Int) = ((l.count 10 + 1 : Nat) : Int)), .q ((((l.count 10 + 1 : Nat) : Int) : Int) = ((l.count 10 + 1 : Nat) : Int)), .b (Nat.ble (l.count 10 + 1) 1000000000)] [] [.au, .mk (l.count 10 + 1), .au] [0, 1, 2, 3, 9] [1] hS hE ⟨rfl, rfl, by rw [Nat.ble_eq]; have := count_le_len l 10; omega, trivial⟩ fun a w hS => ?_
  refine PX.G [⟨3, [], (.sc (.int .i64 ((l.count 10 : Nat) : Int)))⟩] [] 2 [.q ((.sc (.int .i64 (IntKind.i64.wrap (((l.count 10 + 1 : Nat) : Int) - 1))) : PX.PV) = (.sc (.int .i64 ((l.count 10 : Nat) : Int))))] [] [.au, .nm (.sc (.int .i64 ((l.count 10 : Nat) : Int))), .au] [0, 1, 2, 3, 9] [1] hS hE ⟨PX.nm_int (by have := count_le_len l 10; rw [IntWalk.i64_in _ (by omega)]; omega), trivial⟩ fun a w hS => ?_
  refine PX.G [⟨10, [], (.sc (.int .i64 0))⟩] [] 2 [] [] [.au] [0, 1, 2, 3, 9, 10] [1] hS hE trivial fun a w hS => ?_
  refine wp_seq_k fun K7 hK7 => ?_
  refine wp_block ?_
  replace hS := PX.rerow (id := 1) (((spL l (0)).1.map encS ++ List.replicate (l.count 10 + 1 - (0)) (encS []))) hS rfl (by simp [spL, encS])
  refine wp_loop_ghost (fun m8 a' w' => ∃ k : Nat, m8 = (l.count 10) - k ∧ k ≤ (l.count 10) ∧ True ∧ PX.Sat E 66 [⟨0, [], (.sc (PX.sV ((spL l (k)).2)))⟩, ⟨1, [], (.sc (PX.sV [10]))⟩, ⟨2, [], (.sc (.int .i64 0))⟩, ⟨3, [], (.sc (.int .i64 ((l.count 10 : Nat) : Int)))⟩, ⟨9, [], (.own 1 1 (l.count 10 + 1))⟩, ⟨10, [], (.sc (.int .i64 ((k : Nat) : Int)))⟩] [(1, .row 9 1 true ((spL l (k)).1.map encS ++ List.replicate (l.count 10 + 1 - (k)) (encS [])))] 2 a' w') ((l.count 10) - 0) ⟨0, rfl, Nat.zero_le _, trivial, (PX.canon [] _ _ 2 hS hE (by kernel_rfl) (by kernel_rfl) (by kernel_rfl))⟩ ?_
  clear hS; rintro m8 a w ⟨k, hm8, hlek, hIk, hS⟩
  refine wp_seq_k fun K9 hK9 => ?_
  refine PX.G [⟨36, [], (.sc (.bool (decide (((k : Nat) : Int) < ((l.count 10 : Nat) : Int)))))⟩] [] 2 [] [] [.au, .au, .au] [0, 1, 2, 3, 9, 10, 36] [1] hS hE trivial fun a w hS => ?_
  refine PX.cond_s (decide (((k : Nat) : Int) < ((l.count 10 : Nat) : Int))) hS (by kernel_rfl) (fun h10 => ?_) (fun h10 => ?_)
  · skip
    refine wp_skip ?_
    refine hK9 _ _ ?_
    refine wp_block ?_
    have hkc : k < l.count 10 := by simpa using h10
    obtain ⟨m, hm, hml, hst⟩ := spL_hit hkc
    have hsl := (spL_inv l k (by omega)).2.2.2; have hcl := count_le_len l 10
    refine PX.G [⟨11, [], (.sc (.int .i64 ((m : Nat) : Int)))⟩] [] 2 [.q (PX.Con Tryz.prog 38 [(.sc (PX.sV ((spL l (k)).2))), (.sc (PX.sV [10]))] [] 2 2 (.sc (.int .i64 ((m : Nat) : Int))) [])] [] [.au, .au, .cl [] (.sc (.int .i64 ((m : Nat) : Int))) [] 2, .au] [0, 1, 2, 3, 9, 10, 11] [1] hS hE ⟨by have := con_index (spL l (k)).2 10 2 2; rw [hm] at this; exact this, trivial⟩ fun a w hS => ?_
    refine wp_seq_k fun K11 hK11 => ?_
    refine PX.G [⟨41, [], (.sc (.bool (decide (((m : Nat) : Int) < 0))))⟩] [] 2 [] [] [.au, .au] [0, 1, 2, 3, 9, 10, 11, 41] [1] hS hE trivial fun a w hS => ?_
    refine PX.cond_s (decide (((m : Nat) : Int) < 0)) hS (by kernel_rfl) (fun h12 => ?_) (fun h12 => ?_)
    · skip
      simp at h12; omega
    · skip
      refine wp_skip ?_
      refine hK11 _ _ ?_
      refine PX.G [] [(1, .row 9 1 true (((spL l (k)).1.map encS ++ List.replicate (l.count 10 + 1 - (k)) (encS [])).set k [(.sc (PX.sV ((spL l (k)).2.take m)))]))] 2 [.q ((.sc (.int .i64 (IntKind.i64.wrap (((m : Nat) : Int) + 0))) : PX.PV) = (.sc (.int .i64 ((m + 0 : Nat) : Int)))), .q ((0 : Nat) ≤ m), .q (m ≤ (PX.sB ((spL l (k)).2)).size), .q ((PX.sB ((spL l (k)).2)).extract 0 m = PX.sB ((spL l (k)).2.take m)), .q ((0 : Nat) = 0), .q (((m + 0 : Nat) : Int) = ((m : Nat) : Int)), .q (((k : Nat) : Int) = ((k : Nat) : Int)), .q (k < l.count 10 + 1), .q (((spL l (k)).1.map encS ++ List.replicate (l.count 10 + 1 - (k)) (encS []))[k]? = some (encS []))] [] [.au, .au, .au, .au, .au, .nm (.sc (.int .i64 ((m + 0 : Nat) : Int))), .ss 0 m (PX.sB ((spL l (k)).2.take m)), .ix k [], .lr (encS [])] [0, 1, 2, 3, 9, 10, 11] [1] hS hE ⟨PX.nm_int (by rw [IntWalk.i64_in _ (by omega)]; omega), Nat.zero_le _, by rw [PX.sB_size]; exact (by omega), PX.str_sub (by simp), rfl, rfl, rfl, by omega, spL_at (by omega), trivial⟩ fun a w hS => ?_
      refine PX.G [⟨0, [], (.sc (PX.sV ((spL l (k)).2.drop (m + 1))))⟩] [] 2 [.q ((.sc (.int .i64 (((PX.sB ([10])).size : Nat) : Int)) : PX.PV) = (.sc (.int .i64 ((([10]).length : Nat) : Int)))), .q ((.sc (.int .i64 (IntKind.i64.wrap (((m : Nat) : Int) + ((([10]).length : Nat) : Int)))) : PX.PV) = (.sc (.int .i64 ((m + 1 : Nat) : Int)))), .q ((m + 1 : Nat) ≤ (spL l (k)).2.length), .q ((spL l (k)).2.length ≤ (PX.sB ((spL l (k)).2)).size), .q ((PX.sB ((spL l (k)).2)).extract (m + 1) ((spL l (k)).2.length) = PX.sB ((spL l (k)).2.drop (m + 1))), .q (((m + 1 : Nat) : Int) = ((m + 1 : Nat) : Int)), .q (((spL l (k)).2.length : Nat) = (PX.sB ((spL l (k)).2)).size)] [] [.au, .au, .au, .nm (.sc (.int .i64 ((([10]).length : Nat) : Int))), .nm (.sc (.int .i64 ((m + 1 : Nat) : Int))), .ss (m + 1) ((spL l (k)).2.length) (PX.sB ((spL l (k)).2.drop (m + 1))), .au] [0, 1, 2, 3, 9, 10] [1] hS hE ⟨PX.nm_len (PX.sB_size _), PX.nm_int (by rw [IntWalk.i64_in _ (by simp; omega)]; simp), by omega, by rw [PX.sB_size]; exact (Nat.le_refl _), PX.str_sub (by rw [List.take_length]), rfl, (PX.sB_size _).symm, trivial⟩ fun a w hS => ?_
      refine PX.G0 [⟨10, [], (.sc (.int .i64 ((k + 1 : Nat) : Int)))⟩] [] 2 [.q ((.sc (.int .i64 (IntKind.i64.wrap (((k : Nat) : Int) + 1))) : PX.PV) = (.sc (.int .i64 ((k + 1 : Nat) : Int))))] [] [.au, .nm (.sc (.int .i64 ((k + 1 : Nat) : Int))), .au] [0, 1, 2, 3, 9, 10] [1] hS hE ⟨PX.nm_int (by rw [IntWalk.i64_in _ (by omega)]; omega), trivial⟩ fun a w hS => ?_
      rw [show (((spL l (k)).1.map encS ++ List.replicate (l.count 10 + 1 - (k)) (encS [])).set k [(.sc (PX.sV ((spL l (k)).2.take m)))]) = ((spL l (k + 1)).1.map encS ++ List.replicate (l.count 10 + 1 - (k + 1)) (encS [])) from spL_set hkc hst] at hS
      replace hS := PX.sl [0, 1, 2, 3, 9, 10] (PX.reslot (t := 0) (.sc (PX.sV ((spL l (k + 1)).2))) hS rfl (fun _ _ _ _ h => (show ((.sc (PX.sV ((spL l (k)).2.drop (m + 1)))) : PX.PV) = (.sc (PX.sV ((spL l (k + 1)).2))) from by rw [hst]) ▸ h))
      exact ⟨(l.count 10) - (k + 1), by omega, k + 1, rfl, by omega, trivial, (PX.canon [] _ _ 2 hS hE (by kernel_rfl) (by kernel_rfl) (by kernel_rfl))⟩
  · skip
    refine wp_exit ?_
    refine hK7 _ _ ?_
    have hke : k = l.count 10 := by have := h10; simp at this; omega
    subst hke
    refine PX.G [] [(1, .row 9 1 true (((spL l (l.count 10)).1.map encS ++ List.replicate (l.count 10 + 1 - (l.count 10)) (encS [])).set (l.count 10) [(.sc (PX.sV ((spL l (l.count 10)).2)))]))] 2 [.q (((l.count 10 : Nat) : Int) = (((l.count 10) : Nat) : Int)), .q ((l.count 10) < l.count 10 + 1), .q (((spL l (l.count 10)).1.map encS ++ List.replicate (l.count 10 + 1 - (l.count 10)) (encS []))[(l.count 10)]? = some (encS []))] [] [.au, .au, .au, .ix (l.count 10) [], .lr (encS [])] [9, 10] [1] hS hE ⟨rfl, Nat.lt_succ_self _, spL_at (Nat.le_refl _), trivial⟩ fun a w hS => ?_
    replace hS := PX.rerow (id := 1) (((linesL l).map encS)) hS rfl (spL_fin l)
    replace hS := PX.sl [9, 10] (PX.reslot (t := 9) (.own 1 1 ((linesL l).length)) hS rfl (fun _ _ _ _ h => (show ((.own 1 1 (l.count 10 + 1)) : PX.PV) = (.own 1 1 ((linesL l).length)) from by rw [linesL_len]) ▸ h))
    replace hS := PX.fz 1 [⟨9, [], (.imm 1 ((linesL l).map encS))⟩] [] [9, 10] [] [.b (PX.lenIs ((linesL l).length) ((linesL l).map encS))] hS ⟨(by simp [PX.lenIs]), trivial⟩
    refine PX.G [⟨8, [], (.imm 1 ((linesL l).map encS))⟩] [] 2 [.q ((.sc (.int .i64 (IntKind.i64.wrap (((l.count 10 : Nat) : Int) + 1))) : PX.PV) = (.sc (.int .i64 ((l.count 10 + 1 : Nat) : Int)))), .q ((0 : Nat) ≤ (linesL l).length), .q ((linesL l).length ≤ ((linesL l).map encS).length), .q ((((linesL l).map encS).take ((linesL l).length)).drop 0 = ((linesL l).map encS)), .q ((0 : Nat) = 0), .q (((l.count 10 + 1 : Nat) : Int) = (((linesL l).length : Nat) : Int))] [] [.au, .au, .nm (.sc (.int .i64 ((l.count 10 + 1 : Nat) : Int))), .sl 0 ((linesL l).length) ((linesL l).map encS), .au] [8] [] hS hE ⟨PX.nm_int (by have := count_le_len l 10; rw [IntWalk.i64_in _ (by omega)]; omega), Nat.zero_le _, by simp, by rw [List.take_of_length_le (by simp)]; rfl, rfl, by rw [linesL_len], trivial⟩ fun a w hS => ?_
    refine wp_ret ?_
    try simp only [Exit.then, Exit.inBlock, Nat.reduceEqDiff, ↓reduceIte]
    rw [show (.imm 1 ((linesL l).map encS)) = ((.imm 1 ((linesL l).map encS)) : PX.PV) from rfl]
    exact PX.ret_s hS hE (by kernel_rfl) (by kernel_rfl) (by kernel_rfl) (.inl rfl)

set_option maxHeartbeats 400000 in
theorem con_split (l : List UInt8) (hl : l.length ≤ 1000000) : PX.Con Tryz.prog 24 [(.sc (PX.sV l)), (.sc (PX.sV [10]))] [] 1 100000 (.imm 1 ((linesL l).map encS)) [] := by
  refine PX.con_intro [(.sc (PX.sV l)), (.sc (PX.sV [10]))] 8 Tryz.func24 rfl rfl (by kernel_rfl) (by kernel_rfl) ?_
  intro E a hE hS
  generalize E.w0 = w at hS ⊢
  have mix := mixed
  refine PX.G [] [] 1 [] [] [.au] [0, 1] [] hS hE trivial fun a w hS => ?_
  refine PX.G [⟨4, [], (.imm 1 ((linesL l).map encS))⟩] [] 1 [.q (PX.Con Tryz.prog 39 [(.sc (PX.sV l)), (.sc (PX.sV [10])), (.sc (.int .i64 0)), (.sc (.int .i64 (-1)))] [] 1 1 (.imm 1 ((linesL l).map encS)) [])] [] [.au, .au, .cl [] (.imm 1 ((linesL l).map encS)) [] 1, .au] [4] [] hS hE ⟨PX.con_any (con_gensplit l hl), trivial⟩ fun a w hS => ?_
  refine wp_ret ?_
  try simp only [Exit.then, Exit.inBlock, Nat.reduceEqDiff, ↓reduceIte]
  rw [show (.imm 1 ((linesL l).map encS)) = ((.imm 1 ((linesL l).map encS)) : PX.PV) from rfl]
  exact PX.ret_s hS hE (by kernel_rfl) (by kernel_rfl) (by kernel_rfl) (.inl rfl)
end Go.Proofs.YtlaiafalilcgjaaGreatDoor
namespace Go.PX
open Go.RowKit Go.SX
section
variable {P : Program} {E : Env} {N : Nat} {κ : List (Nat × Bool)} {R : List Ent} {H H' : Heap} {nx nx' : Nat} {σ : Nm} {Z : Nat → Prop} {a : Act} {w : World}
/-- the table told otherwise -/
theorem Rel.reH (hr : Rel E N κ R H nx σ Z a w) (hle : nx ≤ nx') (htop : nx' ≤ E.top) (h : ∀ i o, hlook H' i = some o → OR σ Z w i o) (hk : ∀ i o, hlook H' i = some o → (∃ o', hlook H i = some o') ∨ (nx ≤ i ∧ i < nx')) : Rel E N κ R H' nx' σ Z a w := by
  have hn : ∀ {i b c}, nx ≤ i → i < nx' → σ i = some (b, c) → False := fun {i b c} h1 h2 q => by
    have := (hr.fr i h1 (Nat.lt_of_lt_of_le h2 htop)).1
    rw [q] at this; cases this
  refine ⟨hr.rs, ⟨h, fun i i' o o' b c c' q1 q2 q3 q4 => ?_, fun i o b c q1 q2 => ?_, hr.hr.zlt⟩, fun i q1 q2 => ⟨(hr.fr i (Nat.le_trans hle q1) q2).1, ?_⟩, Nat.le_trans hr.lo hle, hr.ext, hr.dom, fun i o b c q1 q2 => ?_, hr.chg, hr.zold, hr.z0⟩
  · rcases hk i o q1 with ⟨_, r1⟩ | ⟨r1, r2⟩
    · rcases hk i' o' q2 with ⟨_, r3⟩ | ⟨r3, r4⟩
      · exact hr.hr.inj i i' _ _ b c c' r1 r3 q3 q4
      · exact (hn r3 r4 q4).elim
    · exact (hn r1 r2 q3).elim
  · rcases hk i o q1 with ⟨_, r1⟩ | ⟨r1, r2⟩
    · exact hr.hr.off i _ b c r1 q2
    · exact (hn r1 r2 q2).elim
  · cases q : hlook H' i with
    | none => rfl
    | some o =>
      rcases hk i o q with ⟨_, r1⟩ | ⟨r1, r2⟩
      · rw [(hr.fr i (Nat.le_trans hle q1) q2).2] at r1; cases r1
      · omega
  · rcases hk i o q1 with ⟨_, r1⟩ | ⟨r1, r2⟩
    · exact hr.own i _ b c r1 q2
    · exact (hn r1 r2 q2).elim

theorem flat_set {α : Type} {sz : Nat} : ∀ (rows : List (List α)) (k i : Nat) (r : List α) (x : α), (∀ r ∈ rows, r.length = sz) → rows[k]? = some r → i < sz → (rows.set k (r.set i x)).flatten = rows.flatten.set (k * sz + i) x
  | [], k, i, r, x, _, h, _ => by simp at h
  | y :: rows, 0, i, r, x, hr, h, hi => by
    simp only [List.getElem?_cons_zero, Option.some.injEq] at h; subst h
    rw [List.set_cons_zero, List.flatten_cons, List.flatten_cons, Nat.zero_mul, Nat.zero_add, List.set_append_left _ _ (by rw [hr y (by simp)]; exact hi)]
  | y :: rows, k + 1, i, r, x, hr, h, hi => by
    have hy := hr y (by simp)
    rw [List.set_cons_succ, List.flatten_cons, List.flatten_cons, List.set_append_right _ _ (by rw [hy, Nat.add_mul]; omega), hy, show (k + 1) * sz + i - sz = k * sz + i by rw [Nat.add_mul]; omega,
      flat_set rows k i r x (fun r hr' => hr r (by simp [hr'])) (by simpa using h) hi]
theorem set_same {l : List Value} {j : Nat} {u : Value} (h : l[j]? = some u) : l.set j u = l := by
  obtain ⟨hlt, rfl⟩ := List.getElem?_eq_some_iff.1 h
  exact List.set_getElem_self hlt
/-- the value behind a name of a row -/
def OwnIs (n : Nat) (v : Value) : Prop := (v = .slice none 0 0 ∧ n = 0) ∨ ∃ b c, v = .slice (some ⟨b, 0, none⟩) n c
/-- a name in a row is written as the value that it stands for; a ghost tells how it reads -/
theorem Sat.rawN {B k i O m n e sz : Nat} {rows : List (List PV)} {row : List PV} (hS : Sat E N R H nx a w) (htop : nx + 1 ≤ E.top) (hB : hlook H B = some (.row e sz false rows)) (hk : rows[k]? = some row) (hi : row[i]? = some (.own O m n)) (hp : ∀ v, pures (rows.set k (row.set i (.sc v))).flatten = true) :
    ∃ v, OwnIs n v ∧ Sat E N R ((B, .row e sz true (rows.set k (row.set i (.sc v)))) :: (nx, .ty v (.own O m n)) :: H) (nx + 1) a w := by
  obtain ⟨σ, Z, hr⟩ := hS
  obtain ⟨h1, h2, h3⟩ := hr.hr.at_ _ _ hB
  have hrow := h1 row (List.mem_of_getElem? hk)
  have hil : i < sz := by rw [← hrow.1]; exact (List.getElem?_eq_some_iff.1 hi).1
  have hlen : ∀ r ∈ rows, r.length = sz := fun r hr => (h1 r hr).1
  have hfl : rows.flatten[k * sz + i]? = some (.own O m n) := by rw [flat_row rows k i row hlen hk hil]; exact hi
  obtain ⟨⟨b, c⟩, hs⟩ : ∃ x, σ B = some x := by
    cases h : σ B with
    | none => exact absurd h (h2.2 (by rintro rfl; simp at hk))
    | some x => exact ⟨x, rfl⟩
  obtain ⟨C, q1, q2, q3, q4, q5⟩ := h3 b c hs
  obtain ⟨u, hu, huv⟩ := q5.1.get hfl
  have ho : scOk u = true := by cases huv <;> rfl
  have hv : OwnIs n u := by
    cases huv with
    | own _ _ _ b' c' _ => exact .inr ⟨b', c', rfl⟩
    | own0 => exact .inl ⟨rfl, rfl⟩
  have hgn := hr.fr nx (Nat.le_refl _) htop
  have hBn : B ≠ nx := by rintro rfl; rw [hgn.2] at hB; cases hB
  have hlk : ∀ {j : Nat} {o : PO}, hlook ((B, PO.row e sz true (rows.set k (row.set i (.sc u)))) :: (nx, .ty u (.own O m n)) :: H) j = some o → (j = B ∧ o = .row e sz true (rows.set k (row.set i (.sc u)))) ∨ (j = nx ∧ o = .ty u (.own O m n)) ∨ hlook H j = some o := fun {j o} q => by
    simp only [hlook] at q
    cases hb : Nat.beq B j with
    | true => rw [hb] at q; simp only [cond_true, Option.some.injEq] at q; exact .inl ⟨(Nat.eq_of_beq_eq_true hb).symm, q.symm⟩
    | false =>
      rw [hb] at q
      simp only [cond_false] at q
      cases hb2 : Nat.beq nx j with
      | true => rw [hb2] at q; simp only [cond_true, Option.some.injEq] at q; exact .inr (.inl ⟨(Nat.eq_of_beq_eq_true hb2).symm, q.symm⟩)
      | false => rw [hb2] at q; exact .inr (.inr q)
  refine ⟨u, hv, σ, Z, hr.reH (Nat.le_succ _) htop (fun j o q => ?_) (fun j o q => ?_)⟩
  · rcases hlk q with ⟨rfl, rfl⟩ | ⟨rfl, rfl⟩ | q
    · have hro : rowsOk sz (rows.set k (row.set i (.sc u))) := fun r hr' => by
        rcases List.mem_or_eq_of_mem_set hr' with hr' | rfl
        · exact h1 r hr'
        · exact ⟨by rw [List.length_set]; exact hrow.1, ones_set1 hrow.2 rfl⟩
      refine ⟨hro, ⟨by rw [List.length_set]; exact h2.1, fun _ => by rw [hs]; simp⟩, fun b' c' hb => ?_⟩
      rw [hs] at hb; simp only [Option.some.injEq, Prod.mk.injEq] at hb; obtain ⟨rfl, rfl⟩ := hb
      refine ⟨C, q1, q2, by rw [List.length_set]; exact q3, q4, ?_⟩
      rw [List.length_set]
      have hset := VRs.set q5.1 (i := k * sz + i) (VR.sc (σ := σ) (Z := Z) (w := w) u ho)
      rw [set_same hu, ← flat_set rows k i row (.sc u) hlen hk hil] at hset
      have := hset.crs
      rw [hp u] at this
      exact this
    · exact ⟨hgn.1, rfl, huv⟩
    · exact hr.hr.at_ j o q
  · rcases hlk q with ⟨rfl, rfl⟩ | ⟨rfl, rfl⟩ | q
    · exact .inl ⟨_, hB⟩
    · exact .inr ⟨Nat.le_refl _, Nat.lt_succ_self _⟩
    · exact .inl ⟨_, q⟩

/-- a function whose body holds a range over a function, handed a part of the table -/
theorem con_intro_wH {n : Nat} {f : FuncId} {fn : Func} {c : Code} {lo top : Nat} {r : PV} {U : Upd} (args : List PV) (N : Nat) (hf : P.funcs[f]? = some fn) (hb : fn.body = some c) (hN : fn.ntmps = N) (hle : Nat.ble args.length N = true)
    (hH : (keysH H).all (fun id => (Nat.blt id lo || Nat.ble top id) && (ulook U id).isSome) = true)
    (h : ∀ (E : Env) (a : Act), EnvOk E H U lo top → Sat E N (initT 0 args) H lo a E.w0 → c.wpIn (FW none) n P (bodyPostM (FW none) n P fn (ConPost E H r U)) (Act.with_ a []) E.w0) : Con P f args H lo top r U := by
  intro w σ Z vs hh hv hfr
  have hkey : ∀ id o, hlook H id = some o → (id < lo ∨ top ≤ id) ∧ ulook U id ≠ none := fun id o ho => by
    have h1 := List.all_eq_true.1 hH id (hlook_key ho)
    simp only [Bool.and_eq_true, Bool.or_eq_true, Nat.blt_eq] at h1
    refine ⟨?_, fun e => by rw [e] at h1; simp at h1⟩
    rcases h1.1 with q | q
    · exact .inl q
    · exact .inr (Nat.le_of_ble_eq_true q)
  have hnone : ∀ id, lo ≤ id → id < top → hlook H id = none := fun id h1 h2 => by
    cases ho : hlook H id with
    | none => rfl
    | some o => rcases (hkey id o ho).1 with q | q <;> omega
  let E : Env := { w0 := w, Wr := WrOf σ H U, Z0 := Z, σ0 := σ, lo, top }
  have := h E { tmps := vs.toArray ++ Array.replicate (fn.ntmps - vs.toArray.size) undef, defers := [] } ⟨rfl, rfl, rfl, hnone, hfr⟩
    ⟨σ, Z, ⟨rfl, ?_, fun t e he => ?_⟩, hh, fun id h1 h2 => ⟨hfr id h1 h2, hnone id h1 h2⟩, Nat.le_refl _, Ext.refl σ, fun id h0 _ => h0, fun id o b c h1 h2 => .inr ⟨id, o, c, (hkey id o h1).2, h1, h2⟩, Chg.refl _ _, fun b hb => .inl hb, fun b hb => hb⟩
  · exact (callsIn_wide (n := n)).1 (callsIn_of_wp_marks (F := FW none) hf hb trivial this)
  · have := Nat.le_of_ble_eq_true hle
    have hl := hv.1
    simp [hN]; omega
  · obtain ⟨h1, _, h3⟩ := look_initT args 0 t e he
    simp only [Nat.sub_zero] at h3
    obtain ⟨u, hu, hvu⟩ := hv.get h3
    have hl := (List.getElem?_eq_some_iff.1 hu).1
    refine ⟨fun _ => ⟨u, ?_, hvu⟩, fun q => by rw [h1] at q; cases q⟩
    rw [Array.getElem?_append_left (by simpa using hl)]
    simpa using hu
/-- a loop whose rounds leave deferred calls behind -/
theorem loop_wd {ro : Option Nat} {n : Nat} {Q : Exit → Act → World → Prop} {c : Code} {Ds : List Nat} (I : Nat → List Nat → Act → World → Prop) (n₀ : Nat) (h₀ : I n₀ Ds a w)
    (round : ∀ m Ds a w, I m Ds a w → c.wpIn (FW ro) n P (Exit.then (fun a' w' => ∃ n', n' < m ∧ ∃ Ds' a0, a' = Act.with_ a0 (colls Ds') ∧ I n' Ds' a0 w') Q) (Act.with_ a (colls Ds)) w) : (Code.loop c).wpIn (FW ro) n P Q (Act.with_ a (colls Ds)) w :=
  wpIn_loop_ghost (fun m a w => ∃ Ds a0, a = Act.with_ a0 (colls Ds) ∧ I m Ds a0 w) n₀ ⟨Ds, a, rfl, h₀⟩ fun m a w ⟨Ds, a0, e, h⟩ => e ▸ round m Ds a0 w h

/-- what the rounds of a range keep: a fact X beside what isn't named, and the rows that are new since the range began -/
def KpX (Wr : Nat → Prop) (X : World → Prop) (w : World) (A B : World) : Prop := ((Chg Wr w A ∧ X A) → (Chg Wr w B ∧ X B)) ∧ (A.heap.size ≤ B.heap.size ∧ ∀ b C e s, w.heap.size ≤ b → A.heap[b]? = some (.cells C e s) → B.heap[b]? = some (.cells C e s))
theorem KpX.refl {Wr : Nat → Prop} {X : World → Prop} {w A : World} : KpX Wr X w A A := ⟨fun q => q, Nat.le_refl _, fun _ _ _ _ _ q => q⟩
/-- range_pxr, where the rounds keep a further fact X of the memory -/
theorem range_pxq {α : Type} {n : Nat} {ds : List Deferred} (hr : Rel E N [] R H nx σ Z a w) {g : Operand} {ps : Array Tmp} {assign body : Code} {Q : Exit → Act → World → Prop} (h1 : 1 ≤ n)
    {gf : Nat} {lb : Array Value} (hg : a.eval g = .func (.func gf) #[] lb) (eg : ∀ args w, (callFunc gf args).run P w = .ok (.enter gf args) w)
    {encs : α → Array Value} (hps : ∀ x, (encs x).size = ps.size) {S Sp : List α → Prop} {M : Nat} (X : World → Prop) (hXp : ∀ (W : World) (l : Nat) (o o' : Obj), w.heap.size ≤ l → W.heap[l]? = some o → o.isCells = false → X W → X (W.putObj l o'))
    (hseq : SeqStopsK (FW none) (n - 1) P gf lb encs (KpX (E.nest H nx σ Z w).Wr X w) S Sp M w)
    (Pn : List α → Prop) (hp0 : Pn []) (Hh : List α → Heap) (h00 : Hh [] = H) (hmh : ∀ pre, mapsOld (E.nest H nx σ Z w) (Hh pre)) (hkey : ∀ pre id o, hlook (Hh pre) id = some o → ∃ o0, hlook H id = some o0)
    (hXs : ∀ pre W σ' Z', Pn pre → Rel (E.nest H nx σ Z w) N [] R (Hh pre) nx σ' Z' a W → X W)
    (asg : α → Act) (hasg : ∀ (l : Nat) (x : α) (W : World) (K : Act → World → Prop), K (asg x) W → assign.wpIn (FW (some l)) (n - 1 - 1) P (Exit.then K (fun _ _ _ => False)) { tmps := (ps.zip (encs x)).foldl (fun t (p, v) => t.setIfInBounds p v) a.tmps, defers := [] } W)
    (R1 : α → List Ent) (hR1 : ∀ pre x σ' Z' W, Rel (E.nest H nx σ Z w) N [] R (Hh pre) nx σ' Z' a W → RS σ' Z' W N [] (R1 x) (asg x))
    (hbody : ∀ (l : Nat) (pre : List α) (x : α) (E3 : Env) (W : World), pre.length < M → Pn pre → E3.w0 = W → E3.top = E.top → EnvOk E3 (Hh pre) (allU (Hh pre)) nx E.top → Sat E3 N (R1 x) (Hh pre) nx (asg x) W → body.wpIn (FW (some l)) (n - 1 - 1) P (rngPost E3 N nx (Hh (pre ++ [x])) (Hh (pre ++ [x])) (Pn (pre ++ [x])) False) (asg x) W)
    (hdone : ∀ (D : Nat) (xs : List α) (W : World), w.heap.size ≤ D → S xs → Pn xs → Sat (E.nest H nx σ Z w) N R (Hh xs) nx a W → W.heap[D]? = some (.deferred (some [])) → Q .normal (Act.with_ a ({ target := .collected D, args := #[] } :: ds)) W) :
    (Code.rangeFunc g ps assign body).wpIn (FW none) n P Q (Act.with_ a ds) w := by
  have hn := hr.nest
  refine wpIn_rangeFunc_ownH (F := FW none) rfl h1 (gf := gf) (lb := lb) (by rw [with_eval]; exact hg) trivial eg hseq (fun h k => ⟨fun q => k.1 (h.1 q), Nat.le_trans h.2.1 k.2.1, fun b C e s hb q => k.2.2 b C e s hb (h.2.2 b C e s hb q)⟩)
    (fun W l o o' hl ho hc _ => ⟨fun ⟨q, qx⟩ => ⟨⟨q.os, q.tape, q.output, by simpa using q.size, fun b hb hnb => by rw [World.putObj_heap_other (by omega)]; exact q.block b hb hnb⟩, hXp W l o o' hl ho hc qx⟩, by simp, fun b C e s _ q => by
      rw [World.putObj_heap_other (fun e' => by subst e'; rw [ho] at q; injection q with q; subst q; cases hc)]; exact q⟩) (Below.refl _ _) hps
    (fun pre W => Pn pre ∧ Sat (E.nest H nx σ Z w) N R (Hh pre) nx a W) (fun c pre W => c = .ret ∧ False ∧ Sat (E.nest H nx σ Z w) N R (Hh pre) nx a W)
    (fun s W W' row hs hg' hr' => ⟨hs.1, hs.2.turn hg' hr' (hmh s)⟩) (fun c s W W' row hs hg' hr' => ⟨hs.1, hs.2.1, hs.2.2.turn hg' hr' (hmh s)⟩)
    (by rw [h00]; exact ⟨hp0, σ, Z, hn⟩) (fun x a' _ => a' = asg x) (fun x a' _ W W' row h _ _ => h)
    (fun l pre x W K hI hK => hasg l x W K (hK _ _ (KeepsFrom.refl _ _) KpX.refl hI rfl)) ?_ (fun D xs W hD hs hI hd => hdone D xs W hD hs hI.1 hI.2 hd) (fun D c pre W hD hs hI hd => hI.2.1.elim)
  rintro l pre x a' W hl _ ⟨hpn, σ1, Z1, hr1⟩ rfl hlen
  have hr2 : Rel (E.nest H nx σ Z w) N [] (R1 x) (Hh pre) nx σ1 Z1 (asg x) W := ⟨hR1 pre x _ _ _ hr1, hr1.hr, hr1.fr, hr1.lo, hr1.ext, hr1.dom, hr1.own, hr1.chg, hr1.zold, hr1.z0⟩
  refine wpIn_mono (hbody l pre x ((E.nest H nx σ Z w).nest (Hh pre) nx σ1 Z1 W) W hlen hpn rfl rfl ⟨rfl, rfl, rfl, fun id q1 q2 => (hr1.fr id q1 q2).2, fun id q1 q2 => (hr1.fr id q1 q2).1⟩ ⟨σ1, Z1, hr2.nest⟩) ?_
  intro e a'' W' hq
  cases e with
  | normal =>
    obtain ⟨hp, σ3, Z3, h3⟩ := hq
    have h4 := hr2.unnest h3
    have h5 := hr.back h4
    refine ⟨nest_keeps hr2 h3 (hmh pre) (Nat.le_refl _), ⟨fun _ => ⟨h4.chg, hXs _ _ _ _ hp h5⟩, h3.chg.size, fun b C e s hb q => ?_⟩, hp, σ3, Z3, h5⟩
    rw [h3.chg.block b (Array.getElem?_eq_some_iff.1 q).1 fun q2 => ?_]
    · exact q
    · obtain ⟨i, o', c', r1, r2⟩ := nest_wr q2
      obtain ⟨o0, r3⟩ := hkey pre i o' r1
      cases hs : σ i with
      | none =>
        have : σ1 i = none := hr1.dom i hs fun ⟨k1, k2⟩ => by rw [(hr.fr i k1 k2).2] at r3; cases r3
        rw [r2] at this; cases this
      | some y =>
        have := hr1.ext i y hs
        rw [r2] at this; injection this with this; subst this
        have := (hr.hr.at_ i o0 r3).lt hs
        omega
  | ret => exact hq.1.elim
  | exit _ => exact hq.elim
  | goto _ => exact hq.elim
  | panic _ => exact hq.elim
  | outgrown => exact hq.elim
end
end Go.PX
namespace Go.PX
open Go.RowKit Go.SX
section
variable {P : Program} {E : Env} {N : Nat} {R : List Ent} {H : Heap} {nx : Nat} {a : Act} {w : World}
/-- a contract: some u that is good tells what the call changes -/
def ConX {α : Type} (P : Program) (f : FuncId) (args : List PV) (H : Heap) (nx nx' : Nat) (r : PV) (UU : α → Upd) (good : α → Prop) : Prop :=
  ∀ (w : World) (σ : Nm) (Z : Nat → Prop) (vs : List Value), HR σ Z w H → VRs σ Z w vs args → (∀ id, nx ≤ id → id < nx' → σ id = none) →
    Calls P f vs.toArray w (fun e w' => ∃ u, good u ∧ ∃ v σ' Z', e = .returned v ∧ VR σ' Z' w' v r ∧ Eff σ Z w H (UU u) σ' Z' w')
def ConPostX {α : Type} (E : Env) (H : Heap) (r : PV) (UU : α → Upd) (good : α → Prop) : Ending → World → Prop := fun e w' => ∃ u, good u ∧ ConPost E H r (UU u) e w'
theorem ulook_keys : ∀ {U U' : Upd}, U.map (·.1) = U'.map (·.1) → ∀ id, ulook U id ≠ none → ulook U' id ≠ none
  | [], [], _, id, h => h
  | [], y :: U', e, id, h => by cases e
  | x :: U, [], e, id, h => by cases e
  | x :: U, y :: U', e, id, h => by
    simp only [List.map_cons, List.cons.injEq] at e
    obtain ⟨x1, x2⟩ := x
    obtain ⟨y1, y2⟩ := y
    obtain ⟨e1, e2⟩ := e
    simp only at e1; subst e1
    simp only [ulook] at h ⊢
    cases hb : Nat.beq x1 id with
    | true => simp
    | false => rw [hb] at h; exact ulook_keys e2 id h
theorem EnvOk.keys {U U' : Upd} {lo top : Nat} (h : EnvOk E H U lo top) (e : U.map (·.1) = U'.map (·.1)) : EnvOk E H U' lo top :=
  ⟨h.elo, h.etop, by
    rw [h.wr]; funext b
    refine propext ⟨fun ⟨id, o, c, q1, q2, q3⟩ => ⟨id, o, c, ulook_keys e id q1, q2, q3⟩, fun ⟨id, o, c, q1, q2, q3⟩ => ⟨id, o, c, ulook_keys e.symm id q1, q2, q3⟩⟩, h.hfr, h.es0⟩
theorem con_intro_wX {α : Type} {n : Nat} {f : FuncId} {fn : Func} {c : Code} {lo top : Nat} {r : PV} {UU : α → Upd} {good : α → Prop} (U : Upd) (args : List PV) (N : Nat) (hf : P.funcs[f]? = some fn) (hb : fn.body = some c) (hN : fn.ntmps = N) (hle : Nat.ble args.length N = true)
    (hH : (keysH H).all (fun id => (Nat.blt id lo || Nat.ble top id) && (ulook U id).isSome) = true)
    (h : ∀ (E : Env) (a : Act), EnvOk E H U lo top → Sat E N (initT 0 args) H lo a E.w0 → c.wpIn (FW none) n P (bodyPostM (FW none) n P fn (ConPostX E H r UU good)) (Act.with_ a []) E.w0) : ConX P f args H lo top r UU good := by
  intro w σ Z vs hh hv hfr
  have hkey : ∀ id o, hlook H id = some o → (id < lo ∨ top ≤ id) ∧ ulook U id ≠ none := fun id o ho => by
    have h1 := List.all_eq_true.1 hH id (hlook_key ho)
    simp only [Bool.and_eq_true, Bool.or_eq_true, Nat.blt_eq] at h1
    refine ⟨?_, fun e => by rw [e] at h1; simp at h1⟩
    rcases h1.1 with q | q
    · exact .inl q
    · exact .inr (Nat.le_of_ble_eq_true q)
  have hnone : ∀ id, lo ≤ id → id < top → hlook H id = none := fun id h1 h2 => by
    cases ho : hlook H id with
    | none => rfl
    | some o => rcases (hkey id o ho).1 with q | q <;> omega
  let E : Env := { w0 := w, Wr := WrOf σ H U, Z0 := Z, σ0 := σ, lo, top }
  have := h E { tmps := vs.toArray ++ Array.replicate (fn.ntmps - vs.toArray.size) undef, defers := [] } ⟨rfl, rfl, rfl, hnone, hfr⟩
    ⟨σ, Z, ⟨rfl, ?_, fun t e he => ?_⟩, hh, fun id h1 h2 => ⟨hfr id h1 h2, hnone id h1 h2⟩, Nat.le_refl _, Ext.refl σ, fun id h0 _ => h0, fun id o b c h1 h2 => .inr ⟨id, o, c, (hkey id o h1).2, h1, h2⟩, Chg.refl _ _, fun b hb => .inl hb, fun b hb => hb⟩
  · have h2 := (callsIn_wide (n := n)).1 (callsIn_of_wp_marks (F := FW none) hf hb trivial this)
    exact h2
  · have := Nat.le_of_ble_eq_true hle
    have hl := hv.1
    simp [hN]; omega
  · obtain ⟨h1, _, h3⟩ := look_initT args 0 t e he
    simp only [Nat.sub_zero] at h3
    obtain ⟨u, hu, hvu⟩ := hv.get h3
    have hl := (List.getElem?_eq_some_iff.1 hu).1
    refine ⟨fun _ => ⟨u, ?_, hvu⟩, fun q => by rw [h1] at q; cases q⟩
    rw [Array.getElem?_append_left (by simpa using hl)]
    simpa using hu
theorem ret_wX {α : Type} {fn : Func} {n : Nat} {lo top : Nat} {H0 : Heap} {r : PV} {U : Upd} {UU : α → Upd} {good : α → Prop} (u : α) (hg : good u) (hk : U.map (·.1) = (UU u).map (·.1)) : ∀ (Ds : List Nat) {w : World}, Sat E N R H nx a w → EnvOk E H0 U lo top → Ds.Nodup → (∀ D ∈ Ds, E.w0.heap.size ≤ D ∧ w.heap[D]? = some (.deferred (some []))) → noMp H = true →
    retP P R H fn.results.toList = some r → (okU H (UU u)).map (·.1) = (okU H (UU u)).map (·.2) → (idsIn (keysH H0 ++ keysU (UU u)) r && idsU (keysH H0 ++ keysU (UU u)) (UU u)) = true → LeavesInM (FW none) n P fn a.tmps (ConPostX E H0 r UU good) (colls Ds) .returning w
  | [], w, hS, hE, _, _, _, hr, hU, hi => by
    obtain ⟨_, v, h1, h2⟩ := ret_s (e := .ret) hS (hE.keys hk) hr hU hi (.inl rfl)
    exact ⟨v, h1, u, hg, h2⟩
  | D :: Ds, w, hS, hE, hn, hD, hm, hr, hU, hi => by
    obtain ⟨d1, d2⟩ := hD D List.mem_cons_self
    obtain ⟨n1, n2⟩ := List.nodup_cons.1 hn
    refine ⟨by simp, .inl ⟨D, _, rfl, run_takeDeferred d2, ret_wX u hg hk Ds (hS.turn (grownBy_putObj' w D (.deferred none)) (fun r e => by cases e; exact ⟨d1, _, d2, rfl⟩) (noMp_old hm)) hE n2 (fun D' h' => ?_) hm hr hU hi⟩⟩
    obtain ⟨q1, q2⟩ := hD D' (List.mem_cons_of_mem _ h')
    exact ⟨q1, by rw [World.putObj_heap_other (by rintro rfl; exact n1 h')]; exact q2⟩
end
end Go.PX
namespace Go.PX
open Go.RowKit Go.SX
section
variable {P : Program} {E : Env} {N : Nat} {κ : List (Nat × Bool)} {R : List Ent} {H H' : Heap} {nx nx' : Nat} {σ σ' : Nm} {Z Z' : Nat → Prop} {a a' : Act} {w w' : World} {e : TypeId} {ls : List (Nat × List PV)}
/-- the state told with other names, the names at hand -/
theorem canonN {H0 : Heap} {U : Upd} {lo top : Nat} (ρ : List (Nat × Nat)) (R' : List Ent) (H' : Heap) (nx' : Nat) (hr : Rel E N [] R H nx σ Z a w) (hE : EnvOk E H0 U lo top) (hR : renR ρ R' = R) (hH : (okH ρ H H').map (·.1) = (okH ρ H H').map (·.2)) (hc : canonB ρ lo top nx' R' H' = true) :
    ∃ σ', Rel E N [] R' H' nx' σ' Z a w ∧ ∀ id ∈ keysH H', σ' id = σ (rn ρ id) := by
  classical
  unfold canonB at hc
  simp only [Bool.and_eq_true] at hc
  obtain ⟨⟨⟨⟨c1, c2⟩, c3⟩, c4⟩, c5⟩ := hc
  have c4 := Nat.le_of_ble_eq_true c4
  have hat : ∀ {id : Nat} {o : PO}, hlook H' id = some o → hlook H (rn ρ id) = some (renO ρ o) := okH_spec (allEq_of_map hH)
  have hk5 : ∀ id ∈ keysH H', (lo ≤ id ∧ id < top ∧ id < nx') ∨ (¬ (lo ≤ id ∧ id < top) ∧ rn ρ id = id) := fun id hid => by
    have := List.all_eq_true.1 c5 id hid
    cases hb : (Nat.ble lo id && Nat.blt id top) with
    | true =>
      rw [hb] at this
      simp only [Bool.and_eq_true, Nat.blt_eq, cond_true] at hb this
      exact .inl ⟨Nat.le_of_ble_eq_true hb.1, hb.2, this⟩
    | false =>
      rw [hb] at this
      simp only [cond_false, Nat.beq_eq] at this
      refine .inr ⟨fun ⟨q1, q2⟩ => ?_, this⟩
      have e1 : Nat.ble lo id = true := by rw [Nat.ble_eq]; exact q1
      have e2 : Nat.blt id top = true := by simpa using q2
      rw [e1, e2] at hb; cases hb
  let σ' : Nm := fun id => if lo ≤ id ∧ id < top then (if id ∈ keysH H' then σ (rn ρ id) else none) else σ id
  have hS : ∀ id ∈ keysH H', σ' id = σ (rn ρ id) := fun id hid => by
    show (if _ then _ else _) = _
    rcases hk5 id hid with ⟨q1, q2, _⟩ | ⟨q1, q2⟩
    · rw [if_pos ⟨q1, q2⟩, if_pos hid]
    · rw [if_neg q1, q2]
  have hS' : ∀ id, (keysH H').any (Nat.beq id) = true → σ' id = σ (rn ρ id) := fun id h => hS id (mem_any h)
  refine ⟨σ', ⟨⟨hr.rs.defers, hr.rs.size, fun t e he => ?_⟩, ⟨fun id o ho => ?_, fun id id' o o' b c c' h1 h2 h3 h4 => ?_, fun id o b c h1 h2 => ?_, hr.hr.zlt⟩, fun id h1 h2 => ?_, by rw [hE.elo]; exact c4, fun id x hx => ?_, fun id h0 hn => ?_, fun id o b c h1 h2 => ?_, hr.chg, hr.zold, hr.z0⟩, hS⟩
  · have hl := look_renR (ρ := ρ) he
    rw [hR] at hl
    have := hr.rs.at_ t _ hl
    refine ⟨fun hp => ?_, this.2⟩
    obtain ⟨v, q1, q2⟩ := this.1 hp
    exact ⟨v, q1, q2.ren hS' e.v rfl (idsR_spec c1 he)⟩
  · exact OR.ren hS' (hS id (hlook_key ho)) (hr.hr.at_ _ _ (hat ho)) (idsH_spec c2 ho)
  · have k1 := hlook_key h1
    have k2 := hlook_key h2
    rw [hS id k1] at h3
    rw [hS id' k2] at h4
    exact apart_inj c3 id k1 id' k2 (hr.hr.inj _ _ _ _ b c c' (hat h1) (hat h2) h3 h4)
  · rw [hS id (hlook_key h1)] at h2
    exact hr.hr.off _ _ b c (hat h1) h2
  · rw [hE.etop] at h2
    have hnk : id ∉ keysH H' := fun hid => by
      rcases hk5 id hid with ⟨_, _, q⟩ | ⟨q, _⟩
      · omega
      · exact q ⟨Nat.le_trans c4 h1, h2⟩
    refine ⟨?_, ?_⟩
    · show (if _ then _ else _) = _
      rw [if_pos ⟨Nat.le_trans c4 h1, h2⟩, if_neg hnk]
    · cases ho : hlook H' id with
      | none => rfl
      | some o => exact absurd (hlook_key ho) hnk
  · show (if _ then _ else _) = _
    rw [if_neg (fun q => by rw [hE.es0 id q.1 q.2] at hx; cases hx)]
    exact hr.ext id x hx
  · show (if _ then _ else _) = _
    rw [hE.elo, hE.etop] at hn
    rw [if_neg hn]
    exact hr.dom id h0 (by rw [hE.elo, hE.etop]; exact hn)
  · rw [hS id (hlook_key h1)] at h2
    exact hr.own _ _ b c (hat h1) h2
theorem wpl_callN {ops : Array Oper} {Q : Exit → Act → World → Prop} {rest : List Oper} {o : Oper} {g : FuncId} {args : Array Operand} {ty : Array TypeId} (vs : List Value) (ho : o.op = .call { callee := .value (.func g), args, argTypes := ty }) (hgd : o.guard = none) (hg : callB P g = true) (hvs : args.toList.map a.eval = vs) {Post : Ending → World → Prop} (hc : Calls P g vs.toArray w Post)
    (hk : ∀ e w', Post e w' → ∃ v, e = .returned v ∧ wpList P ops Q rest (a.put o.dst v) w') : wpList P ops Q (o :: rest) a w := by
  subst hvs
  refine wpList_plain hgd fun K hK => ?_
  unfold Oper.wp
  have hrun : (execOp a.eval o).run P w = .ok (.enter g (args.toList.map a.eval).toArray) w := by
    have : args.map a.eval = (args.toList.map a.eval).toArray := by apply Array.ext'; simp
    rw [← this]
    simp [execOp, ho, resolve, Act.eval, Deferred.ofValue, invoke, run_callFunc hg]
  rw [hrun]
  simp only [Oper.upon]
  refine hc.mono fun e w' h => ?_
  obtain ⟨v, rfl, h2⟩ := hk e w' h
  exact hK _ _ h2
theorem rel_putN {o : Oper} {t : Nat} {x : PV} {u : Value} (h : Rel E N [] R H nx σ Z a w) (ho : o.dst = some t) (ht : Nat.blt t N = true) (hv : VR σ Z w u x) : Rel E N [] (⟨t, [], x⟩ :: R) H nx σ Z (a.put o.dst u) w :=
  ⟨h.rs.put (o := o) (p := []) (x := some x) (by unfold dstOk; rw [ho]; exact ht) (by unfold setR; rw [ho]) (fun _ y e => by injection e with e; subst e; exact hv) (fun q => by cases q), h.hr, h.fr, h.lo, h.ext, h.dom, h.own, h.chg, h.zold, h.z0⟩

/-- boxes without names: their block and their cells -/
structure LS (E : Env) (H : Heap) (σ : Nm) (Z : Nat → Prop) (w : World) (e : TypeId) (ls : List (Nat × List PV)) : Prop where
  box : ∀ x ∈ ls, OR (fun _ => some (x.1, 0)) Z w 0 (.box e x.2)
  pu : ∀ x ∈ ls, ∀ y ∈ x.2, idsIn [] y = true
  old : ∀ x ∈ ls, E.w0.heap.size ≤ x.1 ∨ E.Wr x.1
  off : ∀ x ∈ ls, ¬ Z x.1
  sep : ∀ x ∈ ls, ∀ id o c, hlook H id = some o → σ id ≠ some (x.1, c)
  nd : (ls.map (·.1)).Nodup
theorem LS.lt (h : LS E H σ Z w e ls) {x : Nat × List PV} (hx : x ∈ ls) : x.1 < w.heap.size := (h.box x hx).lt rfl
theorem LS.step {N' : Nat} {κ' : List (Nat × Bool)} {R' : List Ent} (h : LS E H σ Z w e ls) (hoff : ∀ id o b c, hlook H id = some o → σ id = some (b, c) → ¬ Z b) (k : Rel (E.nest H nx σ Z w) N' κ' R' H' nx' σ' Z' a' w') : LS E H' σ' Z' w' e ls := by
  have hn : ∀ x ∈ ls, ¬ (E.nest H nx σ Z w).Wr x.1 := fun x hx q => by
    obtain ⟨i, o', c', q1, q2⟩ := nest_wr q
    exact h.sep x hx i o' c' q1 q2
  refine ⟨fun x hx => ?_, h.pu, h.old, fun x hx hz => ?_, fun x hx id o c h1 h2 => ?_, h.nd⟩
  · refine OR.mono (Ext.refl _) k.z0 k.chg (fun b hz q => ?_) rfl (fun b c q => ?_) (h.box x hx)
    · obtain ⟨i, o', c', q1, q2⟩ := nest_wr q
      exact hoff i o' b c' q1 q2 hz
    · injection q with q; injection q with q _; subst q; exact hn x hx
  · rcases k.zold _ hz with q | q | q
    · exact h.off x hx q
    · have := h.lt hx; change w.heap.size ≤ x.1 at q; omega
    · exact hn x hx q
  · rcases k.own id o x.1 c h1 h2 with q | q
    · have := h.lt hx; change w.heap.size ≤ x.1 at q; omega
    · exact hn x hx q
/-- a state, and boxes beside its table -/
def SatL (E : Env) (N : Nat) (R : List Ent) (H : Heap) (nx : Nat) (a : Act) (w : World) (e : TypeId) (ls : List (Nat × List PV)) : Prop := ∃ σ Z, Rel E N [] R H nx σ Z a w ∧ LS E H σ Z w e ls
theorem SatL.nil (h : Sat E N R H nx a w) : SatL E N R H nx a w e [] := by
  obtain ⟨σ, Z, hr⟩ := h
  exact ⟨σ, Z, hr, nofun, nofun, nofun, nofun, nofun, List.nodup_nil⟩
theorem SatL.sat (h : SatL E N R H nx a w e ls) : Sat E N R H nx a w := by
  obtain ⟨σ, Z, hr, _⟩ := h
  exact ⟨σ, Z, hr⟩
theorem SatL.nest (h : SatL E N R H nx a w e ls) (ht : E.top = 100000) : ∃ E3 : Env, EnvOk E3 H (allU H) nx 100000 ∧ Sat E3 N R H nx a w ∧ ∀ N' R' H' nx' a' w', Sat E3 N' R' H' nx' a' w' → SatL E N' R' H' nx' a' w' e ls := by
  obtain ⟨σ, Z, hr, hl⟩ := h
  exact ⟨E.nest H nx σ Z w, hr.nestOk ht, ⟨σ, Z, hr.nest⟩, fun N' R' H' nx' a' w' ⟨σ', Z', k⟩ => ⟨σ', Z', hr.unnest k, hl.step hr.hr.off k⟩⟩
theorem SatL.sl (h : SatL E N R H nx a w e ls) (ts : List Nat) {T : List Ent} (hk : keepR R ts = some T) : SatL E N T H nx a w e ls := by
  obtain ⟨σ, Z, hr, hl⟩ := h
  exact ⟨σ, Z, hr.rs' (hr.rs.keep hk), hl⟩
theorem SatL.canon {H0 : Heap} {U : Upd} {lo top : Nat} (ρ : List (Nat × Nat)) (R' : List Ent) (H' : Heap) (nx' : Nat) (h : SatL E N R H nx a w e ls) (hE : EnvOk E H0 U lo top) (hR : renR ρ R' = R) (hH : (okH ρ H H').map (·.1) = (okH ρ H H').map (·.2)) (hc : canonB ρ lo top nx' R' H' = true) : SatL E N R' H' nx' a w e ls := by
  obtain ⟨σ, Z, hr, hl⟩ := h
  obtain ⟨σ', h1, h2⟩ := canonN ρ R' H' nx' hr hE hR hH hc
  have hat : ∀ {id : Nat} {o : PO}, hlook H' id = some o → hlook H (rn ρ id) = some (renO ρ o) := okH_spec (allEq_of_map hH)
  exact ⟨σ', Z, h1, hl.box, hl.pu, hl.old, hl.off, fun x hx id o c q1 q2 => by
    rw [h2 id (hlook_key q1)] at q2
    exact hl.sep x hx _ _ c (hat q1) q2, hl.nd⟩
theorem vrs_pure {xs : List PV} {l : List Value} (hp : ∀ y ∈ xs, idsIn [] y = true) (h : VRs σ Z w l xs) : VRs σ' Z w l xs :=
  ⟨h.1, fun i u x hu hx => (h.2 i u x hu hx).restrict (S := []) (fun _ q => by simp at q) (hp x (List.mem_of_getElem? hx))⟩
/-- the first box gets a name -/
theorem SatL.opn {x : Nat × List PV} (h : SatL E N R H nx a w e (x :: ls)) (ht : nx + 2 ≤ E.top) : SatL E N R ((nx, .box e x.2) :: (nx + 1, .ty (.pointer (some ⟨x.1, 0, none⟩)) (.ptr nx 0)) :: H) (nx + 2) a w e ls := by
  obtain ⟨σ, Z, hr, hl⟩ := h
  have f0 := hr.fr nx (Nat.le_refl _) (by omega)
  have f1 := hr.fr (nx + 1) (by omega) (by omega)
  have hx := List.mem_cons_self (a := x) (l := ls)
  obtain ⟨τ, hτ⟩ : ∃ τ : Nm, τ = upd σ nx x.1 0 := ⟨_, rfl⟩
  have t0 : τ nx = some (x.1, 0) := by rw [hτ]; exact upd_self ..
  have t1 : ∀ id, id ≠ nx → τ id = σ id := fun id q => by rw [hτ]; simp [upd, q]
  have hext : Ext σ τ := hτ ▸ upd_ext f0.1
  have lk : ∀ {id : Nat} {o : PO}, hlook ((nx, .box e x.2) :: (nx + 1, .ty (.pointer (some ⟨x.1, 0, none⟩)) (.ptr nx 0)) :: H) id = some o → (id = nx ∧ o = .box e x.2) ∨ (id = nx + 1 ∧ o = .ty (.pointer (some ⟨x.1, 0, none⟩)) (.ptr nx 0)) ∨ (id ≠ nx ∧ id ≠ nx + 1 ∧ hlook H id = some o) := fun {id o} q => by
    simp only [hlook] at q
    cases hb : Nat.beq nx id with
    | true => rw [hb] at q; simp only [cond_true, Option.some.injEq] at q; exact .inl ⟨(Nat.eq_of_beq_eq_true hb).symm, q.symm⟩
    | false =>
      rw [hb] at q
      simp only [cond_false] at q
      cases hb2 : Nat.beq (nx + 1) id with
      | true => rw [hb2] at q; simp only [cond_true, Option.some.injEq] at q; exact .inr (.inl ⟨(Nat.eq_of_beq_eq_true hb2).symm, q.symm⟩)
      | false => rw [hb2] at q; exact .inr (.inr ⟨(by rintro rfl; rw [f0.2] at q; cases q), (by rintro rfl; rw [f1.2] at q; cases q), q⟩)
  refine ⟨τ, Z, ⟨hr.rs.mono hext (fun _ q => q) (Chg.refl (fun _ => False) w) (fun _ _ q => q), ⟨fun id o q => ?_, fun id id' o o' b c c' q1 q2 q3 q4 => ?_, fun id o b c q1 q2 => ?_, hr.hr.zlt⟩, fun id q1 q2 => ⟨(t1 id (by omega)).trans (hr.fr id (by omega) q2).1, ?_⟩, Nat.le_trans hr.lo (by omega), hr.ext.trans hext, fun id q1 q2 => (t1 id (by rintro rfl; exact q2 ⟨hr.lo, by omega⟩)).trans (hr.dom id q1 q2), fun id o b c q1 q2 => ?_, hr.chg, hr.zold, hr.z0⟩, fun y hy => hl.box y (List.mem_cons_of_mem _ hy), fun y hy => hl.pu y (List.mem_cons_of_mem _ hy), fun y hy => hl.old y (List.mem_cons_of_mem _ hy), fun y hy => hl.off y (List.mem_cons_of_mem _ hy), fun y hy id o c q1 q2 => ?_, (List.nodup_cons.1 hl.nd).2⟩
  · rcases lk q with ⟨rfl, rfl⟩ | ⟨rfl, rfl⟩ | ⟨h1, h2, h3⟩
    · obtain ⟨b, c, C, q1, q2, q3, q4⟩ := hl.box x hx
      injection q1 with q1; injection q1 with q1 q5; subst q1; subst q5
      exact ⟨_, _, C, t0, q2, q3, vrs_pure (hl.pu x hx) q4⟩
    · exact ⟨(t1 _ (by omega)).trans f1.1, rfl, .ptr _ _ _ _ t0⟩
    · exact (hr.hr.at_ id o h3).mono hext (fun _ q => q) (Chg.refl (fun _ => False) w) (fun _ _ q => q) (t1 id h1) (fun _ _ _ q => q)
  · rcases lk q1 with ⟨rfl, rfl⟩ | ⟨rfl, rfl⟩ | ⟨h1, h2, h3⟩
    · rcases lk q2 with ⟨rfl, rfl⟩ | ⟨rfl, rfl⟩ | ⟨h1', h2', h3'⟩
      · rfl
      · rw [t1 _ (by omega), f1.1] at q4; cases q4
      · rw [t0] at q3; injection q3 with q3; injection q3 with q3 _; subst q3
        rw [t1 _ h1'] at q4; exact (hl.sep x hx _ _ _ h3' q4).elim
    · rw [t1 _ (by omega), f1.1] at q3; cases q3
    · rcases lk q2 with ⟨rfl, rfl⟩ | ⟨rfl, rfl⟩ | ⟨h1', h2', h3'⟩
      · rw [t0] at q4; injection q4 with q4; injection q4 with q4 _; subst q4
        rw [t1 _ h1] at q3; exact (hl.sep x hx _ _ _ h3 q3).elim
      · rw [t1 _ (by omega), f1.1] at q4; cases q4
      · rw [t1 _ h1] at q3; rw [t1 _ h1'] at q4; exact hr.hr.inj _ _ _ _ _ _ _ h3 h3' q3 q4
  · rcases lk q1 with ⟨rfl, rfl⟩ | ⟨rfl, rfl⟩ | ⟨h1, h2, h3⟩
    · rw [t0] at q2; injection q2 with q2; injection q2 with q2 _; subst q2; exact hl.off x hx
    · rw [t1 _ (by omega), f1.1] at q2; cases q2
    · rw [t1 _ h1] at q2; exact hr.hr.off _ _ _ _ h3 q2
  · cases q : hlook ((nx, .box e x.2) :: (nx + 1, .ty (.pointer (some ⟨x.1, 0, none⟩)) (.ptr nx 0)) :: H) id with
    | none => rfl
    | some o =>
      rcases lk q with ⟨rfl, _⟩ | ⟨rfl, _⟩ | ⟨_, _, h3⟩
      · omega
      · omega
      · rw [(hr.fr id (by omega) q2).2] at h3; cases h3
  · rcases lk q1 with ⟨rfl, rfl⟩ | ⟨rfl, rfl⟩ | ⟨h1, h2, h3⟩
    · rw [t0] at q2; injection q2 with q2; injection q2 with q2 _; subst q2; exact hl.old x hx
    · rw [t1 _ (by omega), f1.1] at q2; cases q2
    · rw [t1 _ h1] at q2; exact hr.own _ _ _ _ h3 q2
  · rcases lk q1 with ⟨rfl, rfl⟩ | ⟨rfl, rfl⟩ | ⟨h1, h2, h3⟩
    · rw [t0] at q2; injection q2 with q2; injection q2 with q2 _
      exact (List.nodup_cons.1 hl.nd).1 (by show x.1 ∈ _; rw [q2]; exact List.mem_map_of_mem hy)
    · rw [t1 _ (by omega), f1.1] at q2; cases q2
    · rw [t1 _ h1] at q2; exact hl.sep y (List.mem_cons_of_mem _ hy) _ _ _ h3 q2
/-- a box loses its name -/
theorem SatL.shut {A g : Nat} {xs : List PV} {v : Value} (h : SatL E N R H nx a w e ls) (hA : hlook H A = some (.box e xs)) (hg : hlook H g = some (.ty v (.ptr A 0))) (hp : xs.all (idsIn []) = true) (ids : List Nat) (hAi : ids.all (fun i => !Nat.beq i A) = true) : ∃ b, v = .pointer (some ⟨b, 0, none⟩) ∧ SatL E N R (PX.restr H ids) nx a w e ((b, xs) :: ls) := by
  obtain ⟨σ, Z, hr, hl⟩ := h
  obtain ⟨b, c, C, q1, q2, q3, q4⟩ := hr.hr.at_ A _ hA
  have hv := (hr.hr.at_ g _ hg).2.2
  cases hv with
  | ptr _ _ b' c' hb =>
    rw [q1] at hb; injection hb with hb; injection hb with hb _; subst hb
    have hp' : ∀ y ∈ xs, idsIn [] y = true := fun y hy => List.all_eq_true.1 hp y hy
    refine ⟨b, rfl, σ, Z, hr.restr ids, fun x hx => ?_, fun x hx => ?_, fun x hx => ?_, fun x hx => ?_, fun x hx id o c' r1 r2 => ?_, ?_⟩
    · rcases List.mem_cons.1 hx with rfl | hx
      · exact ⟨b, 0, C, rfl, q2, q3, vrs_pure hp' q4⟩
      · exact hl.box x hx
    · rcases List.mem_cons.1 hx with rfl | hx
      · exact hp'
      · exact hl.pu x hx
    · rcases List.mem_cons.1 hx with rfl | hx
      · exact hr.own A _ b c hA q1
      · exact hl.old x hx
    · rcases List.mem_cons.1 hx with rfl | hx
      · exact hr.hr.off A _ b c hA q1
      · exact hl.off x hx
    · obtain ⟨r3, r4⟩ := hlook_restr r1
      rcases List.mem_cons.1 hx with rfl | hx
      · have := hr.hr.inj A id _ _ b c c' hA r3 q1 r2
        subst this
        have := List.all_eq_true.1 hAi A r4
        simp at this
      · exact hl.sep x hx id o c' r3 r2
    · rw [List.map_cons, List.nodup_cons]
      refine ⟨fun q => ?_, hl.nd⟩
      obtain ⟨x, hx, e⟩ := List.mem_map.1 q
      exact hl.sep x hx A _ c hA (by rw [e]; exact q1)
/-- the pointer in a slot is written as the value that it is; a ghost tells how it reads -/
theorem Sat.ptrN {t A : Nat} (hS : Sat E N R H nx a w) (hl : look R t = some ⟨t, [], .ptr A 0⟩) (htop : nx + 1 ≤ E.top) : ∃ v, Sat E N (⟨t, [], .sc v⟩ :: R) ((nx, .ty v (.ptr A 0)) :: H) (nx + 1) a w := by
  obtain ⟨σ, Z, hr⟩ := hS
  obtain ⟨v, h1, h2⟩ := (hr.rs.at_ t _ hl).1 rfl
  have f0 := hr.fr nx (Nat.le_refl _) (by omega)
  have hv : scOk v = true := by cases h2; rfl
  refine ⟨v, σ, Z, ?_⟩
  have hr1 : Rel E N [] (⟨t, [], .sc v⟩ :: R) H nx σ Z a w := hr.rs' ⟨hr.rs.defers, hr.rs.size, fun t' e' he => by
    simp only [look] at he
    cases hb : Nat.beq t t' with
    | true =>
      rw [hb] at he
      simp only [cond_true, Option.some.injEq] at he; subst he
      obtain rfl := Nat.eq_of_beq_eq_true hb
      exact ⟨fun _ => ⟨v, h1, .sc v hv⟩, fun q => by cases q⟩
    | false => rw [hb] at he; exact hr.rs.at_ t' e' he⟩
  exact hr1.reH (by omega) htop (fun i o q => by
    simp only [hlook] at q
    cases hb : Nat.beq nx i with
    | true => rw [hb] at q; simp only [cond_true, Option.some.injEq] at q; subst q; obtain rfl := (Nat.eq_of_beq_eq_true hb); exact ⟨f0.1, rfl, h2⟩
    | false => rw [hb] at q; exact hr.hr.at_ i o q) (fun i o q => by
    simp only [hlook] at q
    cases hb : Nat.beq nx i with
    | true => obtain rfl := (Nat.eq_of_beq_eq_true hb); exact .inr ⟨by omega, by omega⟩
    | false => rw [hb] at q; exact .inl ⟨o, q⟩)
theorem keys_of : ∀ {U : Upd} {id : Nat}, ulook U id ≠ none → id ∈ U.map (·.1)
  | [], id, h => absurd rfl h
  | x :: U, id, h => by
    simp only [ulook] at h
    cases hb : Nat.beq x.1 id with
    | true => obtain rfl := Nat.eq_of_beq_eq_true hb; simp
    | false => rw [hb] at h; exact List.mem_cons_of_mem _ (keys_of (U := U) h)
/-- behind a call -/
theorem rel_called {ids : List Nat} {U : Upd} {o : Oper} {t : Nat} {r : PV} {v : Value} (hr : Rel E N [] R H nx σ Z a w) (he : Eff σ Z w (PX.restr H ids) U σ' Z' w') (hk : (U.map (·.1)).all (fun id => (ids.any (Nat.beq id) && (hlook H id).isSome) || (Nat.ble nx id && Nat.blt id nx')) = true) (hle : nx ≤ nx') (htop : nx' ≤ E.top) (ho : o.dst = some t) (ht : Nat.blt t N = true) (hv : VR σ' Z' w' v r) :
    Rel E N [] (⟨t, [], r⟩ :: R) (happ U H) nx' σ' Z' (a.put o.dst v) w' := by
  have hk' : ∀ id, ulook U id ≠ none → (id ∈ ids ∧ hlook H id ≠ none) ∨ (nx ≤ id ∧ id < nx') := fun id h => by
    have := List.all_eq_true.1 hk id (keys_of h)
    simp only [Bool.or_eq_true, Bool.and_eq_true, List.any_eq_true, Nat.beq_eq] at this
    rcases this with ⟨⟨i, h1, h2⟩, h3⟩ | ⟨h1, h2⟩
    · exact .inl ⟨h2 ▸ h1, fun q => by rw [q] at h3; cases h3⟩
    · exact .inr ⟨Nat.le_of_ble_eq_true h1, by simpa using h2⟩
  have he' := he.restr fun id h1 h2 => by
    rcases hk' id h1 with q | q
    · exact q.1
    · exact absurd (hr.fr id q.1 (by omega)).2 h2
  have hm := hr.mem.step he' hle htop fun id h1 => (hk' id h1).imp (fun q => q.2) fun q => q
  exact rel_putN ⟨hr.rs.eff hr.hr he', hm.hr, hm.fr, hm.lo, hm.ext, hm.dom, hm.own, hm.chg, hm.zold, hm.z0⟩ ho ht hv
/-- the call of a contract whose answer holds something that is only known to exist -/
theorem wpl_callX {α : Type} {ops : Array Oper} {Q : Exit → Act → World → Prop} {rest : List Oper} {o : Oper} {g : FuncId} {gargs : Array Operand} {ty : Array TypeId} {args : List PV} {r : PV} {UU : α → Upd} {good : α → Prop} {lo tp : Nat} (ids : List Nat) (t : Nat) (vs : List Value) (ho : o.op = .call { callee := .value (.func g), args := gargs, argTypes := ty }) (hgd : o.guard = none) (hdst : o.dst = some t) (ht : Nat.blt t N = true) (hg : callB P g = true) (hvs : gargs.toList.map a.eval = vs)
    (hc : ConX P g args (PX.restr H ids) lo tp r UU good) (nx' : Nat) (hlo : nx ≤ lo) (hle : nx ≤ nx') (htop : nx' ≤ E.top) (htp : tp ≤ E.top) (hr : Rel E N [] R H nx σ Z a w) (hv : VRs σ Z w vs args)
    (hk : ∀ u, ((UU u).map (·.1)).all (fun id => (ids.any (Nat.beq id) && (hlook H id).isSome) || (Nat.ble nx id && Nat.blt id nx')) = true)
    (k : ∀ u a' w' σ' Z', good u → Rel E N [] (⟨t, [], r⟩ :: R) (happ (UU u) H) nx' σ' Z' a' w' → wpList P ops Q rest a' w') : wpList P ops Q (o :: rest) a w := by
  refine wpl_callN vs ho hgd hg hvs (hc w σ Z vs (hr.hr.restr ids) hv fun id h1 h2 => (hr.fr id (by omega) (by omega)).1) ?_
  rintro e w' ⟨u, hu, v, σ', Z', rfl, hv', he⟩
  exact ⟨v, rfl, k u _ _ σ' Z' hu (rel_called hr he (hk u) hle htop hdst ht hv')⟩
/-- a contract whose answer holds something that is only known to exist: its walk -/
theorem con_introX {α : Type} {f : FuncId} {fn : Func} {c : Code} {lo top : Nat} {r : PV} {UU : α → Upd} {good : α → Prop} (U : Upd) (args : List PV) (N : Nat) (hf : P.funcs[f]? = some fn) (hb : fn.body = some c) (hN : fn.ntmps = N) (hle : Nat.ble args.length N = true)
    (hH : (keysH H).all (fun id => (Nat.blt id lo || Nat.ble top id) && (ulook U id).isSome) = true)
    (h : ∀ (E : Env) (a : Act), EnvOk E H U lo top → Sat E N (initT 0 args) H lo a E.w0 → c.wp P (bodyPost P fn (ConPostX E H r UU good)) a E.w0) : ConX P f args H lo top r UU good := by
  intro w σ Z vs hh hv hfr
  have hkey : ∀ id o, hlook H id = some o → (id < lo ∨ top ≤ id) ∧ ulook U id ≠ none := fun id o ho => by
    have h1 := List.all_eq_true.1 hH id (hlook_key ho)
    simp only [Bool.and_eq_true, Bool.or_eq_true, Nat.blt_eq] at h1
    refine ⟨?_, fun e => by rw [e] at h1; simp at h1⟩
    rcases h1.1 with q | q
    · exact .inl q
    · exact .inr (Nat.le_of_ble_eq_true q)
  have hnone : ∀ id, lo ≤ id → id < top → hlook H id = none := fun id h1 h2 => by
    cases ho : hlook H id with
    | none => rfl
    | some o => rcases (hkey id o ho).1 with q | q <;> omega
  let E : Env := { w0 := w, Wr := WrOf σ H U, Z0 := Z, σ0 := σ, lo, top }
  refine calls_of_wp hf hb ?_
  have := h E { tmps := vs.toArray ++ Array.replicate (fn.ntmps - vs.toArray.size) undef, defers := [] } ⟨rfl, rfl, rfl, hnone, hfr⟩
    ⟨σ, Z, ⟨rfl, ?_, fun t e he => ?_⟩, hh, fun id h1 h2 => ⟨hfr id h1 h2, hnone id h1 h2⟩, Nat.le_refl _, Ext.refl σ, fun id h0 _ => h0, fun id o b c h1 h2 => .inr ⟨id, o, c, (hkey id o h1).2, h1, h2⟩, Chg.refl _ _, fun b hb => .inl hb, fun b hb => hb⟩
  · exact this
  · have := Nat.le_of_ble_eq_true hle
    have hl := hv.1
    simp [hN]; omega
  · obtain ⟨h1, _, h3⟩ := look_initT args 0 t e he
    simp only [Nat.sub_zero] at h3
    obtain ⟨u, hu, hvu⟩ := hv.get h3
    have hl := (List.getElem?_eq_some_iff.1 hu).1
    refine ⟨fun _ => ⟨u, ?_, hvu⟩, fun q => by rw [h1] at q; cases q⟩
    rw [Array.getElem?_append_left (by simpa using hl)]
    simpa using hu
theorem ret_sX {α : Type} {fn : Func} {lo top : Nat} {H0 : Heap} {r : PV} {U : Upd} {UU : α → Upd} {good : α → Prop} {x : Exit} (u : α) (hg : good u) (hk : U.map (·.1) = (UU u).map (·.1)) (hS : Sat E N R H nx a w) (hE : EnvOk E H0 U lo top) (hr : retP P R H fn.results.toList = some r) (hU : (okU H (UU u)).map (·.1) = (okU H (UU u)).map (·.2)) (hi : (idsIn (keysH H0 ++ keysU (UU u)) r && idsU (keysH H0 ++ keysU (UU u)) (UU u)) = true) (he : x = .ret ∨ x = .normal) : bodyPost P fn (ConPostX E H0 r UU good) x a w := by
  have h := ret_s (fn := fn) (e := x) hS (hE.keys hk) hr hU hi he
  rcases he with rfl | rfl
  · obtain ⟨h1, v, h2, h3⟩ := h; exact ⟨h1, v, h2, u, hg, h3⟩
  · obtain ⟨h1, v, h2, h3⟩ := h; exact ⟨h1, v, h2, u, hg, h3⟩
end
end Go.PX
