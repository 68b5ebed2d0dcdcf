/- Proved: strings.Count and strings.Index of one byte, and what they call (the shelf's texts, laid for this program). -/
import Derived.Test.YtlaiafalilcgjaaGreatDoorProg
import Derived.Lib.Strings
import Derived.Lib.Slices
import Derived.Lib.Walk
import Derived.Lib.Bytealg
import Derived.Test.YtlaiafalilcgjaaGreatDoorQRn
import Derived.Test.YtlaiafalilcgjaaGreatDoorQL4
set_option linter.unusedVariables false
set_option linter.unusedSimpArgs false
namespace Go.Proofs.YtlaiafalilcgjaaGreatDoor
set_option maxHeartbeats 1000000 in
set_option maxRecDepth 100000 in
theorem lib_count (s : ByteArray) (c : UInt8) (w : World) :
    Calls Tryz.prog 23 #[.string s, .string ⟨#[c]⟩] w fun e w' => e = .returned (.int .i64 (Lib.countByte s.data.toList c)) ∧ w' = w := by
  go_enter Tryz.func23, Tryz.ntmps23
  go_wp2
  rw [run_callFunc_extern Tryz.func37 (by kernel_rfl) (by kernel_rfl) (by kernel_rfl) (e := Extern.BytealgCount.count) (by kernel_rfl), Lib.run_countString]
  simp only [Result.andThen]
  rw [Oper.upon_value]
  go_wp2
  go_ret
  exact ⟨rfl, rfl⟩

set_option maxHeartbeats 1000000 in
set_option maxRecDepth 100000 in
theorem lib_byte (s : ByteArray) (c : Int) (w : World) :
    Calls Tryz.prog 101 #[.string s, .int .u8 c] w fun e w' => e = .returned (.int .i64 (Lib.indexByte s.data.toList c.toNat.toUInt8)) ∧ w' = w := by
  go_enter Tryz.func101, Tryz.ntmps101
  go_wp2
  rw [run_callFunc_extern Tryz.func177 (by kernel_rfl) (by kernel_rfl) (by kernel_rfl) (e := Extern.BytealgIndexByte.indexByte) (by kernel_rfl), Lib.run_indexByteString]
  simp only [Result.andThen]
  rw [Oper.upon_value]
  go_wp2
  go_ret
  exact ⟨rfl, rfl⟩

set_option maxHeartbeats 2000000 in
set_option maxRecDepth 100000 in
theorem lib_idx (s : ByteArray) (c : UInt8) (w : World) :
    Calls Tryz.prog 59 #[.string s, .string ⟨#[c]⟩] w fun e w' => e = .returned (.int .i64 (Lib.indexByte s.data.toList c)) ∧ w' = w := by
  go_enter Tryz.func59, Tryz.ntmps59
  go_wp2_with (go_at_call 101; refine (lib_byte _ _ _).mono ?_; rintro e w' ⟨rfl, rfl⟩)
  · have h : ([c] == s.toList) = true := by assumption
    go_ret
    refine ⟨?_, rfl⟩
    have e : s.data.toList = [c] := by rw [← Lib.toList_data]; exact (beq_iff_eq.1 h).symm
    rw [e]
    simp [Lib.indexByte]
  · go_ret
    exact ⟨rfl, rfl⟩

set_option maxHeartbeats 1000000 in
theorem lib_index (s : ByteArray) (c : UInt8) (w : World) :
    Calls Tryz.prog 38 #[.string s, .string ⟨#[c]⟩] w fun e w' => e = .returned (.int .i64 (Lib.indexByte s.data.toList c)) ∧ w' = w := by
  go_enter Tryz.func38, Tryz.ntmps38
  go_wp2_with (go_at_call 59; refine (lib_idx _ _ _).mono ?_; rintro e w' ⟨rfl, rfl⟩)
  go_ret
  exact ⟨rfl, rfl⟩

end Go.Proofs.YtlaiafalilcgjaaGreatDoor
namespace Go.Proofs.YtlaiafalilcgjaaGreatDoor
open Go.RowKit Go.PX
theorem con_quiet {g : FuncId} {vs : List Value} {u : Value} (hu : scOk u = true) (hs : vs.all scOk = true) (h : ∀ w, Calls Tryz.prog g vs.toArray w fun e w' => e = .returned u ∧ w' = w) (lo top : Nat) : Con Tryz.prog g (vs.map PV.sc) [] lo top (.sc u) [] := by
  intro w σ Z vs' hH hv hfr
  have e : vs' = vs := by
    clear h hfr
    induction vs generalizing vs' with
    | nil => exact hv.inv0
    | cons v vs ih =>
      obtain ⟨u', l', rfl, h1, h2⟩ := hv.inv
      simp only [List.all_cons, Bool.and_eq_true] at hs
      rw [h1.sc_inv, ih hs.2 l' h2]
  subst e
  exact (h w).mono fun e w' ⟨h1, h2⟩ => by
    subst h2
    exact ⟨u, σ, Z, h1, .sc u hu, Eff.refl _ _ _ _⟩
theorem con_count (s : List UInt8) (c : UInt8) (lo top : Nat) : Con Tryz.prog 23 [.sc (sV s), .sc (sV [c])] [] lo top (.sc (.int .i64 ((s.count c : Nat) : Int))) [] :=
  con_quiet (vs := [sV s, sV [c]]) rfl rfl (fun w => lib_count (sB s) c w) lo top
theorem con_index (s : List UInt8) (c : UInt8) (lo top : Nat) : Con Tryz.prog 38 [.sc (sV s), .sc (sV [c])] [] lo top (.sc (.int .i64 (Lib.indexByte s c))) [] :=
  con_quiet (vs := [sV s, sV [c]]) rfl rfl (fun w => lib_index (sB s) c w) lo top
end Go.Proofs.YtlaiafalilcgjaaGreatDoor
