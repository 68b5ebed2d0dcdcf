/- Proved: for every int,debuggerlaw14.TailDeep returns true (Rows.TailDeepSaid). No conditions. -/
import Derived.Test.YtlkcidmmpeebeaaRows
import Derived.Test.YtlkcidmmpeebeaaPTailDeep
import Derived.WalkKit
import Derived.ProofKit
import Derived.Below
import Derived.OpenShut
import Derived.ShutString
set_option linter.unusedVariables false
set_option linter.unusedSimpArgs false
namespace Go.Proofs.Ytlkcidmmpeebeaa.tailDeep
open Go.PX Go.RowKit Go.ChangeShapes Go.WideShapes Go.ChangeAt Go.RowKit
open Go.ChangeMaps (open_string shut_string)
set_option linter.unusedVariables false      -- a walk need not use every 'w<i>' (that an integer argument fits its kind)

theorem own:ownKnob Try.prog.godebug=none:=by kernel_rfl

theorem below_of_eff {σ σ':Nm} {Z Z':Nat→Prop} {w w':World} (h:Eff σ Z w [] [] σ' Z' w'):Below w.heap.size w w' :=
  ⟨h.chg.os,h.chg.tape,h.chg.output,h.chg.size,fun k hk=>h.chg.block k hk fun ⟨id,o,c,q,_⟩=>q rfl⟩
theorem walk (a0:Int) (w:World) :
    Calls Try.prog 4 #[.int .i64 a0] w fun e w'=>e=.returned (.bool true)∧Below w.heap.size w w':=by
  refine (tailDeep_con a0 w (fun _=>none) (fun _=>False) [.int .i64 a0] ?_ (VRs.cons (.sc _ rfl) VRs.nil) (fun _ _ _=>rfl)).mono fun e w' ⟨u,σ',Z',he,hu,hf⟩=>?_
  · exact { at_:=fun _ _ h=>(nomatch h),inj:=fun _ _ _ _ _ _ _ h=>(nomatch h),off:=fun _ _ _ _ h=>(nomatch h),zlt:=fun _ hb=>hb.elim }
  · cases hu with
    | sc _ _=>exact ⟨he,below_of_eff hf⟩

/-! ### THE ROW's STEP: WRITTEN OUT: LEAVE IT -/
set_option maxRecDepth 100000 in
theorem lifted (os:Os) (started:os.Started) (H:Type) (enc:TypeId × Value→H) :
    ReturnsInHanded {} Try.checked os 4 .any (Rows.tailDeepSpec.pre6 enc Try.prog Try.f4 Rows.tailDeepRow.domain false) (Rows.tailDeepSpec.post enc Try.prog Try.f4 false true false false):=by
  refine returnsInHanded_of_change (C:=Try.checked) own started (by kernel_rfl) Try.func4
    (ChangeSpec.witness6 (enc:=enc) (C:=Try.checked) false ⟨#[],#[.int .i64 0],[]⟩ 8 (by kernel_rfl) (by kernel_rfl) (by kernel_rfl) (by kernel_rfl)) ?_
  intro W base args ds gs before hval0 hW hcnd _
  have hval:∀ (j:Nat) t v,Try.f4.params[j]?=some t→args[j]?=some v→Value.okWide Try.prog W .any base t v:=hval0
  have hW':=hW
  obtain ⟨p,q,hA0,hV,rfl,hfz,hnd⟩:=hW
  have hA:DataW.TrodAll enc Try.prog W 0 (fun _=>true) true Try.f4.params.toList args.toList ds p:=hA0
  rw [Try.params4] at hA hval
  obtain ⟨v0,vs0,d0,ds0,p0,q0,hargs,rfl,rfl,h0,r0⟩:=trodAll_cons hA
  obtain ⟨rfl,rfl,rfl⟩:=trodAll_nil r0
  obtain rfl:args=#[v0]:=by cases args; simp_all
  obtain ⟨rfl,rfl⟩:=trodVars_none hV
  obtain ⟨a0,rfl,rfl,rfl,w0⟩:=open_int Try.underlying3 (hval 0 3 v0 rfl rfl) h0
  clear hA0 hval0
  simp only [List.append_nil] at hW'
  refine (walk a0 W).mono fun e W' ⟨he,bel⟩=>?_
  subst he
  exact ⟨_,rfl,_,_,_,[],_,[],hW',trodAll_mk1 (shut_bool Try.underlying4 _),(trodAll_cons_mk (shut_int Try.underlying3 w0) trodAll_mk0),rfl,bel.frame _,fun h=>by cases h⟩

theorem over:Rows.tailDeepRow.holds Try.pinned (OpenSpec.ofChange Rows.tailDeepSpec) :=
  OpenClaim.holds_of_wide 4 Try.f4 rfl rfl rfl rfl rfl rfl rfl ⟨rfl,rfl,rfl,rfl,rfl⟩ rfl rfl rfl rfl rfl (by kernel_rfl) Try.func4 (by kernel_rfl)
    (of_decide_eq_true (by kernel_rfl)) (by unfold Func.isWrapper; first | (rw [if_pos (by decide +kernel)]; kernel_rfl) | (rw [if_neg (by decide +kernel)]; exact ⟨rfl,rfl⟩))
    (fun os started H enc _=>lifted os started H enc)

/-- ████ THE STATEMENT ████ -/
theorem proved:Rows.TailDeepSaid :=
  over
#print axioms proved
end Go.Proofs.Ytlkcidmmpeebeaa.tailDeep
