/- Proved: for every int and every slice of ints,debuggerlaw09.MergeChain returns true and leaves its arguments as they were (Rows.MergeChainSaid). No conditions. -/
import Derived.Test.YtlkcidmmpeebeaaRows
import Derived.Test.YtlkcidmmpeebeaaPMgChain
import Derived.Test.YtlkcidmmpeebeaaOpB
import Derived.WalkKit
import Derived.ProofKit
import Derived.OpenShut
import Derived.ShutString
import Derived.ChangeOld
import Derived.Below
set_option linter.unusedVariables false
set_option linter.unusedSimpArgs false
namespace Go.Proofs.Ytlkcidmmpeebeaa.mergeChain
open Go.ChangeShapes Go.WideShapes Go.ChangeAt Go.RowKit Go.PX
open Go.ChangeMaps (open_string shut_string)
set_option linter.unusedVariables false

theorem own:ownKnob Try.prog.godebug=none:=by kernel_rfl
theorem laidOut:laidOutB Try.prog=true:=by kernel_rfl

/-- a contract that owns nothing: a call that answers and writes nothing that was there -/
theorem below_of_eff {σ σ':Nm} {Z Z':Nat→Prop} {w w':World} (h:Eff σ Z w [] [] σ' Z' w'):Below w.heap.size w w' :=
  ⟨h.chg.os,h.chg.tape,h.chg.output,h.chg.size,fun k hk=>h.chg.block k hk fun ⟨id,o,c,q,_⟩=>q rfl⟩

theorem walk (a0:Int) (v:Value) (l:List Int) (w:World) (hv:∀ σ,VR σ (Zw w) w v (.imm 1 (l.map encI))) :
    Calls Try.prog 10 #[.int .i64 a0,v] w fun e w'=>e=.returned (.bool true)∧Below w.heap.size w w':=by
  refine (mergeChain_con a0 l w (fun _=>none) (Zw w) [.int .i64 a0,v] ?_ (VRs.cons (.sc _ rfl) (VRs.cons (hv _) VRs.nil)) (fun _ _ _=>rfl)).mono fun e w' ⟨u,σ',Z',he,hu,hf⟩=>?_
  · exact { at_:=fun _ _ h=>(nomatch h),inj:=fun _ _ _ _ _ _ _ h=>(nomatch h),off:=fun _ _ _ _ h=>(nomatch h),zlt:=fun _ hb=>hb }
  · cases hu with
    | sc _ _=>exact ⟨he,below_of_eff hf⟩

/-! ### THE ROW's STEP: WRITTEN OUT: LEAVE IT -/
set_option maxRecDepth 100000 in
theorem lifted (os:Os) (started:os.Started) (H:Type) (enc:TypeId × Value→H) :
    ReturnsInHanded {} Try.checked os 10 .any (Rows.mergeChainSpec.pre6 enc Try.prog Try.f10 Rows.mergeChainRow.domain false) (Rows.mergeChainSpec.post enc Try.prog Try.f10 false true false false):=by
  refine returnsInHanded_of_change_sized (C:=Try.checked) own started (by kernel_rfl) Try.func10
    (ChangeSpec.witness6 (enc:=enc) (C:=Try.checked) false ⟨#[],#[.int .i64 0,.slice none 0 0],[]⟩ 8 (by kernel_rfl) (by kernel_rfl) (by kernel_rfl) (by kernel_rfl)) ?_
  intro W base args ds gs before hval0 hW hcnd hsz _
  have hval:∀ (j:Nat) t v,Try.f10.params[j]?=some t→args[j]?=some v→Value.okWide Try.prog W .any base t v:=hval0
  have hW':=hW
  obtain ⟨p,q,hA0,hV,rfl,hfz,hnd⟩:=hW
  have hA:DataW.TrodAll enc Try.prog W 0 (fun _=>true) true Try.f10.params.toList args.toList ds p:=hA0
  rw [Try.params10] at hA hval
  have hsz1:(DataW.weightsEach Try.prog (Try.f10.params.toList++Rows.mergeChainSpec.plain.varTypes Try.prog) (ds++gs)).all (·≤reachBytes)=true:=hsz
  rw [Try.params10] at hsz1
  obtain ⟨v0,vs0,d0,ds0,p0,q0,hargs,rfl,rfl,h0,r0⟩:=trodAll_cons hA
  obtain ⟨v1,vs1,d1,ds1,p1,q1,rfl,rfl,rfl,h1,r1⟩:=trodAll_cons r0
  obtain ⟨rfl,rfl,rfl⟩:=trodAll_nil r1
  obtain rfl:args=#[v0,v1]:=by cases args; simp_all
  obtain ⟨rfl,rfl⟩:=trodVars_none hV
  have k1:=h1
  have lt1:∀ x∈p1,x.block<W.heap.size:=by obtain ⟨m,hm⟩:=k1; exact DataW.trod_lt m _ _ _ hm
  obtain ⟨a0,rfl,rfl,rfl,w0⟩:=open_int Try.underlying3 (hval 0 3 v0 rfl rfl) h0
  obtain ⟨a,len,cap,rfl⟩:=okWide_slice Try.underlying35 (hval 1 35 v1 rfl rfl)
  obtain ⟨l,hl,hv⟩:∃ l:List Int,(∀ x∈l,I64 x)∧∀ (σ:Nm),VR σ (Zw W) W (.slice a len cap) (.imm 1 (l.map encI)):=by
    obtain ⟨fuel,hf⟩:=h1
    have ho:Arg.Op enc Try.prog W fuel 35 [.slice a len cap]:=⟨_,by simpa [Value.cells] using hf,fun k hk=>by
      have:=List.all_eq_true.1 hsz1 k (DataW.weights_mem_each (j:=1) (t:=35) (d:=d1) rfl rfl k hk)
      exact of_decide_eq_true this⟩
    obtain ⟨l,hl,_,r⟩:=open_ints ho
    exact ⟨l,hl,fun σ=>.imm _ _ _ r⟩
  clear hA0 hval0
  simp only [List.append_nil] at hW'
  refine (walk a0 _ l W hv).mono fun e W' ⟨he,bel⟩=>?_
  subst he
  exact ⟨_,rfl,_,_,_,[],_,[],hW',trodAll_mk1 (shut_bool Try.underlying4 _),(trodAll_cons_mk (shut_int Try.underlying3 w0) (trodAll_cons_mk (Below.trod laidOut (by kernel_rfl) (of_decide_eq_true (by kernel_rfl)) k1 bel lt1) trodAll_mk0)),rfl,bel.frame _,fun h=>by cases h⟩

theorem over:Rows.mergeChainRow.holds Try.pinned (OpenSpec.ofChange Rows.mergeChainSpec) :=
  OpenClaim.holds_of_wide 10 Try.f10 rfl rfl rfl rfl rfl rfl rfl ⟨rfl,rfl,rfl,rfl,rfl⟩ rfl rfl rfl rfl rfl (by kernel_rfl) Try.func10 (by kernel_rfl)
    (of_decide_eq_true (by kernel_rfl)) (by unfold Func.isWrapper; first | (rw [if_pos (by decide +kernel)]; kernel_rfl) | (rw [if_neg (by decide +kernel)]; exact ⟨rfl,rfl⟩))
    (fun os started H enc _=>lifted os started H enc)

/-- ████ THE STATEMENT ████ -/
theorem proved:Rows.MergeChainSaid:=over
#print axioms proved
end Go.Proofs.Ytlkcidmmpeebeaa.mergeChain
