/- Proved: a map with three ints as its key,as it lies,and the values that a range over it hands out. -/
import Derived.Test.YtlkcidmmpeebeaaPcK
import Derived.Test.YtlkcidmmpeebeaaPcI
import Derived.Maps.Keyed
import Derived.DeepKeys5
set_option linter.unusedVariables false
set_option linter.unusedSimpArgs false
namespace Go.Proofs.Ytlkcidmmpeebeaa
open Go.RowKit Go.PX Go.MapKept Go.ChangeMaps
def keyV (k:Int × Int × Int):Value:=.agg #[.int .i64 k.1,.int .i64 k.2.1,.int .i64 k.2.2]
theorem keyV_inj {a b:Int × Int × Int} (h:keyV a=keyV b):a=b:=by
  unfold keyV at h
  simp only [Value.agg.injEq,Array.mk.injEq,List.cons.injEq,Value.int.injEq,true_and,and_true] at h
  obtain ⟨a1,a2,a3⟩:=a
  obtain ⟨b1,b2,b3⟩:=b
  simp_all
def I3 (k:Int × Int × Int):Prop:=I64 k.1∧I64 k.2.1∧I64 k.2.2
theorem keyed208:Go.Maps.Keyed Try.prog 208:=Go.Maps.Keyed.of_law (deep_law_gate (by kernel_rfl) (by decide +kernel) (by decide +kernel) (by kernel_rfl) (by kernel_rfl))
theorem lit_wf {n:Int} (h:I64 n):(Lit.int .i64 n).wf=true:=by
  simp only [Lit.wf,Bool.and_eq_true,decide_eq_true_eq]
  exact h
theorem keyLits3 (d:Nat) {n:Int} (h:(Lit.int .i64 n).wf=true):Try.prog.keyLits (d+1) 3 [.int .i64 n]=some [.int .i64 n]:=by
  have hu:Try.prog.underlying 3=some (.int .i64):=by kernel_rfl
  simp [Program.keyLits,hu,h]
theorem keyOf208 {k:Int × Int × Int} (h:I3 k):∃ l,keyOf Try.prog 208 (keyV k)=some l:=by
  have h1:=lit_wf h.1
  have h2:=lit_wf h.2.1
  have h3:=lit_wf h.2.2
  have hu:Try.prog.underlying 208=some (.array 3 3):=by kernel_rfl
  have hk:Try.prog.keyType 208=true:=by kernel_rfl
  have hf:(keyV k).formed Try.prog 208=true:=by kernel_rfl
  have hc:Try.prog.cellsOf 208=3:=by kernel_rfl
  have hc3:Try.prog.cellsOf 3=1:=by kernel_rfl
  obtain ⟨d,hd⟩:∃ d,Try.prog.types.size+1=d+1+1:=⟨Try.prog.types.size-1,by decide +kernel⟩
  have hl:∃ ls,Try.prog.keyLits (Try.prog.types.size+1) 208 (keyV k).cells.toList=some ls:=by
    rw [hd]
    unfold Program.keyLits
    rw [hu]
    simp [keyV,Value.cells,hc,hc3,List.range_succ,keyLits3 d h1,keyLits3 d h2,keyLits3 d h3]
  obtain ⟨ls,hls⟩:=hl
  unfold keyOf
  rw [hu]
  simp only [hk,hf,Bool.and_self,if_true,hls,Option.map_some]
  exact ⟨_,rfl⟩
structure MOk (es:Array MapEntry) (cl:Nat) (m:MapS):Prop where
  pairs:es.toList.map (fun e=>(e.key,e.val))=m.map (fun p=>(keyV p.1,keyV p.2))
  born:∀ e∈es.toList,e.born<cl
  nodup:(es.toList.map (·.born)).Nodup
  keys:(m.map (·.1)).Nodup
  rng:∀ p∈m,I3 p.1
theorem mok_nil:MOk #[] 0 []:=⟨rfl,fun e h=>by simp at h,by simp,by simp,fun p h=>by cases h⟩
theorem MOk.at_ {es:Array MapEntry} {cl:Nat} {m:MapS} (h:MOk es cl m) {j:Nat} {e:MapEntry} (he:es.toList[j]?=some e):∃ p,m[j]?=some p∧e.key=keyV p.1∧e.val=keyV p.2:=by
  have h1:(es.toList.map (fun e=>(e.key,e.val)))[j]?=some (e.key,e.val):=by simp [he]
  rw [h.pairs,List.getElem?_map] at h1
  cases hp:m[j]? with
  | none=>rw [hp] at h1; cases h1
  | some p =>
    rw [hp] at h1
    simp only [Option.map_some,Option.some.injEq,Prod.mk.injEq] at h1
    exact ⟨p,rfl,h1.1.symm,h1.2.symm⟩
theorem MOk.len {es:Array MapEntry} {cl:Nat} {m:MapS} (h:MOk es cl m):es.toList.length=m.length:=by simpa using congrArg List.length h.pairs
theorem MOk.has {es:Array MapEntry} {cl:Nat} {m:MapS} (h:MOk es cl m):∀ e∈es.toList,∃ l,keyOf Try.prog 208 e.key=some l:=fun e he=>by
  obtain ⟨j,hj⟩:=List.getElem?_of_mem he
  obtain ⟨p,hp,hk,_⟩:=h.at_ hj
  rw [hk]; exact keyOf208 (h.rng p (List.mem_of_getElem? hp))
theorem nodup_get {α:Type}:∀ {l:List α},l.Nodup→∀ {i j:Nat} {x:α},l[i]?=some x→l[j]?=some x→i=j
  | [],_,i,j,x,h,_=>by simp at h
  | y::l,hn,i,j,x,hi,hj=>by
    obtain ⟨h1,h2⟩:=List.nodup_cons.1 hn
    cases i with
    | zero=>cases j with
      | zero=>rfl
      | succ j =>
        simp only [List.getElem?_cons_zero,Option.some.injEq,List.getElem?_cons_succ] at hi hj
        subst hi; exact absurd (List.mem_of_getElem? hj) h1
    | succ i=>cases j with
      | zero =>
        simp only [List.getElem?_cons_zero,Option.some.injEq,List.getElem?_cons_succ] at hi hj
        subst hj; exact absurd (List.mem_of_getElem? hi) h1
      | succ j =>
        simp only [List.getElem?_cons_succ] at hi hj
        rw [nodup_get h2 hi hj]
theorem setS_at {k v:Int × Int × Int}:∀ {m:MapS} {j:Nat} {p:(Int × Int × Int) × (Int × Int × Int)},(m.map (·.1)).Nodup→m[j]?=some p→p.1=k→m.map (fun p=>if p.1==k then (k,v) else p)=m.set j (k,v)
  | [],j,p,_,h,_=>by simp at h
  | x::m,j,p,hn,h,hp=>by
    obtain ⟨h1,h2⟩:=List.nodup_cons.1 hn
    cases j with
    | zero =>
      simp only [List.getElem?_cons_zero,Option.some.injEq] at h; subst h
      rw [List.map_cons,List.set_cons_zero,hp]
      simp only [beq_self_eq_true,if_true,List.cons.injEq,true_and]
      refine (List.map_congr_left fun q hq=>?_).trans (List.map_id _)
      rw [if_neg]; rfl
      intro e
      have e:=eq_of_beq e
      exact h1 (by show x.1∈_; rw [hp,← e]; exact List.mem_map_of_mem (f:=fun x:(Int × Int × Int) × (Int × Int × Int)=>x.1) hq)
    | succ j =>
      simp only [List.getElem?_cons_succ] at h
      rw [List.map_cons,List.set_cons_succ,setS_at h2 h hp,if_neg]
      intro e
      have e:=eq_of_beq e
      exact h1 (by show x.1∈_; rw [e,← hp]; exact List.mem_map_of_mem (f:=fun x:(Int × Int × Int) × (Int × Int × Int)=>x.1) (List.mem_of_getElem? h))
theorem mok_upd {es:Array MapEntry} {cl:Nat} {m:MapS} (h:MOk es cl m) {k:Int × Int × Int} (hk:I3 k) (v:Int × Int × Int):∃ es1 cl1,MapUpd Try.prog 207 es cl (keyV k) (keyV v) es1 cl1∧MOk es1 cl1 (setS m k v):=by
  obtain ⟨lk,hlk⟩:=keyOf208 hk
  have ht:Try.prog.underlying 207=some (.map 208 72):=by kernel_rfl
  have K:=keyed208
  cases ha:m.any (fun p=>p.1==k) with
  | true =>
    obtain ⟨p,hp,hpk⟩:=List.any_eq_true.1 ha
    have hpk:=eq_of_beq hpk
    obtain ⟨j0,hj0⟩:=List.getElem?_of_mem hp
    have hj:j0<es.size:=by
      have:=(List.getElem?_eq_some_iff.1 hj0).1
      have:=h.len; simp at this; omega
    obtain ⟨e0,he0⟩:∃ e,es.toList[j0]?=some e:=⟨es.toList[j0]'(by simpa using hj),List.getElem?_eq_getElem _⟩
    obtain ⟨p',hp',hk0,_⟩:=h.at_ he0
    rw [hj0] at hp'; simp only [Option.some.injEq] at hp'; subst hp'
    have hset:(es.modify j0 fun e=>{ e with key:=keyV k,val:=keyV v }).toList=es.toList.set j0 { e0 with key:=keyV k,val:=keyV v }:=by
      apply List.ext_getElem?
      intro i
      rw [List.getElem?_set]
      by_cases hij:j0=i
      · subst hij
        simp [Array.getElem?_modify,hj]
        obtain ⟨_,q⟩:=List.getElem?_eq_some_iff.1 he0
        simp at q; rw [← q]
      · simp [Array.getElem?_modify,hij]
    refine ⟨es.modify j0 fun e=>{ e with key:=keyV k,val:=keyV v },cl,fun w b hb=>?_,?_⟩
    · rcases K.find w hlk es.toList h.has with ⟨_,h2⟩ | ⟨j,e,h1,h2,h3⟩
      · exact absurd (by rw [hk0,hpk]) (h2 e0 (List.mem_of_getElem? he0))
      · obtain ⟨q,hq,hqk,_⟩:=h.at_ h2
        have hjj:j=j0:=by
          refine nodup_get h.keys (x:=k) ?_ ?_
          · rw [List.getElem?_map,hq]; simp only [Option.map_some,Option.some.injEq]; exact keyV_inj (hqk.symm.trans h3)
          · rw [List.getElem?_map,hj0]; simp only [Option.map_some,Option.some.injEq]; exact hpk
        subst hjj
        have hset':=heap_set (o':=.map (es.modify j fun e=>{ e with key:=keyV k,val:=keyV v }) cl) hb
        have hek:(es[j]?).map (·.key)=some (keyV k):=by
          have:es[j]?=some e:=by simpa using h2
          rw [this]; simp [h3]
        refine ⟨setBlock w b (.map (es.modify j fun e=>{ e with key:=keyV k,val:=keyV v }) cl),?_,hset'.1,⟨rfl,rfl,rfl,by simp [setBlock],fun k _ hk=>hset'.2 k hk⟩⟩
        have e1:es[j]?=some e:=by simpa using h2
        simp [Instr.mapUpdate,run_underlying ht,MapKept.run_getObj_map hb,K.check w _ hlk,h1,e1,h3,K.stays w hlk,MapKept.run_setObj_map _ hb,Result.andThen,setBlock]
    · have hs:setS m k v=m.set j0 (k,v):=by unfold setS; rw [if_pos ha,setS_at h.keys hj0 hpk]
      rw [hs]
      refine ⟨?_,fun e he=>?_,?_,?_,fun q hq=>?_⟩
      · rw [hset,List.map_set,List.map_set,h.pairs]
      · rw [hset] at he
        rcases List.mem_or_eq_of_mem_set he with he | rfl
        · exact h.born e he
        · exact h.born e0 (List.mem_of_getElem? he0)
      · rw [hset,List.map_set]
        have:(es.toList.map (·.born)).set j0 e0.born=es.toList.map (·.born):=by
          obtain ⟨hl,rfl⟩:=List.getElem?_eq_some_iff.1 he0
          apply List.ext_getElem?
          intro i
          rw [List.getElem?_set]
          split
          · rename_i e; subst e; simp at hl; simp [hl]
          · rfl
        show ((es.toList.map (·.born)).set j0 e0.born).Nodup
        rw [this]; exact h.nodup
      · rw [List.map_set]
        have:(m.map (·.1)).set j0 k=m.map (·.1):=by
          obtain ⟨hl,q⟩:=List.getElem?_eq_some_iff.1 hj0
          apply List.ext_getElem?
          intro i
          rw [List.getElem?_set]
          split
          · rename_i e; subst e; simp [hl,q,hpk]
          · rfl
        show ((m.map (·.1)).set j0 k).Nodup
        rw [this]; exact h.keys
      · rcases List.mem_or_eq_of_mem_set hq with hq | rfl
        · exact h.rng q hq
        · exact hk
  | false =>
    have hno:∀ p∈m,p.1≠k:=fun p hp e=>by
      have:=List.any_eq_false.1 ha p hp
      simp [e] at this
    have hs:setS m k v=m++[(k,v)]:=by unfold setS; rw [if_neg (by rw [ha]; simp)]
    refine ⟨es.push { key:=keyV k,val:=keyV v,born:=cl },cl+1,fun w b hb=>?_,?_⟩
    · rcases K.find w hlk es.toList h.has with ⟨h1,_⟩ | ⟨j,e,h1,h2,h3⟩
      · have hset':=heap_set (o':=.map (es.push { key:=keyV k,val:=keyV v,born:=cl }) (cl+1)) hb
        refine ⟨setBlock w b (.map (es.push { key:=keyV k,val:=keyV v,born:=cl }) (cl+1)),?_,hset'.1,⟨rfl,rfl,rfl,by simp [setBlock],fun k _ hk=>hset'.2 k hk⟩⟩
        simp [Instr.mapUpdate,run_underlying ht,MapKept.run_getObj_map hb,K.check w _ hlk,h1,MapKept.run_setObj_map _ hb,Result.andThen,setBlock]
      · obtain ⟨q,hq,hqk,_⟩:=h.at_ h2
        exact absurd (keyV_inj (hqk.symm.trans h3)) (hno q (List.mem_of_getElem? hq))
    · rw [hs]
      refine ⟨by simp [h.pairs],fun e he=>?_,?_,?_,fun q hq=>?_⟩
      · simp only [Array.toList_push,List.mem_append,List.mem_singleton] at he
        rcases he with he | rfl
        · have:=h.born e he; omega
        · exact Nat.lt_succ_self _
      · simp only [Array.toList_push,List.map_append,List.map_cons,List.map_nil]
        refine List.nodup_append.2 ⟨h.nodup,by simp,fun x hx y hy=>?_⟩
        simp only [List.mem_singleton] at hy; subst hy
        obtain ⟨e,he,rfl⟩:=List.mem_map.1 hx
        have:=h.born e he; omega
      · rw [List.map_append]
        refine List.nodup_append.2 ⟨h.keys,by simp,fun x hx y hy=>?_⟩
        simp only [List.map_cons,List.map_nil,List.mem_singleton] at hy; subst hy
        obtain ⟨p,hp,rfl⟩:=List.mem_map.1 hx
        exact hno p hp
      · rcases List.mem_append.1 hq with hq | hq
        · exact h.rng q hq
        · simp only [List.mem_singleton] at hq; subst hq; exact hk
/-! the values that are handed out -/
def decV:Value→Int × Int × Int
  | .agg ⟨[.int _ a,.int _ b,.int _ c]⟩=>(a,b,c)
  | _=>(0,0,0)
theorem decV_key (v:Int × Int × Int):decV (keyV v)=v:=rfl
def leftV (es:Array MapEntry) (seen:Array Nat):List (Int × Int × Int):=(leftOf es seen).toList.map fun e=>decV e.val
theorem MOk.vals {es:Array MapEntry} {cl:Nat} {m:MapS} (h:MOk es cl m):leftV es #[]=m.map (·.2):=by
  have h1:(leftOf es #[]).toList=es.toList:=by simp [leftOf]
  unfold leftV
  rw [h1]
  have h2:=congrArg (List.map fun q:Value × Value=>decV q.2) h.pairs
  simpa [List.map_map,Function.comp_def,decV_key] using h2
theorem perm_out:∀ {l:List MapEntry} {e:MapEntry},(l.map (·.born)).Nodup→e∈l→l.Perm (e::l.filter fun x=>!(x.born==e.born))
  | [],e,_,h=>by cases h
  | x::l,e,hn,h=>by
    obtain ⟨h1,h2⟩:=List.nodup_cons.1 hn
    rcases List.mem_cons.1 h with rfl | h
    · rw [List.filter_cons]
      simp only [beq_self_eq_true,Bool.not_true,Bool.false_eq_true,if_false]
      rw [List.filter_eq_self.2 fun y hy=>by
        have:y.born≠e.born:=fun q=>h1 (by show e.born∈_; rw [← q]; exact List.mem_map_of_mem (f:=fun x:MapEntry=>x.born) hy)
        simp [this]]
    · have hne:x.born≠e.born:=fun q=>h1 (by show x.born∈_; rw [q]; exact List.mem_map_of_mem (f:=fun x:MapEntry=>x.born) h)
      rw [List.filter_cons,if_pos (by simp [hne])]
      exact ((perm_out h2 h).cons x).trans (List.Perm.swap e x _)
theorem MOk.step {es:Array MapEntry} {cl:Nat} {m:MapS} (h:MOk es cl m) {seen:Array Nat} {e:MapEntry} (he:e∈(leftOf es seen).toList) :
    (leftV es seen).Perm (decV e.val::leftV es (seen.push e.born))∧(leftOf es (seen.push e.born)).size<(leftOf es seen).size∧∃ p:(Int × Int × Int) × (Int × Int × Int),p∈m∧e.key=keyV p.1∧e.val=keyV p.2∧EntryIs es (seen.push e.born) cl cl (.agg [.sc (.int .i64 p.1.1),.sc (.int .i64 p.1.2.1),.sc (.int .i64 p.1.2.2)]) (.agg [.sc (.int .i64 p.2.1),.sc (.int .i64 p.2.2.1),.sc (.int .i64 p.2.2.2)]):=by
  have hL:(leftOf es (seen.push e.born)).toList=(leftOf es seen).toList.filter fun x=>!(x.born==e.born):=by
    unfold leftOf
    simp only [Array.toList_filter,List.filter_filter]
    refine List.filter_congr fun x _=>?_
    simp [Bool.not_or,Bool.and_comm]
    rfl
  have hn:((leftOf es seen).toList.map (·.born)).Nodup:=by
    unfold leftOf
    rw [Array.toList_filter]
    exact h.nodup.sublist (List.Sublist.map _ List.filter_sublist)
  have hp:=perm_out hn he
  have hem:e∈es.toList:=by
    unfold leftOf at he
    rw [Array.toList_filter] at he
    exact (List.mem_filter.1 he).1
  refine ⟨?_,?_,?_⟩
  · unfold leftV
    rw [hL]
    exact hp.map _
  · have:=hp.length_eq
    rw [← hL] at this
    simp at this; omega
  · obtain ⟨j,hj⟩:=List.getElem?_of_mem hem
    obtain ⟨p,q1,q2,q3⟩:=h.at_ hj
    refine ⟨p,List.mem_of_getElem? q1,q2,q3,e,e.born,by simp,?_,rfl,?_,?_⟩
    · rw [← Array.find?_toList]; exact find_born e es.toList h.nodup hem
    · rw [q2]; rfl
    · rw [q3]; rfl
theorem useD_comm (l:List Int) (a b n:Int):useD (useD l a n) b n=useD (useD l b n) a n:=by
  unfold useD
  by_cases hab:a.toNat=b.toNat
  · rw [hab]
  · apply List.ext_getElem?
    intro i
    simp only [List.getElem?_set,List.length_set,List.getElem?_set_ne hab,List.getElem?_set_ne (Ne.symm hab)]
    by_cases h1:a.toNat=i <;> by_cases h2:b.toNat=i
    · omega
    · simp [h1,h2]
    · simp [h1,h2]
    · simp [h1,h2]
theorem mark1_comm (df:List Int) (k:Nat) (l:List Int) (u v:Int × Int × Int):mark1 df k (mark1 df k l u) v=mark1 df k (mark1 df k l v) u:=by
  unfold mark1
  split <;> split <;> first | rfl | exact useD_comm _ _ _ _
theorem mark_perm (df:List Int) (k:Nat) {a b:List (Int × Int × Int)} (h:a.Perm b):∀ l,a.foldl (mark1 df k) l=b.foldl (mark1 df k) l:=by
  induction h with
  | nil=>intro l; rfl
  | cons x _ ih=>intro l; exact ih _
  | swap x y l'=>intro l; simp only [List.foldl_cons]; rw [mark1_comm]
  | trans _ _ i1 i2=>intro l; exact (i1 l).trans (i2 l)
end Go.Proofs.Ytlkcidmmpeebeaa
