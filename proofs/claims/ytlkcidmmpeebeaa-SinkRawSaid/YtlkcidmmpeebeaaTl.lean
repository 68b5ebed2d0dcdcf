/- Proved: what Tail answers,as plain data; the append of a block. -/
import Derived.Test.YtlkcidmmpeebeaaBown
import Derived.Test.YtlkcidmmpeebeaaClone
set_option linter.unusedVariables false
set_option linter.unusedSimpArgs false
namespace Go.Proofs.Ytlkcidmmpeebeaa
open Go.RowKit

def tailT (t:TermD):TermD:={ kind:=6,a:=0,n:=t.n,args:=t.args,b0:=-1,args0:=[],b1:=-1,args1:=[] }
def tailY (b:BlockD):BlockD:={ params:=b.params,ops:=b.ops,term:=tailT b.term }
def tailB (c:CodeD) (b:BlockD):BlockD:=if isTailD c b.term then tailY b else b
def tailD (c:CodeD):CodeD:={ params:=c.params,blocks:=c.blocks.map (tailB c),contexts:=c.contexts,objects:=c.objects }
theorem ints_nil {w:World}:IntsAt w (.slice none 0 0) [] :=
  ⟨none,0,rfl,by simp,by simp,fun k x hx=>by simp at hx⟩
theorem BlkV.tail {w:World} {u1 u2 u3 u4:Value} {o:BlockD} (h:BlkAt w u1 u2 u3 u4 o):BlkV w (u1,u2,.slice none 0 0,.slice none 0 0) (tailY o):=by
  obtain ⟨⟨i1,i2,i3,i4,i5,i6⟩,h1,h2,h3,h4⟩:=h
  exact ⟨⟨i1,by simp [tailY,tailT,I64],by simp [tailY,tailT,I64],i4,by simp [tailY,tailT,I64],by simp [tailY,tailT,I64]⟩,h1,h2,ints_nil,ints_nil⟩
theorem BlocksOwn.lt {w:World} {B0 B H m:Nat} {v:Value} {xs:List BlockD} (h:BlocksOwn w B0 B H v xs) (e:w.heap.size=m):H≤m:=e ▸ h.hw
theorem appB {w:World} {B0 B H:Nat} {v:Value} {xs:List BlockD} (h:BlocksOwn w B0 B H v xs) (g:Nat) (u:V4) (o:BlockD) (hc:w.heap[g]?=some (.cells (blkC (u,o)).toArray 62 (0,0))) (hu:BlkV w u o) (hl:Lie (fun e=>e<B0∨H≤e) u o) (hlen:xs.length≤10000) :
    ∃ v' w' H',(appS 22 22 v (.slice (some ⟨g,0,none⟩) 1 1)).run Try.prog w=.ok (.value v') w'∧BlocksOwn w' B0 B H' v' (xs++[o])∧w.grownBy w' v.ownBlock:=by
  obtain ⟨v',w',h1,h2,h3⟩:=appB_run h g u o hc hu hl hlen
  exact ⟨v',w',_,h1,h2,h3⟩
theorem check_parts {c:CodeD} {t:Int} (h:R.check c t=0):c.blocks.length≤400∧t≤6000∧∀ b∈c.blocks,R.term c b=true:=by
  unfold R.check at h
  split at h
  · simp at h
  split at h
  · simp at h
  split at h
  · rename_i h1 h2 h3
    simp only [Bool.or_eq_true,decide_eq_true_eq,not_or,Nat.not_lt] at h1
    refine ⟨by omega,by omega,fun b hb=>?_⟩
    have:=List.all_eq_true.1 h3 b hb
    simp only [Bool.and_eq_true] at this
    exact this.2
  · simp at h
theorem check_in {c:CodeD} {t:Int} (h:R.check c t=0) {b:BlockD} {k:Nat} (hb:c.blocks[k]?=some b) (h3:b.term.kind=3):0≤b.term.b0∧b.term.b0<(c.blocks.length:Int):=by
  have ht:=(check_parts h).2.2 b (List.mem_iff_getElem?.2 ⟨k,hb⟩)
  unfold R.term at ht
  simp only [h3] at ht
  split at ht
  · simp at ht
  split at ht
  · simp at ht
  simp only [Int.reduceBEq,Bool.false_eq_true,↓reduceIte,Bool.and_eq_true] at ht
  have h1:=ht.1
  unfold R.edge at h1
  split at h1
  · simp at h1
  · rename_i q
    simp only [Bool.or_eq_true,decide_eq_true_eq,not_or] at q
    omega
/-- the call's end as ref14.Tail asks for it -/
theorem isTail_ref {c:CodeD} {t:TermD} {x:BlockD} (h:t.kind=3→0≤t.b0) (hx:t.kind=3→c.blocks[t.b0.toNat]?=some x):((((t.kind==3)&&decide (t.b1<0))&&((t.args0.length:Int)==0))&&retB x)=isTailD c t:=by
  unfold isTailD
  by_cases h3:t.kind=3
  · rw [hx h3]
    by_cases h1:t.b1<0
    · by_cases h2:t.args0.length=0
      · simp [h3,h1,h2]
      · have q1:((t.args0.length:Int)==0)=false:=by rw [beq_eq_false_iff_ne]; omega
        have q2:0<t.args0.length:=by omega
        rw [q1]
        simp [h3,q2]
    · have:(0:Int)≤t.b1:=by omega
      simp [h3,h1,this]
  · simp [h3]
end Go.Proofs.Ytlkcidmmpeebeaa
