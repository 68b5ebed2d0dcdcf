/- Proved: the program's places of a block are the document's,for code that passes the check. No program in sight. -/
import Derived.Test.YtlkcidmmpeebeaaPcM
import Derived.Test.YtlkcidmmpeebeaaPAlN
set_option linter.unusedVariables false
set_option linter.unusedSimpArgs false
namespace Go.Proofs.Ytlkcidmmpeebeaa
open Go.RowKit Go.PX
theorem eqPl_iff (x y:PlaceD):eqPl x y=true↔x=y:=by
  unfold eqPl
  simp only [Bool.and_eq_true,beq_iff_eq]
  exact ⟨fun h=>Prod.ext h.1 (Prod.ext h.2.1 h.2.2),fun h=>by subst h; simp⟩
theorem eqPl_no {x y:PlaceD} (h:x≠y):eqPl x y=false:=by rw [← Bool.not_eq_true,eqPl_iff]; exact h
theorem taken_iff (l:List PlaceD) (la:List Int) (p:PlaceD) (k:Int):takenD l la p k=true↔∃ i,i<l.length∧getPl l i=p∧k<PX.g la i:=by
  unfold takenD
  rw [List.any_eq_true]
  constructor
  · rintro ⟨i,hi,h⟩
    simp only [Bool.and_eq_true,decide_eq_true_eq] at h
    exact ⟨i,List.mem_range.1 hi,(eqPl_iff _ _).1 h.1,h.2⟩
  · rintro ⟨i,hi,h1,h2⟩
    exact ⟨i,List.mem_range.2 hi,by simp only [Bool.and_eq_true,decide_eq_true_eq]; exact ⟨(eqPl_iff _ _).2 h1,h2⟩⟩
theorem getPl_set {l:List PlaceD} {d i:Nat} {x:PlaceD} (hd:d<l.length):getPl (l.set d x) i=if i=d then x else getPl l i:=by
  unfold getPl
  split
  · rename_i e; subst e; rw [List.getElem?_set_self hd]; rfl
  · rename_i e; rw [List.getElem?_set_ne (fun q=>e q.symm)]
theorem taken_set {l:List PlaceD} {la:List Int} {d:Nat} {x p:PlaceD} {k:Int} (hd:d<l.length) (h0:getPl l d=(0,0,0)) (hp:p≠(0,0,0)):takenD (l.set d x) la p k=((eqPl x p&&decide (k<PX.g la d))||takenD l la p k):=by
  rw [Bool.eq_iff_iff]
  simp only [Bool.or_eq_true,Bool.and_eq_true,decide_eq_true_eq,eqPl_iff]
  rw [taken_iff,taken_iff]
  constructor
  · rintro ⟨i,h1,h2,h3⟩
    rw [List.length_set] at h1
    rw [getPl_set hd] at h2
    split at h2
    · rename_i e; subst e; exact .inl ⟨h2,h3⟩
    · exact .inr ⟨i,h1,h2,h3⟩
  · rintro (⟨h1,h2⟩ | ⟨i,h1,h2,h3⟩)
    · exact ⟨d,by simpa using hd,by rw [getPl_set hd,if_pos rfl]; exact h1,h2⟩
    · refine ⟨i,by simpa using h1,?_,h3⟩
      rw [getPl_set hd,if_neg]
      · exact h2
      · rintro rfl; exact hp (h2.symm.trans h0)
theorem taken_mono {l:List PlaceD} {la:List Int} {p:PlaceD} {k k':Int} (h:takenD l la p k=false) (hk:k≤k'):takenD l la p k'=false:=by
  rw [← Bool.not_eq_true,taken_iff] at h ⊢
  rintro ⟨i,h1,h2,h3⟩
  exact h ⟨i,h1,h2,by omega⟩
theorem find_congr {α:Type} {p q:α→Bool}:∀ {l:List α},(∀ x∈l,p x=q x)→l.find? p=l.find? q
  | [],_=>rfl
  | x::l,h=>by
    rw [List.find?_cons,List.find?_cons,h x (by simp),find_congr fun y hy=>h y (by simp [hy])]
theorem g_set {l:List Int} {d i:Nat} {x:Int} (hd:d<l.length):PX.g (l.set d x) i=if i=d then x else PX.g l i:=by
  unfold PX.g
  split
  · rename_i e; subst e; rw [List.getElem?_set_self hd]; rfl
  · rename_i e; rw [List.getElem?_set_ne (fun q=>e q.symm)]
structure BInv (la:List Int) (cn:Nat) (first:Int) (b:BlockD) (q:Nat) (s:List Int × List Int × List PlaceD) (t:List PlaceD × Nat):Prop where
  pl:s.2.2=t.1
  sp:s.2.1.length=t.2
  len:s.1.length=13
  ln:t.1.length=cn
  reg:∀ i,i<12→∀ k:Nat,q≤k→takenD t.1 la (2,((i+1:Nat):Int),0) k=decide ((k:Int)<PX.g s.1 (i+1))
  slot:∀ i,i<t.2→∀ k:Nat,q≤k→takenD t.1 la (3,first+((i:Nat):Int),0) k=decide ((k:Int)<PX.g s.2.1 i)
  fresh:∀ (j:Nat) (o:OpD),q≤j→b.ops[j]?=some o→R.defines o.kind=true→getPl t.1 o.dst.toNat=(0,0,0)
  ok:SlotsOk first t
theorem decide_not_lt (a b:Int):(!decide (a<b))=decide (b≤a):=by
  by_cases h:a<b
  · simp [h]
  · simp [h,Int.not_lt.1 h]
theorem binv_step {c:CodeD} {b:BlockD} (hok:BlkOk c b) {la:List Int} {first:Int} {q:Nat} {s:List Int × List Int × List PlaceD} {t:List PlaceD × Nat} (h:BInv la (cnD b) first b q s t) {y:OpD} (hy:b.ops[q]?=some y):BInv la (cnD b) first b (q+1) (opP la first s (y,q)) (opR la first t (y,q)):=by
  by_cases hdef:R.defines y.kind=true
  · have hnd:=(dsts_ok hok).2
    have hym:=List.mem_of_getElem? hy
    have hyv:y.dst∈R.values b:=by rw [values_eq2]; exact List.mem_append_right _ (List.mem_map.2 ⟨y,List.mem_filter.2 ⟨hym,hdef⟩,rfl⟩)
    have hyr:=(cnt_val hok).2.2.2 y.dst hyv
    have hd:y.dst.toNat<t.1.length:=by rw [h.ln]; unfold cnD; omega
    have h0:=h.fresh q y (Nat.le_refl _) hy hdef
    have hfresh:∀ (x:PlaceD) (j:Nat) (o:OpD),q+1≤j→b.ops[j]?=some o→R.defines o.kind=true→getPl (t.1.set y.dst.toNat x) o.dst.toNat=(0,0,0):=fun x j o hj ho hdo=>by
      rw [getPl_set hd,if_neg]
      · exact h.fresh j o (by omega) ho hdo
      · intro e
        have hov:o.dst∈R.values b:=by rw [values_eq2]; exact List.mem_append_right _ (List.mem_map.2 ⟨o,List.mem_filter.2 ⟨List.mem_of_getElem? ho,hdo⟩,rfl⟩)
        have hor:=(cnt_val hok).2.2.2 o.dst hov
        have:=dst_uniq hnd ho hy hdo hdef (by omega)
        omega
    obtain ⟨ok1,ok2,_,_⟩:=opR_ok (la:=la) (p:=(y,q)) h.ok
    have hreg:firstR s.1 (q:Int)=regR t.1 la (q:Int):=by
      unfold firstR regR
      refine find_congr fun i hi=>?_
      rw [h.reg i (List.mem_range.1 hi) q (Nat.le_refl _),decide_not_lt]
      rfl
    have hsame:∀ {x:PlaceD} {p:PlaceD} {k:Int},x≠p→p≠(0,0,0)→takenD (t.1.set y.dst.toNat x) la p k=takenD t.1 la p k:=fun {x p k} h1 h2=>by
      rw [taken_set hd h0 h2,eqPl_no h1]; simp
    have hnew:∀ {p:PlaceD} {k:Nat},p≠(0,0,0)→takenD t.1 la p (q:Int)=false→q≤k→takenD (t.1.set y.dst.toNat p) la p k=decide ((k:Int)<PX.g la y.dst.toNat):=fun {p k} h1 h2 h3=>by
      rw [taken_set hd h0 h1,(eqPl_iff p p).2 rfl,taken_mono h2 (by omega)]; simp
    cases hr:regR t.1 la (q:Int) with
    | some r =>
      have hr12:r<12:=List.mem_range.1 (List.mem_of_find?_eq_some hr)
      have hfree:takenD t.1 la (2,((r+1:Nat):Int),0) (q:Int)=false:=by
        have:=List.find?_some hr
        simpa using this
      have e1:freeD s.1 s.2.1 first (q:Int)=((2,((r+1:Nat):Int),0),s.2.1):=by unfold freeD; rw [hreg,hr]
      have eR:opR la first t (y,q)=(t.1.set y.dst.toNat (2,((r+1:Nat):Int),0),t.2):=by unfold opR; rw [if_pos hdef]; simp only [hr]
      have eP:opP la first s (y,q)=(s.1.set (r+1) (PX.g la y.dst.toNat),s.2.1,s.2.2.set y.dst.toNat (2,((r+1:Nat):Int),0)):=by
        unfold opP; rw [if_pos hdef]; simp only [e1,if_true]; rfl
      rw [eR] at ok1 ok2
      rw [eP,eR]
      refine ⟨by simp only [h.pl],h.sp,by simp only [List.length_set]; exact h.len,by simp only [List.length_set]; exact h.ln,fun i hi k hk=>?_,fun i hi k hk=>?_,hfresh _,ok1⟩
      · by_cases hir:i=r
        · subst hir
          simp only
          rw [hnew (by simp) hfree (by omega),g_set (by rw [h.len]; omega),if_pos rfl]
        · simp only
          rw [hsame (by simp; omega) (by simp),g_set (by rw [h.len]; omega),if_neg (by omega)]
          exact h.reg i hi k (by omega)
      · simp only
        rw [hsame (by simp) (by simp)]
        exact h.slot i hi k (by omega)
    | none =>
      have hsl:slotR t.1 la first (q:Int) t.2=match firstS s.2.1 (q:Int) with
          | some i=>some i
          | none=>some t.2:=by
        have e0:(List.range t.2).find? (fun i=>!takenD t.1 la (3,first+((i:Nat):Int),0) (q:Int))=firstS s.2.1 (q:Int):=by
          unfold firstS
          rw [h.sp]
          refine find_congr fun i hi=>?_
          rw [h.slot i (List.mem_range.1 hi) q (Nat.le_refl _),decide_not_lt]
          rfl
        unfold slotR
        rw [List.range_succ,List.find?_append,e0]
        cases firstS s.2.1 (q:Int) with
        | some i=>rfl
        | none =>
          rw [List.find?_cons,slotR_some h.ok]; rfl
      cases hs:firstS s.2.1 (q:Int) with
      | some i =>
        rw [hs] at hsl
        have hi2:i<t.2:=by
          unfold firstS at hs
          have:=List.mem_range.1 (List.mem_of_find?_eq_some hs)
          rw [h.sp] at this; exact this
        have hfree:takenD t.1 la (3,first+((i:Nat):Int),0) (q:Int)=false:=by
          unfold slotR at hsl
          have:=List.find?_some hsl
          simpa using this
        have e1:freeD s.1 s.2.1 first (q:Int)=((3,first+((i:Nat):Int),0),s.2.1):=by unfold freeD; rw [hreg,hr,hs]
        have eR:opR la first t (y,q)=(t.1.set y.dst.toNat (3,first+((i:Nat):Int),0),t.2):=by
          unfold opR; rw [if_pos hdef]; simp only [hr,hsl]
          rw [Nat.max_eq_left (by omega)]
        have eP:opP la first s (y,q)=(s.1,s.2.1.set i (PX.g la y.dst.toNat),s.2.2.set y.dst.toNat (3,first+((i:Nat):Int),0)):=by
          unfold opP; rw [if_pos hdef]; simp only [e1]
          rw [if_neg (by decide),show (first+((i:Nat):Int)-first).toNat=i by omega]
        rw [eR] at ok1 ok2
        rw [eP,eR]
        refine ⟨by simp only [h.pl],by simp only [List.length_set]; exact h.sp,h.len,by simp only [List.length_set]; exact h.ln,fun j hj k hk=>?_,fun j hj k hk=>?_,hfresh _,ok1⟩
        · simp only
          rw [hsame (by simp) (by simp)]
          exact h.reg j hj k (by omega)
        · by_cases hij:j=i
          · subst hij
            simp only
            rw [hnew (by simp) hfree (by omega),g_set (by rw [h.sp]; omega),if_pos rfl]
          · simp only
            rw [hsame (by simp; omega) (by simp),g_set (by rw [h.sp]; omega),if_neg hij]
            exact h.slot j hj k (by omega)
      | none =>
        rw [hs] at hsl
        have hfree:=slotR_some (la:=la) (k:=(q:Int)) h.ok
        have e1:freeD s.1 s.2.1 first (q:Int)=((3,first+((t.2:Nat):Int),0),s.2.1++[-1]):=by unfold freeD; rw [hreg,hr,hs,h.sp]
        have eR:opR la first t (y,q)=(t.1.set y.dst.toNat (3,first+((t.2:Nat):Int),0),t.2+1):=by
          unfold opR; rw [if_pos hdef]; simp only [hr,hsl]
          rw [Nat.max_eq_right (by omega)]
        have eP:opP la first s (y,q)=(s.1,(s.2.1++[-1]).set t.2 (PX.g la y.dst.toNat),s.2.2.set y.dst.toNat (3,first+((t.2:Nat):Int),0)):=by
          unfold opP; rw [if_pos hdef]; simp only [e1]
          rw [if_neg (by decide),show (first+((t.2:Nat):Int)-first).toNat=t.2 by omega]
        rw [eR] at ok1 ok2
        rw [eP,eR]
        have hl:t.2<(s.2.1++[-1]).length:=by simp [h.sp]
        refine ⟨by simp only [h.pl],by simp [h.sp],h.len,by simp only [List.length_set]; exact h.ln,fun j hj k hk=>?_,fun j hj k hk=>?_,hfresh _,ok1⟩
        · simp only
          rw [hsame (by simp) (by simp)]
          exact h.reg j hj k (by omega)
        · by_cases hij:j=t.2
          · subst hij
            simp only
            rw [hnew (by simp) hfree (by omega),g_set hl,if_pos rfl]
          · simp only at hj ⊢
            rw [hsame (by simp; omega) (by simp),g_set hl,if_neg hij,h.slot j (by omega) k (by omega)]
            have:PX.g (s.2.1++[-1]) j=PX.g s.2.1 j:=by unfold PX.g; rw [List.getElem?_append_left (by rw [h.sp]; omega)]
            rw [this]
  · have eP:opP la first s (y,q)=s:=by unfold opP; rw [if_neg hdef]
    have eR:opR la first t (y,q)=t:=by unfold opR; rw [if_neg hdef]
    rw [eP,eR]
    exact ⟨h.pl,h.sp,h.len,h.ln,fun i hi k hk=>h.reg i hi k (by omega),fun i hi k hk=>h.slot i hi k (by omega),fun j o hj=>h.fresh j o (by omega),h.ok⟩
theorem par_eq (la:List Int) (cn:Nat):∀ v,v≤cn→(parK la cn v).2=parR cn v∧(∀ i,v≤i→i<12→PX.g (parK la cn v).1 (i+1)=-1)∧(∀ i,i<12→∀ k:Nat,takenD (parR cn v) la (2,((i+1:Nat):Int),0) k=decide ((k:Int)<PX.g (parK la cn v).1 (i+1)))∧∀ i,v≤i→getPl (parR cn v) i=(0,0,0)
  | 0,_=>by
    have hg:∀ i,i<12→PX.g (parK la cn 0).1 (i+1)=-1:=fun i hi=>by unfold PX.g parK; rw [List.getElem?_replicate,if_pos (by omega)]; rfl
    have hz:∀ i,getPl (parR cn 0) i=(0,0,0):=fun i=>by
      unfold getPl parR
      rw [List.getElem?_replicate]
      split <;> rfl
    refine ⟨rfl,fun i _ hi=>hg i hi,fun i hi k=>?_,fun i _=>hz i⟩
    rw [hg i hi,decide_eq_false (by omega),← Bool.not_eq_true,taken_iff]
    rintro ⟨j,_,h2,_⟩
    rw [hz] at h2; simp at h2
  | v+1,hv=>by
    obtain ⟨h1,h2,h3,h4⟩:=par_eq la cn v (by omega)
    obtain ⟨l1,l2⟩:=parK_len la cn v
    have hlen:=parR_len cn v
    have hd:v<(parR cn v).length:=by omega
    have hz:=h4 v (Nat.le_refl _)
    have eK:parK la cn (v+1)=parStep la (parK la cn v) v:=rfl
    have eR:parR cn (v+1)=(parR cn v).set v (paramD v):=rfl
    rw [eK,eR]
    unfold parStep paramD
    by_cases h8:v<8
    · rw [if_pos h8,if_pos h8]
      refine ⟨by simp only [h1],fun i hi1 hi2=>?_,fun i hi k=>?_,fun i hi=>?_⟩
      · simp only
        rw [g_set (by omega),if_neg (by omega)]
        exact h2 i (by omega) hi2
      · simp only
        rw [taken_set hd hz (by simp),g_set (by omega)]
        by_cases hiv:i=v
        · subst hiv
          rw [(eqPl_iff _ _).2 rfl,if_pos rfl,h3 i hi k,h2 i (Nat.le_refl _) hi,decide_eq_false (show ¬ ((k:Nat):Int) < -1 by omega)]
          simp
        · rw [eqPl_no (by simp; omega),if_neg (by omega),h3 i hi k]; simp
      · rw [getPl_set hd,if_neg (by omega)]
        exact h4 i (by omega)
    · rw [if_neg h8,if_neg h8]
      refine ⟨by simp only [h1],fun i hi1 hi2=>h2 i (by omega) hi2,fun i hi k=>?_,fun i hi=>?_⟩
      · rw [taken_set hd hz (by simp),eqPl_no (by simp),h3 i hi k]; simp
      · rw [getPl_set hd,if_neg (by omega)]
        exact h4 i (by omega)
theorem binv {c:CodeD} {b:BlockD} (hok:BlkOk c b) (la:List Int) {first:Int} (hf:0≤first) (hp:b.params-8≤first):∀ q,q≤b.ops.length→BInv la (cnD b) first b q (opsK la (cnD b) first b q) (opsR la (cnD b) first b q)
  | 0,_=>by
    have hcv:=cnt_val hok
    obtain ⟨h1,h2,h3,h4⟩:=par_eq la (cnD b) b.params.toNat (by unfold cnD; omega)
    obtain ⟨l1,l2⟩:=parK_len la (cnD b) b.params.toNat
    refine ⟨h1,rfl,l1,parR_len _ _,fun i hi k _=>h3 i hi k,fun i hi k _=>absurd hi (by simp [opsR]),fun j o _ ho hd=>?_,parR_ok hf hp⟩
    refine h4 _ ?_
    have:=(dsts_ok hok).1 o.dst (List.mem_map.2 ⟨o,List.mem_filter.2 ⟨List.mem_of_getElem? ho,hd⟩,rfl⟩)
    omega
  | q+1,hq=>by
    obtain ⟨y,hy⟩:=get_of_lt (show q<b.ops.length by omega)
    rw [opsK_succ hy,opsR_succ hy]
    exact binv_step hok (binv hok la hf hp q (by omega)) hy
theorem blk_eq {c:CodeD} {b:BlockD} (hok:BlkOk c b) (hsrc:∀ o∈b.ops,o.kind=21→o.sk=2→o.sv∈R.values b) (keep:Bool) {first:Int} (hf:0≤first) (hp:b.params-8≤first):blkR keep first (cnD b) b=blkPl keep first (cnD b) b:=by
  have h:=binv hok (lastR keep b) hf hp b.ops.length (Nat.le_refl _)
  unfold blkR blkPl
  rw [last_eq hok hsrc keep]
  exact Prod.ext h.pl.symm h.sp.symm
end Go.Proofs.Ytlkcidmmpeebeaa
