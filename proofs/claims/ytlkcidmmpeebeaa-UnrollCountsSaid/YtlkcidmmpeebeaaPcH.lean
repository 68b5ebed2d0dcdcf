/- Proved: slices.Clone on plain data,where the copy is a row of the table. -/
import Derived.Test.YtlkcidmmpeebeaaPv2
set_option linter.unusedVariables false
set_option linter.unusedSimpArgs false
namespace Go.Proofs.Ytlkcidmmpeebeaa
open Go.RowKit Go.PX

theorem ofC_ (o:OpD) (l:List Value) (xs:List PV) (h:ofCells l=some xs):ofCells (opC o++l)=some (encO o++xs):=by
  simp [opC,encO,ofCells,scOk,h]
theorem ofL_:∀ L:List OpD,ofCells (L.flatMap opC)=some (L.map encO).flatten
  | []=>rfl
  | o::L=>by simpa using ofC_ o _ _ (ofL_ L)
theorem ofI_:∀ L:List Int,ofCells (L.map (Value.int .i64))=some (L.map encI).flatten
  | []=>rfl
  | o::L=>by
    have:=ofI_ L
    simp [encI,ofCells,scOk,this]
def nmRow:Value→Option (Nat × Nat)
  | .slice (some a) _ c=>some (a.block,c)
  | _=>none
theorem nm_own {v:Value} {b c:Nat} (h:nmRow v=some (b,c)):v.ownBlock=some b:=by
  unfold nmRow at h
  split at h
  · simp only [Option.some.injEq,Prod.mk.injEq] at h; rw [← h.1]; rfl
  · cases h
theorem or_row {σ:Nm} {Z:Nat→Prop} {W:World} {B e sz id:Nat} {v:Value} {n:Nat} {l:List Value} {rows:List (List PV)} (hn:rows.length=n) (hn1:n≤1000000000) (hf:rows.flatten.length=n*sz) (hro:rowsOk sz rows) (hcs:ofCells l=some rows.flatten) (hp:∀ x∈rows.flatten,isPure x=true) (hown:W.ownsRow B e sz v n l) (h4:σ id=nmRow v) :
    OR σ Z W id (.row e sz true rows)∧VR σ Z W v (.own id sz n):=by
  rcases hown.2 with ⟨rfl,h0⟩ | ⟨g,cap,cur,rfl,_,hg,hle,hc,hcs',htk⟩
  · subst h0
    have er:rows=[]:=List.length_eq_zero_iff.1 hn
    subst er
    exact ⟨⟨hro,⟨by simp,fun q=>absurd rfl q⟩,fun b c hb=>by rw [h4] at hb; cases hb⟩,.own0 id sz⟩
  · have h4:σ id=some (g,cap):=h4
    refine ⟨⟨hro,⟨by omega,fun _=>by rw [h4]; simp⟩,fun b c hb=>?_⟩,.own id sz _ g cap h4⟩
    rw [h4] at hb; simp only [Option.some.injEq,Prod.mk.injEq] at hb; obtain ⟨rfl,rfl⟩:=hb
    refine ⟨cur.toList,by simpa using hg,by simpa using hcs',by simpa [hn] using hle,by simpa [maxLen] using hc,?_⟩
    have hs:=ofCells_spec (σ:=σ) (Z:=Z) (w:=W) hcs
    rw [hn,htk]
    exact ⟨hs.1,fun _=>⟨hs.1.1,fun i u x hu hx=>(hs.1.2 i u x hu hx).ir (hp x (List.mem_of_getElem? hx))⟩⟩
theorem eff_row {σ:Nm} {Z:Nat→Prop} {w w':World} {lo B e sz:Nat} {v:Value} {rows:List (List PV)} {n:Nat} {l:List Value} (hz:∀ b,Z b→b<w.heap.size) (hb:Below w.heap.size w w') (hf:Fresh w.heap.size v) (hs:σ lo=none) (hn:rows.length=n) (hn1:n≤1000000000) (hfl:rows.flatten.length=n*sz) (hro:rowsOk sz rows) (hcs:ofCells l=some rows.flatten) (hp:∀ x∈rows.flatten,isPure x=true) (hown:w'.ownsRow B e sz v n l) :
    ∃ σ':Nm,VR σ' Z w' v (.own lo sz n)∧Eff σ Z w [] [(lo,some (.row e sz true rows))] σ' Z w':=by
  obtain ⟨σ',hσ⟩:∃ σ':Nm,σ'=fun id=>if id=lo then nmRow v else σ id:=⟨_,rfl⟩
  have e1:σ' lo=nmRow v:=by rw [hσ]; simp
  have e2:∀ id,id≠lo→σ' id=σ id:=fun id h=>by rw [hσ]; simp [h]
  have ul:∀ id o,ulook [(lo,some (PO.row e sz true rows))] id=some (some o)→id=lo∧o=.row e sz true rows:=fun id o h=>by
    simp only [ulook] at h
    cases hb:Nat.beq lo id with
    | true=>rw [hb] at h; simp at h; exact ⟨(Nat.eq_of_beq_eq_true hb).symm,h.symm⟩
    | false=>rw [hb] at h; cases h
  obtain ⟨r1,r2⟩:=or_row (σ:=σ') (Z:=Z) (id:=lo) hn hn1 hfl hro hcs hp hown e1
  refine ⟨σ',r2,fun id x hx=>?_,fun id h0 h1=>?_,fun _ q=>q,fun b q=>.inl q,(Chg.of_below hb).mono fun _ _ q=>q.elim,fun id o h=>?_,fun id o b c h h'=>?_,fun id id' o o' b c c' h h' _ _=>?_⟩
  · rw [e2 id (by rintro rfl; rw [hs] at hx; cases hx)]; exact hx
  · by_cases he:id=lo
    · subst he
      rcases h1 with h1 | h1
      · simp [ulook] at h1
      · exact absurd rfl h1
    · rw [e2 id he]; exact h0
  · obtain ⟨rfl,rfl⟩:=ul id o h; exact r1
  · obtain ⟨rfl,rfl⟩:=ul id o h
    rw [e1] at h'
    have:=hf b (nm_own h')
    exact ⟨fun q=>by have:=hz b q; omega,.inl this⟩
  · rw [(ul id o h).1,(ul id' o' h').1]
theorem flatP_len {α:Type} {f:α→List PV} {sz:Nat} (h:∀ x,(f x).length=sz):∀ xs:List α,(xs.map f).flatten.length=xs.length*sz
  | []=>by simp
  | x::xs=>by rw [List.map_cons,List.flatten_cons,List.length_append,h x,flatP_len h xs,List.length_cons,Nat.succ_mul]; omega
theorem con_cloneI_o {xs:List Int} {lo:Nat} (hi:∀ x∈xs,I64 x) (hl:xs.length≤1000000):Con Try.prog 49 [.imm 1 (xs.map encI)] [] lo (lo+1) (.own lo 1 xs.length) [(lo,some (.row 3 1 true (xs.map encI)))]:=by
  intro w σ Z vs hH hv hfr
  obtain ⟨u,l,rfl,h1,h2⟩:=hv.inv
  obtain rfl:=h2.inv0
  refine (cloneI_own u xs w (ints_of h1.imm_inv hi) hl).mono fun e w' ⟨v,he,hb,h3,h4,B,h5⟩=>?_
  obtain ⟨σ',q1,q2⟩:=eff_row (σ:=σ) (Z:=Z) (rows:=xs.map encI) hH.zlt hb h4 (hfr lo (Nat.le_refl _) (Nat.lt_succ_self _)) (by simp) (by omega) (flatP_len (f:=encI) (sz:=1) (fun _=>rfl) xs) (fun r hr=>by obtain ⟨x,_,rfl⟩:=List.mem_map.1 hr; exact ⟨rfl,rfl⟩) (ofI_ xs) (fun x hx=>by
    obtain ⟨r,hr,hxr⟩:=List.mem_flatten.1 hx
    obtain ⟨o,_,rfl⟩:=List.mem_map.1 hr
    simp only [encI,List.mem_cons,List.not_mem_nil,or_false] at hxr
    subst hxr; rfl) h5.own
  exact ⟨v,σ',Z,he,q1,q2⟩
theorem con_cloneP_o {xs:List OpD} {lo:Nat} (hi:∀ x∈xs,OpI x) (hl:xs.length≤1000000):Con Try.prog 51 [.imm 11 (xs.map encO)] [] lo (lo+1) (.own lo 11 xs.length) [(lo,some (.row 74 11 true (xs.map encO)))]:=by
  intro w σ Z vs hH hv hfr
  obtain ⟨u,l,rfl,h1,h2⟩:=hv.inv
  obtain rfl:=h2.inv0
  refine (cloneP_own u xs w (ops_of h1.imm_inv hi) hl).mono fun e w' ⟨v,he,hb,h3,h4,B,h5⟩=>?_
  obtain ⟨σ',q1,q2⟩:=eff_row (σ:=σ) (Z:=Z) (rows:=xs.map encO) hH.zlt hb h4 (hfr lo (Nat.le_refl _) (Nat.lt_succ_self _)) (by simp) (by omega) (flatP_len (f:=encO) (sz:=11) (fun _=>rfl) xs) (fun r hr=>by obtain ⟨x,_,rfl⟩:=List.mem_map.1 hr; exact ⟨rfl,rfl⟩) (ofL_ xs) (fun x hx=>by
    obtain ⟨r,hr,hxr⟩:=List.mem_flatten.1 hx
    obtain ⟨o,_,rfl⟩:=List.mem_map.1 hr
    simp only [encO,List.mem_cons,List.not_mem_nil,or_false] at hxr
    rcases hxr with rfl | rfl | rfl | rfl | rfl | rfl | rfl | rfl | rfl | rfl | rfl <;> rfl) h5.own
  exact ⟨v,σ',Z,he,q1,q2⟩
end Go.Proofs.Ytlkcidmmpeebeaa
