/- Proved: the small tests of numbers. -/
import Derived.Test.YtlkcidmmpeebeaaBase
set_option linter.unusedVariables false
set_option linter.unusedSimpArgs false
namespace Go.Proofs.Ytlkcidmmpeebeaa
open Go.RowKit
def fieldsN (k:Int):Int :=
  if k=1 then 9 else if k=2 then 3 else if 3≤k∧k≤14 then 7 else if k=15 then 11 else if k=16 then 14 else if k=17 then 8 else if k=18 then 2 else if k=19∨k=20 then 24 else if k=21 then 48 else 0
set_option maxHeartbeats 400000 in
theorem within_any (n m:Int) (w:World):Calls Try.prog 84 #[.int .i64 n,.int .i64 m] w fun e w'=>e=.returned (.bool (P.within n m))∧w=w':=by
  go_enter Try.func84,Try.ntmps84
  go_wp2
  all_goals go_ret
  all_goals exact ⟨ret_bool (by simp_all [P.within] <;> omega),rfl⟩
set_option maxHeartbeats 400000 in
theorem defines_any (n:Int) (w:World):Calls Try.prog 90 #[.int .i64 n] w fun e w'=>e=.returned (.bool (R.defines n))∧w=w':=by
  go_enter Try.func90,Try.ntmps90
  go_wp2
  all_goals go_ret
  all_goals exact ⟨ret_bool (by simp_all [R.defines] <;> omega),rfl⟩
set_option maxHeartbeats 400000 in
theorem usesA_any (n:Int) (w:World):Calls Try.prog 88 #[.int .i64 n] w fun e w'=>e=.returned (.bool (R.usesA n))∧w=w':=by
  go_enter Try.func88,Try.ntmps88
  go_wp2
  all_goals go_ret
  all_goals exact ⟨ret_bool (by simp_all [R.usesA] <;> omega),rfl⟩
set_option maxHeartbeats 400000 in
theorem usesB_any (n:Int) (w:World):Calls Try.prog 89 #[.int .i64 n] w fun e w'=>e=.returned (.bool (R.usesB n))∧w=w':=by
  go_enter Try.func89,Try.ntmps89
  go_wp2
  all_goals go_ret
  all_goals exact ⟨ret_bool (by simp_all [R.usesB] <;> omega),rfl⟩
set_option maxHeartbeats 2000000 in
theorem fields_any (n:Int) (w:World):Calls Try.prog 126 #[.int .i64 n] w fun e w'=>e=.returned (.int .i64 (fieldsN n))∧w=w':=by
  go_enter Try.func126,Try.ntmps126
  go_wp2
  all_goals go_ret
  all_goals exact ⟨ret_int (by simp only [beq_iff_eq,beq_eq_false_iff_ne] at *; unfold fieldsN; (repeat' split) <;> omega),rfl⟩
set_option maxHeartbeats 400000 in
theorem none_any (x:Int) (v:Value) (xs:List Int) (w:World) (h:IntsAt w v xs):Calls Try.prog 93 #[.agg #[.int .i64 x,v]] w fun e w'=>e=.returned (.bool (R.none_ x xs))∧Below w.heap.size w w':=by
  obtain ⟨A,cap,rfl,hl,hm,hc⟩:=h
  clear hc
  have hm1:=hm.1; clear hm
  go_enter Try.func93,Try.ntmps93
  go_wp2
  all_goals go_ret
  all_goals exact ⟨ret_bool (by rw [Bool.eq_iff_iff]; simp_all [R.none_]; try (rw [← List.length_eq_zero_iff]; omega)),(Below.refl _ _).al _⟩
set_option maxHeartbeats 400000 in
theorem absent_any (x:Int) (v:Value) (xs:List Int) (w:World) (h:IntsAt w v xs):Calls Try.prog 156 #[.agg #[.int .i64 x,v]] w fun e w'=>e=.returned (.bool (P.absent x xs))∧Below w.heap.size w w':=by
  obtain ⟨A,cap,rfl,hl,hm,hc⟩:=h
  clear hc
  have hm1:=hm.1; clear hm
  go_enter Try.func156,Try.ntmps156
  go_wp2
  all_goals go_ret
  all_goals exact ⟨ret_bool (by rw [Bool.eq_iff_iff]; simp_all [P.absent]; try (rw [← List.length_eq_zero_iff]; omega)),(Below.refl _ _).al _⟩
theorem hasB_no {l:List Int} {x:Int} (h:∀ j,j<l.length→l[j]?≠some x):R.has l x=false:=by
  unfold R.has; rw [List.any_eq_false]; intro y hy e
  obtain ⟨j,hj⟩:=List.mem_iff_getElem?.1 hy
  have:x=y:=by simpa using e
  subst this; exact h j (List.getElem?_eq_some_iff.1 hj).1 hj
theorem hasB_yes {l:List Int} {x:Int} {j:Nat} (h:l[j]?=some x):R.has l x=true:=by
  unfold R.has; rw [List.any_eq_true]; exact ⟨x,List.mem_of_getElem? h,by simp⟩
set_option maxHeartbeats 1000000 in
theorem has_any (v:Value) (xs:List Int) (y:Int) (w:World) (h:IntsAt w v xs):Calls Try.prog 71 #[v,.int .i64 y] w fun e w'=>e=.returned (.bool (R.has xs y))∧w=w':=by
  obtain ⟨A,cap,rfl,hl,hm,hc⟩:=h
  have Hc:=Lib.hid hc; clear hc
  have hm1:=hm.1; clear hm
  go_enter Try.func71,Try.ntmps71
  go_wp2
  go_loop [9] (fun i=>∃ k:Nat,i=.int .i64 k∧k≤xs.length∧Hid (∀ j,j<k→xs[j]?≠some y)) (fun i=>xs.length-(intOf i).toNat)
  case atStart=>exact ⟨0,rfl,by omega,Lib.hid fun j hj=>by omega⟩
  case round =>
    obtain ⟨k,rfl,hk,HP⟩:=hrel
    by_cases hlt:k<xs.length
    · obtain ⟨x,hx⟩:=get_of_lt hlt
      obtain ⟨b,off,rfl,hi,c1⟩:=Hc.out k x hx
      have HX:=Lib.hid hx; clear hx
      by_cases hxy:y=x
      · have e1:(y==x)=true:=by simp [hxy]
        have HXY:=Lib.hid hxy; clear hxy
        go_wp2
        go_ret
        exact ⟨ret_bool (hasB_yes (by rw [HXY.out]; exact HX.out)).symm,rfl⟩
      · have e1:(y==x)=false:=by simp [hxy]
        have HXY:=Lib.hid hxy; clear hxy
        go_wp2
        go_round
        case rel=>exact ⟨k+1,by go_num,by omega,Lib.hid fun j hj=>by
          rcases Nat.lt_or_ge j k with h | h
          · exact HP.out j h
          · obtain rfl:j=k:=by omega
            rw [HX.out]; intro e; exact HXY.out (by injection e with e; exact e.symm)⟩
        case measure=>simp [intOf]; omega
    · go_wp2
      go_ret
      exact ⟨ret_bool (hasB_no fun j hj=>HP.out j (by omega)).symm,rfl⟩
end Go.Proofs.Ytlkcidmmpeebeaa
