/- The operations of a group of a plan, one by one. -/
import Derived.Test.YtgkenbjpmondeaaLex
namespace Go.Proofs.Ytgkenbjpmondeaa.Lex
theorem fm_nil {l : List Oper} : ([] : List Nat).filterMap (l.toArray[·]?) = [] := rfl
theorem fm_cons {l : List Oper} {i : Nat} {o : Oper} {rest : List Nat} {os : List Oper} (h : l[i]? = some o) (t : rest.filterMap (l.toArray[·]?) = os) : (i :: rest).filterMap (l.toArray[·]?) = o :: os := by
  rw [List.filterMap_cons, List.getElem?_toArray, h, t]
end Go.Proofs.Ytgkenbjpmondeaa.Lex
