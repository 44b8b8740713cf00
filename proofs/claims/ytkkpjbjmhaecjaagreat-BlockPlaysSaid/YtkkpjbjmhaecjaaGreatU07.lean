/- None -/
import Derived.Test.YtkkpjbjmhaecjaaGreatU06
import Derived.Deep.MidRow
namespace Go.Proofs.YtkkpjbjmhaecjaaGreat
set_option linter.all false
set_option maxRecDepth 100000
set_option maxHeartbeats 1000000
section
open Go.RowKit
theorem Blk.setAll {w:World}{g:Nat}{t:TypeId}(vs:List Value):∀(pre:List Value) (cs:Array Value),cs.size=pre.length+vs.length→(∀i,i < pre.length→cs[i]? =pre[i]?)→ Blk w g t cs→Blk (w.setCells g pre.length vs) g t (pre ++ vs).toArray:=by
 induction vs generalizing w with
 | nil=>
   intro pre cs hs hp hB
   have:cs=(pre ++ []).toArray:=by
    apply Array.ext_getElem?;intro i;by_cases hi:i < pre.length
    · rw[hp i hi];simp
    · rw[Array.getElem?_eq_none (by simp at hs;omega)];simp;omega
   rw[←this];exact hB
 | cons v vs ih=>
   intro pre cs hs hp hB;have h:=ih (w:=w.setCell ⟨g,pre.length,none⟩ v) (pre ++ [v]) (cs.setIfInBounds pre.length v) (by simp at hs ⊢;omega) (by
    intro i hi;rw[Array.getElem?_setIfInBounds];simp at hi;by_cases he:pre.length=i
    · subst he;rw[if_pos rfl,if_pos (by simp at hs;omega)]
      simp
    · rw[if_neg he,hp i (by omega),List.getElem?_append_left (by omega)]) (hB.set_ _ _)
   simp only[List.length_append,List.length_cons,List.length_nil,Nat.zero_add,List.append_assoc,List.singleton_append] at h;exact h
theorem Blk.all {w:World}{g:Nat}{t:TypeId}{cs:Array Value}(hB:Blk w g t cs)(vs:List Value)(hs:vs.length=cs.size):Blk (w.setCells g 0 vs) g t vs.toArray:=by
 have:=Blk.setAll vs [] cs (by simpa using hs.symm) (by intro i hi;simp at hi) hB
 simpa using this
end
end Go.Proofs.YtkkpjbjmhaecjaaGreat
