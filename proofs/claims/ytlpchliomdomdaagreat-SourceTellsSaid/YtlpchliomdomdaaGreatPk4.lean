import Derived.Test.YtlpchliomdomdaaGreatPk3
import Derived.Lib.Join
import Derived.Lib.Bytealg
namespace Lg
open Go Go.RowKit
set_option linter.unusedVariables false
set_option linter.unusedSimpArgs false
set_option linter.unusedSectionVars false
theorem keep_below {w w':World} (A:Av) (C:Nat→Prop) (h:Below w.heap.size w w') (hA:∀ b off,A b off→b<w.heap.size):Keep w w' A A C:=by
 obtain ⟨h1,h2,h3,h4,h5⟩:=h
 refine ⟨h1,h2,h3,h4,fun b _ hb=>h5 b hb,?_,?_,fun _ _ h=> .inl h,fun _ _ _ _ h=>h⟩
 ·intro b off v _ hc
  have hlt:b<w.heap.size:=World.block_lt_of_cell? w ⟨b,off,none⟩ hc
  rw [cell_of_heap (h5 b hlt)];exact hc
 ·intro b cs T fr hb
  exact ⟨cs,fr,by rw [h5 b (lt_of_heap hb)];exact hb,rfl⟩
end Lg
namespace Lg
open Go Go.RowKit
set_option linter.unusedVariables false
set_option linter.unusedSimpArgs false
set_option linter.unusedSectionVars false
end Lg
