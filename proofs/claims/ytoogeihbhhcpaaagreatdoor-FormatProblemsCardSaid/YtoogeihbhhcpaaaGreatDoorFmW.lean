/-
  The reference's text of an expression, joined; the small expressions of the law's examples.
-/
import Derived.Test.YtoogeihbhhcpaaaGreatDoorFmS
import Derived.Test.YtoogeihbhhcpaaaGreatDoorFmU
import Derived.Test.YtoogeihbhhcpaaaGreatDoorFmV
set_option linter.unusedVariables false
namespace Go.Proofs.YtoogeihbhhcpaaaGreatDoor
open Go.RowKit Go.Fl Go.Fl.Nm Go.Fl.Fm Go.Fl.Rt
theorem text_at : ∀ f, TextAt f := by
  intro f
  induction f with
  | zero => intro T v w _ hg; exact hg.elim
  | succ f ih =>
    intro T v w hin hg hl
    have hnd := hg.1
    rw [hin.hd, hin.length] at hnd
    rcases node_kinds hnd with h | h | h | h | h | h
    · exact text_k1 f ih T v w hin hg hl h.1
    · exact text_k2 f ih T v w hin hg hl h.1
    · obtain h1 | h1 | h1 | h1 : v.h.kind = 3 ∨ v.h.kind = 4 ∨ v.h.kind = 5 ∨ v.h.kind = 6 := by omega
      · exact text_k3 f ih T v w hin hg hl h1
      · exact text_k4 f ih T v w hin hg hl h1
      · exact text_k5 f ih T v w hin hg hl h1
      · exact text_k6 f ih T v w hin hg hl h1
    · exact text_k7 f ih T v w hin hg hl h.1
    · exact text_k8 f ih T v w hin hg hl h.1
    · exact text_fn f ih T v w hin hg hl ⟨h.1, h.2.1⟩
end Go.Proofs.YtoogeihbhhcpaaaGreatDoor
