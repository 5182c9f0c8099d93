import Derived.Test.YtgcjmhjjpbcfmaaGreatDoorQA
namespace Go.Fl
open Go.RowKit
theorem u8_of_wf{a:Int}(h:(Lit.int .u8 a).wf=true):∃n:Nat,a=(n:Int)∧n<256:=by
 simp[Lit.wf,IntKind.min,IntKind.max,IntKind.signed,IntKind.bits]at h
 exact⟨a.toNat,by omega,by omega⟩
