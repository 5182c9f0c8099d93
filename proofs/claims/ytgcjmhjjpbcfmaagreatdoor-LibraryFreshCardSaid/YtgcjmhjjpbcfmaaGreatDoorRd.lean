import Derived.Test.YtgcjmhjjpbcfmaaGreatDoorQH
namespace Go.Proofs.YtgcjmhjjpbcfmaaGreatDoor
open Go.RowKit Go.Fl Go.Fl.Nm Go.Fl.Fm Go.Fl.Rt
theorem length_data(s:ByteArray):s.data.toList.length=s.size:=rfl
end Go.Proofs.YtgcjmhjjpbcfmaaGreatDoor
namespace Go.Fl.Fm
open Go.Fl.Rt
def rangeT(a b c d:Int):List UInt8:=if a=c∧b=d then textR a b else [91]++textR a b++[44,32]++textR c d++[93]
structure R4 (a b c d:Int):Prop where
  a1: -9223372036854775808≤a
  a2:a≤9223372036854775807
  b1: -9223372036854775808≤b
  b2:b≤9223372036854775807
  c1: -9223372036854775808≤c
  c2:c≤9223372036854775807
  d1: -9223372036854775808≤d
  d2:d≤9223372036854775807
end Go.Fl.Fm
namespace Go.Proofs.YtgcjmhjjpbcfmaaGreatDoor
open Go.RowKit Go.Fl Go.Fl.Nm Go.Fl.Dy Go.Fl.Rt Go.Fl.Fm
