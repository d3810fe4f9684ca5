/- What made of law 13 promises. -/
import Derived.Test.YtaiaoiochbpmfaaGreatSpo
import Derived.Test.YtaiaoiochbpmfaaGreatJn
namespace Go.Proofs.YtaiaoiochbpmfaaGreat
open Go Iv
theorem madeC : MadeC := made13_any
end Go.Proofs.YtaiaoiochbpmfaaGreat
