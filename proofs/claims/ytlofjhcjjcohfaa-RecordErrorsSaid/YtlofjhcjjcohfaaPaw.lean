/- The file of one event. -/
import Derived.Test.YtlofjhcjjcohfaaPfile
namespace Iv
def oneEv : Ev := ⟨0, 2, 0, 0, 0, [], []⟩
def onePln : Pln := ⟨1, [], 1, []⟩
theorem one_err : filesErr [oneEv] 1 onePln = 0 := by decide +kernel
theorem one_len : 10 < (filesOf [oneEv] onePln 0).length := by decide +kernel
end Iv
