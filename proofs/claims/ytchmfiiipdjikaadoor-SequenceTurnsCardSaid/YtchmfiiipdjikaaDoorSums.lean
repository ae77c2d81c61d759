/- The summaries of the functions that the laws call, each proved by the kernel along its tree of tests. -/
import Derived.Test.YtchmfiiipdjikaaDoorCards
import Derived.Test.YtchmfiiipdjikaaDoorSym14
import Derived.KernelRfl
namespace Go.Proofs.YtchmfiiipdjikaaDoor
open Go.Sym

def symG : List Nat := [(nat_lit 0)]
def symX : List (List SV) := [[(.int .i64 [([], (Int.ofNat (nat_lit 1)))]), (.int .i64 []), (.int .i64 []), (.int .i64 []), (.int .i64 []), (.int .i64 [([], (Int.ofNat (nat_lit 1)))]), (.int .i64 []), (.int .i64 []), (.int .i64 []), (.int .i64 []), (.int .i64 [([], (Int.ofNat (nat_lit 1)))]), (.int .i64 []), (.int .i64 []), (.int .i64 []), (.int .i64 []), (.int .i64 [([], (Int.ofNat (nat_lit 1)))]), (.int .i64 [([], (Int.negSucc (nat_lit 0)))]), (.int .i64 []), (.int .i64 [([], (Int.ofNat (nat_lit 1)))]), (.int .i64 []), (.int .i64 []), (.int .i64 [([], (Int.negSucc (nat_lit 0)))]), (.int .i64 []), (.int .i64 [([], (Int.ofNat (nat_lit 1)))])]]
theorem symMixed : Tryd.prog.follows .mixedOrders = true := by kernel_rfl
theorem symClosed : Closed0 (xOf symX) := closedLit (by kernel_rfl)
def sums0 : List (Nat × Summ) := []
theorem sums0Ok : ∀ g m, sumsOf sums0 g = some m → SumOk Tryd.prog (xOf symX) (gxOf symG) g m := sumsOf_nil
def f54A : List SV := [(.agg [(.int .i64 [([(.var (nat_lit 0))], (Int.ofNat (nat_lit 1)))]), (.int .i64 [([(.var (nat_lit 1))], (Int.ofNat (nat_lit 1)))]), (.int .i64 [([(.var (nat_lit 2))], (Int.ofNat (nat_lit 1)))]), (.int .i64 [([(.var (nat_lit 3))], (Int.ofNat (nat_lit 1)))])]), (.int .i64 [([(.var (nat_lit 4))], (Int.ofNat (nat_lit 1)))])]
def f54K : List IntKind := [.i64, .i64, .i64, .i64, .i64]
def f54T0 : STree := (.test (.le [([], (Int.ofNat (nat_lit 1))), ([(.var (nat_lit 0))], (Int.ofNat (nat_lit 1))), ([(.wrap .i64 (.mul (.lit (Int.negSucc (nat_lit 0))) (.var (nat_lit 4))))], (Int.negSucc (nat_lit 0)))])
  (.leaf (.bool false))
  (.test (.le [([], (Int.ofNat (nat_lit 1))), ([(.var (nat_lit 0))], (Int.negSucc (nat_lit 0))), ([(.var (nat_lit 4))], (Int.ofNat (nat_lit 1)))])
  (.leaf (.bool false))
  (.test (.le [([], (Int.ofNat (nat_lit 1))), ([(.var (nat_lit 1))], (Int.ofNat (nat_lit 1))), ([(.wrap .i64 (.mul (.lit (Int.negSucc (nat_lit 0))) (.var (nat_lit 4))))], (Int.negSucc (nat_lit 0)))])
  (.leaf (.bool false))
  (.test (.le [([], (Int.ofNat (nat_lit 1))), ([(.var (nat_lit 1))], (Int.negSucc (nat_lit 0))), ([(.var (nat_lit 4))], (Int.ofNat (nat_lit 1)))])
  (.leaf (.bool false))
  (.test (.le [([], (Int.ofNat (nat_lit 1))), ([(.var (nat_lit 2))], (Int.ofNat (nat_lit 1))), ([(.wrap .i64 (.mul (.lit (Int.negSucc (nat_lit 0))) (.var (nat_lit 4))))], (Int.negSucc (nat_lit 0)))])
  (.leaf (.bool false))
  (.test (.le [([], (Int.ofNat (nat_lit 1))), ([(.var (nat_lit 2))], (Int.negSucc (nat_lit 0))), ([(.var (nat_lit 4))], (Int.ofNat (nat_lit 1)))])
  (.leaf (.bool false))
  (.test (.le [([], (Int.ofNat (nat_lit 1))), ([(.var (nat_lit 3))], (Int.ofNat (nat_lit 1))), ([(.wrap .i64 (.mul (.lit (Int.negSucc (nat_lit 0))) (.var (nat_lit 4))))], (Int.negSucc (nat_lit 0)))])
  (.leaf (.bool false))
  (.test (.le [([], (Int.ofNat (nat_lit 1))), ([(.var (nat_lit 3))], (Int.negSucc (nat_lit 0))), ([(.var (nat_lit 4))], (Int.ofNat (nat_lit 1)))])
  (.leaf (.bool false))
  (.leaf (.bool true))))))))))
theorem f54C0 : checkT Tryd.prog (xOf symX) (gxOf symG) (sumsOf sums0) 10000 54 f54A f54T0 (facts0 f54K) = true := by kernel_rfl
def f54M : Summ := ⟨f54A, f54K, f54T0⟩
theorem f54Ok : SumOk Tryd.prog (xOf symX) (gxOf symG) 54 f54M := sumOk_of symMixed symClosed sums0Ok f54C0
def sums54 : List (Nat × Summ) := (54, f54M) :: sums0
theorem sums54Ok : ∀ g m, sumsOf sums54 g = some m → SumOk Tryd.prog (xOf symX) (gxOf symG) g m := sumsOf_ok f54Ok sums0Ok
def f55A : List SV := [(.agg [(.int .i64 [([(.var (nat_lit 0))], (Int.ofNat (nat_lit 1)))]), (.int .i64 [([(.var (nat_lit 1))], (Int.ofNat (nat_lit 1)))]), (.int .i64 [([(.var (nat_lit 2))], (Int.ofNat (nat_lit 1)))]), (.int .i64 [([(.var (nat_lit 3))], (Int.ofNat (nat_lit 1)))])])]
def f55K : List IntKind := [.i64, .i64, .i64, .i64]
def f55T0 : STree := (.test (.le [([], (Int.ofNat (nat_lit 576460752303423489))), ([(.var (nat_lit 0))], (Int.ofNat (nat_lit 1)))])
  (.leaf (.tuple [(.agg [(.int .i64 []), (.int .i64 []), (.int .i64 []), (.int .i64 [])]), (.int .i64 [([], (Int.ofNat (nat_lit 2)))])]))
  (.test (.le [([], (Int.ofNat (nat_lit 576460752303423489))), ([(.var (nat_lit 0))], (Int.negSucc (nat_lit 0)))])
  (.leaf (.tuple [(.agg [(.int .i64 []), (.int .i64 []), (.int .i64 []), (.int .i64 [])]), (.int .i64 [([], (Int.ofNat (nat_lit 2)))])]))
  (.test (.le [([], (Int.ofNat (nat_lit 576460752303423489))), ([(.var (nat_lit 1))], (Int.ofNat (nat_lit 1)))])
  (.leaf (.tuple [(.agg [(.int .i64 []), (.int .i64 []), (.int .i64 []), (.int .i64 [])]), (.int .i64 [([], (Int.ofNat (nat_lit 2)))])]))
  (.test (.le [([], (Int.ofNat (nat_lit 576460752303423489))), ([(.var (nat_lit 1))], (Int.negSucc (nat_lit 0)))])
  (.leaf (.tuple [(.agg [(.int .i64 []), (.int .i64 []), (.int .i64 []), (.int .i64 [])]), (.int .i64 [([], (Int.ofNat (nat_lit 2)))])]))
  (.test (.le [([], (Int.ofNat (nat_lit 576460752303423489))), ([(.var (nat_lit 2))], (Int.ofNat (nat_lit 1)))])
  (.leaf (.tuple [(.agg [(.int .i64 []), (.int .i64 []), (.int .i64 []), (.int .i64 [])]), (.int .i64 [([], (Int.ofNat (nat_lit 2)))])]))
  (.test (.le [([], (Int.ofNat (nat_lit 576460752303423489))), ([(.var (nat_lit 2))], (Int.negSucc (nat_lit 0)))])
  (.leaf (.tuple [(.agg [(.int .i64 []), (.int .i64 []), (.int .i64 []), (.int .i64 [])]), (.int .i64 [([], (Int.ofNat (nat_lit 2)))])]))
  (.test (.le [([], (Int.ofNat (nat_lit 576460752303423489))), ([(.var (nat_lit 3))], (Int.ofNat (nat_lit 1)))])
  (.leaf (.tuple [(.agg [(.int .i64 []), (.int .i64 []), (.int .i64 []), (.int .i64 [])]), (.int .i64 [([], (Int.ofNat (nat_lit 2)))])]))
  (.test (.le [([], (Int.ofNat (nat_lit 576460752303423489))), ([(.var (nat_lit 3))], (Int.negSucc (nat_lit 0)))])
  (.leaf (.tuple [(.agg [(.int .i64 []), (.int .i64 []), (.int .i64 []), (.int .i64 [])]), (.int .i64 [([], (Int.ofNat (nat_lit 2)))])]))
  (.leaf (.tuple [(.agg [(.int .i64 [([(.var (nat_lit 0))], (Int.ofNat (nat_lit 1)))]), (.int .i64 [([(.var (nat_lit 1))], (Int.ofNat (nat_lit 1)))]), (.int .i64 [([(.var (nat_lit 2))], (Int.ofNat (nat_lit 1)))]), (.int .i64 [([(.var (nat_lit 3))], (Int.ofNat (nat_lit 1)))])]), (.int .i64 [])]))))))))))
theorem f55C0 : checkT Tryd.prog (xOf symX) (gxOf symG) (sumsOf sums54) 10000 55 f55A f55T0 (facts0 f55K) = true := by kernel_rfl
def f55M : Summ := ⟨f55A, f55K, f55T0⟩
theorem f55Ok : SumOk Tryd.prog (xOf symX) (gxOf symG) 55 f55M := sumOk_of symMixed symClosed sums54Ok f55C0
def sums55 : List (Nat × Summ) := (55, f55M) :: sums54
theorem sums55Ok : ∀ g m, sumsOf sums55 g = some m → SumOk Tryd.prog (xOf symX) (gxOf symG) g m := sumsOf_ok f55Ok sums54Ok
def f56A : List SV := [(.agg [(.int .i64 [([(.var (nat_lit 0))], (Int.ofNat (nat_lit 1)))]), (.int .i64 [([(.var (nat_lit 1))], (Int.ofNat (nat_lit 1)))]), (.int .i64 [([(.var (nat_lit 2))], (Int.ofNat (nat_lit 1)))]), (.int .i64 [([(.var (nat_lit 3))], (Int.ofNat (nat_lit 1)))])]), (.int .i64 [([(.var (nat_lit 4))], (Int.ofNat (nat_lit 1)))])]
def f56K : List IntKind := [.i64, .i64, .i64, .i64, .i64]
def f56T0 : STree := (.test (.le [([], (Int.ofNat (nat_lit 1))), ([(.var (nat_lit 0))], (Int.ofNat (nat_lit 1))), ([(.wrap .i64 (.mul (.lit (Int.negSucc (nat_lit 0))) (.var (nat_lit 4))))], (Int.negSucc (nat_lit 0)))])
  (.leaf (.bool false))
  (.test (.le [([], (Int.ofNat (nat_lit 1))), ([(.var (nat_lit 0))], (Int.negSucc (nat_lit 0))), ([(.var (nat_lit 4))], (Int.ofNat (nat_lit 1)))])
  (.leaf (.bool false))
  (.test (.le [([], (Int.ofNat (nat_lit 1))), ([(.var (nat_lit 1))], (Int.ofNat (nat_lit 1))), ([(.wrap .i64 (.mul (.lit (Int.negSucc (nat_lit 0))) (.var (nat_lit 4))))], (Int.negSucc (nat_lit 0)))])
  (.leaf (.bool false))
  (.test (.le [([], (Int.ofNat (nat_lit 1))), ([(.var (nat_lit 1))], (Int.negSucc (nat_lit 0))), ([(.var (nat_lit 4))], (Int.ofNat (nat_lit 1)))])
  (.leaf (.bool false))
  (.test (.le [([], (Int.ofNat (nat_lit 1))), ([(.var (nat_lit 2))], (Int.ofNat (nat_lit 1))), ([(.wrap .i64 (.mul (.lit (Int.negSucc (nat_lit 0))) (.var (nat_lit 4))))], (Int.negSucc (nat_lit 0)))])
  (.leaf (.bool false))
  (.test (.le [([], (Int.ofNat (nat_lit 1))), ([(.var (nat_lit 2))], (Int.negSucc (nat_lit 0))), ([(.var (nat_lit 4))], (Int.ofNat (nat_lit 1)))])
  (.leaf (.bool false))
  (.test (.le [([], (Int.ofNat (nat_lit 1))), ([(.var (nat_lit 3))], (Int.ofNat (nat_lit 1))), ([(.wrap .i64 (.mul (.lit (Int.negSucc (nat_lit 0))) (.var (nat_lit 4))))], (Int.negSucc (nat_lit 0)))])
  (.leaf (.bool false))
  (.test (.le [([], (Int.ofNat (nat_lit 1))), ([(.var (nat_lit 3))], (Int.negSucc (nat_lit 0))), ([(.var (nat_lit 4))], (Int.ofNat (nat_lit 1)))])
  (.leaf (.bool false))
  (.leaf (.bool true))))))))))
theorem f56C0 : checkT Tryd.prog (xOf symX) (gxOf symG) (sumsOf sums55) 10000 56 f56A f56T0 (facts0 f56K) = true := by kernel_rfl
def f56M : Summ := ⟨f56A, f56K, f56T0⟩
theorem f56Ok : SumOk Tryd.prog (xOf symX) (gxOf symG) 56 f56M := sumOk_of symMixed symClosed sums55Ok f56C0
def sums56 : List (Nat × Summ) := (56, f56M) :: sums55
theorem sums56Ok : ∀ g m, sumsOf sums56 g = some m → SumOk Tryd.prog (xOf symX) (gxOf symG) g m := sumsOf_ok f56Ok sums55Ok
def f57A : List SV := [(.agg [(.int .i64 [([(.var (nat_lit 0))], (Int.ofNat (nat_lit 1)))]), (.int .i64 [([(.var (nat_lit 1))], (Int.ofNat (nat_lit 1)))]), (.int .i64 [([(.var (nat_lit 2))], (Int.ofNat (nat_lit 1)))]), (.int .i64 [([(.var (nat_lit 3))], (Int.ofNat (nat_lit 1)))])])]
def f57K : List IntKind := [.i64, .i64, .i64, .i64]
def f57T0 : STree := (.test (.le [([], (Int.ofNat (nat_lit 576460752303423489))), ([(.var (nat_lit 0))], (Int.ofNat (nat_lit 1)))])
  (.leaf (.tuple [(.agg [(.int .i64 []), (.int .i64 []), (.int .i64 []), (.int .i64 [])]), (.int .i64 [([], (Int.ofNat (nat_lit 2)))])]))
  (.test (.le [([], (Int.ofNat (nat_lit 576460752303423489))), ([(.var (nat_lit 0))], (Int.negSucc (nat_lit 0)))])
  (.leaf (.tuple [(.agg [(.int .i64 []), (.int .i64 []), (.int .i64 []), (.int .i64 [])]), (.int .i64 [([], (Int.ofNat (nat_lit 2)))])]))
  (.test (.le [([], (Int.ofNat (nat_lit 576460752303423489))), ([(.var (nat_lit 1))], (Int.ofNat (nat_lit 1)))])
  (.leaf (.tuple [(.agg [(.int .i64 []), (.int .i64 []), (.int .i64 []), (.int .i64 [])]), (.int .i64 [([], (Int.ofNat (nat_lit 2)))])]))
  (.test (.le [([], (Int.ofNat (nat_lit 576460752303423489))), ([(.var (nat_lit 1))], (Int.negSucc (nat_lit 0)))])
  (.leaf (.tuple [(.agg [(.int .i64 []), (.int .i64 []), (.int .i64 []), (.int .i64 [])]), (.int .i64 [([], (Int.ofNat (nat_lit 2)))])]))
  (.test (.le [([], (Int.ofNat (nat_lit 576460752303423489))), ([(.var (nat_lit 2))], (Int.ofNat (nat_lit 1)))])
  (.leaf (.tuple [(.agg [(.int .i64 []), (.int .i64 []), (.int .i64 []), (.int .i64 [])]), (.int .i64 [([], (Int.ofNat (nat_lit 2)))])]))
  (.test (.le [([], (Int.ofNat (nat_lit 576460752303423489))), ([(.var (nat_lit 2))], (Int.negSucc (nat_lit 0)))])
  (.leaf (.tuple [(.agg [(.int .i64 []), (.int .i64 []), (.int .i64 []), (.int .i64 [])]), (.int .i64 [([], (Int.ofNat (nat_lit 2)))])]))
  (.test (.le [([], (Int.ofNat (nat_lit 576460752303423489))), ([(.var (nat_lit 3))], (Int.ofNat (nat_lit 1)))])
  (.leaf (.tuple [(.agg [(.int .i64 []), (.int .i64 []), (.int .i64 []), (.int .i64 [])]), (.int .i64 [([], (Int.ofNat (nat_lit 2)))])]))
  (.test (.le [([], (Int.ofNat (nat_lit 576460752303423489))), ([(.var (nat_lit 3))], (Int.negSucc (nat_lit 0)))])
  (.leaf (.tuple [(.agg [(.int .i64 []), (.int .i64 []), (.int .i64 []), (.int .i64 [])]), (.int .i64 [([], (Int.ofNat (nat_lit 2)))])]))
  (.leaf (.tuple [(.agg [(.int .i64 [([(.var (nat_lit 0))], (Int.ofNat (nat_lit 1)))]), (.int .i64 [([(.var (nat_lit 1))], (Int.ofNat (nat_lit 1)))]), (.int .i64 [([(.var (nat_lit 2))], (Int.ofNat (nat_lit 1)))]), (.int .i64 [([(.var (nat_lit 3))], (Int.ofNat (nat_lit 1)))])]), (.int .i64 [])]))))))))))
theorem f57C0 : checkT Tryd.prog (xOf symX) (gxOf symG) (sumsOf sums56) 10000 57 f57A f57T0 (facts0 f57K) = true := by kernel_rfl
def f57M : Summ := ⟨f57A, f57K, f57T0⟩
theorem f57Ok : SumOk Tryd.prog (xOf symX) (gxOf symG) 57 f57M := sumOk_of symMixed symClosed sums56Ok f57C0
def sums57 : List (Nat × Summ) := (57, f57M) :: sums56
theorem sums57Ok : ∀ g m, sumsOf sums57 g = some m → SumOk Tryd.prog (xOf symX) (gxOf symG) g m := sumsOf_ok f57Ok sums56Ok
def f60A : List SV := [(.agg [(.int .i64 [([(.var (nat_lit 0))], (Int.ofNat (nat_lit 1)))]), (.int .i64 [([(.var (nat_lit 1))], (Int.ofNat (nat_lit 1)))])]), (.int .i64 [([(.var (nat_lit 2))], (Int.ofNat (nat_lit 1)))])]
def f60K : List IntKind := [.i64, .i64, .i64]
def f60T0 : STree := (.test (.le [([], (Int.ofNat (nat_lit 1))), ([(.var (nat_lit 0))], (Int.ofNat (nat_lit 1))), ([(.wrap .i64 (.mul (.lit (Int.negSucc (nat_lit 0))) (.var (nat_lit 2))))], (Int.negSucc (nat_lit 0)))])
  (.leaf (.bool false))
  (.test (.le [([], (Int.ofNat (nat_lit 1))), ([(.var (nat_lit 0))], (Int.negSucc (nat_lit 0))), ([(.var (nat_lit 2))], (Int.ofNat (nat_lit 1)))])
  (.leaf (.bool false))
  (.test (.le [([], (Int.ofNat (nat_lit 1))), ([(.var (nat_lit 1))], (Int.ofNat (nat_lit 1))), ([(.wrap .i64 (.mul (.lit (Int.negSucc (nat_lit 0))) (.var (nat_lit 2))))], (Int.negSucc (nat_lit 0)))])
  (.leaf (.bool false))
  (.test (.le [([], (Int.ofNat (nat_lit 1))), ([(.var (nat_lit 1))], (Int.negSucc (nat_lit 0))), ([(.var (nat_lit 2))], (Int.ofNat (nat_lit 1)))])
  (.leaf (.bool false))
  (.leaf (.bool true))))))
theorem f60C0 : checkT Tryd.prog (xOf symX) (gxOf symG) (sumsOf sums57) 10000 60 f60A f60T0 (facts0 f60K) = true := by kernel_rfl
def f60M : Summ := ⟨f60A, f60K, f60T0⟩
theorem f60Ok : SumOk Tryd.prog (xOf symX) (gxOf symG) 60 f60M := sumOk_of symMixed symClosed sums57Ok f60C0
def sums60 : List (Nat × Summ) := (60, f60M) :: sums57
theorem sums60Ok : ∀ g m, sumsOf sums60 g = some m → SumOk Tryd.prog (xOf symX) (gxOf symG) g m := sumsOf_ok f60Ok sums57Ok
def f20A : List SV := [(.int .i64 [([(.var (nat_lit 0))], (Int.ofNat (nat_lit 1)))])]
def f20K : List IntKind := [.i64]
def f20T0 : STree := (.test (.le [([], (Int.ofNat (nat_lit 6))), ([(.emod (nat_lit 12) (.var (nat_lit 0)))], (Int.negSucc (nat_lit 0)))])
  (.test (.le [([], (Int.negSucc (nat_lit 7))), ([(.emod (nat_lit 12) (.var (nat_lit 0)))], (Int.ofNat (nat_lit 1)))])
  (.test (.le [([], (Int.negSucc (nat_lit 6))), ([(.emod (nat_lit 12) (.var (nat_lit 0)))], (Int.ofNat (nat_lit 1)))])
  (.test (.le [([], (Int.negSucc (nat_lit 5))), ([(.emod (nat_lit 12) (.var (nat_lit 0)))], (Int.ofNat (nat_lit 1)))])
  (.leaf (.agg [(.int .i64 [([], (Int.negSucc (nat_lit 0)))]), (.int .i64 []), (.int .i64 []), (.int .i64 [])]))
  (.leaf (.agg [(.int .i64 []), (.int .i64 [([], (Int.negSucc (nat_lit 0)))]), (.int .i64 []), (.int .i64 [])])))
  (.leaf (.agg [(.int .i64 []), (.int .i64 []), (.int .i64 [([], (Int.negSucc (nat_lit 0)))]), (.int .i64 [])])))
  (.test (.le [([], (Int.negSucc (nat_lit 9))), ([(.emod (nat_lit 12) (.var (nat_lit 0)))], (Int.ofNat (nat_lit 1)))])
  (.test (.le [([], (Int.negSucc (nat_lit 8))), ([(.emod (nat_lit 12) (.var (nat_lit 0)))], (Int.ofNat (nat_lit 1)))])
  (.leaf (.agg [(.int .i64 []), (.int .i64 []), (.int .i64 []), (.int .i64 [([], (Int.negSucc (nat_lit 0)))])]))
  (.leaf (.agg [(.int .i64 [([], (Int.ofNat (nat_lit 1)))]), (.int .i64 []), (.int .i64 [([], (Int.negSucc (nat_lit 0)))]), (.int .i64 [])])))
  (.leaf (.agg [(.int .i64 []), (.int .i64 [([], (Int.ofNat (nat_lit 1)))]), (.int .i64 []), (.int .i64 [([], (Int.negSucc (nat_lit 0)))])]))))
  (.test (.le [([], (Int.negSucc (nat_lit 1))), ([(.emod (nat_lit 12) (.var (nat_lit 0)))], (Int.ofNat (nat_lit 1)))])
  (.test (.le [([], (Int.negSucc (nat_lit 0))), ([(.emod (nat_lit 12) (.var (nat_lit 0)))], (Int.ofNat (nat_lit 1)))])
  (.test (.le [([(.emod (nat_lit 12) (.var (nat_lit 0)))], (Int.ofNat (nat_lit 1)))])
  (.leaf (.agg [(.int .i64 [([], (Int.ofNat (nat_lit 1)))]), (.int .i64 []), (.int .i64 []), (.int .i64 [])]))
  (.leaf (.agg [(.int .i64 []), (.int .i64 [([], (Int.ofNat (nat_lit 1)))]), (.int .i64 []), (.int .i64 [])])))
  (.leaf (.agg [(.int .i64 []), (.int .i64 []), (.int .i64 [([], (Int.ofNat (nat_lit 1)))]), (.int .i64 [])])))
  (.test (.le [([], (Int.negSucc (nat_lit 3))), ([(.emod (nat_lit 12) (.var (nat_lit 0)))], (Int.ofNat (nat_lit 1)))])
  (.test (.le [([], (Int.negSucc (nat_lit 2))), ([(.emod (nat_lit 12) (.var (nat_lit 0)))], (Int.ofNat (nat_lit 1)))])
  (.leaf (.agg [(.int .i64 []), (.int .i64 []), (.int .i64 []), (.int .i64 [([], (Int.ofNat (nat_lit 1)))])]))
  (.leaf (.agg [(.int .i64 [([], (Int.negSucc (nat_lit 0)))]), (.int .i64 []), (.int .i64 [([], (Int.ofNat (nat_lit 1)))]), (.int .i64 [])])))
  (.leaf (.agg [(.int .i64 []), (.int .i64 [([], (Int.negSucc (nat_lit 0)))]), (.int .i64 []), (.int .i64 [([], (Int.ofNat (nat_lit 1)))])])))))
theorem f20C0 : checkT Tryd.prog (xOf symX) (gxOf symG) (sumsOf sums60) 10000 20 f20A f20T0 (facts0 f20K) = true := by kernel_rfl
def f20M : Summ := ⟨f20A, f20K, f20T0⟩
theorem f20Ok : SumOk Tryd.prog (xOf symX) (gxOf symG) 20 f20M := sumOk_of symMixed symClosed sums60Ok f20C0
def sums20 : List (Nat × Summ) := (20, f20M) :: sums60
theorem sums20Ok : ∀ g m, sumsOf sums20 g = some m → SumOk Tryd.prog (xOf symX) (gxOf symG) g m := sumsOf_ok f20Ok sums60Ok
def f76A : List SV := [(.agg [(.int .i64 [([(.var (nat_lit 0))], (Int.ofNat (nat_lit 1)))]), (.int .i64 [([(.var (nat_lit 1))], (Int.ofNat (nat_lit 1)))]), (.int .i64 [([(.var (nat_lit 2))], (Int.ofNat (nat_lit 1)))]), (.int .i64 [([(.var (nat_lit 3))], (Int.ofNat (nat_lit 1)))]), (.int .i64 [([(.var (nat_lit 4))], (Int.ofNat (nat_lit 1)))]), (.int .i64 [([(.var (nat_lit 5))], (Int.ofNat (nat_lit 1)))]), (.int .i64 [([(.var (nat_lit 6))], (Int.ofNat (nat_lit 1)))])])]
def f76K : List IntKind := [.i64, .i64, .i64, .i64, .i64, .i64, .i64]
def f76T0 : STree := (.leaf (.agg [(.int .i64 [([(.wrap .i64 (.add (.mul (.lit (Int.negSucc (nat_lit 0))) (.var (nat_lit 6))) (.wrap .i64 (.add (.var (nat_lit 0)) (.mul (.lit (Int.negSucc (nat_lit 0))) (.var (nat_lit 4)))))))], (Int.ofNat (nat_lit 1)))]), (.int .i64 [([(.wrap .i64 (.add (.var (nat_lit 1)) (.mul (.lit (Int.negSucc (nat_lit 0))) (.var (nat_lit 5)))))], (Int.ofNat (nat_lit 1)))]), (.int .i64 [([(.wrap .i64 (.add (.var (nat_lit 2)) (.var (nat_lit 4))))], (Int.ofNat (nat_lit 1)))]), (.int .i64 [([(.wrap .i64 (.add (.var (nat_lit 3)) (.var (nat_lit 5))))], (Int.ofNat (nat_lit 1)))])]))
theorem f76C0 : checkT Tryd.prog (xOf symX) (gxOf symG) (sumsOf sums20) 10000 76 f76A f76T0 (facts0 f76K) = true := by kernel_rfl
def f76M : Summ := ⟨f76A, f76K, f76T0⟩
theorem f76Ok : SumOk Tryd.prog (xOf symX) (gxOf symG) 76 f76M := sumOk_of symMixed symClosed sums20Ok f76C0
def sums76 : List (Nat × Summ) := (76, f76M) :: sums20
theorem sums76Ok : ∀ g m, sumsOf sums76 g = some m → SumOk Tryd.prog (xOf symX) (gxOf symG) g m := sumsOf_ok f76Ok sums20Ok
def f36A : List SV := [(.int .i64 [([(.var (nat_lit 0))], (Int.ofNat (nat_lit 1)))])]
def f36K : List IntKind := [.i64]
def f36T0 : STree := (.test (.le [([], (Int.ofNat (nat_lit 1))), ([(.rem (.var (nat_lit 0)) (.lit (Int.ofNat (nat_lit 12))))], (Int.ofNat (nat_lit 1)))])
  (.test (.le [([], (Int.negSucc (nat_lit 5))), ([(.rem (.var (nat_lit 0)) (.lit (Int.ofNat (nat_lit 12))))], (Int.negSucc (nat_lit 0)))])
  (.test (.eq [([(.emod (nat_lit 6) (.var (nat_lit 0)))], (Int.ofNat (nat_lit 1)))])
  (.leaf (.agg [(.int .i64 [([], (Int.negSucc (nat_lit 0)))]), (.int .i64 []), (.int .i64 []), (.int .i64 [])]))
  (.test (.eq [([], (Int.negSucc (nat_lit 0))), ([(.emod (nat_lit 6) (.var (nat_lit 0)))], (Int.ofNat (nat_lit 1)))])
  (.leaf (.agg [(.int .i64 []), (.int .i64 [([], (Int.negSucc (nat_lit 0)))]), (.int .i64 []), (.int .i64 [])]))
  (.test (.eq [([], (Int.negSucc (nat_lit 1))), ([(.emod (nat_lit 6) (.var (nat_lit 0)))], (Int.ofNat (nat_lit 1)))])
  (.leaf (.agg [(.int .i64 []), (.int .i64 []), (.int .i64 [([], (Int.negSucc (nat_lit 0)))]), (.int .i64 [])]))
  (.test (.eq [([], (Int.negSucc (nat_lit 2))), ([(.emod (nat_lit 6) (.var (nat_lit 0)))], (Int.ofNat (nat_lit 1)))])
  (.leaf (.agg [(.int .i64 []), (.int .i64 []), (.int .i64 []), (.int .i64 [([], (Int.negSucc (nat_lit 0)))])]))
  (.test (.eq [([], (Int.negSucc (nat_lit 3))), ([(.emod (nat_lit 6) (.var (nat_lit 0)))], (Int.ofNat (nat_lit 1)))])
  (.leaf (.agg [(.int .i64 [([], (Int.ofNat (nat_lit 1)))]), (.int .i64 []), (.int .i64 [([], (Int.negSucc (nat_lit 0)))]), (.int .i64 [])]))
  (.leaf (.agg [(.int .i64 []), (.int .i64 [([], (Int.ofNat (nat_lit 1)))]), (.int .i64 []), (.int .i64 [([], (Int.negSucc (nat_lit 0)))])])))))))
  (.test (.eq [([], (Int.ofNat (nat_lit 11))), ([(.rem (.var (nat_lit 0)) (.lit (Int.ofNat (nat_lit 12))))], (Int.ofNat (nat_lit 1)))])
  (.leaf (.agg [(.int .i64 []), (.int .i64 [([], (Int.ofNat (nat_lit 1)))]), (.int .i64 []), (.int .i64 [])]))
  (.test (.eq [([], (Int.ofNat (nat_lit 10))), ([(.rem (.var (nat_lit 0)) (.lit (Int.ofNat (nat_lit 12))))], (Int.ofNat (nat_lit 1)))])
  (.leaf (.agg [(.int .i64 []), (.int .i64 []), (.int .i64 [([], (Int.ofNat (nat_lit 1)))]), (.int .i64 [])]))
  (.test (.eq [([], (Int.ofNat (nat_lit 9))), ([(.rem (.var (nat_lit 0)) (.lit (Int.ofNat (nat_lit 12))))], (Int.ofNat (nat_lit 1)))])
  (.leaf (.agg [(.int .i64 []), (.int .i64 []), (.int .i64 []), (.int .i64 [([], (Int.ofNat (nat_lit 1)))])]))
  (.test (.eq [([], (Int.ofNat (nat_lit 8))), ([(.rem (.var (nat_lit 0)) (.lit (Int.ofNat (nat_lit 12))))], (Int.ofNat (nat_lit 1)))])
  (.leaf (.agg [(.int .i64 [([], (Int.negSucc (nat_lit 0)))]), (.int .i64 []), (.int .i64 [([], (Int.ofNat (nat_lit 1)))]), (.int .i64 [])]))
  (.leaf (.agg [(.int .i64 []), (.int .i64 [([], (Int.negSucc (nat_lit 0)))]), (.int .i64 []), (.int .i64 [([], (Int.ofNat (nat_lit 1)))])])))))))
  (.test (.le [([], (Int.ofNat (nat_lit 6))), ([(.rem (.var (nat_lit 0)) (.lit (Int.ofNat (nat_lit 12))))], (Int.negSucc (nat_lit 0)))])
  (.test (.eq [([(.emod (nat_lit 6) (.var (nat_lit 0)))], (Int.ofNat (nat_lit 1)))])
  (.leaf (.agg [(.int .i64 [([], (Int.negSucc (nat_lit 0)))]), (.int .i64 []), (.int .i64 []), (.int .i64 [])]))
  (.test (.eq [([], (Int.negSucc (nat_lit 0))), ([(.emod (nat_lit 6) (.var (nat_lit 0)))], (Int.ofNat (nat_lit 1)))])
  (.leaf (.agg [(.int .i64 []), (.int .i64 [([], (Int.negSucc (nat_lit 0)))]), (.int .i64 []), (.int .i64 [])]))
  (.test (.eq [([], (Int.negSucc (nat_lit 1))), ([(.emod (nat_lit 6) (.var (nat_lit 0)))], (Int.ofNat (nat_lit 1)))])
  (.leaf (.agg [(.int .i64 []), (.int .i64 []), (.int .i64 [([], (Int.negSucc (nat_lit 0)))]), (.int .i64 [])]))
  (.test (.eq [([], (Int.negSucc (nat_lit 2))), ([(.emod (nat_lit 6) (.var (nat_lit 0)))], (Int.ofNat (nat_lit 1)))])
  (.leaf (.agg [(.int .i64 []), (.int .i64 []), (.int .i64 []), (.int .i64 [([], (Int.negSucc (nat_lit 0)))])]))
  (.test (.eq [([], (Int.negSucc (nat_lit 3))), ([(.emod (nat_lit 6) (.var (nat_lit 0)))], (Int.ofNat (nat_lit 1)))])
  (.leaf (.agg [(.int .i64 [([], (Int.ofNat (nat_lit 1)))]), (.int .i64 []), (.int .i64 [([], (Int.negSucc (nat_lit 0)))]), (.int .i64 [])]))
  (.leaf (.agg [(.int .i64 []), (.int .i64 [([], (Int.ofNat (nat_lit 1)))]), (.int .i64 []), (.int .i64 [([], (Int.negSucc (nat_lit 0)))])])))))))
  (.test (.eq [([(.rem (.var (nat_lit 0)) (.lit (Int.ofNat (nat_lit 12))))], (Int.ofNat (nat_lit 1)))])
  (.leaf (.agg [(.int .i64 [([], (Int.ofNat (nat_lit 1)))]), (.int .i64 []), (.int .i64 []), (.int .i64 [])]))
  (.test (.eq [([], (Int.negSucc (nat_lit 0))), ([(.rem (.var (nat_lit 0)) (.lit (Int.ofNat (nat_lit 12))))], (Int.ofNat (nat_lit 1)))])
  (.leaf (.agg [(.int .i64 []), (.int .i64 [([], (Int.ofNat (nat_lit 1)))]), (.int .i64 []), (.int .i64 [])]))
  (.test (.eq [([], (Int.negSucc (nat_lit 1))), ([(.rem (.var (nat_lit 0)) (.lit (Int.ofNat (nat_lit 12))))], (Int.ofNat (nat_lit 1)))])
  (.leaf (.agg [(.int .i64 []), (.int .i64 []), (.int .i64 [([], (Int.ofNat (nat_lit 1)))]), (.int .i64 [])]))
  (.test (.eq [([], (Int.negSucc (nat_lit 2))), ([(.rem (.var (nat_lit 0)) (.lit (Int.ofNat (nat_lit 12))))], (Int.ofNat (nat_lit 1)))])
  (.leaf (.agg [(.int .i64 []), (.int .i64 []), (.int .i64 []), (.int .i64 [([], (Int.ofNat (nat_lit 1)))])]))
  (.test (.eq [([], (Int.negSucc (nat_lit 3))), ([(.rem (.var (nat_lit 0)) (.lit (Int.ofNat (nat_lit 12))))], (Int.ofNat (nat_lit 1)))])
  (.leaf (.agg [(.int .i64 [([], (Int.negSucc (nat_lit 0)))]), (.int .i64 []), (.int .i64 [([], (Int.ofNat (nat_lit 1)))]), (.int .i64 [])]))
  (.leaf (.agg [(.int .i64 []), (.int .i64 [([], (Int.negSucc (nat_lit 0)))]), (.int .i64 []), (.int .i64 [([], (Int.ofNat (nat_lit 1)))])])))))))))
theorem f36C0 : checkT Tryd.prog (xOf symX) (gxOf symG) (sumsOf sums76) 10000 36 f36A f36T0 (facts0 f36K) = true := by kernel_rfl
def f36M : Summ := ⟨f36A, f36K, f36T0⟩
theorem f36Ok : SumOk Tryd.prog (xOf symX) (gxOf symG) 36 f36M := sumOk_of symMixed symClosed sums76Ok f36C0
def sums36 : List (Nat × Summ) := (36, f36M) :: sums76
theorem sums36Ok : ∀ g m, sumsOf sums36 g = some m → SumOk Tryd.prog (xOf symX) (gxOf symG) g m := sumsOf_ok f36Ok sums76Ok
def f34A : List SV := [(.agg [(.int .i64 [([(.var (nat_lit 0))], (Int.ofNat (nat_lit 1)))]), (.int .i64 [([(.var (nat_lit 1))], (Int.ofNat (nat_lit 1)))]), (.int .i64 [([(.var (nat_lit 2))], (Int.ofNat (nat_lit 1)))]), (.int .i64 [([(.var (nat_lit 3))], (Int.ofNat (nat_lit 1)))])]), (.agg [(.int .i64 [([(.var (nat_lit 4))], (Int.ofNat (nat_lit 1)))]), (.int .i64 [([(.var (nat_lit 5))], (Int.ofNat (nat_lit 1)))]), (.int .i64 [([(.var (nat_lit 6))], (Int.ofNat (nat_lit 1)))]), (.int .i64 [([(.var (nat_lit 7))], (Int.ofNat (nat_lit 1)))])])]
def f34K : List IntKind := [.i64, .i64, .i64, .i64, .i64, .i64, .i64, .i64]
def f34T0 : STree := (.test (.le [([], (Int.ofNat (nat_lit 576460752303423489))), ([(.var (nat_lit 0))], (Int.ofNat (nat_lit 1)))])
  (.leaf (.tuple [(.agg [(.int .i64 []), (.int .i64 []), (.int .i64 []), (.int .i64 [])]), (.int .i64 [([], (Int.ofNat (nat_lit 1)))])]))
  (.test (.le [([], (Int.ofNat (nat_lit 576460752303423489))), ([(.var (nat_lit 0))], (Int.negSucc (nat_lit 0)))])
  (.leaf (.tuple [(.agg [(.int .i64 []), (.int .i64 []), (.int .i64 []), (.int .i64 [])]), (.int .i64 [([], (Int.ofNat (nat_lit 1)))])]))
  (.test (.le [([], (Int.ofNat (nat_lit 576460752303423489))), ([(.var (nat_lit 1))], (Int.ofNat (nat_lit 1)))])
  (.leaf (.tuple [(.agg [(.int .i64 []), (.int .i64 []), (.int .i64 []), (.int .i64 [])]), (.int .i64 [([], (Int.ofNat (nat_lit 1)))])]))
  (.test (.le [([], (Int.ofNat (nat_lit 576460752303423489))), ([(.var (nat_lit 1))], (Int.negSucc (nat_lit 0)))])
  (.leaf (.tuple [(.agg [(.int .i64 []), (.int .i64 []), (.int .i64 []), (.int .i64 [])]), (.int .i64 [([], (Int.ofNat (nat_lit 1)))])]))
  (.test (.le [([], (Int.ofNat (nat_lit 576460752303423489))), ([(.var (nat_lit 2))], (Int.ofNat (nat_lit 1)))])
  (.leaf (.tuple [(.agg [(.int .i64 []), (.int .i64 []), (.int .i64 []), (.int .i64 [])]), (.int .i64 [([], (Int.ofNat (nat_lit 1)))])]))
  (.test (.le [([], (Int.ofNat (nat_lit 576460752303423489))), ([(.var (nat_lit 2))], (Int.negSucc (nat_lit 0)))])
  (.leaf (.tuple [(.agg [(.int .i64 []), (.int .i64 []), (.int .i64 []), (.int .i64 [])]), (.int .i64 [([], (Int.ofNat (nat_lit 1)))])]))
  (.test (.le [([], (Int.ofNat (nat_lit 576460752303423489))), ([(.var (nat_lit 3))], (Int.ofNat (nat_lit 1)))])
  (.leaf (.tuple [(.agg [(.int .i64 []), (.int .i64 []), (.int .i64 []), (.int .i64 [])]), (.int .i64 [([], (Int.ofNat (nat_lit 1)))])]))
  (.test (.le [([], (Int.ofNat (nat_lit 576460752303423489))), ([(.var (nat_lit 3))], (Int.negSucc (nat_lit 0)))])
  (.leaf (.tuple [(.agg [(.int .i64 []), (.int .i64 []), (.int .i64 []), (.int .i64 [])]), (.int .i64 [([], (Int.ofNat (nat_lit 1)))])]))
  (.test (.le [([], (Int.ofNat (nat_lit 576460752303423489))), ([(.var (nat_lit 4))], (Int.ofNat (nat_lit 1)))])
  (.leaf (.tuple [(.agg [(.int .i64 []), (.int .i64 []), (.int .i64 []), (.int .i64 [])]), (.int .i64 [([], (Int.ofNat (nat_lit 1)))])]))
  (.test (.le [([], (Int.ofNat (nat_lit 576460752303423489))), ([(.var (nat_lit 4))], (Int.negSucc (nat_lit 0)))])
  (.leaf (.tuple [(.agg [(.int .i64 []), (.int .i64 []), (.int .i64 []), (.int .i64 [])]), (.int .i64 [([], (Int.ofNat (nat_lit 1)))])]))
  (.test (.le [([], (Int.ofNat (nat_lit 576460752303423489))), ([(.var (nat_lit 5))], (Int.ofNat (nat_lit 1)))])
  (.leaf (.tuple [(.agg [(.int .i64 []), (.int .i64 []), (.int .i64 []), (.int .i64 [])]), (.int .i64 [([], (Int.ofNat (nat_lit 1)))])]))
  (.test (.le [([], (Int.ofNat (nat_lit 576460752303423489))), ([(.var (nat_lit 5))], (Int.negSucc (nat_lit 0)))])
  (.leaf (.tuple [(.agg [(.int .i64 []), (.int .i64 []), (.int .i64 []), (.int .i64 [])]), (.int .i64 [([], (Int.ofNat (nat_lit 1)))])]))
  (.test (.le [([], (Int.ofNat (nat_lit 576460752303423489))), ([(.var (nat_lit 6))], (Int.ofNat (nat_lit 1)))])
  (.leaf (.tuple [(.agg [(.int .i64 []), (.int .i64 []), (.int .i64 []), (.int .i64 [])]), (.int .i64 [([], (Int.ofNat (nat_lit 1)))])]))
  (.test (.le [([], (Int.ofNat (nat_lit 576460752303423489))), ([(.var (nat_lit 6))], (Int.negSucc (nat_lit 0)))])
  (.leaf (.tuple [(.agg [(.int .i64 []), (.int .i64 []), (.int .i64 []), (.int .i64 [])]), (.int .i64 [([], (Int.ofNat (nat_lit 1)))])]))
  (.test (.le [([], (Int.ofNat (nat_lit 576460752303423489))), ([(.var (nat_lit 7))], (Int.ofNat (nat_lit 1)))])
  (.leaf (.tuple [(.agg [(.int .i64 []), (.int .i64 []), (.int .i64 []), (.int .i64 [])]), (.int .i64 [([], (Int.ofNat (nat_lit 1)))])]))
  (.test (.le [([], (Int.ofNat (nat_lit 576460752303423489))), ([(.var (nat_lit 7))], (Int.negSucc (nat_lit 0)))])
  (.leaf (.tuple [(.agg [(.int .i64 []), (.int .i64 []), (.int .i64 []), (.int .i64 [])]), (.int .i64 [([], (Int.ofNat (nat_lit 1)))])]))
  (.test (.le [([], (Int.ofNat (nat_lit 576460752303423489))), ([(.var (nat_lit 0))], (Int.ofNat (nat_lit 1))), ([(.var (nat_lit 4))], (Int.ofNat (nat_lit 1)))])
  (.leaf (.tuple [(.agg [(.int .i64 []), (.int .i64 []), (.int .i64 []), (.int .i64 [])]), (.int .i64 [([], (Int.ofNat (nat_lit 2)))])]))
  (.test (.le [([], (Int.ofNat (nat_lit 576460752303423489))), ([(.var (nat_lit 0))], (Int.negSucc (nat_lit 0))), ([(.var (nat_lit 4))], (Int.negSucc (nat_lit 0)))])
  (.leaf (.tuple [(.agg [(.int .i64 []), (.int .i64 []), (.int .i64 []), (.int .i64 [])]), (.int .i64 [([], (Int.ofNat (nat_lit 2)))])]))
  (.test (.le [([], (Int.ofNat (nat_lit 576460752303423489))), ([(.var (nat_lit 1))], (Int.ofNat (nat_lit 1))), ([(.var (nat_lit 5))], (Int.ofNat (nat_lit 1)))])
  (.leaf (.tuple [(.agg [(.int .i64 []), (.int .i64 []), (.int .i64 []), (.int .i64 [])]), (.int .i64 [([], (Int.ofNat (nat_lit 2)))])]))
  (.test (.le [([], (Int.ofNat (nat_lit 576460752303423489))), ([(.var (nat_lit 1))], (Int.negSucc (nat_lit 0))), ([(.var (nat_lit 5))], (Int.negSucc (nat_lit 0)))])
  (.leaf (.tuple [(.agg [(.int .i64 []), (.int .i64 []), (.int .i64 []), (.int .i64 [])]), (.int .i64 [([], (Int.ofNat (nat_lit 2)))])]))
  (.test (.le [([], (Int.ofNat (nat_lit 576460752303423489))), ([(.var (nat_lit 2))], (Int.ofNat (nat_lit 1))), ([(.var (nat_lit 6))], (Int.ofNat (nat_lit 1)))])
  (.leaf (.tuple [(.agg [(.int .i64 []), (.int .i64 []), (.int .i64 []), (.int .i64 [])]), (.int .i64 [([], (Int.ofNat (nat_lit 2)))])]))
  (.test (.le [([], (Int.ofNat (nat_lit 576460752303423489))), ([(.var (nat_lit 2))], (Int.negSucc (nat_lit 0))), ([(.var (nat_lit 6))], (Int.negSucc (nat_lit 0)))])
  (.leaf (.tuple [(.agg [(.int .i64 []), (.int .i64 []), (.int .i64 []), (.int .i64 [])]), (.int .i64 [([], (Int.ofNat (nat_lit 2)))])]))
  (.test (.le [([], (Int.ofNat (nat_lit 576460752303423489))), ([(.var (nat_lit 3))], (Int.ofNat (nat_lit 1))), ([(.var (nat_lit 7))], (Int.ofNat (nat_lit 1)))])
  (.leaf (.tuple [(.agg [(.int .i64 []), (.int .i64 []), (.int .i64 []), (.int .i64 [])]), (.int .i64 [([], (Int.ofNat (nat_lit 2)))])]))
  (.test (.le [([], (Int.ofNat (nat_lit 576460752303423489))), ([(.var (nat_lit 3))], (Int.negSucc (nat_lit 0))), ([(.var (nat_lit 7))], (Int.negSucc (nat_lit 0)))])
  (.leaf (.tuple [(.agg [(.int .i64 []), (.int .i64 []), (.int .i64 []), (.int .i64 [])]), (.int .i64 [([], (Int.ofNat (nat_lit 2)))])]))
  (.leaf (.tuple [(.agg [(.int .i64 [([(.var (nat_lit 0))], (Int.ofNat (nat_lit 1))), ([(.var (nat_lit 4))], (Int.ofNat (nat_lit 1)))]), (.int .i64 [([(.var (nat_lit 1))], (Int.ofNat (nat_lit 1))), ([(.var (nat_lit 5))], (Int.ofNat (nat_lit 1)))]), (.int .i64 [([(.var (nat_lit 2))], (Int.ofNat (nat_lit 1))), ([(.var (nat_lit 6))], (Int.ofNat (nat_lit 1)))]), (.int .i64 [([(.var (nat_lit 3))], (Int.ofNat (nat_lit 1))), ([(.var (nat_lit 7))], (Int.ofNat (nat_lit 1)))])]), (.int .i64 [])]))))))))))))))))))))))))))
theorem f34C0 : checkT Tryd.prog (xOf symX) (gxOf symG) (sumsOf sums36) 10000 34 f34A f34T0 (facts0 f34K) = true := by kernel_rfl
def f34M : Summ := ⟨f34A, f34K, f34T0⟩
theorem f34Ok : SumOk Tryd.prog (xOf symX) (gxOf symG) 34 f34M := sumOk_of symMixed symClosed sums36Ok f34C0
def sums34 : List (Nat × Summ) := (34, f34M) :: sums36
theorem sums34Ok : ∀ g m, sumsOf sums34 g = some m → SumOk Tryd.prog (xOf symX) (gxOf symG) g m := sumsOf_ok f34Ok sums36Ok
def f35A : List SV := [(.agg [(.int .i64 [([(.var (nat_lit 0))], (Int.ofNat (nat_lit 1)))]), (.int .i64 [([(.var (nat_lit 1))], (Int.ofNat (nat_lit 1)))]), (.int .i64 [([(.var (nat_lit 2))], (Int.ofNat (nat_lit 1)))]), (.int .i64 [([(.var (nat_lit 3))], (Int.ofNat (nat_lit 1)))])]), (.agg [(.int .i64 [([(.var (nat_lit 4))], (Int.ofNat (nat_lit 1)))]), (.int .i64 [([(.var (nat_lit 5))], (Int.ofNat (nat_lit 1)))]), (.int .i64 [([(.var (nat_lit 6))], (Int.ofNat (nat_lit 1)))]), (.int .i64 [([(.var (nat_lit 7))], (Int.ofNat (nat_lit 1)))])])]
def f35K : List IntKind := [.i64, .i64, .i64, .i64, .i64, .i64, .i64, .i64]
def f35T0 : STree := (.test (.le [([], (Int.ofNat (nat_lit 576460752303423489))), ([(.var (nat_lit 0))], (Int.ofNat (nat_lit 1)))])
  (.leaf (.tuple [(.agg [(.int .i64 []), (.int .i64 []), (.int .i64 []), (.int .i64 [])]), (.int .i64 [([], (Int.ofNat (nat_lit 1)))])]))
  (.test (.le [([], (Int.ofNat (nat_lit 576460752303423489))), ([(.var (nat_lit 0))], (Int.negSucc (nat_lit 0)))])
  (.leaf (.tuple [(.agg [(.int .i64 []), (.int .i64 []), (.int .i64 []), (.int .i64 [])]), (.int .i64 [([], (Int.ofNat (nat_lit 1)))])]))
  (.test (.le [([], (Int.ofNat (nat_lit 576460752303423489))), ([(.var (nat_lit 1))], (Int.ofNat (nat_lit 1)))])
  (.leaf (.tuple [(.agg [(.int .i64 []), (.int .i64 []), (.int .i64 []), (.int .i64 [])]), (.int .i64 [([], (Int.ofNat (nat_lit 1)))])]))
  (.test (.le [([], (Int.ofNat (nat_lit 576460752303423489))), ([(.var (nat_lit 1))], (Int.negSucc (nat_lit 0)))])
  (.leaf (.tuple [(.agg [(.int .i64 []), (.int .i64 []), (.int .i64 []), (.int .i64 [])]), (.int .i64 [([], (Int.ofNat (nat_lit 1)))])]))
  (.test (.le [([], (Int.ofNat (nat_lit 576460752303423489))), ([(.var (nat_lit 2))], (Int.ofNat (nat_lit 1)))])
  (.leaf (.tuple [(.agg [(.int .i64 []), (.int .i64 []), (.int .i64 []), (.int .i64 [])]), (.int .i64 [([], (Int.ofNat (nat_lit 1)))])]))
  (.test (.le [([], (Int.ofNat (nat_lit 576460752303423489))), ([(.var (nat_lit 2))], (Int.negSucc (nat_lit 0)))])
  (.leaf (.tuple [(.agg [(.int .i64 []), (.int .i64 []), (.int .i64 []), (.int .i64 [])]), (.int .i64 [([], (Int.ofNat (nat_lit 1)))])]))
  (.test (.le [([], (Int.ofNat (nat_lit 576460752303423489))), ([(.var (nat_lit 3))], (Int.ofNat (nat_lit 1)))])
  (.leaf (.tuple [(.agg [(.int .i64 []), (.int .i64 []), (.int .i64 []), (.int .i64 [])]), (.int .i64 [([], (Int.ofNat (nat_lit 1)))])]))
  (.test (.le [([], (Int.ofNat (nat_lit 576460752303423489))), ([(.var (nat_lit 3))], (Int.negSucc (nat_lit 0)))])
  (.leaf (.tuple [(.agg [(.int .i64 []), (.int .i64 []), (.int .i64 []), (.int .i64 [])]), (.int .i64 [([], (Int.ofNat (nat_lit 1)))])]))
  (.test (.le [([], (Int.ofNat (nat_lit 576460752303423489))), ([(.var (nat_lit 4))], (Int.ofNat (nat_lit 1)))])
  (.leaf (.tuple [(.agg [(.int .i64 []), (.int .i64 []), (.int .i64 []), (.int .i64 [])]), (.int .i64 [([], (Int.ofNat (nat_lit 1)))])]))
  (.test (.le [([], (Int.ofNat (nat_lit 576460752303423489))), ([(.var (nat_lit 4))], (Int.negSucc (nat_lit 0)))])
  (.leaf (.tuple [(.agg [(.int .i64 []), (.int .i64 []), (.int .i64 []), (.int .i64 [])]), (.int .i64 [([], (Int.ofNat (nat_lit 1)))])]))
  (.test (.le [([], (Int.ofNat (nat_lit 576460752303423489))), ([(.var (nat_lit 5))], (Int.ofNat (nat_lit 1)))])
  (.leaf (.tuple [(.agg [(.int .i64 []), (.int .i64 []), (.int .i64 []), (.int .i64 [])]), (.int .i64 [([], (Int.ofNat (nat_lit 1)))])]))
  (.test (.le [([], (Int.ofNat (nat_lit 576460752303423489))), ([(.var (nat_lit 5))], (Int.negSucc (nat_lit 0)))])
  (.leaf (.tuple [(.agg [(.int .i64 []), (.int .i64 []), (.int .i64 []), (.int .i64 [])]), (.int .i64 [([], (Int.ofNat (nat_lit 1)))])]))
  (.test (.le [([], (Int.ofNat (nat_lit 576460752303423489))), ([(.var (nat_lit 6))], (Int.ofNat (nat_lit 1)))])
  (.leaf (.tuple [(.agg [(.int .i64 []), (.int .i64 []), (.int .i64 []), (.int .i64 [])]), (.int .i64 [([], (Int.ofNat (nat_lit 1)))])]))
  (.test (.le [([], (Int.ofNat (nat_lit 576460752303423489))), ([(.var (nat_lit 6))], (Int.negSucc (nat_lit 0)))])
  (.leaf (.tuple [(.agg [(.int .i64 []), (.int .i64 []), (.int .i64 []), (.int .i64 [])]), (.int .i64 [([], (Int.ofNat (nat_lit 1)))])]))
  (.test (.le [([], (Int.ofNat (nat_lit 576460752303423489))), ([(.var (nat_lit 7))], (Int.ofNat (nat_lit 1)))])
  (.leaf (.tuple [(.agg [(.int .i64 []), (.int .i64 []), (.int .i64 []), (.int .i64 [])]), (.int .i64 [([], (Int.ofNat (nat_lit 1)))])]))
  (.test (.le [([], (Int.ofNat (nat_lit 576460752303423489))), ([(.var (nat_lit 7))], (Int.negSucc (nat_lit 0)))])
  (.leaf (.tuple [(.agg [(.int .i64 []), (.int .i64 []), (.int .i64 []), (.int .i64 [])]), (.int .i64 [([], (Int.ofNat (nat_lit 1)))])]))
  (.test (.le [([], (Int.ofNat (nat_lit 576460752303423489))), ([(.var (nat_lit 0))], (Int.ofNat (nat_lit 1))), ([(.var (nat_lit 4))], (Int.ofNat (nat_lit 1)))])
  (.leaf (.tuple [(.agg [(.int .i64 []), (.int .i64 []), (.int .i64 []), (.int .i64 [])]), (.int .i64 [([], (Int.ofNat (nat_lit 2)))])]))
  (.test (.le [([], (Int.ofNat (nat_lit 576460752303423489))), ([(.var (nat_lit 0))], (Int.negSucc (nat_lit 0))), ([(.var (nat_lit 4))], (Int.negSucc (nat_lit 0)))])
  (.leaf (.tuple [(.agg [(.int .i64 []), (.int .i64 []), (.int .i64 []), (.int .i64 [])]), (.int .i64 [([], (Int.ofNat (nat_lit 2)))])]))
  (.test (.le [([], (Int.ofNat (nat_lit 576460752303423489))), ([(.var (nat_lit 1))], (Int.ofNat (nat_lit 1))), ([(.var (nat_lit 5))], (Int.ofNat (nat_lit 1)))])
  (.leaf (.tuple [(.agg [(.int .i64 []), (.int .i64 []), (.int .i64 []), (.int .i64 [])]), (.int .i64 [([], (Int.ofNat (nat_lit 2)))])]))
  (.test (.le [([], (Int.ofNat (nat_lit 576460752303423489))), ([(.var (nat_lit 1))], (Int.negSucc (nat_lit 0))), ([(.var (nat_lit 5))], (Int.negSucc (nat_lit 0)))])
  (.leaf (.tuple [(.agg [(.int .i64 []), (.int .i64 []), (.int .i64 []), (.int .i64 [])]), (.int .i64 [([], (Int.ofNat (nat_lit 2)))])]))
  (.test (.le [([], (Int.ofNat (nat_lit 576460752303423489))), ([(.var (nat_lit 2))], (Int.ofNat (nat_lit 1))), ([(.var (nat_lit 6))], (Int.ofNat (nat_lit 1)))])
  (.leaf (.tuple [(.agg [(.int .i64 []), (.int .i64 []), (.int .i64 []), (.int .i64 [])]), (.int .i64 [([], (Int.ofNat (nat_lit 2)))])]))
  (.test (.le [([], (Int.ofNat (nat_lit 576460752303423489))), ([(.var (nat_lit 2))], (Int.negSucc (nat_lit 0))), ([(.var (nat_lit 6))], (Int.negSucc (nat_lit 0)))])
  (.leaf (.tuple [(.agg [(.int .i64 []), (.int .i64 []), (.int .i64 []), (.int .i64 [])]), (.int .i64 [([], (Int.ofNat (nat_lit 2)))])]))
  (.test (.le [([], (Int.ofNat (nat_lit 576460752303423489))), ([(.var (nat_lit 3))], (Int.ofNat (nat_lit 1))), ([(.var (nat_lit 7))], (Int.ofNat (nat_lit 1)))])
  (.leaf (.tuple [(.agg [(.int .i64 []), (.int .i64 []), (.int .i64 []), (.int .i64 [])]), (.int .i64 [([], (Int.ofNat (nat_lit 2)))])]))
  (.test (.le [([], (Int.ofNat (nat_lit 576460752303423489))), ([(.var (nat_lit 3))], (Int.negSucc (nat_lit 0))), ([(.var (nat_lit 7))], (Int.negSucc (nat_lit 0)))])
  (.leaf (.tuple [(.agg [(.int .i64 []), (.int .i64 []), (.int .i64 []), (.int .i64 [])]), (.int .i64 [([], (Int.ofNat (nat_lit 2)))])]))
  (.leaf (.tuple [(.agg [(.int .i64 [([(.var (nat_lit 0))], (Int.ofNat (nat_lit 1))), ([(.var (nat_lit 4))], (Int.ofNat (nat_lit 1)))]), (.int .i64 [([(.var (nat_lit 1))], (Int.ofNat (nat_lit 1))), ([(.var (nat_lit 5))], (Int.ofNat (nat_lit 1)))]), (.int .i64 [([(.var (nat_lit 2))], (Int.ofNat (nat_lit 1))), ([(.var (nat_lit 6))], (Int.ofNat (nat_lit 1)))]), (.int .i64 [([(.var (nat_lit 3))], (Int.ofNat (nat_lit 1))), ([(.var (nat_lit 7))], (Int.ofNat (nat_lit 1)))])]), (.int .i64 [])]))))))))))))))))))))))))))
theorem f35C0 : checkT Tryd.prog (xOf symX) (gxOf symG) (sumsOf sums34) 10000 35 f35A f35T0 (facts0 f35K) = true := by kernel_rfl
def f35M : Summ := ⟨f35A, f35K, f35T0⟩
theorem f35Ok : SumOk Tryd.prog (xOf symX) (gxOf symG) 35 f35M := sumOk_of symMixed symClosed sums34Ok f35C0
def sums35 : List (Nat × Summ) := (35, f35M) :: sums34
theorem sums35Ok : ∀ g m, sumsOf sums35 g = some m → SumOk Tryd.prog (xOf symX) (gxOf symG) g m := sumsOf_ok f35Ok sums34Ok
def f32A : List SV := [(.agg [(.int .i64 [([(.var (nat_lit 0))], (Int.ofNat (nat_lit 1)))]), (.int .i64 [([(.var (nat_lit 1))], (Int.ofNat (nat_lit 1)))]), (.int .i64 [([(.var (nat_lit 2))], (Int.ofNat (nat_lit 1)))]), (.int .i64 [([(.var (nat_lit 3))], (Int.ofNat (nat_lit 1)))])]), (.agg [(.int .i64 [([(.var (nat_lit 4))], (Int.ofNat (nat_lit 1)))]), (.int .i64 [([(.var (nat_lit 5))], (Int.ofNat (nat_lit 1)))]), (.int .i64 [([(.var (nat_lit 6))], (Int.ofNat (nat_lit 1)))]), (.int .i64 [([(.var (nat_lit 7))], (Int.ofNat (nat_lit 1)))])])]
def f32K : List IntKind := [.i64, .i64, .i64, .i64, .i64, .i64, .i64, .i64]
def f32T0 : STree := (.test (.le [([], (Int.ofNat (nat_lit 576460752303423489))), ([(.var (nat_lit 0))], (Int.ofNat (nat_lit 1)))])
  (.leaf (.tuple [(.agg [(.int .i64 []), (.int .i64 []), (.int .i64 []), (.int .i64 [])]), (.int .i64 [([], (Int.ofNat (nat_lit 1)))])]))
  (.test (.le [([], (Int.ofNat (nat_lit 576460752303423489))), ([(.var (nat_lit 0))], (Int.negSucc (nat_lit 0)))])
  (.leaf (.tuple [(.agg [(.int .i64 []), (.int .i64 []), (.int .i64 []), (.int .i64 [])]), (.int .i64 [([], (Int.ofNat (nat_lit 1)))])]))
  (.test (.le [([], (Int.ofNat (nat_lit 576460752303423489))), ([(.var (nat_lit 1))], (Int.ofNat (nat_lit 1)))])
  (.leaf (.tuple [(.agg [(.int .i64 []), (.int .i64 []), (.int .i64 []), (.int .i64 [])]), (.int .i64 [([], (Int.ofNat (nat_lit 1)))])]))
  (.test (.le [([], (Int.ofNat (nat_lit 576460752303423489))), ([(.var (nat_lit 1))], (Int.negSucc (nat_lit 0)))])
  (.leaf (.tuple [(.agg [(.int .i64 []), (.int .i64 []), (.int .i64 []), (.int .i64 [])]), (.int .i64 [([], (Int.ofNat (nat_lit 1)))])]))
  (.test (.le [([], (Int.ofNat (nat_lit 576460752303423489))), ([(.var (nat_lit 2))], (Int.ofNat (nat_lit 1)))])
  (.leaf (.tuple [(.agg [(.int .i64 []), (.int .i64 []), (.int .i64 []), (.int .i64 [])]), (.int .i64 [([], (Int.ofNat (nat_lit 1)))])]))
  (.test (.le [([], (Int.ofNat (nat_lit 576460752303423489))), ([(.var (nat_lit 2))], (Int.negSucc (nat_lit 0)))])
  (.leaf (.tuple [(.agg [(.int .i64 []), (.int .i64 []), (.int .i64 []), (.int .i64 [])]), (.int .i64 [([], (Int.ofNat (nat_lit 1)))])]))
  (.test (.le [([], (Int.ofNat (nat_lit 576460752303423489))), ([(.var (nat_lit 3))], (Int.ofNat (nat_lit 1)))])
  (.leaf (.tuple [(.agg [(.int .i64 []), (.int .i64 []), (.int .i64 []), (.int .i64 [])]), (.int .i64 [([], (Int.ofNat (nat_lit 1)))])]))
  (.test (.le [([], (Int.ofNat (nat_lit 576460752303423489))), ([(.var (nat_lit 3))], (Int.negSucc (nat_lit 0)))])
  (.leaf (.tuple [(.agg [(.int .i64 []), (.int .i64 []), (.int .i64 []), (.int .i64 [])]), (.int .i64 [([], (Int.ofNat (nat_lit 1)))])]))
  (.test (.le [([], (Int.ofNat (nat_lit 576460752303423489))), ([(.var (nat_lit 4))], (Int.ofNat (nat_lit 1)))])
  (.leaf (.tuple [(.agg [(.int .i64 []), (.int .i64 []), (.int .i64 []), (.int .i64 [])]), (.int .i64 [([], (Int.ofNat (nat_lit 1)))])]))
  (.test (.le [([], (Int.ofNat (nat_lit 576460752303423489))), ([(.var (nat_lit 4))], (Int.negSucc (nat_lit 0)))])
  (.leaf (.tuple [(.agg [(.int .i64 []), (.int .i64 []), (.int .i64 []), (.int .i64 [])]), (.int .i64 [([], (Int.ofNat (nat_lit 1)))])]))
  (.test (.le [([], (Int.ofNat (nat_lit 576460752303423489))), ([(.var (nat_lit 5))], (Int.ofNat (nat_lit 1)))])
  (.leaf (.tuple [(.agg [(.int .i64 []), (.int .i64 []), (.int .i64 []), (.int .i64 [])]), (.int .i64 [([], (Int.ofNat (nat_lit 1)))])]))
  (.test (.le [([], (Int.ofNat (nat_lit 576460752303423489))), ([(.var (nat_lit 5))], (Int.negSucc (nat_lit 0)))])
  (.leaf (.tuple [(.agg [(.int .i64 []), (.int .i64 []), (.int .i64 []), (.int .i64 [])]), (.int .i64 [([], (Int.ofNat (nat_lit 1)))])]))
  (.test (.le [([], (Int.ofNat (nat_lit 576460752303423489))), ([(.var (nat_lit 6))], (Int.ofNat (nat_lit 1)))])
  (.leaf (.tuple [(.agg [(.int .i64 []), (.int .i64 []), (.int .i64 []), (.int .i64 [])]), (.int .i64 [([], (Int.ofNat (nat_lit 1)))])]))
  (.test (.le [([], (Int.ofNat (nat_lit 576460752303423489))), ([(.var (nat_lit 6))], (Int.negSucc (nat_lit 0)))])
  (.leaf (.tuple [(.agg [(.int .i64 []), (.int .i64 []), (.int .i64 []), (.int .i64 [])]), (.int .i64 [([], (Int.ofNat (nat_lit 1)))])]))
  (.test (.le [([], (Int.ofNat (nat_lit 576460752303423489))), ([(.var (nat_lit 7))], (Int.ofNat (nat_lit 1)))])
  (.leaf (.tuple [(.agg [(.int .i64 []), (.int .i64 []), (.int .i64 []), (.int .i64 [])]), (.int .i64 [([], (Int.ofNat (nat_lit 1)))])]))
  (.test (.le [([], (Int.ofNat (nat_lit 576460752303423489))), ([(.var (nat_lit 7))], (Int.negSucc (nat_lit 0)))])
  (.leaf (.tuple [(.agg [(.int .i64 []), (.int .i64 []), (.int .i64 []), (.int .i64 [])]), (.int .i64 [([], (Int.ofNat (nat_lit 1)))])]))
  (.test (.le [([], (Int.ofNat (nat_lit 576460752303423489))), ([(.var (nat_lit 0))], (Int.ofNat (nat_lit 1))), ([(.var (nat_lit 4))], (Int.negSucc (nat_lit 0)))])
  (.leaf (.tuple [(.agg [(.int .i64 []), (.int .i64 []), (.int .i64 []), (.int .i64 [])]), (.int .i64 [([], (Int.ofNat (nat_lit 2)))])]))
  (.test (.le [([], (Int.ofNat (nat_lit 576460752303423489))), ([(.var (nat_lit 0))], (Int.negSucc (nat_lit 0))), ([(.var (nat_lit 4))], (Int.ofNat (nat_lit 1)))])
  (.leaf (.tuple [(.agg [(.int .i64 []), (.int .i64 []), (.int .i64 []), (.int .i64 [])]), (.int .i64 [([], (Int.ofNat (nat_lit 2)))])]))
  (.test (.le [([], (Int.ofNat (nat_lit 576460752303423489))), ([(.var (nat_lit 1))], (Int.ofNat (nat_lit 1))), ([(.var (nat_lit 5))], (Int.negSucc (nat_lit 0)))])
  (.leaf (.tuple [(.agg [(.int .i64 []), (.int .i64 []), (.int .i64 []), (.int .i64 [])]), (.int .i64 [([], (Int.ofNat (nat_lit 2)))])]))
  (.test (.le [([], (Int.ofNat (nat_lit 576460752303423489))), ([(.var (nat_lit 1))], (Int.negSucc (nat_lit 0))), ([(.var (nat_lit 5))], (Int.ofNat (nat_lit 1)))])
  (.leaf (.tuple [(.agg [(.int .i64 []), (.int .i64 []), (.int .i64 []), (.int .i64 [])]), (.int .i64 [([], (Int.ofNat (nat_lit 2)))])]))
  (.test (.le [([], (Int.ofNat (nat_lit 576460752303423489))), ([(.var (nat_lit 2))], (Int.ofNat (nat_lit 1))), ([(.var (nat_lit 6))], (Int.negSucc (nat_lit 0)))])
  (.leaf (.tuple [(.agg [(.int .i64 []), (.int .i64 []), (.int .i64 []), (.int .i64 [])]), (.int .i64 [([], (Int.ofNat (nat_lit 2)))])]))
  (.test (.le [([], (Int.ofNat (nat_lit 576460752303423489))), ([(.var (nat_lit 2))], (Int.negSucc (nat_lit 0))), ([(.var (nat_lit 6))], (Int.ofNat (nat_lit 1)))])
  (.leaf (.tuple [(.agg [(.int .i64 []), (.int .i64 []), (.int .i64 []), (.int .i64 [])]), (.int .i64 [([], (Int.ofNat (nat_lit 2)))])]))
  (.test (.le [([], (Int.ofNat (nat_lit 576460752303423489))), ([(.var (nat_lit 3))], (Int.ofNat (nat_lit 1))), ([(.var (nat_lit 7))], (Int.negSucc (nat_lit 0)))])
  (.leaf (.tuple [(.agg [(.int .i64 []), (.int .i64 []), (.int .i64 []), (.int .i64 [])]), (.int .i64 [([], (Int.ofNat (nat_lit 2)))])]))
  (.test (.le [([], (Int.ofNat (nat_lit 576460752303423489))), ([(.var (nat_lit 3))], (Int.negSucc (nat_lit 0))), ([(.var (nat_lit 7))], (Int.ofNat (nat_lit 1)))])
  (.leaf (.tuple [(.agg [(.int .i64 []), (.int .i64 []), (.int .i64 []), (.int .i64 [])]), (.int .i64 [([], (Int.ofNat (nat_lit 2)))])]))
  (.leaf (.tuple [(.agg [(.int .i64 [([(.var (nat_lit 0))], (Int.ofNat (nat_lit 1))), ([(.var (nat_lit 4))], (Int.negSucc (nat_lit 0)))]), (.int .i64 [([(.var (nat_lit 1))], (Int.ofNat (nat_lit 1))), ([(.var (nat_lit 5))], (Int.negSucc (nat_lit 0)))]), (.int .i64 [([(.var (nat_lit 2))], (Int.ofNat (nat_lit 1))), ([(.var (nat_lit 6))], (Int.negSucc (nat_lit 0)))]), (.int .i64 [([(.var (nat_lit 3))], (Int.ofNat (nat_lit 1))), ([(.var (nat_lit 7))], (Int.negSucc (nat_lit 0)))])]), (.int .i64 [])]))))))))))))))))))))))))))
theorem f32C0 : checkT Tryd.prog (xOf symX) (gxOf symG) (sumsOf sums35) 10000 32 f32A f32T0 (facts0 f32K) = true := by kernel_rfl
def f32M : Summ := ⟨f32A, f32K, f32T0⟩
theorem f32Ok : SumOk Tryd.prog (xOf symX) (gxOf symG) 32 f32M := sumOk_of symMixed symClosed sums35Ok f32C0
def sums32 : List (Nat × Summ) := (32, f32M) :: sums35
theorem sums32Ok : ∀ g m, sumsOf sums32 g = some m → SumOk Tryd.prog (xOf symX) (gxOf symG) g m := sumsOf_ok f32Ok sums35Ok
def f37A : List SV := [(.agg [(.int .i64 [([(.var (nat_lit 0))], (Int.ofNat (nat_lit 1)))]), (.int .i64 [([(.var (nat_lit 1))], (Int.ofNat (nat_lit 1)))]), (.int .i64 [([(.var (nat_lit 2))], (Int.ofNat (nat_lit 1)))]), (.int .i64 [([(.var (nat_lit 3))], (Int.ofNat (nat_lit 1)))])]), (.agg [(.int .i64 [([(.var (nat_lit 4))], (Int.ofNat (nat_lit 1)))]), (.int .i64 [([(.var (nat_lit 5))], (Int.ofNat (nat_lit 1)))]), (.int .i64 [([(.var (nat_lit 6))], (Int.ofNat (nat_lit 1)))]), (.int .i64 [([(.var (nat_lit 7))], (Int.ofNat (nat_lit 1)))])])]
def f37K : List IntKind := [.i64, .i64, .i64, .i64, .i64, .i64, .i64, .i64]
def f37T0 : STree := (.test (.le [([], (Int.ofNat (nat_lit 576460752303423489))), ([(.var (nat_lit 0))], (Int.ofNat (nat_lit 1)))])
  (.leaf (.tuple [(.agg [(.int .i64 []), (.int .i64 []), (.int .i64 []), (.int .i64 [])]), (.int .i64 [([], (Int.ofNat (nat_lit 1)))])]))
  (.test (.le [([], (Int.ofNat (nat_lit 576460752303423489))), ([(.var (nat_lit 0))], (Int.negSucc (nat_lit 0)))])
  (.leaf (.tuple [(.agg [(.int .i64 []), (.int .i64 []), (.int .i64 []), (.int .i64 [])]), (.int .i64 [([], (Int.ofNat (nat_lit 1)))])]))
  (.test (.le [([], (Int.ofNat (nat_lit 576460752303423489))), ([(.var (nat_lit 1))], (Int.ofNat (nat_lit 1)))])
  (.leaf (.tuple [(.agg [(.int .i64 []), (.int .i64 []), (.int .i64 []), (.int .i64 [])]), (.int .i64 [([], (Int.ofNat (nat_lit 1)))])]))
  (.test (.le [([], (Int.ofNat (nat_lit 576460752303423489))), ([(.var (nat_lit 1))], (Int.negSucc (nat_lit 0)))])
  (.leaf (.tuple [(.agg [(.int .i64 []), (.int .i64 []), (.int .i64 []), (.int .i64 [])]), (.int .i64 [([], (Int.ofNat (nat_lit 1)))])]))
  (.test (.le [([], (Int.ofNat (nat_lit 576460752303423489))), ([(.var (nat_lit 2))], (Int.ofNat (nat_lit 1)))])
  (.leaf (.tuple [(.agg [(.int .i64 []), (.int .i64 []), (.int .i64 []), (.int .i64 [])]), (.int .i64 [([], (Int.ofNat (nat_lit 1)))])]))
  (.test (.le [([], (Int.ofNat (nat_lit 576460752303423489))), ([(.var (nat_lit 2))], (Int.negSucc (nat_lit 0)))])
  (.leaf (.tuple [(.agg [(.int .i64 []), (.int .i64 []), (.int .i64 []), (.int .i64 [])]), (.int .i64 [([], (Int.ofNat (nat_lit 1)))])]))
  (.test (.le [([], (Int.ofNat (nat_lit 576460752303423489))), ([(.var (nat_lit 3))], (Int.ofNat (nat_lit 1)))])
  (.leaf (.tuple [(.agg [(.int .i64 []), (.int .i64 []), (.int .i64 []), (.int .i64 [])]), (.int .i64 [([], (Int.ofNat (nat_lit 1)))])]))
  (.test (.le [([], (Int.ofNat (nat_lit 576460752303423489))), ([(.var (nat_lit 3))], (Int.negSucc (nat_lit 0)))])
  (.leaf (.tuple [(.agg [(.int .i64 []), (.int .i64 []), (.int .i64 []), (.int .i64 [])]), (.int .i64 [([], (Int.ofNat (nat_lit 1)))])]))
  (.test (.le [([], (Int.ofNat (nat_lit 576460752303423489))), ([(.var (nat_lit 4))], (Int.ofNat (nat_lit 1)))])
  (.leaf (.tuple [(.agg [(.int .i64 []), (.int .i64 []), (.int .i64 []), (.int .i64 [])]), (.int .i64 [([], (Int.ofNat (nat_lit 1)))])]))
  (.test (.le [([], (Int.ofNat (nat_lit 576460752303423489))), ([(.var (nat_lit 4))], (Int.negSucc (nat_lit 0)))])
  (.leaf (.tuple [(.agg [(.int .i64 []), (.int .i64 []), (.int .i64 []), (.int .i64 [])]), (.int .i64 [([], (Int.ofNat (nat_lit 1)))])]))
  (.test (.le [([], (Int.ofNat (nat_lit 576460752303423489))), ([(.var (nat_lit 5))], (Int.ofNat (nat_lit 1)))])
  (.leaf (.tuple [(.agg [(.int .i64 []), (.int .i64 []), (.int .i64 []), (.int .i64 [])]), (.int .i64 [([], (Int.ofNat (nat_lit 1)))])]))
  (.test (.le [([], (Int.ofNat (nat_lit 576460752303423489))), ([(.var (nat_lit 5))], (Int.negSucc (nat_lit 0)))])
  (.leaf (.tuple [(.agg [(.int .i64 []), (.int .i64 []), (.int .i64 []), (.int .i64 [])]), (.int .i64 [([], (Int.ofNat (nat_lit 1)))])]))
  (.test (.le [([], (Int.ofNat (nat_lit 576460752303423489))), ([(.var (nat_lit 6))], (Int.ofNat (nat_lit 1)))])
  (.leaf (.tuple [(.agg [(.int .i64 []), (.int .i64 []), (.int .i64 []), (.int .i64 [])]), (.int .i64 [([], (Int.ofNat (nat_lit 1)))])]))
  (.test (.le [([], (Int.ofNat (nat_lit 576460752303423489))), ([(.var (nat_lit 6))], (Int.negSucc (nat_lit 0)))])
  (.leaf (.tuple [(.agg [(.int .i64 []), (.int .i64 []), (.int .i64 []), (.int .i64 [])]), (.int .i64 [([], (Int.ofNat (nat_lit 1)))])]))
  (.test (.le [([], (Int.ofNat (nat_lit 576460752303423489))), ([(.var (nat_lit 7))], (Int.ofNat (nat_lit 1)))])
  (.leaf (.tuple [(.agg [(.int .i64 []), (.int .i64 []), (.int .i64 []), (.int .i64 [])]), (.int .i64 [([], (Int.ofNat (nat_lit 1)))])]))
  (.test (.le [([], (Int.ofNat (nat_lit 576460752303423489))), ([(.var (nat_lit 7))], (Int.negSucc (nat_lit 0)))])
  (.leaf (.tuple [(.agg [(.int .i64 []), (.int .i64 []), (.int .i64 []), (.int .i64 [])]), (.int .i64 [([], (Int.ofNat (nat_lit 1)))])]))
  (.test (.le [([], (Int.ofNat (nat_lit 576460752303423489))), ([(.var (nat_lit 0))], (Int.ofNat (nat_lit 1))), ([(.var (nat_lit 4))], (Int.negSucc (nat_lit 0)))])
  (.leaf (.tuple [(.agg [(.int .i64 []), (.int .i64 []), (.int .i64 []), (.int .i64 [])]), (.int .i64 [([], (Int.ofNat (nat_lit 2)))])]))
  (.test (.le [([], (Int.ofNat (nat_lit 576460752303423489))), ([(.var (nat_lit 0))], (Int.negSucc (nat_lit 0))), ([(.var (nat_lit 4))], (Int.ofNat (nat_lit 1)))])
  (.leaf (.tuple [(.agg [(.int .i64 []), (.int .i64 []), (.int .i64 []), (.int .i64 [])]), (.int .i64 [([], (Int.ofNat (nat_lit 2)))])]))
  (.test (.le [([], (Int.ofNat (nat_lit 576460752303423489))), ([(.var (nat_lit 1))], (Int.ofNat (nat_lit 1))), ([(.var (nat_lit 5))], (Int.negSucc (nat_lit 0)))])
  (.leaf (.tuple [(.agg [(.int .i64 []), (.int .i64 []), (.int .i64 []), (.int .i64 [])]), (.int .i64 [([], (Int.ofNat (nat_lit 2)))])]))
  (.test (.le [([], (Int.ofNat (nat_lit 576460752303423489))), ([(.var (nat_lit 1))], (Int.negSucc (nat_lit 0))), ([(.var (nat_lit 5))], (Int.ofNat (nat_lit 1)))])
  (.leaf (.tuple [(.agg [(.int .i64 []), (.int .i64 []), (.int .i64 []), (.int .i64 [])]), (.int .i64 [([], (Int.ofNat (nat_lit 2)))])]))
  (.test (.le [([], (Int.ofNat (nat_lit 576460752303423489))), ([(.var (nat_lit 2))], (Int.ofNat (nat_lit 1))), ([(.var (nat_lit 6))], (Int.negSucc (nat_lit 0)))])
  (.leaf (.tuple [(.agg [(.int .i64 []), (.int .i64 []), (.int .i64 []), (.int .i64 [])]), (.int .i64 [([], (Int.ofNat (nat_lit 2)))])]))
  (.test (.le [([], (Int.ofNat (nat_lit 576460752303423489))), ([(.var (nat_lit 2))], (Int.negSucc (nat_lit 0))), ([(.var (nat_lit 6))], (Int.ofNat (nat_lit 1)))])
  (.leaf (.tuple [(.agg [(.int .i64 []), (.int .i64 []), (.int .i64 []), (.int .i64 [])]), (.int .i64 [([], (Int.ofNat (nat_lit 2)))])]))
  (.test (.le [([], (Int.ofNat (nat_lit 576460752303423489))), ([(.var (nat_lit 3))], (Int.ofNat (nat_lit 1))), ([(.var (nat_lit 7))], (Int.negSucc (nat_lit 0)))])
  (.leaf (.tuple [(.agg [(.int .i64 []), (.int .i64 []), (.int .i64 []), (.int .i64 [])]), (.int .i64 [([], (Int.ofNat (nat_lit 2)))])]))
  (.test (.le [([], (Int.ofNat (nat_lit 576460752303423489))), ([(.var (nat_lit 3))], (Int.negSucc (nat_lit 0))), ([(.var (nat_lit 7))], (Int.ofNat (nat_lit 1)))])
  (.leaf (.tuple [(.agg [(.int .i64 []), (.int .i64 []), (.int .i64 []), (.int .i64 [])]), (.int .i64 [([], (Int.ofNat (nat_lit 2)))])]))
  (.leaf (.tuple [(.agg [(.int .i64 [([(.var (nat_lit 0))], (Int.ofNat (nat_lit 1))), ([(.var (nat_lit 4))], (Int.negSucc (nat_lit 0)))]), (.int .i64 [([(.var (nat_lit 1))], (Int.ofNat (nat_lit 1))), ([(.var (nat_lit 5))], (Int.negSucc (nat_lit 0)))]), (.int .i64 [([(.var (nat_lit 2))], (Int.ofNat (nat_lit 1))), ([(.var (nat_lit 6))], (Int.negSucc (nat_lit 0)))]), (.int .i64 [([(.var (nat_lit 3))], (Int.ofNat (nat_lit 1))), ([(.var (nat_lit 7))], (Int.negSucc (nat_lit 0)))])]), (.int .i64 [])]))))))))))))))))))))))))))
theorem f37C0 : checkT Tryd.prog (xOf symX) (gxOf symG) (sumsOf sums32) 10000 37 f37A f37T0 (facts0 f37K) = true := by kernel_rfl
def f37M : Summ := ⟨f37A, f37K, f37T0⟩
theorem f37Ok : SumOk Tryd.prog (xOf symX) (gxOf symG) 37 f37M := sumOk_of symMixed symClosed sums32Ok f37C0
def sums37 : List (Nat × Summ) := (37, f37M) :: sums32
theorem sums37Ok : ∀ g m, sumsOf sums37 g = some m → SumOk Tryd.prog (xOf symX) (gxOf symG) g m := sumsOf_ok f37Ok sums32Ok
def f21A : List SV := [(.agg [(.int .i64 [([(.var (nat_lit 0))], (Int.ofNat (nat_lit 1)))]), (.int .i64 [([(.var (nat_lit 1))], (Int.ofNat (nat_lit 1)))]), (.int .i64 [([(.var (nat_lit 2))], (Int.ofNat (nat_lit 1)))]), (.int .i64 [([(.var (nat_lit 3))], (Int.ofNat (nat_lit 1)))])]), (.agg [(.int .i64 [([(.var (nat_lit 4))], (Int.ofNat (nat_lit 1)))]), (.int .i64 [([(.var (nat_lit 5))], (Int.ofNat (nat_lit 1)))]), (.int .i64 [([(.var (nat_lit 6))], (Int.ofNat (nat_lit 1)))]), (.int .i64 [([(.var (nat_lit 7))], (Int.ofNat (nat_lit 1)))])])]
def f21K : List IntKind := [.i64, .i64, .i64, .i64, .i64, .i64, .i64, .i64]
def f21T0 : STree := (.test (.le [([], (Int.ofNat (nat_lit 268435457))), ([(.var (nat_lit 0))], (Int.ofNat (nat_lit 1)))])
  (.leaf (.tuple [(.agg [(.int .i64 []), (.int .i64 []), (.int .i64 []), (.int .i64 [])]), (.int .i64 [([], (Int.ofNat (nat_lit 1)))])]))
  (.test (.le [([], (Int.ofNat (nat_lit 268435457))), ([(.var (nat_lit 0))], (Int.negSucc (nat_lit 0)))])
  (.leaf (.tuple [(.agg [(.int .i64 []), (.int .i64 []), (.int .i64 []), (.int .i64 [])]), (.int .i64 [([], (Int.ofNat (nat_lit 1)))])]))
  (.test (.le [([], (Int.ofNat (nat_lit 268435457))), ([(.var (nat_lit 1))], (Int.ofNat (nat_lit 1)))])
  (.leaf (.tuple [(.agg [(.int .i64 []), (.int .i64 []), (.int .i64 []), (.int .i64 [])]), (.int .i64 [([], (Int.ofNat (nat_lit 1)))])]))
  (.test (.le [([], (Int.ofNat (nat_lit 268435457))), ([(.var (nat_lit 1))], (Int.negSucc (nat_lit 0)))])
  (.leaf (.tuple [(.agg [(.int .i64 []), (.int .i64 []), (.int .i64 []), (.int .i64 [])]), (.int .i64 [([], (Int.ofNat (nat_lit 1)))])]))
  (.test (.le [([], (Int.ofNat (nat_lit 268435457))), ([(.var (nat_lit 2))], (Int.ofNat (nat_lit 1)))])
  (.leaf (.tuple [(.agg [(.int .i64 []), (.int .i64 []), (.int .i64 []), (.int .i64 [])]), (.int .i64 [([], (Int.ofNat (nat_lit 1)))])]))
  (.test (.le [([], (Int.ofNat (nat_lit 268435457))), ([(.var (nat_lit 2))], (Int.negSucc (nat_lit 0)))])
  (.leaf (.tuple [(.agg [(.int .i64 []), (.int .i64 []), (.int .i64 []), (.int .i64 [])]), (.int .i64 [([], (Int.ofNat (nat_lit 1)))])]))
  (.test (.le [([], (Int.ofNat (nat_lit 268435457))), ([(.var (nat_lit 3))], (Int.ofNat (nat_lit 1)))])
  (.leaf (.tuple [(.agg [(.int .i64 []), (.int .i64 []), (.int .i64 []), (.int .i64 [])]), (.int .i64 [([], (Int.ofNat (nat_lit 1)))])]))
  (.test (.le [([], (Int.ofNat (nat_lit 268435457))), ([(.var (nat_lit 3))], (Int.negSucc (nat_lit 0)))])
  (.leaf (.tuple [(.agg [(.int .i64 []), (.int .i64 []), (.int .i64 []), (.int .i64 [])]), (.int .i64 [([], (Int.ofNat (nat_lit 1)))])]))
  (.test (.le [([], (Int.ofNat (nat_lit 268435457))), ([(.var (nat_lit 4))], (Int.ofNat (nat_lit 1)))])
  (.leaf (.tuple [(.agg [(.int .i64 []), (.int .i64 []), (.int .i64 []), (.int .i64 [])]), (.int .i64 [([], (Int.ofNat (nat_lit 1)))])]))
  (.test (.le [([], (Int.ofNat (nat_lit 268435457))), ([(.var (nat_lit 4))], (Int.negSucc (nat_lit 0)))])
  (.leaf (.tuple [(.agg [(.int .i64 []), (.int .i64 []), (.int .i64 []), (.int .i64 [])]), (.int .i64 [([], (Int.ofNat (nat_lit 1)))])]))
  (.test (.le [([], (Int.ofNat (nat_lit 268435457))), ([(.var (nat_lit 5))], (Int.ofNat (nat_lit 1)))])
  (.leaf (.tuple [(.agg [(.int .i64 []), (.int .i64 []), (.int .i64 []), (.int .i64 [])]), (.int .i64 [([], (Int.ofNat (nat_lit 1)))])]))
  (.test (.le [([], (Int.ofNat (nat_lit 268435457))), ([(.var (nat_lit 5))], (Int.negSucc (nat_lit 0)))])
  (.leaf (.tuple [(.agg [(.int .i64 []), (.int .i64 []), (.int .i64 []), (.int .i64 [])]), (.int .i64 [([], (Int.ofNat (nat_lit 1)))])]))
  (.test (.le [([], (Int.ofNat (nat_lit 268435457))), ([(.var (nat_lit 6))], (Int.ofNat (nat_lit 1)))])
  (.leaf (.tuple [(.agg [(.int .i64 []), (.int .i64 []), (.int .i64 []), (.int .i64 [])]), (.int .i64 [([], (Int.ofNat (nat_lit 1)))])]))
  (.test (.le [([], (Int.ofNat (nat_lit 268435457))), ([(.var (nat_lit 6))], (Int.negSucc (nat_lit 0)))])
  (.leaf (.tuple [(.agg [(.int .i64 []), (.int .i64 []), (.int .i64 []), (.int .i64 [])]), (.int .i64 [([], (Int.ofNat (nat_lit 1)))])]))
  (.test (.le [([], (Int.ofNat (nat_lit 268435457))), ([(.var (nat_lit 7))], (Int.ofNat (nat_lit 1)))])
  (.leaf (.tuple [(.agg [(.int .i64 []), (.int .i64 []), (.int .i64 []), (.int .i64 [])]), (.int .i64 [([], (Int.ofNat (nat_lit 1)))])]))
  (.test (.le [([], (Int.ofNat (nat_lit 268435457))), ([(.var (nat_lit 7))], (Int.negSucc (nat_lit 0)))])
  (.leaf (.tuple [(.agg [(.int .i64 []), (.int .i64 []), (.int .i64 []), (.int .i64 [])]), (.int .i64 [([], (Int.ofNat (nat_lit 1)))])]))
  (.leaf (.tuple [(.agg [(.int .i64 [([(.var (nat_lit 0)), (.var (nat_lit 4))], (Int.ofNat (nat_lit 1))), ([(.var (nat_lit 1)), (.var (nat_lit 7))], (Int.negSucc (nat_lit 0))), ([(.var (nat_lit 2)), (.var (nat_lit 6))], (Int.negSucc (nat_lit 0))), ([(.var (nat_lit 3)), (.var (nat_lit 5))], (Int.negSucc (nat_lit 0))), ([(.var (nat_lit 3)), (.var (nat_lit 7))], (Int.negSucc (nat_lit 0)))]), (.int .i64 [([(.var (nat_lit 0)), (.var (nat_lit 5))], (Int.ofNat (nat_lit 1))), ([(.var (nat_lit 1)), (.var (nat_lit 4))], (Int.ofNat (nat_lit 1))), ([(.var (nat_lit 2)), (.var (nat_lit 7))], (Int.negSucc (nat_lit 0))), ([(.var (nat_lit 3)), (.var (nat_lit 6))], (Int.negSucc (nat_lit 0)))]), (.int .i64 [([(.var (nat_lit 0)), (.var (nat_lit 6))], (Int.ofNat (nat_lit 1))), ([(.var (nat_lit 1)), (.var (nat_lit 5))], (Int.ofNat (nat_lit 1))), ([(.var (nat_lit 1)), (.var (nat_lit 7))], (Int.ofNat (nat_lit 1))), ([(.var (nat_lit 2)), (.var (nat_lit 4))], (Int.ofNat (nat_lit 1))), ([(.var (nat_lit 2)), (.var (nat_lit 6))], (Int.ofNat (nat_lit 1))), ([(.var (nat_lit 3)), (.var (nat_lit 5))], (Int.ofNat (nat_lit 1)))]), (.int .i64 [([(.var (nat_lit 0)), (.var (nat_lit 7))], (Int.ofNat (nat_lit 1))), ([(.var (nat_lit 1)), (.var (nat_lit 6))], (Int.ofNat (nat_lit 1))), ([(.var (nat_lit 2)), (.var (nat_lit 5))], (Int.ofNat (nat_lit 1))), ([(.var (nat_lit 2)), (.var (nat_lit 7))], (Int.ofNat (nat_lit 1))), ([(.var (nat_lit 3)), (.var (nat_lit 4))], (Int.ofNat (nat_lit 1))), ([(.var (nat_lit 3)), (.var (nat_lit 6))], (Int.ofNat (nat_lit 1)))])]), (.int .i64 [])]))))))))))))))))))
theorem f21C0 : checkT Tryd.prog (xOf symX) (gxOf symG) (sumsOf sums37) 10000 21 f21A f21T0 (facts0 f21K) = true := by kernel_rfl
def f21M : Summ := ⟨f21A, f21K, f21T0⟩
theorem f21Ok : SumOk Tryd.prog (xOf symX) (gxOf symG) 21 f21M := sumOk_of symMixed symClosed sums37Ok f21C0
def sums21 : List (Nat × Summ) := (21, f21M) :: sums37
theorem sums21Ok : ∀ g m, sumsOf sums21 g = some m → SumOk Tryd.prog (xOf symX) (gxOf symG) g m := sumsOf_ok f21Ok sums37Ok
def f22A : List SV := [(.agg [(.int .i64 [([(.var (nat_lit 0))], (Int.ofNat (nat_lit 1)))]), (.int .i64 [([(.var (nat_lit 1))], (Int.ofNat (nat_lit 1)))]), (.int .i64 [([(.var (nat_lit 2))], (Int.ofNat (nat_lit 1)))]), (.int .i64 [([(.var (nat_lit 3))], (Int.ofNat (nat_lit 1)))])]), (.agg [(.int .i64 [([(.var (nat_lit 4))], (Int.ofNat (nat_lit 1)))]), (.int .i64 [([(.var (nat_lit 5))], (Int.ofNat (nat_lit 1)))]), (.int .i64 [([(.var (nat_lit 6))], (Int.ofNat (nat_lit 1)))]), (.int .i64 [([(.var (nat_lit 7))], (Int.ofNat (nat_lit 1)))])])]
def f22K : List IntKind := [.i64, .i64, .i64, .i64, .i64, .i64, .i64, .i64]
def f22T0 : STree := (.test (.le [([], (Int.ofNat (nat_lit 268435457))), ([(.var (nat_lit 0))], (Int.ofNat (nat_lit 1)))])
  (.leaf (.tuple [(.agg [(.int .i64 []), (.int .i64 []), (.int .i64 []), (.int .i64 [])]), (.int .i64 [([], (Int.ofNat (nat_lit 1)))])]))
  (.test (.le [([], (Int.ofNat (nat_lit 268435457))), ([(.var (nat_lit 0))], (Int.negSucc (nat_lit 0)))])
  (.leaf (.tuple [(.agg [(.int .i64 []), (.int .i64 []), (.int .i64 []), (.int .i64 [])]), (.int .i64 [([], (Int.ofNat (nat_lit 1)))])]))
  (.test (.le [([], (Int.ofNat (nat_lit 268435457))), ([(.var (nat_lit 1))], (Int.ofNat (nat_lit 1)))])
  (.leaf (.tuple [(.agg [(.int .i64 []), (.int .i64 []), (.int .i64 []), (.int .i64 [])]), (.int .i64 [([], (Int.ofNat (nat_lit 1)))])]))
  (.test (.le [([], (Int.ofNat (nat_lit 268435457))), ([(.var (nat_lit 1))], (Int.negSucc (nat_lit 0)))])
  (.leaf (.tuple [(.agg [(.int .i64 []), (.int .i64 []), (.int .i64 []), (.int .i64 [])]), (.int .i64 [([], (Int.ofNat (nat_lit 1)))])]))
  (.test (.le [([], (Int.ofNat (nat_lit 268435457))), ([(.var (nat_lit 2))], (Int.ofNat (nat_lit 1)))])
  (.leaf (.tuple [(.agg [(.int .i64 []), (.int .i64 []), (.int .i64 []), (.int .i64 [])]), (.int .i64 [([], (Int.ofNat (nat_lit 1)))])]))
  (.test (.le [([], (Int.ofNat (nat_lit 268435457))), ([(.var (nat_lit 2))], (Int.negSucc (nat_lit 0)))])
  (.leaf (.tuple [(.agg [(.int .i64 []), (.int .i64 []), (.int .i64 []), (.int .i64 [])]), (.int .i64 [([], (Int.ofNat (nat_lit 1)))])]))
  (.test (.le [([], (Int.ofNat (nat_lit 268435457))), ([(.var (nat_lit 3))], (Int.ofNat (nat_lit 1)))])
  (.leaf (.tuple [(.agg [(.int .i64 []), (.int .i64 []), (.int .i64 []), (.int .i64 [])]), (.int .i64 [([], (Int.ofNat (nat_lit 1)))])]))
  (.test (.le [([], (Int.ofNat (nat_lit 268435457))), ([(.var (nat_lit 3))], (Int.negSucc (nat_lit 0)))])
  (.leaf (.tuple [(.agg [(.int .i64 []), (.int .i64 []), (.int .i64 []), (.int .i64 [])]), (.int .i64 [([], (Int.ofNat (nat_lit 1)))])]))
  (.test (.le [([], (Int.ofNat (nat_lit 268435457))), ([(.var (nat_lit 4))], (Int.ofNat (nat_lit 1)))])
  (.leaf (.tuple [(.agg [(.int .i64 []), (.int .i64 []), (.int .i64 []), (.int .i64 [])]), (.int .i64 [([], (Int.ofNat (nat_lit 1)))])]))
  (.test (.le [([], (Int.ofNat (nat_lit 268435457))), ([(.var (nat_lit 4))], (Int.negSucc (nat_lit 0)))])
  (.leaf (.tuple [(.agg [(.int .i64 []), (.int .i64 []), (.int .i64 []), (.int .i64 [])]), (.int .i64 [([], (Int.ofNat (nat_lit 1)))])]))
  (.test (.le [([], (Int.ofNat (nat_lit 268435457))), ([(.var (nat_lit 5))], (Int.ofNat (nat_lit 1)))])
  (.leaf (.tuple [(.agg [(.int .i64 []), (.int .i64 []), (.int .i64 []), (.int .i64 [])]), (.int .i64 [([], (Int.ofNat (nat_lit 1)))])]))
  (.test (.le [([], (Int.ofNat (nat_lit 268435457))), ([(.var (nat_lit 5))], (Int.negSucc (nat_lit 0)))])
  (.leaf (.tuple [(.agg [(.int .i64 []), (.int .i64 []), (.int .i64 []), (.int .i64 [])]), (.int .i64 [([], (Int.ofNat (nat_lit 1)))])]))
  (.test (.le [([], (Int.ofNat (nat_lit 268435457))), ([(.var (nat_lit 6))], (Int.ofNat (nat_lit 1)))])
  (.leaf (.tuple [(.agg [(.int .i64 []), (.int .i64 []), (.int .i64 []), (.int .i64 [])]), (.int .i64 [([], (Int.ofNat (nat_lit 1)))])]))
  (.test (.le [([], (Int.ofNat (nat_lit 268435457))), ([(.var (nat_lit 6))], (Int.negSucc (nat_lit 0)))])
  (.leaf (.tuple [(.agg [(.int .i64 []), (.int .i64 []), (.int .i64 []), (.int .i64 [])]), (.int .i64 [([], (Int.ofNat (nat_lit 1)))])]))
  (.test (.le [([], (Int.ofNat (nat_lit 268435457))), ([(.var (nat_lit 7))], (Int.ofNat (nat_lit 1)))])
  (.leaf (.tuple [(.agg [(.int .i64 []), (.int .i64 []), (.int .i64 []), (.int .i64 [])]), (.int .i64 [([], (Int.ofNat (nat_lit 1)))])]))
  (.test (.le [([], (Int.ofNat (nat_lit 268435457))), ([(.var (nat_lit 7))], (Int.negSucc (nat_lit 0)))])
  (.leaf (.tuple [(.agg [(.int .i64 []), (.int .i64 []), (.int .i64 []), (.int .i64 [])]), (.int .i64 [([], (Int.ofNat (nat_lit 1)))])]))
  (.leaf (.tuple [(.agg [(.int .i64 [([(.var (nat_lit 0)), (.var (nat_lit 4))], (Int.ofNat (nat_lit 1))), ([(.var (nat_lit 1)), (.var (nat_lit 7))], (Int.negSucc (nat_lit 0))), ([(.var (nat_lit 2)), (.var (nat_lit 6))], (Int.negSucc (nat_lit 0))), ([(.var (nat_lit 3)), (.var (nat_lit 5))], (Int.negSucc (nat_lit 0))), ([(.var (nat_lit 3)), (.var (nat_lit 7))], (Int.negSucc (nat_lit 0)))]), (.int .i64 [([(.var (nat_lit 0)), (.var (nat_lit 5))], (Int.ofNat (nat_lit 1))), ([(.var (nat_lit 1)), (.var (nat_lit 4))], (Int.ofNat (nat_lit 1))), ([(.var (nat_lit 2)), (.var (nat_lit 7))], (Int.negSucc (nat_lit 0))), ([(.var (nat_lit 3)), (.var (nat_lit 6))], (Int.negSucc (nat_lit 0)))]), (.int .i64 [([(.var (nat_lit 0)), (.var (nat_lit 6))], (Int.ofNat (nat_lit 1))), ([(.var (nat_lit 1)), (.var (nat_lit 5))], (Int.ofNat (nat_lit 1))), ([(.var (nat_lit 1)), (.var (nat_lit 7))], (Int.ofNat (nat_lit 1))), ([(.var (nat_lit 2)), (.var (nat_lit 4))], (Int.ofNat (nat_lit 1))), ([(.var (nat_lit 2)), (.var (nat_lit 6))], (Int.ofNat (nat_lit 1))), ([(.var (nat_lit 3)), (.var (nat_lit 5))], (Int.ofNat (nat_lit 1)))]), (.int .i64 [([(.var (nat_lit 0)), (.var (nat_lit 7))], (Int.ofNat (nat_lit 1))), ([(.var (nat_lit 1)), (.var (nat_lit 6))], (Int.ofNat (nat_lit 1))), ([(.var (nat_lit 2)), (.var (nat_lit 5))], (Int.ofNat (nat_lit 1))), ([(.var (nat_lit 2)), (.var (nat_lit 7))], (Int.ofNat (nat_lit 1))), ([(.var (nat_lit 3)), (.var (nat_lit 4))], (Int.ofNat (nat_lit 1))), ([(.var (nat_lit 3)), (.var (nat_lit 6))], (Int.ofNat (nat_lit 1)))])]), (.int .i64 [])]))))))))))))))))))
theorem f22C0 : checkT Tryd.prog (xOf symX) (gxOf symG) (sumsOf sums21) 10000 22 f22A f22T0 (facts0 f22K) = true := by kernel_rfl
def f22M : Summ := ⟨f22A, f22K, f22T0⟩
theorem f22Ok : SumOk Tryd.prog (xOf symX) (gxOf symG) 22 f22M := sumOk_of symMixed symClosed sums21Ok f22C0
def sums22 : List (Nat × Summ) := (22, f22M) :: sums21
theorem sums22Ok : ∀ g m, sumsOf sums22 g = some m → SumOk Tryd.prog (xOf symX) (gxOf symG) g m := sumsOf_ok f22Ok sums21Ok
def f66A : List SV := [(.agg [(.int .i64 [([(.var (nat_lit 0))], (Int.ofNat (nat_lit 1)))]), (.int .i64 [([(.var (nat_lit 1))], (Int.ofNat (nat_lit 1)))]), (.int .i64 [([(.var (nat_lit 2))], (Int.ofNat (nat_lit 1)))]), (.int .i64 [([(.var (nat_lit 3))], (Int.ofNat (nat_lit 1)))])])]
def f66K : List IntKind := [.i64, .i64, .i64, .i64]
def f66T0 : STree := (.leaf (.agg [(.int .i64 [([(.wrap .i64 (.add (.var (nat_lit 0)) (.var (nat_lit 2))))], (Int.ofNat (nat_lit 1)))]), (.int .i64 [([(.var (nat_lit 1))], (Int.ofNat (nat_lit 1)))]), (.int .i64 [([(.wrap .i64 (.mul (.lit (Int.negSucc (nat_lit 0))) (.var (nat_lit 2))))], (Int.ofNat (nat_lit 1)))]), (.int .i64 [([(.wrap .i64 (.add (.mul (.lit (Int.negSucc (nat_lit 0))) (.var (nat_lit 3))) (.wrap .i64 (.mul (.lit (Int.negSucc (nat_lit 0))) (.var (nat_lit 1))))))], (Int.ofNat (nat_lit 1)))])]))
theorem f66C0 : checkT Tryd.prog (xOf symX) (gxOf symG) (sumsOf sums22) 10000 66 f66A f66T0 (facts0 f66K) = true := by kernel_rfl
def f66M : Summ := ⟨f66A, f66K, f66T0⟩
theorem f66Ok : SumOk Tryd.prog (xOf symX) (gxOf symG) 66 f66M := sumOk_of symMixed symClosed sums22Ok f66C0
def sums66 : List (Nat × Summ) := (66, f66M) :: sums22
theorem sums66Ok : ∀ g m, sumsOf sums66 g = some m → SumOk Tryd.prog (xOf symX) (gxOf symG) g m := sumsOf_ok f66Ok sums22Ok
def f40A : List SV := [(.agg [(.int .i64 [([(.var (nat_lit 0))], (Int.ofNat (nat_lit 1)))]), (.int .i64 [([(.var (nat_lit 1))], (Int.ofNat (nat_lit 1)))]), (.int .i64 [([(.var (nat_lit 2))], (Int.ofNat (nat_lit 1)))]), (.int .i64 [([(.var (nat_lit 3))], (Int.ofNat (nat_lit 1)))])])]
def f40K : List IntKind := [.i64, .i64, .i64, .i64]
def f40T0 : STree := (.test (.le [([], (Int.ofNat (nat_lit 576460752303423489))), ([(.var (nat_lit 0))], (Int.ofNat (nat_lit 1)))])
  (.leaf (.tuple [(.agg [(.int .i64 []), (.int .i64 []), (.int .i64 []), (.int .i64 [])]), (.int .i64 [([], (Int.ofNat (nat_lit 1)))])]))
  (.test (.le [([], (Int.ofNat (nat_lit 576460752303423489))), ([(.var (nat_lit 0))], (Int.negSucc (nat_lit 0)))])
  (.leaf (.tuple [(.agg [(.int .i64 []), (.int .i64 []), (.int .i64 []), (.int .i64 [])]), (.int .i64 [([], (Int.ofNat (nat_lit 1)))])]))
  (.test (.le [([], (Int.ofNat (nat_lit 576460752303423489))), ([(.var (nat_lit 1))], (Int.ofNat (nat_lit 1)))])
  (.leaf (.tuple [(.agg [(.int .i64 []), (.int .i64 []), (.int .i64 []), (.int .i64 [])]), (.int .i64 [([], (Int.ofNat (nat_lit 1)))])]))
  (.test (.le [([], (Int.ofNat (nat_lit 576460752303423489))), ([(.var (nat_lit 1))], (Int.negSucc (nat_lit 0)))])
  (.leaf (.tuple [(.agg [(.int .i64 []), (.int .i64 []), (.int .i64 []), (.int .i64 [])]), (.int .i64 [([], (Int.ofNat (nat_lit 1)))])]))
  (.test (.le [([], (Int.ofNat (nat_lit 576460752303423489))), ([(.var (nat_lit 2))], (Int.ofNat (nat_lit 1)))])
  (.leaf (.tuple [(.agg [(.int .i64 []), (.int .i64 []), (.int .i64 []), (.int .i64 [])]), (.int .i64 [([], (Int.ofNat (nat_lit 1)))])]))
  (.test (.le [([], (Int.ofNat (nat_lit 576460752303423489))), ([(.var (nat_lit 2))], (Int.negSucc (nat_lit 0)))])
  (.leaf (.tuple [(.agg [(.int .i64 []), (.int .i64 []), (.int .i64 []), (.int .i64 [])]), (.int .i64 [([], (Int.ofNat (nat_lit 1)))])]))
  (.test (.le [([], (Int.ofNat (nat_lit 576460752303423489))), ([(.var (nat_lit 3))], (Int.ofNat (nat_lit 1)))])
  (.leaf (.tuple [(.agg [(.int .i64 []), (.int .i64 []), (.int .i64 []), (.int .i64 [])]), (.int .i64 [([], (Int.ofNat (nat_lit 1)))])]))
  (.test (.le [([], (Int.ofNat (nat_lit 576460752303423489))), ([(.var (nat_lit 3))], (Int.negSucc (nat_lit 0)))])
  (.leaf (.tuple [(.agg [(.int .i64 []), (.int .i64 []), (.int .i64 []), (.int .i64 [])]), (.int .i64 [([], (Int.ofNat (nat_lit 1)))])]))
  (.test (.le [([], (Int.ofNat (nat_lit 576460752303423489))), ([(.var (nat_lit 0))], (Int.ofNat (nat_lit 1))), ([(.var (nat_lit 2))], (Int.ofNat (nat_lit 1)))])
  (.leaf (.tuple [(.agg [(.int .i64 []), (.int .i64 []), (.int .i64 []), (.int .i64 [])]), (.int .i64 [([], (Int.ofNat (nat_lit 2)))])]))
  (.test (.le [([], (Int.ofNat (nat_lit 576460752303423489))), ([(.var (nat_lit 0))], (Int.negSucc (nat_lit 0))), ([(.var (nat_lit 2))], (Int.negSucc (nat_lit 0)))])
  (.leaf (.tuple [(.agg [(.int .i64 []), (.int .i64 []), (.int .i64 []), (.int .i64 [])]), (.int .i64 [([], (Int.ofNat (nat_lit 2)))])]))
  (.test (.le [([], (Int.ofNat (nat_lit 576460752303423489))), ([(.var (nat_lit 1))], (Int.negSucc (nat_lit 0))), ([(.var (nat_lit 3))], (Int.negSucc (nat_lit 0)))])
  (.leaf (.tuple [(.agg [(.int .i64 []), (.int .i64 []), (.int .i64 []), (.int .i64 [])]), (.int .i64 [([], (Int.ofNat (nat_lit 2)))])]))
  (.test (.le [([], (Int.ofNat (nat_lit 576460752303423489))), ([(.var (nat_lit 1))], (Int.ofNat (nat_lit 1))), ([(.var (nat_lit 3))], (Int.ofNat (nat_lit 1)))])
  (.leaf (.tuple [(.agg [(.int .i64 []), (.int .i64 []), (.int .i64 []), (.int .i64 [])]), (.int .i64 [([], (Int.ofNat (nat_lit 2)))])]))
  (.leaf (.tuple [(.agg [(.int .i64 [([(.var (nat_lit 0))], (Int.ofNat (nat_lit 1))), ([(.var (nat_lit 2))], (Int.ofNat (nat_lit 1)))]), (.int .i64 [([(.var (nat_lit 1))], (Int.ofNat (nat_lit 1)))]), (.int .i64 [([(.var (nat_lit 2))], (Int.negSucc (nat_lit 0)))]), (.int .i64 [([(.var (nat_lit 1))], (Int.negSucc (nat_lit 0))), ([(.var (nat_lit 3))], (Int.negSucc (nat_lit 0)))])]), (.int .i64 [])]))))))))))))))
theorem f40C0 : checkT Tryd.prog (xOf symX) (gxOf symG) (sumsOf sums66) 10000 40 f40A f40T0 (facts0 f40K) = true := by kernel_rfl
def f40M : Summ := ⟨f40A, f40K, f40T0⟩
theorem f40Ok : SumOk Tryd.prog (xOf symX) (gxOf symG) 40 f40M := sumOk_of symMixed symClosed sums66Ok f40C0
def sums40 : List (Nat × Summ) := (40, f40M) :: sums66
theorem sums40Ok : ∀ g m, sumsOf sums40 g = some m → SumOk Tryd.prog (xOf symX) (gxOf symG) g m := sumsOf_ok f40Ok sums66Ok
def f41A : List SV := [(.agg [(.int .i64 [([(.var (nat_lit 0))], (Int.ofNat (nat_lit 1)))]), (.int .i64 [([(.var (nat_lit 1))], (Int.ofNat (nat_lit 1)))]), (.int .i64 [([(.var (nat_lit 2))], (Int.ofNat (nat_lit 1)))]), (.int .i64 [([(.var (nat_lit 3))], (Int.ofNat (nat_lit 1)))])])]
def f41K : List IntKind := [.i64, .i64, .i64, .i64]
def f41T0 : STree := (.test (.le [([], (Int.ofNat (nat_lit 576460752303423489))), ([(.var (nat_lit 0))], (Int.ofNat (nat_lit 1)))])
  (.leaf (.tuple [(.agg [(.int .i64 []), (.int .i64 []), (.int .i64 []), (.int .i64 [])]), (.int .i64 [([], (Int.ofNat (nat_lit 1)))])]))
  (.test (.le [([], (Int.ofNat (nat_lit 576460752303423489))), ([(.var (nat_lit 0))], (Int.negSucc (nat_lit 0)))])
  (.leaf (.tuple [(.agg [(.int .i64 []), (.int .i64 []), (.int .i64 []), (.int .i64 [])]), (.int .i64 [([], (Int.ofNat (nat_lit 1)))])]))
  (.test (.le [([], (Int.ofNat (nat_lit 576460752303423489))), ([(.var (nat_lit 1))], (Int.ofNat (nat_lit 1)))])
  (.leaf (.tuple [(.agg [(.int .i64 []), (.int .i64 []), (.int .i64 []), (.int .i64 [])]), (.int .i64 [([], (Int.ofNat (nat_lit 1)))])]))
  (.test (.le [([], (Int.ofNat (nat_lit 576460752303423489))), ([(.var (nat_lit 1))], (Int.negSucc (nat_lit 0)))])
  (.leaf (.tuple [(.agg [(.int .i64 []), (.int .i64 []), (.int .i64 []), (.int .i64 [])]), (.int .i64 [([], (Int.ofNat (nat_lit 1)))])]))
  (.test (.le [([], (Int.ofNat (nat_lit 576460752303423489))), ([(.var (nat_lit 2))], (Int.ofNat (nat_lit 1)))])
  (.leaf (.tuple [(.agg [(.int .i64 []), (.int .i64 []), (.int .i64 []), (.int .i64 [])]), (.int .i64 [([], (Int.ofNat (nat_lit 1)))])]))
  (.test (.le [([], (Int.ofNat (nat_lit 576460752303423489))), ([(.var (nat_lit 2))], (Int.negSucc (nat_lit 0)))])
  (.leaf (.tuple [(.agg [(.int .i64 []), (.int .i64 []), (.int .i64 []), (.int .i64 [])]), (.int .i64 [([], (Int.ofNat (nat_lit 1)))])]))
  (.test (.le [([], (Int.ofNat (nat_lit 576460752303423489))), ([(.var (nat_lit 3))], (Int.ofNat (nat_lit 1)))])
  (.leaf (.tuple [(.agg [(.int .i64 []), (.int .i64 []), (.int .i64 []), (.int .i64 [])]), (.int .i64 [([], (Int.ofNat (nat_lit 1)))])]))
  (.test (.le [([], (Int.ofNat (nat_lit 576460752303423489))), ([(.var (nat_lit 3))], (Int.negSucc (nat_lit 0)))])
  (.leaf (.tuple [(.agg [(.int .i64 []), (.int .i64 []), (.int .i64 []), (.int .i64 [])]), (.int .i64 [([], (Int.ofNat (nat_lit 1)))])]))
  (.test (.le [([], (Int.ofNat (nat_lit 576460752303423489))), ([(.var (nat_lit 0))], (Int.ofNat (nat_lit 1))), ([(.var (nat_lit 2))], (Int.ofNat (nat_lit 1)))])
  (.leaf (.tuple [(.agg [(.int .i64 []), (.int .i64 []), (.int .i64 []), (.int .i64 [])]), (.int .i64 [([], (Int.ofNat (nat_lit 2)))])]))
  (.test (.le [([], (Int.ofNat (nat_lit 576460752303423489))), ([(.var (nat_lit 0))], (Int.negSucc (nat_lit 0))), ([(.var (nat_lit 2))], (Int.negSucc (nat_lit 0)))])
  (.leaf (.tuple [(.agg [(.int .i64 []), (.int .i64 []), (.int .i64 []), (.int .i64 [])]), (.int .i64 [([], (Int.ofNat (nat_lit 2)))])]))
  (.test (.le [([], (Int.ofNat (nat_lit 576460752303423489))), ([(.var (nat_lit 1))], (Int.negSucc (nat_lit 0))), ([(.var (nat_lit 3))], (Int.negSucc (nat_lit 0)))])
  (.leaf (.tuple [(.agg [(.int .i64 []), (.int .i64 []), (.int .i64 []), (.int .i64 [])]), (.int .i64 [([], (Int.ofNat (nat_lit 2)))])]))
  (.test (.le [([], (Int.ofNat (nat_lit 576460752303423489))), ([(.var (nat_lit 1))], (Int.ofNat (nat_lit 1))), ([(.var (nat_lit 3))], (Int.ofNat (nat_lit 1)))])
  (.leaf (.tuple [(.agg [(.int .i64 []), (.int .i64 []), (.int .i64 []), (.int .i64 [])]), (.int .i64 [([], (Int.ofNat (nat_lit 2)))])]))
  (.leaf (.tuple [(.agg [(.int .i64 [([(.var (nat_lit 0))], (Int.ofNat (nat_lit 1))), ([(.var (nat_lit 2))], (Int.ofNat (nat_lit 1)))]), (.int .i64 [([(.var (nat_lit 1))], (Int.ofNat (nat_lit 1)))]), (.int .i64 [([(.var (nat_lit 2))], (Int.negSucc (nat_lit 0)))]), (.int .i64 [([(.var (nat_lit 1))], (Int.negSucc (nat_lit 0))), ([(.var (nat_lit 3))], (Int.negSucc (nat_lit 0)))])]), (.int .i64 [])]))))))))))))))
theorem f41C0 : checkT Tryd.prog (xOf symX) (gxOf symG) (sumsOf sums40) 10000 41 f41A f41T0 (facts0 f41K) = true := by kernel_rfl
def f41M : Summ := ⟨f41A, f41K, f41T0⟩
theorem f41Ok : SumOk Tryd.prog (xOf symX) (gxOf symG) 41 f41M := sumOk_of symMixed symClosed sums40Ok f41C0
def sums41 : List (Nat × Summ) := (41, f41M) :: sums40
theorem sums41Ok : ∀ g m, sumsOf sums41 g = some m → SumOk Tryd.prog (xOf symX) (gxOf symG) g m := sumsOf_ok f41Ok sums40Ok
def f33A : List SV := [(.agg [(.int .i64 [([(.var (nat_lit 0))], (Int.ofNat (nat_lit 1)))]), (.int .i64 [([(.var (nat_lit 1))], (Int.ofNat (nat_lit 1)))])]), (.agg [(.int .i64 [([(.var (nat_lit 2))], (Int.ofNat (nat_lit 1)))]), (.int .i64 [([(.var (nat_lit 3))], (Int.ofNat (nat_lit 1)))])])]
def f33K : List IntKind := [.i64, .i64, .i64, .i64]
def f33T0 : STree := (.test (.le [([], (Int.ofNat (nat_lit 1152921504606846977))), ([(.var (nat_lit 0))], (Int.ofNat (nat_lit 1)))])
  (.leaf (.tuple [(.agg [(.int .i64 []), (.int .i64 [])]), (.int .i64 [([], (Int.ofNat (nat_lit 1)))])]))
  (.test (.le [([], (Int.ofNat (nat_lit 1152921504606846977))), ([(.var (nat_lit 0))], (Int.negSucc (nat_lit 0)))])
  (.leaf (.tuple [(.agg [(.int .i64 []), (.int .i64 [])]), (.int .i64 [([], (Int.ofNat (nat_lit 1)))])]))
  (.test (.le [([], (Int.ofNat (nat_lit 1152921504606846977))), ([(.var (nat_lit 1))], (Int.ofNat (nat_lit 1)))])
  (.leaf (.tuple [(.agg [(.int .i64 []), (.int .i64 [])]), (.int .i64 [([], (Int.ofNat (nat_lit 1)))])]))
  (.test (.le [([], (Int.ofNat (nat_lit 1152921504606846977))), ([(.var (nat_lit 1))], (Int.negSucc (nat_lit 0)))])
  (.leaf (.tuple [(.agg [(.int .i64 []), (.int .i64 [])]), (.int .i64 [([], (Int.ofNat (nat_lit 1)))])]))
  (.test (.le [([], (Int.ofNat (nat_lit 1152921504606846977))), ([(.var (nat_lit 2))], (Int.ofNat (nat_lit 1)))])
  (.leaf (.tuple [(.agg [(.int .i64 []), (.int .i64 [])]), (.int .i64 [([], (Int.ofNat (nat_lit 1)))])]))
  (.test (.le [([], (Int.ofNat (nat_lit 1152921504606846977))), ([(.var (nat_lit 2))], (Int.negSucc (nat_lit 0)))])
  (.leaf (.tuple [(.agg [(.int .i64 []), (.int .i64 [])]), (.int .i64 [([], (Int.ofNat (nat_lit 1)))])]))
  (.test (.le [([], (Int.ofNat (nat_lit 1152921504606846977))), ([(.var (nat_lit 3))], (Int.ofNat (nat_lit 1)))])
  (.leaf (.tuple [(.agg [(.int .i64 []), (.int .i64 [])]), (.int .i64 [([], (Int.ofNat (nat_lit 1)))])]))
  (.test (.le [([], (Int.ofNat (nat_lit 1152921504606846977))), ([(.var (nat_lit 3))], (Int.negSucc (nat_lit 0)))])
  (.leaf (.tuple [(.agg [(.int .i64 []), (.int .i64 [])]), (.int .i64 [([], (Int.ofNat (nat_lit 1)))])]))
  (.test (.le [([], (Int.ofNat (nat_lit 1152921504606846977))), ([(.var (nat_lit 0))], (Int.ofNat (nat_lit 1))), ([(.var (nat_lit 2))], (Int.ofNat (nat_lit 1)))])
  (.leaf (.tuple [(.agg [(.int .i64 []), (.int .i64 [])]), (.int .i64 [([], (Int.ofNat (nat_lit 2)))])]))
  (.test (.le [([], (Int.ofNat (nat_lit 1152921504606846977))), ([(.var (nat_lit 0))], (Int.negSucc (nat_lit 0))), ([(.var (nat_lit 2))], (Int.negSucc (nat_lit 0)))])
  (.leaf (.tuple [(.agg [(.int .i64 []), (.int .i64 [])]), (.int .i64 [([], (Int.ofNat (nat_lit 2)))])]))
  (.test (.le [([], (Int.ofNat (nat_lit 1152921504606846977))), ([(.var (nat_lit 1))], (Int.ofNat (nat_lit 1))), ([(.var (nat_lit 3))], (Int.ofNat (nat_lit 1)))])
  (.leaf (.tuple [(.agg [(.int .i64 []), (.int .i64 [])]), (.int .i64 [([], (Int.ofNat (nat_lit 2)))])]))
  (.test (.le [([], (Int.ofNat (nat_lit 1152921504606846977))), ([(.var (nat_lit 1))], (Int.negSucc (nat_lit 0))), ([(.var (nat_lit 3))], (Int.negSucc (nat_lit 0)))])
  (.leaf (.tuple [(.agg [(.int .i64 []), (.int .i64 [])]), (.int .i64 [([], (Int.ofNat (nat_lit 2)))])]))
  (.leaf (.tuple [(.agg [(.int .i64 [([(.var (nat_lit 0))], (Int.ofNat (nat_lit 1))), ([(.var (nat_lit 2))], (Int.ofNat (nat_lit 1)))]), (.int .i64 [([(.var (nat_lit 1))], (Int.ofNat (nat_lit 1))), ([(.var (nat_lit 3))], (Int.ofNat (nat_lit 1)))])]), (.int .i64 [])]))))))))))))))
theorem f33C0 : checkT Tryd.prog (xOf symX) (gxOf symG) (sumsOf sums41) 10000 33 f33A f33T0 (facts0 f33K) = true := by kernel_rfl
def f33M : Summ := ⟨f33A, f33K, f33T0⟩
theorem f33Ok : SumOk Tryd.prog (xOf symX) (gxOf symG) 33 f33M := sumOk_of symMixed symClosed sums41Ok f33C0
def sums33 : List (Nat × Summ) := (33, f33M) :: sums41
theorem sums33Ok : ∀ g m, sumsOf sums33 g = some m → SumOk Tryd.prog (xOf symX) (gxOf symG) g m := sumsOf_ok f33Ok sums41Ok
def f42A : List SV := [(.agg [(.int .i64 [([(.var (nat_lit 0))], (Int.ofNat (nat_lit 1)))]), (.int .i64 [([(.var (nat_lit 1))], (Int.ofNat (nat_lit 1)))])]), (.agg [(.int .i64 [([(.var (nat_lit 2))], (Int.ofNat (nat_lit 1)))]), (.int .i64 [([(.var (nat_lit 3))], (Int.ofNat (nat_lit 1)))])])]
def f42K : List IntKind := [.i64, .i64, .i64, .i64]
def f42T0 : STree := (.test (.le [([], (Int.ofNat (nat_lit 268435457))), ([(.var (nat_lit 0))], (Int.ofNat (nat_lit 1)))])
  (.leaf (.tuple [(.agg [(.int .i64 []), (.int .i64 [])]), (.int .i64 [([], (Int.ofNat (nat_lit 1)))])]))
  (.test (.le [([], (Int.ofNat (nat_lit 268435457))), ([(.var (nat_lit 0))], (Int.negSucc (nat_lit 0)))])
  (.leaf (.tuple [(.agg [(.int .i64 []), (.int .i64 [])]), (.int .i64 [([], (Int.ofNat (nat_lit 1)))])]))
  (.test (.le [([], (Int.ofNat (nat_lit 268435457))), ([(.var (nat_lit 1))], (Int.ofNat (nat_lit 1)))])
  (.leaf (.tuple [(.agg [(.int .i64 []), (.int .i64 [])]), (.int .i64 [([], (Int.ofNat (nat_lit 1)))])]))
  (.test (.le [([], (Int.ofNat (nat_lit 268435457))), ([(.var (nat_lit 1))], (Int.negSucc (nat_lit 0)))])
  (.leaf (.tuple [(.agg [(.int .i64 []), (.int .i64 [])]), (.int .i64 [([], (Int.ofNat (nat_lit 1)))])]))
  (.test (.le [([], (Int.ofNat (nat_lit 268435457))), ([(.var (nat_lit 2))], (Int.ofNat (nat_lit 1)))])
  (.leaf (.tuple [(.agg [(.int .i64 []), (.int .i64 [])]), (.int .i64 [([], (Int.ofNat (nat_lit 1)))])]))
  (.test (.le [([], (Int.ofNat (nat_lit 268435457))), ([(.var (nat_lit 2))], (Int.negSucc (nat_lit 0)))])
  (.leaf (.tuple [(.agg [(.int .i64 []), (.int .i64 [])]), (.int .i64 [([], (Int.ofNat (nat_lit 1)))])]))
  (.test (.le [([], (Int.ofNat (nat_lit 268435457))), ([(.var (nat_lit 3))], (Int.ofNat (nat_lit 1)))])
  (.leaf (.tuple [(.agg [(.int .i64 []), (.int .i64 [])]), (.int .i64 [([], (Int.ofNat (nat_lit 1)))])]))
  (.test (.le [([], (Int.ofNat (nat_lit 268435457))), ([(.var (nat_lit 3))], (Int.negSucc (nat_lit 0)))])
  (.leaf (.tuple [(.agg [(.int .i64 []), (.int .i64 [])]), (.int .i64 [([], (Int.ofNat (nat_lit 1)))])]))
  (.leaf (.tuple [(.agg [(.int .i64 [([(.var (nat_lit 0)), (.var (nat_lit 2))], (Int.ofNat (nat_lit 1))), ([(.var (nat_lit 1)), (.var (nat_lit 3))], (Int.ofNat (nat_lit 3)))]), (.int .i64 [([(.var (nat_lit 0)), (.var (nat_lit 3))], (Int.ofNat (nat_lit 1))), ([(.var (nat_lit 1)), (.var (nat_lit 2))], (Int.ofNat (nat_lit 1)))])]), (.int .i64 [])]))))))))))
theorem f42C0 : checkT Tryd.prog (xOf symX) (gxOf symG) (sumsOf sums33) 10000 42 f42A f42T0 (facts0 f42K) = true := by kernel_rfl
def f42M : Summ := ⟨f42A, f42K, f42T0⟩
theorem f42Ok : SumOk Tryd.prog (xOf symX) (gxOf symG) 42 f42M := sumOk_of symMixed symClosed sums33Ok f42C0
def sums42 : List (Nat × Summ) := (42, f42M) :: sums33
theorem sums42Ok : ∀ g m, sumsOf sums42 g = some m → SumOk Tryd.prog (xOf symX) (gxOf symG) g m := sumsOf_ok f42Ok sums33Ok
def f25A : List SV := [(.agg [(.int .i64 [([(.var (nat_lit 0))], (Int.ofNat (nat_lit 1)))]), (.int .i64 [([(.var (nat_lit 1))], (Int.ofNat (nat_lit 1)))]), (.int .i64 [([(.var (nat_lit 2))], (Int.ofNat (nat_lit 1)))]), (.int .i64 [([(.var (nat_lit 3))], (Int.ofNat (nat_lit 1)))])])]
def f25K : List IntKind := [.i64, .i64, .i64, .i64]
def f25T0 : STree := (.test (.le [([], (Int.ofNat (nat_lit 144115188075855873))), ([(.var (nat_lit 0))], (Int.ofNat (nat_lit 1)))])
  (.leaf (.tuple [(.agg [(.int .i64 []), (.int .i64 [])]), (.int .i64 [([], (Int.ofNat (nat_lit 1)))])]))
  (.test (.le [([], (Int.ofNat (nat_lit 144115188075855873))), ([(.var (nat_lit 0))], (Int.negSucc (nat_lit 0)))])
  (.leaf (.tuple [(.agg [(.int .i64 []), (.int .i64 [])]), (.int .i64 [([], (Int.ofNat (nat_lit 1)))])]))
  (.test (.le [([], (Int.ofNat (nat_lit 144115188075855873))), ([(.var (nat_lit 1))], (Int.ofNat (nat_lit 1)))])
  (.leaf (.tuple [(.agg [(.int .i64 []), (.int .i64 [])]), (.int .i64 [([], (Int.ofNat (nat_lit 1)))])]))
  (.test (.le [([], (Int.ofNat (nat_lit 144115188075855873))), ([(.var (nat_lit 1))], (Int.negSucc (nat_lit 0)))])
  (.leaf (.tuple [(.agg [(.int .i64 []), (.int .i64 [])]), (.int .i64 [([], (Int.ofNat (nat_lit 1)))])]))
  (.test (.le [([], (Int.ofNat (nat_lit 144115188075855873))), ([(.var (nat_lit 2))], (Int.ofNat (nat_lit 1)))])
  (.leaf (.tuple [(.agg [(.int .i64 []), (.int .i64 [])]), (.int .i64 [([], (Int.ofNat (nat_lit 1)))])]))
  (.test (.le [([], (Int.ofNat (nat_lit 144115188075855873))), ([(.var (nat_lit 2))], (Int.negSucc (nat_lit 0)))])
  (.leaf (.tuple [(.agg [(.int .i64 []), (.int .i64 [])]), (.int .i64 [([], (Int.ofNat (nat_lit 1)))])]))
  (.test (.le [([], (Int.ofNat (nat_lit 144115188075855873))), ([(.var (nat_lit 3))], (Int.ofNat (nat_lit 1)))])
  (.leaf (.tuple [(.agg [(.int .i64 []), (.int .i64 [])]), (.int .i64 [([], (Int.ofNat (nat_lit 1)))])]))
  (.test (.le [([], (Int.ofNat (nat_lit 144115188075855873))), ([(.var (nat_lit 3))], (Int.negSucc (nat_lit 0)))])
  (.leaf (.tuple [(.agg [(.int .i64 []), (.int .i64 [])]), (.int .i64 [([], (Int.ofNat (nat_lit 1)))])]))
  (.leaf (.tuple [(.agg [(.int .i64 [([(.var (nat_lit 0))], (Int.ofNat (nat_lit 2))), ([(.var (nat_lit 2))], (Int.ofNat (nat_lit 1)))]), (.int .i64 [([(.var (nat_lit 1))], (Int.ofNat (nat_lit 1)))])]), (.int .i64 [])]))))))))))
theorem f25C0 : checkT Tryd.prog (xOf symX) (gxOf symG) (sumsOf sums42) 10000 25 f25A f25T0 (facts0 f25K) = true := by kernel_rfl
def f25M : Summ := ⟨f25A, f25K, f25T0⟩
theorem f25Ok : SumOk Tryd.prog (xOf symX) (gxOf symG) 25 f25M := sumOk_of symMixed symClosed sums42Ok f25C0
def sums25 : List (Nat × Summ) := (25, f25M) :: sums42
theorem sums25Ok : ∀ g m, sumsOf sums25 g = some m → SumOk Tryd.prog (xOf symX) (gxOf symG) g m := sumsOf_ok f25Ok sums42Ok
def f26A : List SV := [(.agg [(.int .i64 [([(.var (nat_lit 0))], (Int.ofNat (nat_lit 1)))]), (.int .i64 [([(.var (nat_lit 1))], (Int.ofNat (nat_lit 1)))]), (.int .i64 [([(.var (nat_lit 2))], (Int.ofNat (nat_lit 1)))]), (.int .i64 [([(.var (nat_lit 3))], (Int.ofNat (nat_lit 1)))])])]
def f26K : List IntKind := [.i64, .i64, .i64, .i64]
def f26T0 : STree := (.test (.le [([], (Int.ofNat (nat_lit 144115188075855873))), ([(.var (nat_lit 0))], (Int.ofNat (nat_lit 1)))])
  (.leaf (.tuple [(.agg [(.int .i64 []), (.int .i64 [])]), (.int .i64 [([], (Int.ofNat (nat_lit 1)))])]))
  (.test (.le [([], (Int.ofNat (nat_lit 144115188075855873))), ([(.var (nat_lit 0))], (Int.negSucc (nat_lit 0)))])
  (.leaf (.tuple [(.agg [(.int .i64 []), (.int .i64 [])]), (.int .i64 [([], (Int.ofNat (nat_lit 1)))])]))
  (.test (.le [([], (Int.ofNat (nat_lit 144115188075855873))), ([(.var (nat_lit 1))], (Int.ofNat (nat_lit 1)))])
  (.leaf (.tuple [(.agg [(.int .i64 []), (.int .i64 [])]), (.int .i64 [([], (Int.ofNat (nat_lit 1)))])]))
  (.test (.le [([], (Int.ofNat (nat_lit 144115188075855873))), ([(.var (nat_lit 1))], (Int.negSucc (nat_lit 0)))])
  (.leaf (.tuple [(.agg [(.int .i64 []), (.int .i64 [])]), (.int .i64 [([], (Int.ofNat (nat_lit 1)))])]))
  (.test (.le [([], (Int.ofNat (nat_lit 144115188075855873))), ([(.var (nat_lit 2))], (Int.ofNat (nat_lit 1)))])
  (.leaf (.tuple [(.agg [(.int .i64 []), (.int .i64 [])]), (.int .i64 [([], (Int.ofNat (nat_lit 1)))])]))
  (.test (.le [([], (Int.ofNat (nat_lit 144115188075855873))), ([(.var (nat_lit 2))], (Int.negSucc (nat_lit 0)))])
  (.leaf (.tuple [(.agg [(.int .i64 []), (.int .i64 [])]), (.int .i64 [([], (Int.ofNat (nat_lit 1)))])]))
  (.test (.le [([], (Int.ofNat (nat_lit 144115188075855873))), ([(.var (nat_lit 3))], (Int.ofNat (nat_lit 1)))])
  (.leaf (.tuple [(.agg [(.int .i64 []), (.int .i64 [])]), (.int .i64 [([], (Int.ofNat (nat_lit 1)))])]))
  (.test (.le [([], (Int.ofNat (nat_lit 144115188075855873))), ([(.var (nat_lit 3))], (Int.negSucc (nat_lit 0)))])
  (.leaf (.tuple [(.agg [(.int .i64 []), (.int .i64 [])]), (.int .i64 [([], (Int.ofNat (nat_lit 1)))])]))
  (.leaf (.tuple [(.agg [(.int .i64 [([(.var (nat_lit 0))], (Int.ofNat (nat_lit 2))), ([(.var (nat_lit 2))], (Int.ofNat (nat_lit 1)))]), (.int .i64 [([(.var (nat_lit 1))], (Int.ofNat (nat_lit 1)))])]), (.int .i64 [])]))))))))))
theorem f26C0 : checkT Tryd.prog (xOf symX) (gxOf symG) (sumsOf sums25) 10000 26 f26A f26T0 (facts0 f26K) = true := by kernel_rfl
def f26M : Summ := ⟨f26A, f26K, f26T0⟩
theorem f26Ok : SumOk Tryd.prog (xOf symX) (gxOf symG) 26 f26M := sumOk_of symMixed symClosed sums25Ok f26C0
def sums26 : List (Nat × Summ) := (26, f26M) :: sums25
theorem sums26Ok : ∀ g m, sumsOf sums26 g = some m → SumOk Tryd.prog (xOf symX) (gxOf symG) g m := sumsOf_ok f26Ok sums25Ok
def f27A : List SV := [(.agg [(.int .i64 [([(.var (nat_lit 0))], (Int.ofNat (nat_lit 1)))]), (.int .i64 [([(.var (nat_lit 1))], (Int.ofNat (nat_lit 1)))]), (.int .i64 [([(.var (nat_lit 2))], (Int.ofNat (nat_lit 1)))]), (.int .i64 [([(.var (nat_lit 3))], (Int.ofNat (nat_lit 1)))])])]
def f27K : List IntKind := [.i64, .i64, .i64, .i64]
def f27T0 : STree := (.test (.le [([], (Int.ofNat (nat_lit 144115188075855873))), ([(.var (nat_lit 0))], (Int.ofNat (nat_lit 1)))])
  (.leaf (.tuple [(.agg [(.int .i64 []), (.int .i64 [])]), (.int .i64 [([], (Int.ofNat (nat_lit 1)))])]))
  (.test (.le [([], (Int.ofNat (nat_lit 144115188075855873))), ([(.var (nat_lit 0))], (Int.negSucc (nat_lit 0)))])
  (.leaf (.tuple [(.agg [(.int .i64 []), (.int .i64 [])]), (.int .i64 [([], (Int.ofNat (nat_lit 1)))])]))
  (.test (.le [([], (Int.ofNat (nat_lit 144115188075855873))), ([(.var (nat_lit 1))], (Int.ofNat (nat_lit 1)))])
  (.leaf (.tuple [(.agg [(.int .i64 []), (.int .i64 [])]), (.int .i64 [([], (Int.ofNat (nat_lit 1)))])]))
  (.test (.le [([], (Int.ofNat (nat_lit 144115188075855873))), ([(.var (nat_lit 1))], (Int.negSucc (nat_lit 0)))])
  (.leaf (.tuple [(.agg [(.int .i64 []), (.int .i64 [])]), (.int .i64 [([], (Int.ofNat (nat_lit 1)))])]))
  (.test (.le [([], (Int.ofNat (nat_lit 144115188075855873))), ([(.var (nat_lit 2))], (Int.ofNat (nat_lit 1)))])
  (.leaf (.tuple [(.agg [(.int .i64 []), (.int .i64 [])]), (.int .i64 [([], (Int.ofNat (nat_lit 1)))])]))
  (.test (.le [([], (Int.ofNat (nat_lit 144115188075855873))), ([(.var (nat_lit 2))], (Int.negSucc (nat_lit 0)))])
  (.leaf (.tuple [(.agg [(.int .i64 []), (.int .i64 [])]), (.int .i64 [([], (Int.ofNat (nat_lit 1)))])]))
  (.test (.le [([], (Int.ofNat (nat_lit 144115188075855873))), ([(.var (nat_lit 3))], (Int.ofNat (nat_lit 1)))])
  (.leaf (.tuple [(.agg [(.int .i64 []), (.int .i64 [])]), (.int .i64 [([], (Int.ofNat (nat_lit 1)))])]))
  (.test (.le [([], (Int.ofNat (nat_lit 144115188075855873))), ([(.var (nat_lit 3))], (Int.negSucc (nat_lit 0)))])
  (.leaf (.tuple [(.agg [(.int .i64 []), (.int .i64 [])]), (.int .i64 [([], (Int.ofNat (nat_lit 1)))])]))
  (.leaf (.tuple [(.agg [(.int .i64 [([(.var (nat_lit 1))], (Int.ofNat (nat_lit 1))), ([(.var (nat_lit 3))], (Int.ofNat (nat_lit 2)))]), (.int .i64 [([(.var (nat_lit 2))], (Int.ofNat (nat_lit 1)))])]), (.int .i64 [])]))))))))))
theorem f27C0 : checkT Tryd.prog (xOf symX) (gxOf symG) (sumsOf sums26) 10000 27 f27A f27T0 (facts0 f27K) = true := by kernel_rfl
def f27M : Summ := ⟨f27A, f27K, f27T0⟩
theorem f27Ok : SumOk Tryd.prog (xOf symX) (gxOf symG) 27 f27M := sumOk_of symMixed symClosed sums26Ok f27C0
def sums27 : List (Nat × Summ) := (27, f27M) :: sums26
theorem sums27Ok : ∀ g m, sumsOf sums27 g = some m → SumOk Tryd.prog (xOf symX) (gxOf symG) g m := sumsOf_ok f27Ok sums26Ok
def f28A : List SV := [(.agg [(.int .i64 [([(.var (nat_lit 0))], (Int.ofNat (nat_lit 1)))]), (.int .i64 [([(.var (nat_lit 1))], (Int.ofNat (nat_lit 1)))]), (.int .i64 [([(.var (nat_lit 2))], (Int.ofNat (nat_lit 1)))]), (.int .i64 [([(.var (nat_lit 3))], (Int.ofNat (nat_lit 1)))])])]
def f28K : List IntKind := [.i64, .i64, .i64, .i64]
def f28T0 : STree := (.test (.le [([], (Int.ofNat (nat_lit 144115188075855873))), ([(.var (nat_lit 0))], (Int.ofNat (nat_lit 1)))])
  (.leaf (.tuple [(.agg [(.int .i64 []), (.int .i64 [])]), (.int .i64 [([], (Int.ofNat (nat_lit 1)))])]))
  (.test (.le [([], (Int.ofNat (nat_lit 144115188075855873))), ([(.var (nat_lit 0))], (Int.negSucc (nat_lit 0)))])
  (.leaf (.tuple [(.agg [(.int .i64 []), (.int .i64 [])]), (.int .i64 [([], (Int.ofNat (nat_lit 1)))])]))
  (.test (.le [([], (Int.ofNat (nat_lit 144115188075855873))), ([(.var (nat_lit 1))], (Int.ofNat (nat_lit 1)))])
  (.leaf (.tuple [(.agg [(.int .i64 []), (.int .i64 [])]), (.int .i64 [([], (Int.ofNat (nat_lit 1)))])]))
  (.test (.le [([], (Int.ofNat (nat_lit 144115188075855873))), ([(.var (nat_lit 1))], (Int.negSucc (nat_lit 0)))])
  (.leaf (.tuple [(.agg [(.int .i64 []), (.int .i64 [])]), (.int .i64 [([], (Int.ofNat (nat_lit 1)))])]))
  (.test (.le [([], (Int.ofNat (nat_lit 144115188075855873))), ([(.var (nat_lit 2))], (Int.ofNat (nat_lit 1)))])
  (.leaf (.tuple [(.agg [(.int .i64 []), (.int .i64 [])]), (.int .i64 [([], (Int.ofNat (nat_lit 1)))])]))
  (.test (.le [([], (Int.ofNat (nat_lit 144115188075855873))), ([(.var (nat_lit 2))], (Int.negSucc (nat_lit 0)))])
  (.leaf (.tuple [(.agg [(.int .i64 []), (.int .i64 [])]), (.int .i64 [([], (Int.ofNat (nat_lit 1)))])]))
  (.test (.le [([], (Int.ofNat (nat_lit 144115188075855873))), ([(.var (nat_lit 3))], (Int.ofNat (nat_lit 1)))])
  (.leaf (.tuple [(.agg [(.int .i64 []), (.int .i64 [])]), (.int .i64 [([], (Int.ofNat (nat_lit 1)))])]))
  (.test (.le [([], (Int.ofNat (nat_lit 144115188075855873))), ([(.var (nat_lit 3))], (Int.negSucc (nat_lit 0)))])
  (.leaf (.tuple [(.agg [(.int .i64 []), (.int .i64 [])]), (.int .i64 [([], (Int.ofNat (nat_lit 1)))])]))
  (.leaf (.tuple [(.agg [(.int .i64 [([(.var (nat_lit 1))], (Int.ofNat (nat_lit 1))), ([(.var (nat_lit 3))], (Int.ofNat (nat_lit 2)))]), (.int .i64 [([(.var (nat_lit 2))], (Int.ofNat (nat_lit 1)))])]), (.int .i64 [])]))))))))))
theorem f28C0 : checkT Tryd.prog (xOf symX) (gxOf symG) (sumsOf sums27) 10000 28 f28A f28T0 (facts0 f28K) = true := by kernel_rfl
def f28M : Summ := ⟨f28A, f28K, f28T0⟩
theorem f28Ok : SumOk Tryd.prog (xOf symX) (gxOf symG) 28 f28M := sumOk_of symMixed symClosed sums27Ok f28C0
def sums28 : List (Nat × Summ) := (28, f28M) :: sums27
theorem sums28Ok : ∀ g m, sumsOf sums28 g = some m → SumOk Tryd.prog (xOf symX) (gxOf symG) g m := sumsOf_ok f28Ok sums27Ok
def f29A : List SV := [(.agg [(.int .i64 [([(.var (nat_lit 0))], (Int.ofNat (nat_lit 1)))]), (.int .i64 [([(.var (nat_lit 1))], (Int.ofNat (nat_lit 1)))]), (.int .i64 [([(.var (nat_lit 2))], (Int.ofNat (nat_lit 1)))]), (.int .i64 [([(.var (nat_lit 3))], (Int.ofNat (nat_lit 1)))])])]
def f29K : List IntKind := [.i64, .i64, .i64, .i64]
def f29T0 : STree := (.test (.le [([], (Int.ofNat (nat_lit 268435457))), ([(.var (nat_lit 0))], (Int.ofNat (nat_lit 1)))])
  (.leaf (.tuple [(.agg [(.int .i64 []), (.int .i64 [])]), (.int .i64 [([], (Int.ofNat (nat_lit 1)))])]))
  (.test (.le [([], (Int.ofNat (nat_lit 268435457))), ([(.var (nat_lit 0))], (Int.negSucc (nat_lit 0)))])
  (.leaf (.tuple [(.agg [(.int .i64 []), (.int .i64 [])]), (.int .i64 [([], (Int.ofNat (nat_lit 1)))])]))
  (.test (.le [([], (Int.ofNat (nat_lit 268435457))), ([(.var (nat_lit 1))], (Int.ofNat (nat_lit 1)))])
  (.leaf (.tuple [(.agg [(.int .i64 []), (.int .i64 [])]), (.int .i64 [([], (Int.ofNat (nat_lit 1)))])]))
  (.test (.le [([], (Int.ofNat (nat_lit 268435457))), ([(.var (nat_lit 1))], (Int.negSucc (nat_lit 0)))])
  (.leaf (.tuple [(.agg [(.int .i64 []), (.int .i64 [])]), (.int .i64 [([], (Int.ofNat (nat_lit 1)))])]))
  (.test (.le [([], (Int.ofNat (nat_lit 268435457))), ([(.var (nat_lit 2))], (Int.ofNat (nat_lit 1)))])
  (.leaf (.tuple [(.agg [(.int .i64 []), (.int .i64 [])]), (.int .i64 [([], (Int.ofNat (nat_lit 1)))])]))
  (.test (.le [([], (Int.ofNat (nat_lit 268435457))), ([(.var (nat_lit 2))], (Int.negSucc (nat_lit 0)))])
  (.leaf (.tuple [(.agg [(.int .i64 []), (.int .i64 [])]), (.int .i64 [([], (Int.ofNat (nat_lit 1)))])]))
  (.test (.le [([], (Int.ofNat (nat_lit 268435457))), ([(.var (nat_lit 3))], (Int.ofNat (nat_lit 1)))])
  (.leaf (.tuple [(.agg [(.int .i64 []), (.int .i64 [])]), (.int .i64 [([], (Int.ofNat (nat_lit 1)))])]))
  (.test (.le [([], (Int.ofNat (nat_lit 268435457))), ([(.var (nat_lit 3))], (Int.negSucc (nat_lit 0)))])
  (.leaf (.tuple [(.agg [(.int .i64 []), (.int .i64 [])]), (.int .i64 [([], (Int.ofNat (nat_lit 1)))])]))
  (.leaf (.tuple [(.agg [(.int .i64 [([(.var (nat_lit 0)), (.var (nat_lit 0))], (Int.ofNat (nat_lit 1))), ([(.var (nat_lit 0)), (.var (nat_lit 2))], (Int.ofNat (nat_lit 1))), ([(.var (nat_lit 1)), (.var (nat_lit 1))], (Int.ofNat (nat_lit 1))), ([(.var (nat_lit 1)), (.var (nat_lit 3))], (Int.ofNat (nat_lit 1))), ([(.var (nat_lit 2)), (.var (nat_lit 2))], (Int.ofNat (nat_lit 1))), ([(.var (nat_lit 3)), (.var (nat_lit 3))], (Int.ofNat (nat_lit 1)))]), (.int .i64 [([(.var (nat_lit 0)), (.var (nat_lit 1))], (Int.ofNat (nat_lit 1))), ([(.var (nat_lit 1)), (.var (nat_lit 2))], (Int.ofNat (nat_lit 1))), ([(.var (nat_lit 2)), (.var (nat_lit 3))], (Int.ofNat (nat_lit 1)))])]), (.int .i64 [])]))))))))))
theorem f29C0 : checkT Tryd.prog (xOf symX) (gxOf symG) (sumsOf sums28) 10000 29 f29A f29T0 (facts0 f29K) = true := by kernel_rfl
def f29M : Summ := ⟨f29A, f29K, f29T0⟩
theorem f29Ok : SumOk Tryd.prog (xOf symX) (gxOf symG) 29 f29M := sumOk_of symMixed symClosed sums28Ok f29C0
def sums29 : List (Nat × Summ) := (29, f29M) :: sums28
theorem sums29Ok : ∀ g m, sumsOf sums29 g = some m → SumOk Tryd.prog (xOf symX) (gxOf symG) g m := sumsOf_ok f29Ok sums28Ok
def f30A : List SV := [(.agg [(.int .i64 [([(.var (nat_lit 0))], (Int.ofNat (nat_lit 1)))]), (.int .i64 [([(.var (nat_lit 1))], (Int.ofNat (nat_lit 1)))]), (.int .i64 [([(.var (nat_lit 2))], (Int.ofNat (nat_lit 1)))]), (.int .i64 [([(.var (nat_lit 3))], (Int.ofNat (nat_lit 1)))])])]
def f30K : List IntKind := [.i64, .i64, .i64, .i64]
def f30T0 : STree := (.test (.le [([], (Int.ofNat (nat_lit 268435457))), ([(.var (nat_lit 0))], (Int.ofNat (nat_lit 1)))])
  (.leaf (.tuple [(.agg [(.int .i64 []), (.int .i64 [])]), (.int .i64 [([], (Int.ofNat (nat_lit 1)))])]))
  (.test (.le [([], (Int.ofNat (nat_lit 268435457))), ([(.var (nat_lit 0))], (Int.negSucc (nat_lit 0)))])
  (.leaf (.tuple [(.agg [(.int .i64 []), (.int .i64 [])]), (.int .i64 [([], (Int.ofNat (nat_lit 1)))])]))
  (.test (.le [([], (Int.ofNat (nat_lit 268435457))), ([(.var (nat_lit 1))], (Int.ofNat (nat_lit 1)))])
  (.leaf (.tuple [(.agg [(.int .i64 []), (.int .i64 [])]), (.int .i64 [([], (Int.ofNat (nat_lit 1)))])]))
  (.test (.le [([], (Int.ofNat (nat_lit 268435457))), ([(.var (nat_lit 1))], (Int.negSucc (nat_lit 0)))])
  (.leaf (.tuple [(.agg [(.int .i64 []), (.int .i64 [])]), (.int .i64 [([], (Int.ofNat (nat_lit 1)))])]))
  (.test (.le [([], (Int.ofNat (nat_lit 268435457))), ([(.var (nat_lit 2))], (Int.ofNat (nat_lit 1)))])
  (.leaf (.tuple [(.agg [(.int .i64 []), (.int .i64 [])]), (.int .i64 [([], (Int.ofNat (nat_lit 1)))])]))
  (.test (.le [([], (Int.ofNat (nat_lit 268435457))), ([(.var (nat_lit 2))], (Int.negSucc (nat_lit 0)))])
  (.leaf (.tuple [(.agg [(.int .i64 []), (.int .i64 [])]), (.int .i64 [([], (Int.ofNat (nat_lit 1)))])]))
  (.test (.le [([], (Int.ofNat (nat_lit 268435457))), ([(.var (nat_lit 3))], (Int.ofNat (nat_lit 1)))])
  (.leaf (.tuple [(.agg [(.int .i64 []), (.int .i64 [])]), (.int .i64 [([], (Int.ofNat (nat_lit 1)))])]))
  (.test (.le [([], (Int.ofNat (nat_lit 268435457))), ([(.var (nat_lit 3))], (Int.negSucc (nat_lit 0)))])
  (.leaf (.tuple [(.agg [(.int .i64 []), (.int .i64 [])]), (.int .i64 [([], (Int.ofNat (nat_lit 1)))])]))
  (.leaf (.tuple [(.agg [(.int .i64 [([(.var (nat_lit 0)), (.var (nat_lit 0))], (Int.ofNat (nat_lit 1))), ([(.var (nat_lit 0)), (.var (nat_lit 2))], (Int.ofNat (nat_lit 1))), ([(.var (nat_lit 1)), (.var (nat_lit 1))], (Int.ofNat (nat_lit 1))), ([(.var (nat_lit 1)), (.var (nat_lit 3))], (Int.ofNat (nat_lit 1))), ([(.var (nat_lit 2)), (.var (nat_lit 2))], (Int.ofNat (nat_lit 1))), ([(.var (nat_lit 3)), (.var (nat_lit 3))], (Int.ofNat (nat_lit 1)))]), (.int .i64 [([(.var (nat_lit 0)), (.var (nat_lit 1))], (Int.ofNat (nat_lit 1))), ([(.var (nat_lit 1)), (.var (nat_lit 2))], (Int.ofNat (nat_lit 1))), ([(.var (nat_lit 2)), (.var (nat_lit 3))], (Int.ofNat (nat_lit 1)))])]), (.int .i64 [])]))))))))))
theorem f30C0 : checkT Tryd.prog (xOf symX) (gxOf symG) (sumsOf sums29) 10000 30 f30A f30T0 (facts0 f30K) = true := by kernel_rfl
def f30M : Summ := ⟨f30A, f30K, f30T0⟩
theorem f30Ok : SumOk Tryd.prog (xOf symX) (gxOf symG) 30 f30M := sumOk_of symMixed symClosed sums29Ok f30C0
def sums30 : List (Nat × Summ) := (30, f30M) :: sums29
theorem sums30Ok : ∀ g m, sumsOf sums30 g = some m → SumOk Tryd.prog (xOf symX) (gxOf symG) g m := sumsOf_ok f30Ok sums29Ok
def f18A : List SV := [(.agg [(.int .i64 [([(.var (nat_lit 0))], (Int.ofNat (nat_lit 1)))]), (.int .i64 [([(.var (nat_lit 1))], (Int.ofNat (nat_lit 1)))]), (.int .i64 [([(.var (nat_lit 2))], (Int.ofNat (nat_lit 1)))]), (.int .i64 [([(.var (nat_lit 3))], (Int.ofNat (nat_lit 1)))])]), (.agg [(.int .i64 [([(.var (nat_lit 4))], (Int.ofNat (nat_lit 1)))]), (.int .i64 [([(.var (nat_lit 5))], (Int.ofNat (nat_lit 1)))]), (.int .i64 [([(.var (nat_lit 6))], (Int.ofNat (nat_lit 1)))]), (.int .i64 [([(.var (nat_lit 7))], (Int.ofNat (nat_lit 1)))])])]
def f18K : List IntKind := [.i64, .i64, .i64, .i64, .i64, .i64, .i64, .i64]
def f18T0 : STree := (.test (.le [([], (Int.ofNat (nat_lit 268435457))), ([(.var (nat_lit 0))], (Int.ofNat (nat_lit 1)))])
  (.leaf (.agg [(.int .i64 []), (.int .i64 []), (.int .i64 []), (.int .i64 [])]))
  (.test (.le [([], (Int.ofNat (nat_lit 268435457))), ([(.var (nat_lit 0))], (Int.negSucc (nat_lit 0)))])
  (.leaf (.agg [(.int .i64 []), (.int .i64 []), (.int .i64 []), (.int .i64 [])]))
  (.test (.le [([], (Int.ofNat (nat_lit 268435457))), ([(.var (nat_lit 1))], (Int.ofNat (nat_lit 1)))])
  (.leaf (.agg [(.int .i64 []), (.int .i64 []), (.int .i64 []), (.int .i64 [])]))
  (.test (.le [([], (Int.ofNat (nat_lit 268435457))), ([(.var (nat_lit 1))], (Int.negSucc (nat_lit 0)))])
  (.leaf (.agg [(.int .i64 []), (.int .i64 []), (.int .i64 []), (.int .i64 [])]))
  (.test (.le [([], (Int.ofNat (nat_lit 268435457))), ([(.var (nat_lit 2))], (Int.ofNat (nat_lit 1)))])
  (.leaf (.agg [(.int .i64 []), (.int .i64 []), (.int .i64 []), (.int .i64 [])]))
  (.test (.le [([], (Int.ofNat (nat_lit 268435457))), ([(.var (nat_lit 2))], (Int.negSucc (nat_lit 0)))])
  (.leaf (.agg [(.int .i64 []), (.int .i64 []), (.int .i64 []), (.int .i64 [])]))
  (.test (.le [([], (Int.ofNat (nat_lit 268435457))), ([(.var (nat_lit 3))], (Int.ofNat (nat_lit 1)))])
  (.leaf (.agg [(.int .i64 []), (.int .i64 []), (.int .i64 []), (.int .i64 [])]))
  (.test (.le [([], (Int.ofNat (nat_lit 268435457))), ([(.var (nat_lit 3))], (Int.negSucc (nat_lit 0)))])
  (.leaf (.agg [(.int .i64 []), (.int .i64 []), (.int .i64 []), (.int .i64 [])]))
  (.test (.le [([], (Int.ofNat (nat_lit 268435457))), ([(.var (nat_lit 4))], (Int.ofNat (nat_lit 1)))])
  (.leaf (.agg [(.int .i64 []), (.int .i64 []), (.int .i64 []), (.int .i64 [])]))
  (.test (.le [([], (Int.ofNat (nat_lit 268435457))), ([(.var (nat_lit 4))], (Int.negSucc (nat_lit 0)))])
  (.leaf (.agg [(.int .i64 []), (.int .i64 []), (.int .i64 []), (.int .i64 [])]))
  (.test (.le [([], (Int.ofNat (nat_lit 268435457))), ([(.var (nat_lit 5))], (Int.ofNat (nat_lit 1)))])
  (.leaf (.agg [(.int .i64 []), (.int .i64 []), (.int .i64 []), (.int .i64 [])]))
  (.test (.le [([], (Int.ofNat (nat_lit 268435457))), ([(.var (nat_lit 5))], (Int.negSucc (nat_lit 0)))])
  (.leaf (.agg [(.int .i64 []), (.int .i64 []), (.int .i64 []), (.int .i64 [])]))
  (.test (.le [([], (Int.ofNat (nat_lit 268435457))), ([(.var (nat_lit 6))], (Int.ofNat (nat_lit 1)))])
  (.leaf (.agg [(.int .i64 []), (.int .i64 []), (.int .i64 []), (.int .i64 [])]))
  (.test (.le [([], (Int.ofNat (nat_lit 268435457))), ([(.var (nat_lit 6))], (Int.negSucc (nat_lit 0)))])
  (.leaf (.agg [(.int .i64 []), (.int .i64 []), (.int .i64 []), (.int .i64 [])]))
  (.test (.le [([], (Int.ofNat (nat_lit 268435457))), ([(.var (nat_lit 7))], (Int.ofNat (nat_lit 1)))])
  (.leaf (.agg [(.int .i64 []), (.int .i64 []), (.int .i64 []), (.int .i64 [])]))
  (.test (.le [([], (Int.ofNat (nat_lit 268435457))), ([(.var (nat_lit 7))], (Int.negSucc (nat_lit 0)))])
  (.leaf (.agg [(.int .i64 []), (.int .i64 []), (.int .i64 []), (.int .i64 [])]))
  (.leaf (.agg [(.int .i64 [([(.var (nat_lit 0)), (.var (nat_lit 4))], (Int.ofNat (nat_lit 1))), ([(.var (nat_lit 1)), (.var (nat_lit 7))], (Int.negSucc (nat_lit 0))), ([(.var (nat_lit 2)), (.var (nat_lit 6))], (Int.negSucc (nat_lit 0))), ([(.var (nat_lit 3)), (.var (nat_lit 5))], (Int.negSucc (nat_lit 0))), ([(.var (nat_lit 3)), (.var (nat_lit 7))], (Int.negSucc (nat_lit 0)))]), (.int .i64 [([(.var (nat_lit 0)), (.var (nat_lit 5))], (Int.ofNat (nat_lit 1))), ([(.var (nat_lit 1)), (.var (nat_lit 4))], (Int.ofNat (nat_lit 1))), ([(.var (nat_lit 2)), (.var (nat_lit 7))], (Int.negSucc (nat_lit 0))), ([(.var (nat_lit 3)), (.var (nat_lit 6))], (Int.negSucc (nat_lit 0)))]), (.int .i64 [([(.var (nat_lit 0)), (.var (nat_lit 6))], (Int.ofNat (nat_lit 1))), ([(.var (nat_lit 1)), (.var (nat_lit 5))], (Int.ofNat (nat_lit 1))), ([(.var (nat_lit 1)), (.var (nat_lit 7))], (Int.ofNat (nat_lit 1))), ([(.var (nat_lit 2)), (.var (nat_lit 4))], (Int.ofNat (nat_lit 1))), ([(.var (nat_lit 2)), (.var (nat_lit 6))], (Int.ofNat (nat_lit 1))), ([(.var (nat_lit 3)), (.var (nat_lit 5))], (Int.ofNat (nat_lit 1)))]), (.int .i64 [([(.var (nat_lit 0)), (.var (nat_lit 7))], (Int.ofNat (nat_lit 1))), ([(.var (nat_lit 1)), (.var (nat_lit 6))], (Int.ofNat (nat_lit 1))), ([(.var (nat_lit 2)), (.var (nat_lit 5))], (Int.ofNat (nat_lit 1))), ([(.var (nat_lit 2)), (.var (nat_lit 7))], (Int.ofNat (nat_lit 1))), ([(.var (nat_lit 3)), (.var (nat_lit 4))], (Int.ofNat (nat_lit 1))), ([(.var (nat_lit 3)), (.var (nat_lit 6))], (Int.ofNat (nat_lit 1)))])]))))))))))))))))))
theorem f18C0 : checkT Tryd.prog (xOf symX) (gxOf symG) (sumsOf sums30) 10000 18 f18A f18T0 (facts0 f18K) = true := by kernel_rfl
def f18M : Summ := ⟨f18A, f18K, f18T0⟩
theorem f18Ok : SumOk Tryd.prog (xOf symX) (gxOf symG) 18 f18M := sumOk_of symMixed symClosed sums30Ok f18C0
def sums18 : List (Nat × Summ) := (18, f18M) :: sums30
theorem sums18Ok : ∀ g m, sumsOf sums18 g = some m → SumOk Tryd.prog (xOf symX) (gxOf symG) g m := sumsOf_ok f18Ok sums30Ok
def f19A : List SV := [(.agg [(.int .i64 [([(.var (nat_lit 0))], (Int.ofNat (nat_lit 1)))]), (.int .i64 [([(.var (nat_lit 1))], (Int.ofNat (nat_lit 1)))]), (.int .i64 [([(.var (nat_lit 2))], (Int.ofNat (nat_lit 1)))]), (.int .i64 [([(.var (nat_lit 3))], (Int.ofNat (nat_lit 1)))])]), (.agg [(.int .i64 [([(.var (nat_lit 4))], (Int.ofNat (nat_lit 1)))]), (.int .i64 [([(.var (nat_lit 5))], (Int.ofNat (nat_lit 1)))]), (.int .i64 [([(.var (nat_lit 6))], (Int.ofNat (nat_lit 1)))]), (.int .i64 [([(.var (nat_lit 7))], (Int.ofNat (nat_lit 1)))])])]
def f19K : List IntKind := [.i64, .i64, .i64, .i64, .i64, .i64, .i64, .i64]
def f19T0 : STree := (.test (.le [([], (Int.ofNat (nat_lit 576460752303423489))), ([(.var (nat_lit 0))], (Int.ofNat (nat_lit 1)))])
  (.leaf (.agg [(.int .i64 []), (.int .i64 []), (.int .i64 []), (.int .i64 [])]))
  (.test (.le [([], (Int.ofNat (nat_lit 576460752303423489))), ([(.var (nat_lit 0))], (Int.negSucc (nat_lit 0)))])
  (.leaf (.agg [(.int .i64 []), (.int .i64 []), (.int .i64 []), (.int .i64 [])]))
  (.test (.le [([], (Int.ofNat (nat_lit 576460752303423489))), ([(.var (nat_lit 1))], (Int.ofNat (nat_lit 1)))])
  (.leaf (.agg [(.int .i64 []), (.int .i64 []), (.int .i64 []), (.int .i64 [])]))
  (.test (.le [([], (Int.ofNat (nat_lit 576460752303423489))), ([(.var (nat_lit 1))], (Int.negSucc (nat_lit 0)))])
  (.leaf (.agg [(.int .i64 []), (.int .i64 []), (.int .i64 []), (.int .i64 [])]))
  (.test (.le [([], (Int.ofNat (nat_lit 576460752303423489))), ([(.var (nat_lit 2))], (Int.ofNat (nat_lit 1)))])
  (.leaf (.agg [(.int .i64 []), (.int .i64 []), (.int .i64 []), (.int .i64 [])]))
  (.test (.le [([], (Int.ofNat (nat_lit 576460752303423489))), ([(.var (nat_lit 2))], (Int.negSucc (nat_lit 0)))])
  (.leaf (.agg [(.int .i64 []), (.int .i64 []), (.int .i64 []), (.int .i64 [])]))
  (.test (.le [([], (Int.ofNat (nat_lit 576460752303423489))), ([(.var (nat_lit 3))], (Int.ofNat (nat_lit 1)))])
  (.leaf (.agg [(.int .i64 []), (.int .i64 []), (.int .i64 []), (.int .i64 [])]))
  (.test (.le [([], (Int.ofNat (nat_lit 576460752303423489))), ([(.var (nat_lit 3))], (Int.negSucc (nat_lit 0)))])
  (.leaf (.agg [(.int .i64 []), (.int .i64 []), (.int .i64 []), (.int .i64 [])]))
  (.test (.le [([], (Int.ofNat (nat_lit 576460752303423489))), ([(.var (nat_lit 4))], (Int.ofNat (nat_lit 1)))])
  (.leaf (.agg [(.int .i64 []), (.int .i64 []), (.int .i64 []), (.int .i64 [])]))
  (.test (.le [([], (Int.ofNat (nat_lit 576460752303423489))), ([(.var (nat_lit 4))], (Int.negSucc (nat_lit 0)))])
  (.leaf (.agg [(.int .i64 []), (.int .i64 []), (.int .i64 []), (.int .i64 [])]))
  (.test (.le [([], (Int.ofNat (nat_lit 576460752303423489))), ([(.var (nat_lit 5))], (Int.ofNat (nat_lit 1)))])
  (.leaf (.agg [(.int .i64 []), (.int .i64 []), (.int .i64 []), (.int .i64 [])]))
  (.test (.le [([], (Int.ofNat (nat_lit 576460752303423489))), ([(.var (nat_lit 5))], (Int.negSucc (nat_lit 0)))])
  (.leaf (.agg [(.int .i64 []), (.int .i64 []), (.int .i64 []), (.int .i64 [])]))
  (.test (.le [([], (Int.ofNat (nat_lit 576460752303423489))), ([(.var (nat_lit 6))], (Int.ofNat (nat_lit 1)))])
  (.leaf (.agg [(.int .i64 []), (.int .i64 []), (.int .i64 []), (.int .i64 [])]))
  (.test (.le [([], (Int.ofNat (nat_lit 576460752303423489))), ([(.var (nat_lit 6))], (Int.negSucc (nat_lit 0)))])
  (.leaf (.agg [(.int .i64 []), (.int .i64 []), (.int .i64 []), (.int .i64 [])]))
  (.test (.le [([], (Int.ofNat (nat_lit 576460752303423489))), ([(.var (nat_lit 7))], (Int.ofNat (nat_lit 1)))])
  (.leaf (.agg [(.int .i64 []), (.int .i64 []), (.int .i64 []), (.int .i64 [])]))
  (.test (.le [([], (Int.ofNat (nat_lit 576460752303423489))), ([(.var (nat_lit 7))], (Int.negSucc (nat_lit 0)))])
  (.leaf (.agg [(.int .i64 []), (.int .i64 []), (.int .i64 []), (.int .i64 [])]))
  (.test (.le [([], (Int.ofNat (nat_lit 576460752303423489))), ([(.var (nat_lit 0))], (Int.ofNat (nat_lit 1))), ([(.var (nat_lit 4))], (Int.ofNat (nat_lit 1)))])
  (.leaf (.agg [(.int .i64 []), (.int .i64 []), (.int .i64 []), (.int .i64 [])]))
  (.test (.le [([], (Int.ofNat (nat_lit 576460752303423489))), ([(.var (nat_lit 0))], (Int.negSucc (nat_lit 0))), ([(.var (nat_lit 4))], (Int.negSucc (nat_lit 0)))])
  (.leaf (.agg [(.int .i64 []), (.int .i64 []), (.int .i64 []), (.int .i64 [])]))
  (.test (.le [([], (Int.ofNat (nat_lit 576460752303423489))), ([(.var (nat_lit 1))], (Int.ofNat (nat_lit 1))), ([(.var (nat_lit 5))], (Int.ofNat (nat_lit 1)))])
  (.leaf (.agg [(.int .i64 []), (.int .i64 []), (.int .i64 []), (.int .i64 [])]))
  (.test (.le [([], (Int.ofNat (nat_lit 576460752303423489))), ([(.var (nat_lit 1))], (Int.negSucc (nat_lit 0))), ([(.var (nat_lit 5))], (Int.negSucc (nat_lit 0)))])
  (.leaf (.agg [(.int .i64 []), (.int .i64 []), (.int .i64 []), (.int .i64 [])]))
  (.test (.le [([], (Int.ofNat (nat_lit 576460752303423489))), ([(.var (nat_lit 2))], (Int.ofNat (nat_lit 1))), ([(.var (nat_lit 6))], (Int.ofNat (nat_lit 1)))])
  (.leaf (.agg [(.int .i64 []), (.int .i64 []), (.int .i64 []), (.int .i64 [])]))
  (.test (.le [([], (Int.ofNat (nat_lit 576460752303423489))), ([(.var (nat_lit 2))], (Int.negSucc (nat_lit 0))), ([(.var (nat_lit 6))], (Int.negSucc (nat_lit 0)))])
  (.leaf (.agg [(.int .i64 []), (.int .i64 []), (.int .i64 []), (.int .i64 [])]))
  (.test (.le [([], (Int.ofNat (nat_lit 576460752303423489))), ([(.var (nat_lit 3))], (Int.ofNat (nat_lit 1))), ([(.var (nat_lit 7))], (Int.ofNat (nat_lit 1)))])
  (.leaf (.agg [(.int .i64 []), (.int .i64 []), (.int .i64 []), (.int .i64 [])]))
  (.test (.le [([], (Int.ofNat (nat_lit 576460752303423489))), ([(.var (nat_lit 3))], (Int.negSucc (nat_lit 0))), ([(.var (nat_lit 7))], (Int.negSucc (nat_lit 0)))])
  (.leaf (.agg [(.int .i64 []), (.int .i64 []), (.int .i64 []), (.int .i64 [])]))
  (.leaf (.agg [(.int .i64 [([(.var (nat_lit 0))], (Int.ofNat (nat_lit 1))), ([(.var (nat_lit 4))], (Int.ofNat (nat_lit 1)))]), (.int .i64 [([(.var (nat_lit 1))], (Int.ofNat (nat_lit 1))), ([(.var (nat_lit 5))], (Int.ofNat (nat_lit 1)))]), (.int .i64 [([(.var (nat_lit 2))], (Int.ofNat (nat_lit 1))), ([(.var (nat_lit 6))], (Int.ofNat (nat_lit 1)))]), (.int .i64 [([(.var (nat_lit 3))], (Int.ofNat (nat_lit 1))), ([(.var (nat_lit 7))], (Int.ofNat (nat_lit 1)))])]))))))))))))))))))))))))))
theorem f19C0 : checkT Tryd.prog (xOf symX) (gxOf symG) (sumsOf sums18) 10000 19 f19A f19T0 (facts0 f19K) = true := by kernel_rfl
def f19M : Summ := ⟨f19A, f19K, f19T0⟩
theorem f19Ok : SumOk Tryd.prog (xOf symX) (gxOf symG) 19 f19M := sumOk_of symMixed symClosed sums18Ok f19C0
def sums19 : List (Nat × Summ) := (19, f19M) :: sums18
theorem sums19Ok : ∀ g m, sumsOf sums19 g = some m → SumOk Tryd.prog (xOf symX) (gxOf symG) g m := sumsOf_ok f19Ok sums18Ok
def f31A : List SV := [(.agg [(.int .i64 [([(.var (nat_lit 0))], (Int.ofNat (nat_lit 1)))]), (.int .i64 [([(.var (nat_lit 1))], (Int.ofNat (nat_lit 1)))]), (.int .i64 [([(.var (nat_lit 2))], (Int.ofNat (nat_lit 1)))]), (.int .i64 [([(.var (nat_lit 3))], (Int.ofNat (nat_lit 1)))])])]
def f31K : List IntKind := [.i64, .i64, .i64, .i64]
def f31T0 : STree := (.test (.le [([], (Int.ofNat (nat_lit 576460752303423489))), ([(.var (nat_lit 0))], (Int.ofNat (nat_lit 1)))])
  (.leaf (.agg [(.int .i64 []), (.int .i64 []), (.int .i64 []), (.int .i64 [])]))
  (.test (.le [([], (Int.ofNat (nat_lit 576460752303423489))), ([(.var (nat_lit 0))], (Int.negSucc (nat_lit 0)))])
  (.leaf (.agg [(.int .i64 []), (.int .i64 []), (.int .i64 []), (.int .i64 [])]))
  (.test (.le [([], (Int.ofNat (nat_lit 576460752303423489))), ([(.var (nat_lit 1))], (Int.ofNat (nat_lit 1)))])
  (.leaf (.agg [(.int .i64 []), (.int .i64 []), (.int .i64 []), (.int .i64 [])]))
  (.test (.le [([], (Int.ofNat (nat_lit 576460752303423489))), ([(.var (nat_lit 1))], (Int.negSucc (nat_lit 0)))])
  (.leaf (.agg [(.int .i64 []), (.int .i64 []), (.int .i64 []), (.int .i64 [])]))
  (.test (.le [([], (Int.ofNat (nat_lit 576460752303423489))), ([(.var (nat_lit 2))], (Int.ofNat (nat_lit 1)))])
  (.leaf (.agg [(.int .i64 []), (.int .i64 []), (.int .i64 []), (.int .i64 [])]))
  (.test (.le [([], (Int.ofNat (nat_lit 576460752303423489))), ([(.var (nat_lit 2))], (Int.negSucc (nat_lit 0)))])
  (.leaf (.agg [(.int .i64 []), (.int .i64 []), (.int .i64 []), (.int .i64 [])]))
  (.test (.le [([], (Int.ofNat (nat_lit 576460752303423489))), ([(.var (nat_lit 3))], (Int.ofNat (nat_lit 1)))])
  (.leaf (.agg [(.int .i64 []), (.int .i64 []), (.int .i64 []), (.int .i64 [])]))
  (.test (.le [([], (Int.ofNat (nat_lit 576460752303423489))), ([(.var (nat_lit 3))], (Int.negSucc (nat_lit 0)))])
  (.leaf (.agg [(.int .i64 []), (.int .i64 []), (.int .i64 []), (.int .i64 [])]))
  (.test (.le [([], (Int.ofNat (nat_lit 576460752303423489))), ([(.var (nat_lit 0))], (Int.ofNat (nat_lit 1))), ([(.var (nat_lit 2))], (Int.ofNat (nat_lit 1)))])
  (.leaf (.agg [(.int .i64 []), (.int .i64 []), (.int .i64 []), (.int .i64 [])]))
  (.test (.le [([], (Int.ofNat (nat_lit 576460752303423489))), ([(.var (nat_lit 0))], (Int.negSucc (nat_lit 0))), ([(.var (nat_lit 2))], (Int.negSucc (nat_lit 0)))])
  (.leaf (.agg [(.int .i64 []), (.int .i64 []), (.int .i64 []), (.int .i64 [])]))
  (.test (.le [([], (Int.ofNat (nat_lit 576460752303423489))), ([(.var (nat_lit 1))], (Int.negSucc (nat_lit 0))), ([(.var (nat_lit 3))], (Int.negSucc (nat_lit 0)))])
  (.leaf (.agg [(.int .i64 []), (.int .i64 []), (.int .i64 []), (.int .i64 [])]))
  (.test (.le [([], (Int.ofNat (nat_lit 576460752303423489))), ([(.var (nat_lit 1))], (Int.ofNat (nat_lit 1))), ([(.var (nat_lit 3))], (Int.ofNat (nat_lit 1)))])
  (.leaf (.agg [(.int .i64 []), (.int .i64 []), (.int .i64 []), (.int .i64 [])]))
  (.leaf (.agg [(.int .i64 [([(.var (nat_lit 0))], (Int.ofNat (nat_lit 1))), ([(.var (nat_lit 2))], (Int.ofNat (nat_lit 1)))]), (.int .i64 [([(.var (nat_lit 1))], (Int.ofNat (nat_lit 1)))]), (.int .i64 [([(.var (nat_lit 2))], (Int.negSucc (nat_lit 0)))]), (.int .i64 [([(.var (nat_lit 1))], (Int.negSucc (nat_lit 0))), ([(.var (nat_lit 3))], (Int.negSucc (nat_lit 0)))])]))))))))))))))
theorem f31C0 : checkT Tryd.prog (xOf symX) (gxOf symG) (sumsOf sums19) 10000 31 f31A f31T0 (facts0 f31K) = true := by kernel_rfl
def f31M : Summ := ⟨f31A, f31K, f31T0⟩
theorem f31Ok : SumOk Tryd.prog (xOf symX) (gxOf symG) 31 f31M := sumOk_of symMixed symClosed sums19Ok f31C0
def sums31 : List (Nat × Summ) := (31, f31M) :: sums19
theorem sums31Ok : ∀ g m, sumsOf sums31 g = some m → SumOk Tryd.prog (xOf symX) (gxOf symG) g m := sumsOf_ok f31Ok sums19Ok
def f23A : List SV := [(.agg [(.int .i64 [([(.var (nat_lit 0))], (Int.ofNat (nat_lit 1)))]), (.int .i64 [([(.var (nat_lit 1))], (Int.ofNat (nat_lit 1)))]), (.int .i64 [([(.var (nat_lit 2))], (Int.ofNat (nat_lit 1)))]), (.int .i64 [([(.var (nat_lit 3))], (Int.ofNat (nat_lit 1)))])]), (.int .i64 [([(.var (nat_lit 4))], (Int.ofNat (nat_lit 1)))])]
def f23K : List IntKind := [.i64, .i64, .i64, .i64, .i64]
def f23Q0 : Quest := (.le [([], (Int.ofNat (nat_lit 576460752303423489))), ([(.var (nat_lit 0))], (Int.ofNat (nat_lit 1)))])
def f23T1 : STree := (.leaf (.tuple [(.agg [(.int .i64 []), (.int .i64 []), (.int .i64 []), (.int .i64 [])]), (.int .i64 [([], (Int.ofNat (nat_lit 1)))])]))
theorem f23C1 : checkT Tryd.prog (xOf symX) (gxOf symG) (sumsOf sums31) 10000 23 f23A f23T1 ((facts0 f23K).yes f23Q0) = true := by kernel_rfl
def f23Q2 : Quest := (.le [([], (Int.ofNat (nat_lit 576460752303423489))), ([(.var (nat_lit 0))], (Int.negSucc (nat_lit 0)))])
def f23T3 : STree := (.leaf (.tuple [(.agg [(.int .i64 []), (.int .i64 []), (.int .i64 []), (.int .i64 [])]), (.int .i64 [([], (Int.ofNat (nat_lit 1)))])]))
theorem f23C3 : checkT Tryd.prog (xOf symX) (gxOf symG) (sumsOf sums31) 10000 23 f23A f23T3 (((facts0 f23K).no f23Q0).yes f23Q2) = true := by kernel_rfl
def f23Q4 : Quest := (.le [([], (Int.ofNat (nat_lit 576460752303423489))), ([(.var (nat_lit 1))], (Int.ofNat (nat_lit 1)))])
def f23T5 : STree := (.leaf (.tuple [(.agg [(.int .i64 []), (.int .i64 []), (.int .i64 []), (.int .i64 [])]), (.int .i64 [([], (Int.ofNat (nat_lit 1)))])]))
theorem f23C5 : checkT Tryd.prog (xOf symX) (gxOf symG) (sumsOf sums31) 10000 23 f23A f23T5 ((((facts0 f23K).no f23Q0).no f23Q2).yes f23Q4) = true := by kernel_rfl
def f23Q6 : Quest := (.le [([], (Int.ofNat (nat_lit 576460752303423489))), ([(.var (nat_lit 1))], (Int.negSucc (nat_lit 0)))])
def f23T7 : STree := (.leaf (.tuple [(.agg [(.int .i64 []), (.int .i64 []), (.int .i64 []), (.int .i64 [])]), (.int .i64 [([], (Int.ofNat (nat_lit 1)))])]))
theorem f23C7 : checkT Tryd.prog (xOf symX) (gxOf symG) (sumsOf sums31) 10000 23 f23A f23T7 (((((facts0 f23K).no f23Q0).no f23Q2).no f23Q4).yes f23Q6) = true := by kernel_rfl
def f23Q8 : Quest := (.le [([], (Int.ofNat (nat_lit 576460752303423489))), ([(.var (nat_lit 2))], (Int.ofNat (nat_lit 1)))])
def f23T9 : STree := (.leaf (.tuple [(.agg [(.int .i64 []), (.int .i64 []), (.int .i64 []), (.int .i64 [])]), (.int .i64 [([], (Int.ofNat (nat_lit 1)))])]))
theorem f23C9 : checkT Tryd.prog (xOf symX) (gxOf symG) (sumsOf sums31) 10000 23 f23A f23T9 ((((((facts0 f23K).no f23Q0).no f23Q2).no f23Q4).no f23Q6).yes f23Q8) = true := by kernel_rfl
def f23Q10 : Quest := (.le [([], (Int.ofNat (nat_lit 576460752303423489))), ([(.var (nat_lit 2))], (Int.negSucc (nat_lit 0)))])
def f23T11 : STree := (.leaf (.tuple [(.agg [(.int .i64 []), (.int .i64 []), (.int .i64 []), (.int .i64 [])]), (.int .i64 [([], (Int.ofNat (nat_lit 1)))])]))
theorem f23C11 : checkT Tryd.prog (xOf symX) (gxOf symG) (sumsOf sums31) 10000 23 f23A f23T11 (((((((facts0 f23K).no f23Q0).no f23Q2).no f23Q4).no f23Q6).no f23Q8).yes f23Q10) = true := by kernel_rfl
def f23Q12 : Quest := (.le [([], (Int.ofNat (nat_lit 576460752303423489))), ([(.var (nat_lit 3))], (Int.ofNat (nat_lit 1)))])
def f23T13 : STree := (.leaf (.tuple [(.agg [(.int .i64 []), (.int .i64 []), (.int .i64 []), (.int .i64 [])]), (.int .i64 [([], (Int.ofNat (nat_lit 1)))])]))
theorem f23C13 : checkT Tryd.prog (xOf symX) (gxOf symG) (sumsOf sums31) 10000 23 f23A f23T13 ((((((((facts0 f23K).no f23Q0).no f23Q2).no f23Q4).no f23Q6).no f23Q8).no f23Q10).yes f23Q12) = true := by kernel_rfl
def f23Q14 : Quest := (.le [([], (Int.ofNat (nat_lit 576460752303423489))), ([(.var (nat_lit 3))], (Int.negSucc (nat_lit 0)))])
def f23T15 : STree := (.leaf (.tuple [(.agg [(.int .i64 []), (.int .i64 []), (.int .i64 []), (.int .i64 [])]), (.int .i64 [([], (Int.ofNat (nat_lit 1)))])]))
theorem f23C15 : checkT Tryd.prog (xOf symX) (gxOf symG) (sumsOf sums31) 10000 23 f23A f23T15 (((((((((facts0 f23K).no f23Q0).no f23Q2).no f23Q4).no f23Q6).no f23Q8).no f23Q10).no f23Q12).yes f23Q14) = true := by kernel_rfl
def f23Q16 : Quest := (.le [([], (Int.ofNat (nat_lit 6))), ([(.emod (nat_lit 12) (.var (nat_lit 4)))], (Int.negSucc (nat_lit 0)))])
def f23Q17 : Quest := (.le [([], (Int.negSucc (nat_lit 7))), ([(.emod (nat_lit 12) (.var (nat_lit 4)))], (Int.ofNat (nat_lit 1)))])
def f23Q18 : Quest := (.le [([], (Int.negSucc (nat_lit 6))), ([(.emod (nat_lit 12) (.var (nat_lit 4)))], (Int.ofNat (nat_lit 1)))])
def f23T19 : STree := (.test (.le [([], (Int.negSucc (nat_lit 5))), ([(.emod (nat_lit 12) (.var (nat_lit 4)))], (Int.ofNat (nat_lit 1)))])
  (.leaf (.tuple [(.agg [(.int .i64 [([(.var (nat_lit 0))], (Int.negSucc (nat_lit 0)))]), (.int .i64 [([(.var (nat_lit 1))], (Int.negSucc (nat_lit 0)))]), (.int .i64 [([(.var (nat_lit 2))], (Int.negSucc (nat_lit 0)))]), (.int .i64 [([(.var (nat_lit 3))], (Int.negSucc (nat_lit 0)))])]), (.int .i64 [])]))
  (.test (.le [([], (Int.ofNat (nat_lit 576460752303423489))), ([(.var (nat_lit 1))], (Int.negSucc (nat_lit 0))), ([(.var (nat_lit 3))], (Int.negSucc (nat_lit 0)))])
  (.leaf (.tuple [(.agg [(.int .i64 []), (.int .i64 []), (.int .i64 []), (.int .i64 [])]), (.int .i64 [([], (Int.ofNat (nat_lit 2)))])]))
  (.test (.le [([], (Int.ofNat (nat_lit 576460752303423489))), ([(.var (nat_lit 1))], (Int.ofNat (nat_lit 1))), ([(.var (nat_lit 3))], (Int.ofNat (nat_lit 1)))])
  (.leaf (.tuple [(.agg [(.int .i64 []), (.int .i64 []), (.int .i64 []), (.int .i64 [])]), (.int .i64 [([], (Int.ofNat (nat_lit 2)))])]))
  (.leaf (.tuple [(.agg [(.int .i64 [([(.var (nat_lit 3))], (Int.ofNat (nat_lit 1)))]), (.int .i64 [([(.var (nat_lit 0))], (Int.negSucc (nat_lit 0)))]), (.int .i64 [([(.var (nat_lit 1))], (Int.negSucc (nat_lit 0))), ([(.var (nat_lit 3))], (Int.negSucc (nat_lit 0)))]), (.int .i64 [([(.var (nat_lit 2))], (Int.negSucc (nat_lit 0)))])]), (.int .i64 [])])))))
theorem f23C19 : checkT Tryd.prog (xOf symX) (gxOf symG) (sumsOf sums31) 10000 23 f23A f23T19 ((((((((((((facts0 f23K).no f23Q0).no f23Q2).no f23Q4).no f23Q6).no f23Q8).no f23Q10).no f23Q12).no f23Q14).yes f23Q16).yes f23Q17).yes f23Q18) = true := by kernel_rfl
def f23T20 : STree := (.test (.le [([], (Int.ofNat (nat_lit 576460752303423489))), ([(.var (nat_lit 0))], (Int.negSucc (nat_lit 0))), ([(.var (nat_lit 2))], (Int.negSucc (nat_lit 0)))])
  (.leaf (.tuple [(.agg [(.int .i64 []), (.int .i64 []), (.int .i64 []), (.int .i64 [])]), (.int .i64 [([], (Int.ofNat (nat_lit 2)))])]))
  (.test (.le [([], (Int.ofNat (nat_lit 576460752303423489))), ([(.var (nat_lit 0))], (Int.ofNat (nat_lit 1))), ([(.var (nat_lit 2))], (Int.ofNat (nat_lit 1)))])
  (.leaf (.tuple [(.agg [(.int .i64 []), (.int .i64 []), (.int .i64 []), (.int .i64 [])]), (.int .i64 [([], (Int.ofNat (nat_lit 2)))])]))
  (.test (.le [([], (Int.ofNat (nat_lit 576460752303423489))), ([(.var (nat_lit 1))], (Int.negSucc (nat_lit 0))), ([(.var (nat_lit 3))], (Int.negSucc (nat_lit 0)))])
  (.leaf (.tuple [(.agg [(.int .i64 []), (.int .i64 []), (.int .i64 []), (.int .i64 [])]), (.int .i64 [([], (Int.ofNat (nat_lit 2)))])]))
  (.test (.le [([], (Int.ofNat (nat_lit 576460752303423489))), ([(.var (nat_lit 1))], (Int.ofNat (nat_lit 1))), ([(.var (nat_lit 3))], (Int.ofNat (nat_lit 1)))])
  (.leaf (.tuple [(.agg [(.int .i64 []), (.int .i64 []), (.int .i64 []), (.int .i64 [])]), (.int .i64 [([], (Int.ofNat (nat_lit 2)))])]))
  (.leaf (.tuple [(.agg [(.int .i64 [([(.var (nat_lit 2))], (Int.ofNat (nat_lit 1)))]), (.int .i64 [([(.var (nat_lit 3))], (Int.ofNat (nat_lit 1)))]), (.int .i64 [([(.var (nat_lit 0))], (Int.negSucc (nat_lit 0))), ([(.var (nat_lit 2))], (Int.negSucc (nat_lit 0)))]), (.int .i64 [([(.var (nat_lit 1))], (Int.negSucc (nat_lit 0))), ([(.var (nat_lit 3))], (Int.negSucc (nat_lit 0)))])]), (.int .i64 [])]))))))
theorem f23C20 : checkT Tryd.prog (xOf symX) (gxOf symG) (sumsOf sums31) 10000 23 f23A f23T20 ((((((((((((facts0 f23K).no f23Q0).no f23Q2).no f23Q4).no f23Q6).no f23Q8).no f23Q10).no f23Q12).no f23Q14).yes f23Q16).yes f23Q17).no f23Q18) = true := by kernel_rfl
def f23T21 : STree := .test f23Q18 f23T19 f23T20
theorem f23C21 : checkT Tryd.prog (xOf symX) (gxOf symG) (sumsOf sums31) 10000 23 f23A f23T21 (((((((((((facts0 f23K).no f23Q0).no f23Q2).no f23Q4).no f23Q6).no f23Q8).no f23Q10).no f23Q12).no f23Q14).yes f23Q16).yes f23Q17) = true := checkT_test f23C19 f23C20
def f23Q22 : Quest := (.le [([], (Int.negSucc (nat_lit 9))), ([(.emod (nat_lit 12) (.var (nat_lit 4)))], (Int.ofNat (nat_lit 1)))])
def f23Q23 : Quest := (.le [([], (Int.negSucc (nat_lit 8))), ([(.emod (nat_lit 12) (.var (nat_lit 4)))], (Int.ofNat (nat_lit 1)))])
def f23T24 : STree := (.test (.le [([], (Int.ofNat (nat_lit 576460752303423489))), ([(.var (nat_lit 1))], (Int.ofNat (nat_lit 1))), ([(.var (nat_lit 3))], (Int.ofNat (nat_lit 1)))])
  (.leaf (.tuple [(.agg [(.int .i64 []), (.int .i64 []), (.int .i64 []), (.int .i64 [])]), (.int .i64 [([], (Int.ofNat (nat_lit 2)))])]))
  (.test (.le [([], (Int.ofNat (nat_lit 576460752303423489))), ([(.var (nat_lit 1))], (Int.negSucc (nat_lit 0))), ([(.var (nat_lit 3))], (Int.negSucc (nat_lit 0)))])
  (.leaf (.tuple [(.agg [(.int .i64 []), (.int .i64 []), (.int .i64 []), (.int .i64 [])]), (.int .i64 [([], (Int.ofNat (nat_lit 2)))])]))
  (.test (.le [([], (Int.ofNat (nat_lit 576460752303423489))), ([(.var (nat_lit 0))], (Int.negSucc (nat_lit 0))), ([(.var (nat_lit 2))], (Int.negSucc (nat_lit 0)))])
  (.leaf (.tuple [(.agg [(.int .i64 []), (.int .i64 []), (.int .i64 []), (.int .i64 [])]), (.int .i64 [([], (Int.ofNat (nat_lit 2)))])]))
  (.test (.le [([], (Int.ofNat (nat_lit 576460752303423489))), ([(.var (nat_lit 0))], (Int.ofNat (nat_lit 1))), ([(.var (nat_lit 2))], (Int.ofNat (nat_lit 1)))])
  (.leaf (.tuple [(.agg [(.int .i64 []), (.int .i64 []), (.int .i64 []), (.int .i64 [])]), (.int .i64 [([], (Int.ofNat (nat_lit 2)))])]))
  (.leaf (.tuple [(.agg [(.int .i64 [([(.var (nat_lit 1))], (Int.ofNat (nat_lit 1))), ([(.var (nat_lit 3))], (Int.ofNat (nat_lit 1)))]), (.int .i64 [([(.var (nat_lit 2))], (Int.ofNat (nat_lit 1)))]), (.int .i64 [([(.var (nat_lit 1))], (Int.negSucc (nat_lit 0)))]), (.int .i64 [([(.var (nat_lit 0))], (Int.negSucc (nat_lit 0))), ([(.var (nat_lit 2))], (Int.negSucc (nat_lit 0)))])]), (.int .i64 [])]))))))
theorem f23C24 : checkT Tryd.prog (xOf symX) (gxOf symG) (sumsOf sums31) 10000 23 f23A f23T24 (((((((((((((facts0 f23K).no f23Q0).no f23Q2).no f23Q4).no f23Q6).no f23Q8).no f23Q10).no f23Q12).no f23Q14).yes f23Q16).no f23Q17).yes f23Q22).yes f23Q23) = true := by kernel_rfl
def f23T25 : STree := (.test (.le [([], (Int.ofNat (nat_lit 576460752303423489))), ([(.var (nat_lit 0))], (Int.ofNat (nat_lit 1))), ([(.var (nat_lit 2))], (Int.ofNat (nat_lit 1)))])
  (.leaf (.tuple [(.agg [(.int .i64 []), (.int .i64 []), (.int .i64 []), (.int .i64 [])]), (.int .i64 [([], (Int.ofNat (nat_lit 2)))])]))
  (.test (.le [([], (Int.ofNat (nat_lit 576460752303423489))), ([(.var (nat_lit 0))], (Int.negSucc (nat_lit 0))), ([(.var (nat_lit 2))], (Int.negSucc (nat_lit 0)))])
  (.leaf (.tuple [(.agg [(.int .i64 []), (.int .i64 []), (.int .i64 []), (.int .i64 [])]), (.int .i64 [([], (Int.ofNat (nat_lit 2)))])]))
  (.test (.le [([], (Int.ofNat (nat_lit 576460752303423489))), ([(.var (nat_lit 1))], (Int.ofNat (nat_lit 1))), ([(.var (nat_lit 3))], (Int.ofNat (nat_lit 1)))])
  (.leaf (.tuple [(.agg [(.int .i64 []), (.int .i64 []), (.int .i64 []), (.int .i64 [])]), (.int .i64 [([], (Int.ofNat (nat_lit 2)))])]))
  (.test (.le [([], (Int.ofNat (nat_lit 576460752303423489))), ([(.var (nat_lit 1))], (Int.negSucc (nat_lit 0))), ([(.var (nat_lit 3))], (Int.negSucc (nat_lit 0)))])
  (.leaf (.tuple [(.agg [(.int .i64 []), (.int .i64 []), (.int .i64 []), (.int .i64 [])]), (.int .i64 [([], (Int.ofNat (nat_lit 2)))])]))
  (.leaf (.tuple [(.agg [(.int .i64 [([(.var (nat_lit 0))], (Int.ofNat (nat_lit 1))), ([(.var (nat_lit 2))], (Int.ofNat (nat_lit 1)))]), (.int .i64 [([(.var (nat_lit 1))], (Int.ofNat (nat_lit 1))), ([(.var (nat_lit 3))], (Int.ofNat (nat_lit 1)))]), (.int .i64 [([(.var (nat_lit 0))], (Int.negSucc (nat_lit 0)))]), (.int .i64 [([(.var (nat_lit 1))], (Int.negSucc (nat_lit 0)))])]), (.int .i64 [])]))))))
theorem f23C25 : checkT Tryd.prog (xOf symX) (gxOf symG) (sumsOf sums31) 10000 23 f23A f23T25 (((((((((((((facts0 f23K).no f23Q0).no f23Q2).no f23Q4).no f23Q6).no f23Q8).no f23Q10).no f23Q12).no f23Q14).yes f23Q16).no f23Q17).yes f23Q22).no f23Q23) = true := by kernel_rfl
def f23T26 : STree := .test f23Q23 f23T24 f23T25
theorem f23C26 : checkT Tryd.prog (xOf symX) (gxOf symG) (sumsOf sums31) 10000 23 f23A f23T26 ((((((((((((facts0 f23K).no f23Q0).no f23Q2).no f23Q4).no f23Q6).no f23Q8).no f23Q10).no f23Q12).no f23Q14).yes f23Q16).no f23Q17).yes f23Q22) = true := checkT_test f23C24 f23C25
def f23T27 : STree := (.test (.le [([], (Int.ofNat (nat_lit 576460752303423489))), ([(.var (nat_lit 0))], (Int.ofNat (nat_lit 1))), ([(.var (nat_lit 2))], (Int.ofNat (nat_lit 1)))])
  (.leaf (.tuple [(.agg [(.int .i64 []), (.int .i64 []), (.int .i64 []), (.int .i64 [])]), (.int .i64 [([], (Int.ofNat (nat_lit 2)))])]))
  (.test (.le [([], (Int.ofNat (nat_lit 576460752303423489))), ([(.var (nat_lit 0))], (Int.negSucc (nat_lit 0))), ([(.var (nat_lit 2))], (Int.negSucc (nat_lit 0)))])
  (.leaf (.tuple [(.agg [(.int .i64 []), (.int .i64 []), (.int .i64 []), (.int .i64 [])]), (.int .i64 [([], (Int.ofNat (nat_lit 2)))])]))
  (.leaf (.tuple [(.agg [(.int .i64 [([(.var (nat_lit 1))], (Int.ofNat (nat_lit 1)))]), (.int .i64 [([(.var (nat_lit 0))], (Int.ofNat (nat_lit 1))), ([(.var (nat_lit 2))], (Int.ofNat (nat_lit 1)))]), (.int .i64 [([(.var (nat_lit 3))], (Int.ofNat (nat_lit 1)))]), (.int .i64 [([(.var (nat_lit 0))], (Int.negSucc (nat_lit 0)))])]), (.int .i64 [])]))))
theorem f23C27 : checkT Tryd.prog (xOf symX) (gxOf symG) (sumsOf sums31) 10000 23 f23A f23T27 ((((((((((((facts0 f23K).no f23Q0).no f23Q2).no f23Q4).no f23Q6).no f23Q8).no f23Q10).no f23Q12).no f23Q14).yes f23Q16).no f23Q17).no f23Q22) = true := by kernel_rfl
def f23T28 : STree := .test f23Q22 f23T26 f23T27
theorem f23C28 : checkT Tryd.prog (xOf symX) (gxOf symG) (sumsOf sums31) 10000 23 f23A f23T28 (((((((((((facts0 f23K).no f23Q0).no f23Q2).no f23Q4).no f23Q6).no f23Q8).no f23Q10).no f23Q12).no f23Q14).yes f23Q16).no f23Q17) = true := checkT_test f23C26 f23C27
def f23T29 : STree := .test f23Q17 f23T21 f23T28
theorem f23C29 : checkT Tryd.prog (xOf symX) (gxOf symG) (sumsOf sums31) 10000 23 f23A f23T29 ((((((((((facts0 f23K).no f23Q0).no f23Q2).no f23Q4).no f23Q6).no f23Q8).no f23Q10).no f23Q12).no f23Q14).yes f23Q16) = true := checkT_test f23C21 f23C28
def f23Q30 : Quest := (.le [([], (Int.negSucc (nat_lit 1))), ([(.emod (nat_lit 12) (.var (nat_lit 4)))], (Int.ofNat (nat_lit 1)))])
def f23Q31 : Quest := (.le [([], (Int.negSucc (nat_lit 0))), ([(.emod (nat_lit 12) (.var (nat_lit 4)))], (Int.ofNat (nat_lit 1)))])
def f23T32 : STree := (.test (.le [([(.emod (nat_lit 12) (.var (nat_lit 4)))], (Int.ofNat (nat_lit 1)))])
  (.leaf (.tuple [(.agg [(.int .i64 [([(.var (nat_lit 0))], (Int.ofNat (nat_lit 1)))]), (.int .i64 [([(.var (nat_lit 1))], (Int.ofNat (nat_lit 1)))]), (.int .i64 [([(.var (nat_lit 2))], (Int.ofNat (nat_lit 1)))]), (.int .i64 [([(.var (nat_lit 3))], (Int.ofNat (nat_lit 1)))])]), (.int .i64 [])]))
  (.test (.le [([], (Int.ofNat (nat_lit 576460752303423489))), ([(.var (nat_lit 1))], (Int.ofNat (nat_lit 1))), ([(.var (nat_lit 3))], (Int.ofNat (nat_lit 1)))])
  (.leaf (.tuple [(.agg [(.int .i64 []), (.int .i64 []), (.int .i64 []), (.int .i64 [])]), (.int .i64 [([], (Int.ofNat (nat_lit 2)))])]))
  (.test (.le [([], (Int.ofNat (nat_lit 576460752303423489))), ([(.var (nat_lit 1))], (Int.negSucc (nat_lit 0))), ([(.var (nat_lit 3))], (Int.negSucc (nat_lit 0)))])
  (.leaf (.tuple [(.agg [(.int .i64 []), (.int .i64 []), (.int .i64 []), (.int .i64 [])]), (.int .i64 [([], (Int.ofNat (nat_lit 2)))])]))
  (.leaf (.tuple [(.agg [(.int .i64 [([(.var (nat_lit 3))], (Int.negSucc (nat_lit 0)))]), (.int .i64 [([(.var (nat_lit 0))], (Int.ofNat (nat_lit 1)))]), (.int .i64 [([(.var (nat_lit 1))], (Int.ofNat (nat_lit 1))), ([(.var (nat_lit 3))], (Int.ofNat (nat_lit 1)))]), (.int .i64 [([(.var (nat_lit 2))], (Int.ofNat (nat_lit 1)))])]), (.int .i64 [])])))))
theorem f23C32 : checkT Tryd.prog (xOf symX) (gxOf symG) (sumsOf sums31) 10000 23 f23A f23T32 ((((((((((((facts0 f23K).no f23Q0).no f23Q2).no f23Q4).no f23Q6).no f23Q8).no f23Q10).no f23Q12).no f23Q14).no f23Q16).yes f23Q30).yes f23Q31) = true := by kernel_rfl
def f23T33 : STree := (.test (.le [([], (Int.ofNat (nat_lit 576460752303423489))), ([(.var (nat_lit 0))], (Int.ofNat (nat_lit 1))), ([(.var (nat_lit 2))], (Int.ofNat (nat_lit 1)))])
  (.leaf (.tuple [(.agg [(.int .i64 []), (.int .i64 []), (.int .i64 []), (.int .i64 [])]), (.int .i64 [([], (Int.ofNat (nat_lit 2)))])]))
  (.test (.le [([], (Int.ofNat (nat_lit 576460752303423489))), ([(.var (nat_lit 0))], (Int.negSucc (nat_lit 0))), ([(.var (nat_lit 2))], (Int.negSucc (nat_lit 0)))])
  (.leaf (.tuple [(.agg [(.int .i64 []), (.int .i64 []), (.int .i64 []), (.int .i64 [])]), (.int .i64 [([], (Int.ofNat (nat_lit 2)))])]))
  (.test (.le [([], (Int.ofNat (nat_lit 576460752303423489))), ([(.var (nat_lit 1))], (Int.ofNat (nat_lit 1))), ([(.var (nat_lit 3))], (Int.ofNat (nat_lit 1)))])
  (.leaf (.tuple [(.agg [(.int .i64 []), (.int .i64 []), (.int .i64 []), (.int .i64 [])]), (.int .i64 [([], (Int.ofNat (nat_lit 2)))])]))
  (.test (.le [([], (Int.ofNat (nat_lit 576460752303423489))), ([(.var (nat_lit 1))], (Int.negSucc (nat_lit 0))), ([(.var (nat_lit 3))], (Int.negSucc (nat_lit 0)))])
  (.leaf (.tuple [(.agg [(.int .i64 []), (.int .i64 []), (.int .i64 []), (.int .i64 [])]), (.int .i64 [([], (Int.ofNat (nat_lit 2)))])]))
  (.leaf (.tuple [(.agg [(.int .i64 [([(.var (nat_lit 2))], (Int.negSucc (nat_lit 0)))]), (.int .i64 [([(.var (nat_lit 3))], (Int.negSucc (nat_lit 0)))]), (.int .i64 [([(.var (nat_lit 0))], (Int.ofNat (nat_lit 1))), ([(.var (nat_lit 2))], (Int.ofNat (nat_lit 1)))]), (.int .i64 [([(.var (nat_lit 1))], (Int.ofNat (nat_lit 1))), ([(.var (nat_lit 3))], (Int.ofNat (nat_lit 1)))])]), (.int .i64 [])]))))))
theorem f23C33 : checkT Tryd.prog (xOf symX) (gxOf symG) (sumsOf sums31) 10000 23 f23A f23T33 ((((((((((((facts0 f23K).no f23Q0).no f23Q2).no f23Q4).no f23Q6).no f23Q8).no f23Q10).no f23Q12).no f23Q14).no f23Q16).yes f23Q30).no f23Q31) = true := by kernel_rfl
def f23T34 : STree := .test f23Q31 f23T32 f23T33
theorem f23C34 : checkT Tryd.prog (xOf symX) (gxOf symG) (sumsOf sums31) 10000 23 f23A f23T34 (((((((((((facts0 f23K).no f23Q0).no f23Q2).no f23Q4).no f23Q6).no f23Q8).no f23Q10).no f23Q12).no f23Q14).no f23Q16).yes f23Q30) = true := checkT_test f23C32 f23C33
def f23Q35 : Quest := (.le [([], (Int.negSucc (nat_lit 3))), ([(.emod (nat_lit 12) (.var (nat_lit 4)))], (Int.ofNat (nat_lit 1)))])
def f23Q36 : Quest := (.le [([], (Int.negSucc (nat_lit 2))), ([(.emod (nat_lit 12) (.var (nat_lit 4)))], (Int.ofNat (nat_lit 1)))])
def f23T37 : STree := (.test (.le [([], (Int.ofNat (nat_lit 576460752303423489))), ([(.var (nat_lit 1))], (Int.negSucc (nat_lit 0))), ([(.var (nat_lit 3))], (Int.negSucc (nat_lit 0)))])
  (.leaf (.tuple [(.agg [(.int .i64 []), (.int .i64 []), (.int .i64 []), (.int .i64 [])]), (.int .i64 [([], (Int.ofNat (nat_lit 2)))])]))
  (.test (.le [([], (Int.ofNat (nat_lit 576460752303423489))), ([(.var (nat_lit 1))], (Int.ofNat (nat_lit 1))), ([(.var (nat_lit 3))], (Int.ofNat (nat_lit 1)))])
  (.leaf (.tuple [(.agg [(.int .i64 []), (.int .i64 []), (.int .i64 []), (.int .i64 [])]), (.int .i64 [([], (Int.ofNat (nat_lit 2)))])]))
  (.test (.le [([], (Int.ofNat (nat_lit 576460752303423489))), ([(.var (nat_lit 0))], (Int.ofNat (nat_lit 1))), ([(.var (nat_lit 2))], (Int.ofNat (nat_lit 1)))])
  (.leaf (.tuple [(.agg [(.int .i64 []), (.int .i64 []), (.int .i64 []), (.int .i64 [])]), (.int .i64 [([], (Int.ofNat (nat_lit 2)))])]))
  (.test (.le [([], (Int.ofNat (nat_lit 576460752303423489))), ([(.var (nat_lit 0))], (Int.negSucc (nat_lit 0))), ([(.var (nat_lit 2))], (Int.negSucc (nat_lit 0)))])
  (.leaf (.tuple [(.agg [(.int .i64 []), (.int .i64 []), (.int .i64 []), (.int .i64 [])]), (.int .i64 [([], (Int.ofNat (nat_lit 2)))])]))
  (.leaf (.tuple [(.agg [(.int .i64 [([(.var (nat_lit 1))], (Int.negSucc (nat_lit 0))), ([(.var (nat_lit 3))], (Int.negSucc (nat_lit 0)))]), (.int .i64 [([(.var (nat_lit 2))], (Int.negSucc (nat_lit 0)))]), (.int .i64 [([(.var (nat_lit 1))], (Int.ofNat (nat_lit 1)))]), (.int .i64 [([(.var (nat_lit 0))], (Int.ofNat (nat_lit 1))), ([(.var (nat_lit 2))], (Int.ofNat (nat_lit 1)))])]), (.int .i64 [])]))))))
theorem f23C37 : checkT Tryd.prog (xOf symX) (gxOf symG) (sumsOf sums31) 10000 23 f23A f23T37 (((((((((((((facts0 f23K).no f23Q0).no f23Q2).no f23Q4).no f23Q6).no f23Q8).no f23Q10).no f23Q12).no f23Q14).no f23Q16).no f23Q30).yes f23Q35).yes f23Q36) = true := by kernel_rfl
def f23T38 : STree := (.test (.le [([], (Int.ofNat (nat_lit 576460752303423489))), ([(.var (nat_lit 0))], (Int.negSucc (nat_lit 0))), ([(.var (nat_lit 2))], (Int.negSucc (nat_lit 0)))])
  (.leaf (.tuple [(.agg [(.int .i64 []), (.int .i64 []), (.int .i64 []), (.int .i64 [])]), (.int .i64 [([], (Int.ofNat (nat_lit 2)))])]))
  (.test (.le [([], (Int.ofNat (nat_lit 576460752303423489))), ([(.var (nat_lit 0))], (Int.ofNat (nat_lit 1))), ([(.var (nat_lit 2))], (Int.ofNat (nat_lit 1)))])
  (.leaf (.tuple [(.agg [(.int .i64 []), (.int .i64 []), (.int .i64 []), (.int .i64 [])]), (.int .i64 [([], (Int.ofNat (nat_lit 2)))])]))
  (.test (.le [([], (Int.ofNat (nat_lit 576460752303423489))), ([(.var (nat_lit 1))], (Int.negSucc (nat_lit 0))), ([(.var (nat_lit 3))], (Int.negSucc (nat_lit 0)))])
  (.leaf (.tuple [(.agg [(.int .i64 []), (.int .i64 []), (.int .i64 []), (.int .i64 [])]), (.int .i64 [([], (Int.ofNat (nat_lit 2)))])]))
  (.test (.le [([], (Int.ofNat (nat_lit 576460752303423489))), ([(.var (nat_lit 1))], (Int.ofNat (nat_lit 1))), ([(.var (nat_lit 3))], (Int.ofNat (nat_lit 1)))])
  (.leaf (.tuple [(.agg [(.int .i64 []), (.int .i64 []), (.int .i64 []), (.int .i64 [])]), (.int .i64 [([], (Int.ofNat (nat_lit 2)))])]))
  (.leaf (.tuple [(.agg [(.int .i64 [([(.var (nat_lit 0))], (Int.negSucc (nat_lit 0))), ([(.var (nat_lit 2))], (Int.negSucc (nat_lit 0)))]), (.int .i64 [([(.var (nat_lit 1))], (Int.negSucc (nat_lit 0))), ([(.var (nat_lit 3))], (Int.negSucc (nat_lit 0)))]), (.int .i64 [([(.var (nat_lit 0))], (Int.ofNat (nat_lit 1)))]), (.int .i64 [([(.var (nat_lit 1))], (Int.ofNat (nat_lit 1)))])]), (.int .i64 [])]))))))
theorem f23C38 : checkT Tryd.prog (xOf symX) (gxOf symG) (sumsOf sums31) 10000 23 f23A f23T38 (((((((((((((facts0 f23K).no f23Q0).no f23Q2).no f23Q4).no f23Q6).no f23Q8).no f23Q10).no f23Q12).no f23Q14).no f23Q16).no f23Q30).yes f23Q35).no f23Q36) = true := by kernel_rfl
def f23T39 : STree := .test f23Q36 f23T37 f23T38
theorem f23C39 : checkT Tryd.prog (xOf symX) (gxOf symG) (sumsOf sums31) 10000 23 f23A f23T39 ((((((((((((facts0 f23K).no f23Q0).no f23Q2).no f23Q4).no f23Q6).no f23Q8).no f23Q10).no f23Q12).no f23Q14).no f23Q16).no f23Q30).yes f23Q35) = true := checkT_test f23C37 f23C38
def f23T40 : STree := (.test (.le [([], (Int.ofNat (nat_lit 576460752303423489))), ([(.var (nat_lit 0))], (Int.negSucc (nat_lit 0))), ([(.var (nat_lit 2))], (Int.negSucc (nat_lit 0)))])
  (.leaf (.tuple [(.agg [(.int .i64 []), (.int .i64 []), (.int .i64 []), (.int .i64 [])]), (.int .i64 [([], (Int.ofNat (nat_lit 2)))])]))
  (.test (.le [([], (Int.ofNat (nat_lit 576460752303423489))), ([(.var (nat_lit 0))], (Int.ofNat (nat_lit 1))), ([(.var (nat_lit 2))], (Int.ofNat (nat_lit 1)))])
  (.leaf (.tuple [(.agg [(.int .i64 []), (.int .i64 []), (.int .i64 []), (.int .i64 [])]), (.int .i64 [([], (Int.ofNat (nat_lit 2)))])]))
  (.leaf (.tuple [(.agg [(.int .i64 [([(.var (nat_lit 1))], (Int.negSucc (nat_lit 0)))]), (.int .i64 [([(.var (nat_lit 0))], (Int.negSucc (nat_lit 0))), ([(.var (nat_lit 2))], (Int.negSucc (nat_lit 0)))]), (.int .i64 [([(.var (nat_lit 3))], (Int.negSucc (nat_lit 0)))]), (.int .i64 [([(.var (nat_lit 0))], (Int.ofNat (nat_lit 1)))])]), (.int .i64 [])]))))
theorem f23C40 : checkT Tryd.prog (xOf symX) (gxOf symG) (sumsOf sums31) 10000 23 f23A f23T40 ((((((((((((facts0 f23K).no f23Q0).no f23Q2).no f23Q4).no f23Q6).no f23Q8).no f23Q10).no f23Q12).no f23Q14).no f23Q16).no f23Q30).no f23Q35) = true := by kernel_rfl
def f23T41 : STree := .test f23Q35 f23T39 f23T40
theorem f23C41 : checkT Tryd.prog (xOf symX) (gxOf symG) (sumsOf sums31) 10000 23 f23A f23T41 (((((((((((facts0 f23K).no f23Q0).no f23Q2).no f23Q4).no f23Q6).no f23Q8).no f23Q10).no f23Q12).no f23Q14).no f23Q16).no f23Q30) = true := checkT_test f23C39 f23C40
def f23T42 : STree := .test f23Q30 f23T34 f23T41
theorem f23C42 : checkT Tryd.prog (xOf symX) (gxOf symG) (sumsOf sums31) 10000 23 f23A f23T42 ((((((((((facts0 f23K).no f23Q0).no f23Q2).no f23Q4).no f23Q6).no f23Q8).no f23Q10).no f23Q12).no f23Q14).no f23Q16) = true := checkT_test f23C34 f23C41
def f23T43 : STree := .test f23Q16 f23T29 f23T42
theorem f23C43 : checkT Tryd.prog (xOf symX) (gxOf symG) (sumsOf sums31) 10000 23 f23A f23T43 (((((((((facts0 f23K).no f23Q0).no f23Q2).no f23Q4).no f23Q6).no f23Q8).no f23Q10).no f23Q12).no f23Q14) = true := checkT_test f23C29 f23C42
def f23T44 : STree := .test f23Q14 f23T15 f23T43
theorem f23C44 : checkT Tryd.prog (xOf symX) (gxOf symG) (sumsOf sums31) 10000 23 f23A f23T44 ((((((((facts0 f23K).no f23Q0).no f23Q2).no f23Q4).no f23Q6).no f23Q8).no f23Q10).no f23Q12) = true := checkT_test f23C15 f23C43
def f23T45 : STree := .test f23Q12 f23T13 f23T44
theorem f23C45 : checkT Tryd.prog (xOf symX) (gxOf symG) (sumsOf sums31) 10000 23 f23A f23T45 (((((((facts0 f23K).no f23Q0).no f23Q2).no f23Q4).no f23Q6).no f23Q8).no f23Q10) = true := checkT_test f23C13 f23C44
def f23T46 : STree := .test f23Q10 f23T11 f23T45
theorem f23C46 : checkT Tryd.prog (xOf symX) (gxOf symG) (sumsOf sums31) 10000 23 f23A f23T46 ((((((facts0 f23K).no f23Q0).no f23Q2).no f23Q4).no f23Q6).no f23Q8) = true := checkT_test f23C11 f23C45
def f23T47 : STree := .test f23Q8 f23T9 f23T46
theorem f23C47 : checkT Tryd.prog (xOf symX) (gxOf symG) (sumsOf sums31) 10000 23 f23A f23T47 (((((facts0 f23K).no f23Q0).no f23Q2).no f23Q4).no f23Q6) = true := checkT_test f23C9 f23C46
def f23T48 : STree := .test f23Q6 f23T7 f23T47
theorem f23C48 : checkT Tryd.prog (xOf symX) (gxOf symG) (sumsOf sums31) 10000 23 f23A f23T48 ((((facts0 f23K).no f23Q0).no f23Q2).no f23Q4) = true := checkT_test f23C7 f23C47
def f23T49 : STree := .test f23Q4 f23T5 f23T48
theorem f23C49 : checkT Tryd.prog (xOf symX) (gxOf symG) (sumsOf sums31) 10000 23 f23A f23T49 (((facts0 f23K).no f23Q0).no f23Q2) = true := checkT_test f23C5 f23C48
def f23T50 : STree := .test f23Q2 f23T3 f23T49
theorem f23C50 : checkT Tryd.prog (xOf symX) (gxOf symG) (sumsOf sums31) 10000 23 f23A f23T50 ((facts0 f23K).no f23Q0) = true := checkT_test f23C3 f23C49
def f23T51 : STree := .test f23Q0 f23T1 f23T50
theorem f23C51 : checkT Tryd.prog (xOf symX) (gxOf symG) (sumsOf sums31) 10000 23 f23A f23T51 (facts0 f23K) = true := checkT_test f23C1 f23C50
def f23M : Summ := ⟨f23A, f23K, f23T51⟩
theorem f23Ok : SumOk Tryd.prog (xOf symX) (gxOf symG) 23 f23M := sumOk_of symMixed symClosed sums31Ok f23C51
def sums23 : List (Nat × Summ) := (23, f23M) :: sums31
theorem sums23Ok : ∀ g m, sumsOf sums23 g = some m → SumOk Tryd.prog (xOf symX) (gxOf symG) g m := sumsOf_ok f23Ok sums31Ok
def f24A : List SV := [(.agg [(.int .i64 [([(.var (nat_lit 0))], (Int.ofNat (nat_lit 1)))]), (.int .i64 [([(.var (nat_lit 1))], (Int.ofNat (nat_lit 1)))]), (.int .i64 [([(.var (nat_lit 2))], (Int.ofNat (nat_lit 1)))]), (.int .i64 [([(.var (nat_lit 3))], (Int.ofNat (nat_lit 1)))])]), (.int .i64 [([(.var (nat_lit 4))], (Int.ofNat (nat_lit 1)))])]
def f24K : List IntKind := [.i64, .i64, .i64, .i64, .i64]
def f24Q0 : Quest := (.le [([], (Int.ofNat (nat_lit 576460752303423489))), ([(.var (nat_lit 0))], (Int.ofNat (nat_lit 1)))])
def f24T1 : STree := (.leaf (.tuple [(.agg [(.int .i64 []), (.int .i64 []), (.int .i64 []), (.int .i64 [])]), (.int .i64 [([], (Int.ofNat (nat_lit 1)))])]))
theorem f24C1 : checkT Tryd.prog (xOf symX) (gxOf symG) (sumsOf sums23) 10000 24 f24A f24T1 ((facts0 f24K).yes f24Q0) = true := by kernel_rfl
def f24Q2 : Quest := (.le [([], (Int.ofNat (nat_lit 576460752303423489))), ([(.var (nat_lit 0))], (Int.negSucc (nat_lit 0)))])
def f24T3 : STree := (.leaf (.tuple [(.agg [(.int .i64 []), (.int .i64 []), (.int .i64 []), (.int .i64 [])]), (.int .i64 [([], (Int.ofNat (nat_lit 1)))])]))
theorem f24C3 : checkT Tryd.prog (xOf symX) (gxOf symG) (sumsOf sums23) 10000 24 f24A f24T3 (((facts0 f24K).no f24Q0).yes f24Q2) = true := by kernel_rfl
def f24Q4 : Quest := (.le [([], (Int.ofNat (nat_lit 576460752303423489))), ([(.var (nat_lit 1))], (Int.ofNat (nat_lit 1)))])
def f24T5 : STree := (.leaf (.tuple [(.agg [(.int .i64 []), (.int .i64 []), (.int .i64 []), (.int .i64 [])]), (.int .i64 [([], (Int.ofNat (nat_lit 1)))])]))
theorem f24C5 : checkT Tryd.prog (xOf symX) (gxOf symG) (sumsOf sums23) 10000 24 f24A f24T5 ((((facts0 f24K).no f24Q0).no f24Q2).yes f24Q4) = true := by kernel_rfl
def f24Q6 : Quest := (.le [([], (Int.ofNat (nat_lit 576460752303423489))), ([(.var (nat_lit 1))], (Int.negSucc (nat_lit 0)))])
def f24T7 : STree := (.leaf (.tuple [(.agg [(.int .i64 []), (.int .i64 []), (.int .i64 []), (.int .i64 [])]), (.int .i64 [([], (Int.ofNat (nat_lit 1)))])]))
theorem f24C7 : checkT Tryd.prog (xOf symX) (gxOf symG) (sumsOf sums23) 10000 24 f24A f24T7 (((((facts0 f24K).no f24Q0).no f24Q2).no f24Q4).yes f24Q6) = true := by kernel_rfl
def f24Q8 : Quest := (.le [([], (Int.ofNat (nat_lit 576460752303423489))), ([(.var (nat_lit 2))], (Int.ofNat (nat_lit 1)))])
def f24T9 : STree := (.leaf (.tuple [(.agg [(.int .i64 []), (.int .i64 []), (.int .i64 []), (.int .i64 [])]), (.int .i64 [([], (Int.ofNat (nat_lit 1)))])]))
theorem f24C9 : checkT Tryd.prog (xOf symX) (gxOf symG) (sumsOf sums23) 10000 24 f24A f24T9 ((((((facts0 f24K).no f24Q0).no f24Q2).no f24Q4).no f24Q6).yes f24Q8) = true := by kernel_rfl
def f24Q10 : Quest := (.le [([], (Int.ofNat (nat_lit 576460752303423489))), ([(.var (nat_lit 2))], (Int.negSucc (nat_lit 0)))])
def f24T11 : STree := (.leaf (.tuple [(.agg [(.int .i64 []), (.int .i64 []), (.int .i64 []), (.int .i64 [])]), (.int .i64 [([], (Int.ofNat (nat_lit 1)))])]))
theorem f24C11 : checkT Tryd.prog (xOf symX) (gxOf symG) (sumsOf sums23) 10000 24 f24A f24T11 (((((((facts0 f24K).no f24Q0).no f24Q2).no f24Q4).no f24Q6).no f24Q8).yes f24Q10) = true := by kernel_rfl
def f24Q12 : Quest := (.le [([], (Int.ofNat (nat_lit 576460752303423489))), ([(.var (nat_lit 3))], (Int.ofNat (nat_lit 1)))])
def f24T13 : STree := (.leaf (.tuple [(.agg [(.int .i64 []), (.int .i64 []), (.int .i64 []), (.int .i64 [])]), (.int .i64 [([], (Int.ofNat (nat_lit 1)))])]))
theorem f24C13 : checkT Tryd.prog (xOf symX) (gxOf symG) (sumsOf sums23) 10000 24 f24A f24T13 ((((((((facts0 f24K).no f24Q0).no f24Q2).no f24Q4).no f24Q6).no f24Q8).no f24Q10).yes f24Q12) = true := by kernel_rfl
def f24Q14 : Quest := (.le [([], (Int.ofNat (nat_lit 576460752303423489))), ([(.var (nat_lit 3))], (Int.negSucc (nat_lit 0)))])
def f24T15 : STree := (.leaf (.tuple [(.agg [(.int .i64 []), (.int .i64 []), (.int .i64 []), (.int .i64 [])]), (.int .i64 [([], (Int.ofNat (nat_lit 1)))])]))
theorem f24C15 : checkT Tryd.prog (xOf symX) (gxOf symG) (sumsOf sums23) 10000 24 f24A f24T15 (((((((((facts0 f24K).no f24Q0).no f24Q2).no f24Q4).no f24Q6).no f24Q8).no f24Q10).no f24Q12).yes f24Q14) = true := by kernel_rfl
def f24Q16 : Quest := (.le [([], (Int.ofNat (nat_lit 1))), ([(.rem (.var (nat_lit 4)) (.lit (Int.ofNat (nat_lit 12))))], (Int.ofNat (nat_lit 1)))])
def f24Q17 : Quest := (.le [([], (Int.negSucc (nat_lit 5))), ([(.rem (.var (nat_lit 4)) (.lit (Int.ofNat (nat_lit 12))))], (Int.negSucc (nat_lit 0)))])
def f24Q18 : Quest := (.eq [([(.emod (nat_lit 6) (.var (nat_lit 4)))], (Int.ofNat (nat_lit 1)))])
def f24T19 : STree := (.leaf (.tuple [(.agg [(.int .i64 [([(.var (nat_lit 0))], (Int.negSucc (nat_lit 0)))]), (.int .i64 [([(.var (nat_lit 1))], (Int.negSucc (nat_lit 0)))]), (.int .i64 [([(.var (nat_lit 2))], (Int.negSucc (nat_lit 0)))]), (.int .i64 [([(.var (nat_lit 3))], (Int.negSucc (nat_lit 0)))])]), (.int .i64 [])]))
theorem f24C19 : checkT Tryd.prog (xOf symX) (gxOf symG) (sumsOf sums23) 10000 24 f24A f24T19 ((((((((((((facts0 f24K).no f24Q0).no f24Q2).no f24Q4).no f24Q6).no f24Q8).no f24Q10).no f24Q12).no f24Q14).yes f24Q16).yes f24Q17).yes f24Q18) = true := by kernel_rfl
def f24Q20 : Quest := (.eq [([], (Int.negSucc (nat_lit 0))), ([(.emod (nat_lit 6) (.var (nat_lit 4)))], (Int.ofNat (nat_lit 1)))])
def f24T21 : STree := (.test (.le [([], (Int.ofNat (nat_lit 576460752303423489))), ([(.var (nat_lit 1))], (Int.negSucc (nat_lit 0))), ([(.var (nat_lit 3))], (Int.negSucc (nat_lit 0)))])
  (.leaf (.tuple [(.agg [(.int .i64 []), (.int .i64 []), (.int .i64 []), (.int .i64 [])]), (.int .i64 [([], (Int.ofNat (nat_lit 2)))])]))
  (.test (.le [([], (Int.ofNat (nat_lit 576460752303423489))), ([(.var (nat_lit 1))], (Int.ofNat (nat_lit 1))), ([(.var (nat_lit 3))], (Int.ofNat (nat_lit 1)))])
  (.leaf (.tuple [(.agg [(.int .i64 []), (.int .i64 []), (.int .i64 []), (.int .i64 [])]), (.int .i64 [([], (Int.ofNat (nat_lit 2)))])]))
  (.leaf (.tuple [(.agg [(.int .i64 [([(.var (nat_lit 3))], (Int.ofNat (nat_lit 1)))]), (.int .i64 [([(.var (nat_lit 0))], (Int.negSucc (nat_lit 0)))]), (.int .i64 [([(.var (nat_lit 1))], (Int.negSucc (nat_lit 0))), ([(.var (nat_lit 3))], (Int.negSucc (nat_lit 0)))]), (.int .i64 [([(.var (nat_lit 2))], (Int.negSucc (nat_lit 0)))])]), (.int .i64 [])]))))
theorem f24C21 : checkT Tryd.prog (xOf symX) (gxOf symG) (sumsOf sums23) 10000 24 f24A f24T21 (((((((((((((facts0 f24K).no f24Q0).no f24Q2).no f24Q4).no f24Q6).no f24Q8).no f24Q10).no f24Q12).no f24Q14).yes f24Q16).yes f24Q17).no f24Q18).yes f24Q20) = true := by kernel_rfl
def f24Q22 : Quest := (.eq [([], (Int.negSucc (nat_lit 1))), ([(.emod (nat_lit 6) (.var (nat_lit 4)))], (Int.ofNat (nat_lit 1)))])
def f24T23 : STree := (.test (.le [([], (Int.ofNat (nat_lit 576460752303423489))), ([(.var (nat_lit 0))], (Int.negSucc (nat_lit 0))), ([(.var (nat_lit 2))], (Int.negSucc (nat_lit 0)))])
  (.leaf (.tuple [(.agg [(.int .i64 []), (.int .i64 []), (.int .i64 []), (.int .i64 [])]), (.int .i64 [([], (Int.ofNat (nat_lit 2)))])]))
  (.test (.le [([], (Int.ofNat (nat_lit 576460752303423489))), ([(.var (nat_lit 0))], (Int.ofNat (nat_lit 1))), ([(.var (nat_lit 2))], (Int.ofNat (nat_lit 1)))])
  (.leaf (.tuple [(.agg [(.int .i64 []), (.int .i64 []), (.int .i64 []), (.int .i64 [])]), (.int .i64 [([], (Int.ofNat (nat_lit 2)))])]))
  (.test (.le [([], (Int.ofNat (nat_lit 576460752303423489))), ([(.var (nat_lit 1))], (Int.negSucc (nat_lit 0))), ([(.var (nat_lit 3))], (Int.negSucc (nat_lit 0)))])
  (.leaf (.tuple [(.agg [(.int .i64 []), (.int .i64 []), (.int .i64 []), (.int .i64 [])]), (.int .i64 [([], (Int.ofNat (nat_lit 2)))])]))
  (.test (.le [([], (Int.ofNat (nat_lit 576460752303423489))), ([(.var (nat_lit 1))], (Int.ofNat (nat_lit 1))), ([(.var (nat_lit 3))], (Int.ofNat (nat_lit 1)))])
  (.leaf (.tuple [(.agg [(.int .i64 []), (.int .i64 []), (.int .i64 []), (.int .i64 [])]), (.int .i64 [([], (Int.ofNat (nat_lit 2)))])]))
  (.leaf (.tuple [(.agg [(.int .i64 [([(.var (nat_lit 2))], (Int.ofNat (nat_lit 1)))]), (.int .i64 [([(.var (nat_lit 3))], (Int.ofNat (nat_lit 1)))]), (.int .i64 [([(.var (nat_lit 0))], (Int.negSucc (nat_lit 0))), ([(.var (nat_lit 2))], (Int.negSucc (nat_lit 0)))]), (.int .i64 [([(.var (nat_lit 1))], (Int.negSucc (nat_lit 0))), ([(.var (nat_lit 3))], (Int.negSucc (nat_lit 0)))])]), (.int .i64 [])]))))))
theorem f24C23 : checkT Tryd.prog (xOf symX) (gxOf symG) (sumsOf sums23) 10000 24 f24A f24T23 ((((((((((((((facts0 f24K).no f24Q0).no f24Q2).no f24Q4).no f24Q6).no f24Q8).no f24Q10).no f24Q12).no f24Q14).yes f24Q16).yes f24Q17).no f24Q18).no f24Q20).yes f24Q22) = true := by kernel_rfl
def f24Q24 : Quest := (.eq [([], (Int.negSucc (nat_lit 2))), ([(.emod (nat_lit 6) (.var (nat_lit 4)))], (Int.ofNat (nat_lit 1)))])
def f24T25 : STree := (.test (.le [([], (Int.ofNat (nat_lit 576460752303423489))), ([(.var (nat_lit 1))], (Int.ofNat (nat_lit 1))), ([(.var (nat_lit 3))], (Int.ofNat (nat_lit 1)))])
  (.leaf (.tuple [(.agg [(.int .i64 []), (.int .i64 []), (.int .i64 []), (.int .i64 [])]), (.int .i64 [([], (Int.ofNat (nat_lit 2)))])]))
  (.test (.le [([], (Int.ofNat (nat_lit 576460752303423489))), ([(.var (nat_lit 1))], (Int.negSucc (nat_lit 0))), ([(.var (nat_lit 3))], (Int.negSucc (nat_lit 0)))])
  (.leaf (.tuple [(.agg [(.int .i64 []), (.int .i64 []), (.int .i64 []), (.int .i64 [])]), (.int .i64 [([], (Int.ofNat (nat_lit 2)))])]))
  (.test (.le [([], (Int.ofNat (nat_lit 576460752303423489))), ([(.var (nat_lit 0))], (Int.negSucc (nat_lit 0))), ([(.var (nat_lit 2))], (Int.negSucc (nat_lit 0)))])
  (.leaf (.tuple [(.agg [(.int .i64 []), (.int .i64 []), (.int .i64 []), (.int .i64 [])]), (.int .i64 [([], (Int.ofNat (nat_lit 2)))])]))
  (.test (.le [([], (Int.ofNat (nat_lit 576460752303423489))), ([(.var (nat_lit 0))], (Int.ofNat (nat_lit 1))), ([(.var (nat_lit 2))], (Int.ofNat (nat_lit 1)))])
  (.leaf (.tuple [(.agg [(.int .i64 []), (.int .i64 []), (.int .i64 []), (.int .i64 [])]), (.int .i64 [([], (Int.ofNat (nat_lit 2)))])]))
  (.leaf (.tuple [(.agg [(.int .i64 [([(.var (nat_lit 1))], (Int.ofNat (nat_lit 1))), ([(.var (nat_lit 3))], (Int.ofNat (nat_lit 1)))]), (.int .i64 [([(.var (nat_lit 2))], (Int.ofNat (nat_lit 1)))]), (.int .i64 [([(.var (nat_lit 1))], (Int.negSucc (nat_lit 0)))]), (.int .i64 [([(.var (nat_lit 0))], (Int.negSucc (nat_lit 0))), ([(.var (nat_lit 2))], (Int.negSucc (nat_lit 0)))])]), (.int .i64 [])]))))))
theorem f24C25 : checkT Tryd.prog (xOf symX) (gxOf symG) (sumsOf sums23) 10000 24 f24A f24T25 (((((((((((((((facts0 f24K).no f24Q0).no f24Q2).no f24Q4).no f24Q6).no f24Q8).no f24Q10).no f24Q12).no f24Q14).yes f24Q16).yes f24Q17).no f24Q18).no f24Q20).no f24Q22).yes f24Q24) = true := by kernel_rfl
def f24T26 : STree := (.test (.eq [([], (Int.negSucc (nat_lit 3))), ([(.emod (nat_lit 6) (.var (nat_lit 4)))], (Int.ofNat (nat_lit 1)))])
  (.test (.le [([], (Int.ofNat (nat_lit 576460752303423489))), ([(.var (nat_lit 0))], (Int.ofNat (nat_lit 1))), ([(.var (nat_lit 2))], (Int.ofNat (nat_lit 1)))])
  (.leaf (.tuple [(.agg [(.int .i64 []), (.int .i64 []), (.int .i64 []), (.int .i64 [])]), (.int .i64 [([], (Int.ofNat (nat_lit 2)))])]))
  (.test (.le [([], (Int.ofNat (nat_lit 576460752303423489))), ([(.var (nat_lit 0))], (Int.negSucc (nat_lit 0))), ([(.var (nat_lit 2))], (Int.negSucc (nat_lit 0)))])
  (.leaf (.tuple [(.agg [(.int .i64 []), (.int .i64 []), (.int .i64 []), (.int .i64 [])]), (.int .i64 [([], (Int.ofNat (nat_lit 2)))])]))
  (.test (.le [([], (Int.ofNat (nat_lit 576460752303423489))), ([(.var (nat_lit 1))], (Int.ofNat (nat_lit 1))), ([(.var (nat_lit 3))], (Int.ofNat (nat_lit 1)))])
  (.leaf (.tuple [(.agg [(.int .i64 []), (.int .i64 []), (.int .i64 []), (.int .i64 [])]), (.int .i64 [([], (Int.ofNat (nat_lit 2)))])]))
  (.test (.le [([], (Int.ofNat (nat_lit 576460752303423489))), ([(.var (nat_lit 1))], (Int.negSucc (nat_lit 0))), ([(.var (nat_lit 3))], (Int.negSucc (nat_lit 0)))])
  (.leaf (.tuple [(.agg [(.int .i64 []), (.int .i64 []), (.int .i64 []), (.int .i64 [])]), (.int .i64 [([], (Int.ofNat (nat_lit 2)))])]))
  (.leaf (.tuple [(.agg [(.int .i64 [([(.var (nat_lit 0))], (Int.ofNat (nat_lit 1))), ([(.var (nat_lit 2))], (Int.ofNat (nat_lit 1)))]), (.int .i64 [([(.var (nat_lit 1))], (Int.ofNat (nat_lit 1))), ([(.var (nat_lit 3))], (Int.ofNat (nat_lit 1)))]), (.int .i64 [([(.var (nat_lit 0))], (Int.negSucc (nat_lit 0)))]), (.int .i64 [([(.var (nat_lit 1))], (Int.negSucc (nat_lit 0)))])]), (.int .i64 [])]))))))
  (.test (.le [([], (Int.ofNat (nat_lit 576460752303423489))), ([(.var (nat_lit 0))], (Int.ofNat (nat_lit 1))), ([(.var (nat_lit 2))], (Int.ofNat (nat_lit 1)))])
  (.leaf (.tuple [(.agg [(.int .i64 []), (.int .i64 []), (.int .i64 []), (.int .i64 [])]), (.int .i64 [([], (Int.ofNat (nat_lit 2)))])]))
  (.test (.le [([], (Int.ofNat (nat_lit 576460752303423489))), ([(.var (nat_lit 0))], (Int.negSucc (nat_lit 0))), ([(.var (nat_lit 2))], (Int.negSucc (nat_lit 0)))])
  (.leaf (.tuple [(.agg [(.int .i64 []), (.int .i64 []), (.int .i64 []), (.int .i64 [])]), (.int .i64 [([], (Int.ofNat (nat_lit 2)))])]))
  (.leaf (.tuple [(.agg [(.int .i64 [([(.var (nat_lit 1))], (Int.ofNat (nat_lit 1)))]), (.int .i64 [([(.var (nat_lit 0))], (Int.ofNat (nat_lit 1))), ([(.var (nat_lit 2))], (Int.ofNat (nat_lit 1)))]), (.int .i64 [([(.var (nat_lit 3))], (Int.ofNat (nat_lit 1)))]), (.int .i64 [([(.var (nat_lit 0))], (Int.negSucc (nat_lit 0)))])]), (.int .i64 [])])))))
theorem f24C26 : checkT Tryd.prog (xOf symX) (gxOf symG) (sumsOf sums23) 10000 24 f24A f24T26 (((((((((((((((facts0 f24K).no f24Q0).no f24Q2).no f24Q4).no f24Q6).no f24Q8).no f24Q10).no f24Q12).no f24Q14).yes f24Q16).yes f24Q17).no f24Q18).no f24Q20).no f24Q22).no f24Q24) = true := by kernel_rfl
def f24T27 : STree := .test f24Q24 f24T25 f24T26
theorem f24C27 : checkT Tryd.prog (xOf symX) (gxOf symG) (sumsOf sums23) 10000 24 f24A f24T27 ((((((((((((((facts0 f24K).no f24Q0).no f24Q2).no f24Q4).no f24Q6).no f24Q8).no f24Q10).no f24Q12).no f24Q14).yes f24Q16).yes f24Q17).no f24Q18).no f24Q20).no f24Q22) = true := checkT_test f24C25 f24C26
def f24T28 : STree := .test f24Q22 f24T23 f24T27
theorem f24C28 : checkT Tryd.prog (xOf symX) (gxOf symG) (sumsOf sums23) 10000 24 f24A f24T28 (((((((((((((facts0 f24K).no f24Q0).no f24Q2).no f24Q4).no f24Q6).no f24Q8).no f24Q10).no f24Q12).no f24Q14).yes f24Q16).yes f24Q17).no f24Q18).no f24Q20) = true := checkT_test f24C23 f24C27
def f24T29 : STree := .test f24Q20 f24T21 f24T28
theorem f24C29 : checkT Tryd.prog (xOf symX) (gxOf symG) (sumsOf sums23) 10000 24 f24A f24T29 ((((((((((((facts0 f24K).no f24Q0).no f24Q2).no f24Q4).no f24Q6).no f24Q8).no f24Q10).no f24Q12).no f24Q14).yes f24Q16).yes f24Q17).no f24Q18) = true := checkT_test f24C21 f24C28
def f24T30 : STree := .test f24Q18 f24T19 f24T29
theorem f24C30 : checkT Tryd.prog (xOf symX) (gxOf symG) (sumsOf sums23) 10000 24 f24A f24T30 (((((((((((facts0 f24K).no f24Q0).no f24Q2).no f24Q4).no f24Q6).no f24Q8).no f24Q10).no f24Q12).no f24Q14).yes f24Q16).yes f24Q17) = true := checkT_test f24C19 f24C29
def f24Q31 : Quest := (.eq [([], (Int.ofNat (nat_lit 11))), ([(.rem (.var (nat_lit 4)) (.lit (Int.ofNat (nat_lit 12))))], (Int.ofNat (nat_lit 1)))])
def f24T32 : STree := (.test (.le [([], (Int.ofNat (nat_lit 576460752303423489))), ([(.var (nat_lit 1))], (Int.ofNat (nat_lit 1))), ([(.var (nat_lit 3))], (Int.ofNat (nat_lit 1)))])
  (.leaf (.tuple [(.agg [(.int .i64 []), (.int .i64 []), (.int .i64 []), (.int .i64 [])]), (.int .i64 [([], (Int.ofNat (nat_lit 2)))])]))
  (.test (.le [([], (Int.ofNat (nat_lit 576460752303423489))), ([(.var (nat_lit 1))], (Int.negSucc (nat_lit 0))), ([(.var (nat_lit 3))], (Int.negSucc (nat_lit 0)))])
  (.leaf (.tuple [(.agg [(.int .i64 []), (.int .i64 []), (.int .i64 []), (.int .i64 [])]), (.int .i64 [([], (Int.ofNat (nat_lit 2)))])]))
  (.leaf (.tuple [(.agg [(.int .i64 [([(.var (nat_lit 3))], (Int.negSucc (nat_lit 0)))]), (.int .i64 [([(.var (nat_lit 0))], (Int.ofNat (nat_lit 1)))]), (.int .i64 [([(.var (nat_lit 1))], (Int.ofNat (nat_lit 1))), ([(.var (nat_lit 3))], (Int.ofNat (nat_lit 1)))]), (.int .i64 [([(.var (nat_lit 2))], (Int.ofNat (nat_lit 1)))])]), (.int .i64 [])]))))
theorem f24C32 : checkT Tryd.prog (xOf symX) (gxOf symG) (sumsOf sums23) 10000 24 f24A f24T32 ((((((((((((facts0 f24K).no f24Q0).no f24Q2).no f24Q4).no f24Q6).no f24Q8).no f24Q10).no f24Q12).no f24Q14).yes f24Q16).no f24Q17).yes f24Q31) = true := by kernel_rfl
def f24Q33 : Quest := (.eq [([], (Int.ofNat (nat_lit 10))), ([(.rem (.var (nat_lit 4)) (.lit (Int.ofNat (nat_lit 12))))], (Int.ofNat (nat_lit 1)))])
def f24T34 : STree := (.test (.le [([], (Int.ofNat (nat_lit 576460752303423489))), ([(.var (nat_lit 0))], (Int.ofNat (nat_lit 1))), ([(.var (nat_lit 2))], (Int.ofNat (nat_lit 1)))])
  (.leaf (.tuple [(.agg [(.int .i64 []), (.int .i64 []), (.int .i64 []), (.int .i64 [])]), (.int .i64 [([], (Int.ofNat (nat_lit 2)))])]))
  (.test (.le [([], (Int.ofNat (nat_lit 576460752303423489))), ([(.var (nat_lit 0))], (Int.negSucc (nat_lit 0))), ([(.var (nat_lit 2))], (Int.negSucc (nat_lit 0)))])
  (.leaf (.tuple [(.agg [(.int .i64 []), (.int .i64 []), (.int .i64 []), (.int .i64 [])]), (.int .i64 [([], (Int.ofNat (nat_lit 2)))])]))
  (.test (.le [([], (Int.ofNat (nat_lit 576460752303423489))), ([(.var (nat_lit 1))], (Int.ofNat (nat_lit 1))), ([(.var (nat_lit 3))], (Int.ofNat (nat_lit 1)))])
  (.leaf (.tuple [(.agg [(.int .i64 []), (.int .i64 []), (.int .i64 []), (.int .i64 [])]), (.int .i64 [([], (Int.ofNat (nat_lit 2)))])]))
  (.test (.le [([], (Int.ofNat (nat_lit 576460752303423489))), ([(.var (nat_lit 1))], (Int.negSucc (nat_lit 0))), ([(.var (nat_lit 3))], (Int.negSucc (nat_lit 0)))])
  (.leaf (.tuple [(.agg [(.int .i64 []), (.int .i64 []), (.int .i64 []), (.int .i64 [])]), (.int .i64 [([], (Int.ofNat (nat_lit 2)))])]))
  (.leaf (.tuple [(.agg [(.int .i64 [([(.var (nat_lit 2))], (Int.negSucc (nat_lit 0)))]), (.int .i64 [([(.var (nat_lit 3))], (Int.negSucc (nat_lit 0)))]), (.int .i64 [([(.var (nat_lit 0))], (Int.ofNat (nat_lit 1))), ([(.var (nat_lit 2))], (Int.ofNat (nat_lit 1)))]), (.int .i64 [([(.var (nat_lit 1))], (Int.ofNat (nat_lit 1))), ([(.var (nat_lit 3))], (Int.ofNat (nat_lit 1)))])]), (.int .i64 [])]))))))
theorem f24C34 : checkT Tryd.prog (xOf symX) (gxOf symG) (sumsOf sums23) 10000 24 f24A f24T34 (((((((((((((facts0 f24K).no f24Q0).no f24Q2).no f24Q4).no f24Q6).no f24Q8).no f24Q10).no f24Q12).no f24Q14).yes f24Q16).no f24Q17).no f24Q31).yes f24Q33) = true := by kernel_rfl
def f24Q35 : Quest := (.eq [([], (Int.ofNat (nat_lit 9))), ([(.rem (.var (nat_lit 4)) (.lit (Int.ofNat (nat_lit 12))))], (Int.ofNat (nat_lit 1)))])
def f24T36 : STree := (.test (.le [([], (Int.ofNat (nat_lit 576460752303423489))), ([(.var (nat_lit 1))], (Int.negSucc (nat_lit 0))), ([(.var (nat_lit 3))], (Int.negSucc (nat_lit 0)))])
  (.leaf (.tuple [(.agg [(.int .i64 []), (.int .i64 []), (.int .i64 []), (.int .i64 [])]), (.int .i64 [([], (Int.ofNat (nat_lit 2)))])]))
  (.test (.le [([], (Int.ofNat (nat_lit 576460752303423489))), ([(.var (nat_lit 1))], (Int.ofNat (nat_lit 1))), ([(.var (nat_lit 3))], (Int.ofNat (nat_lit 1)))])
  (.leaf (.tuple [(.agg [(.int .i64 []), (.int .i64 []), (.int .i64 []), (.int .i64 [])]), (.int .i64 [([], (Int.ofNat (nat_lit 2)))])]))
  (.test (.le [([], (Int.ofNat (nat_lit 576460752303423489))), ([(.var (nat_lit 0))], (Int.ofNat (nat_lit 1))), ([(.var (nat_lit 2))], (Int.ofNat (nat_lit 1)))])
  (.leaf (.tuple [(.agg [(.int .i64 []), (.int .i64 []), (.int .i64 []), (.int .i64 [])]), (.int .i64 [([], (Int.ofNat (nat_lit 2)))])]))
  (.test (.le [([], (Int.ofNat (nat_lit 576460752303423489))), ([(.var (nat_lit 0))], (Int.negSucc (nat_lit 0))), ([(.var (nat_lit 2))], (Int.negSucc (nat_lit 0)))])
  (.leaf (.tuple [(.agg [(.int .i64 []), (.int .i64 []), (.int .i64 []), (.int .i64 [])]), (.int .i64 [([], (Int.ofNat (nat_lit 2)))])]))
  (.leaf (.tuple [(.agg [(.int .i64 [([(.var (nat_lit 1))], (Int.negSucc (nat_lit 0))), ([(.var (nat_lit 3))], (Int.negSucc (nat_lit 0)))]), (.int .i64 [([(.var (nat_lit 2))], (Int.negSucc (nat_lit 0)))]), (.int .i64 [([(.var (nat_lit 1))], (Int.ofNat (nat_lit 1)))]), (.int .i64 [([(.var (nat_lit 0))], (Int.ofNat (nat_lit 1))), ([(.var (nat_lit 2))], (Int.ofNat (nat_lit 1)))])]), (.int .i64 [])]))))))
theorem f24C36 : checkT Tryd.prog (xOf symX) (gxOf symG) (sumsOf sums23) 10000 24 f24A f24T36 ((((((((((((((facts0 f24K).no f24Q0).no f24Q2).no f24Q4).no f24Q6).no f24Q8).no f24Q10).no f24Q12).no f24Q14).yes f24Q16).no f24Q17).no f24Q31).no f24Q33).yes f24Q35) = true := by kernel_rfl
def f24T37 : STree := (.test (.eq [([], (Int.ofNat (nat_lit 8))), ([(.rem (.var (nat_lit 4)) (.lit (Int.ofNat (nat_lit 12))))], (Int.ofNat (nat_lit 1)))])
  (.test (.le [([], (Int.ofNat (nat_lit 576460752303423489))), ([(.var (nat_lit 0))], (Int.negSucc (nat_lit 0))), ([(.var (nat_lit 2))], (Int.negSucc (nat_lit 0)))])
  (.leaf (.tuple [(.agg [(.int .i64 []), (.int .i64 []), (.int .i64 []), (.int .i64 [])]), (.int .i64 [([], (Int.ofNat (nat_lit 2)))])]))
  (.test (.le [([], (Int.ofNat (nat_lit 576460752303423489))), ([(.var (nat_lit 0))], (Int.ofNat (nat_lit 1))), ([(.var (nat_lit 2))], (Int.ofNat (nat_lit 1)))])
  (.leaf (.tuple [(.agg [(.int .i64 []), (.int .i64 []), (.int .i64 []), (.int .i64 [])]), (.int .i64 [([], (Int.ofNat (nat_lit 2)))])]))
  (.test (.le [([], (Int.ofNat (nat_lit 576460752303423489))), ([(.var (nat_lit 1))], (Int.negSucc (nat_lit 0))), ([(.var (nat_lit 3))], (Int.negSucc (nat_lit 0)))])
  (.leaf (.tuple [(.agg [(.int .i64 []), (.int .i64 []), (.int .i64 []), (.int .i64 [])]), (.int .i64 [([], (Int.ofNat (nat_lit 2)))])]))
  (.test (.le [([], (Int.ofNat (nat_lit 576460752303423489))), ([(.var (nat_lit 1))], (Int.ofNat (nat_lit 1))), ([(.var (nat_lit 3))], (Int.ofNat (nat_lit 1)))])
  (.leaf (.tuple [(.agg [(.int .i64 []), (.int .i64 []), (.int .i64 []), (.int .i64 [])]), (.int .i64 [([], (Int.ofNat (nat_lit 2)))])]))
  (.leaf (.tuple [(.agg [(.int .i64 [([(.var (nat_lit 0))], (Int.negSucc (nat_lit 0))), ([(.var (nat_lit 2))], (Int.negSucc (nat_lit 0)))]), (.int .i64 [([(.var (nat_lit 1))], (Int.negSucc (nat_lit 0))), ([(.var (nat_lit 3))], (Int.negSucc (nat_lit 0)))]), (.int .i64 [([(.var (nat_lit 0))], (Int.ofNat (nat_lit 1)))]), (.int .i64 [([(.var (nat_lit 1))], (Int.ofNat (nat_lit 1)))])]), (.int .i64 [])]))))))
  (.test (.le [([], (Int.ofNat (nat_lit 576460752303423489))), ([(.var (nat_lit 0))], (Int.negSucc (nat_lit 0))), ([(.var (nat_lit 2))], (Int.negSucc (nat_lit 0)))])
  (.leaf (.tuple [(.agg [(.int .i64 []), (.int .i64 []), (.int .i64 []), (.int .i64 [])]), (.int .i64 [([], (Int.ofNat (nat_lit 2)))])]))
  (.test (.le [([], (Int.ofNat (nat_lit 576460752303423489))), ([(.var (nat_lit 0))], (Int.ofNat (nat_lit 1))), ([(.var (nat_lit 2))], (Int.ofNat (nat_lit 1)))])
  (.leaf (.tuple [(.agg [(.int .i64 []), (.int .i64 []), (.int .i64 []), (.int .i64 [])]), (.int .i64 [([], (Int.ofNat (nat_lit 2)))])]))
  (.leaf (.tuple [(.agg [(.int .i64 [([(.var (nat_lit 1))], (Int.negSucc (nat_lit 0)))]), (.int .i64 [([(.var (nat_lit 0))], (Int.negSucc (nat_lit 0))), ([(.var (nat_lit 2))], (Int.negSucc (nat_lit 0)))]), (.int .i64 [([(.var (nat_lit 3))], (Int.negSucc (nat_lit 0)))]), (.int .i64 [([(.var (nat_lit 0))], (Int.ofNat (nat_lit 1)))])]), (.int .i64 [])])))))
theorem f24C37 : checkT Tryd.prog (xOf symX) (gxOf symG) (sumsOf sums23) 10000 24 f24A f24T37 ((((((((((((((facts0 f24K).no f24Q0).no f24Q2).no f24Q4).no f24Q6).no f24Q8).no f24Q10).no f24Q12).no f24Q14).yes f24Q16).no f24Q17).no f24Q31).no f24Q33).no f24Q35) = true := by kernel_rfl
def f24T38 : STree := .test f24Q35 f24T36 f24T37
theorem f24C38 : checkT Tryd.prog (xOf symX) (gxOf symG) (sumsOf sums23) 10000 24 f24A f24T38 (((((((((((((facts0 f24K).no f24Q0).no f24Q2).no f24Q4).no f24Q6).no f24Q8).no f24Q10).no f24Q12).no f24Q14).yes f24Q16).no f24Q17).no f24Q31).no f24Q33) = true := checkT_test f24C36 f24C37
def f24T39 : STree := .test f24Q33 f24T34 f24T38
theorem f24C39 : checkT Tryd.prog (xOf symX) (gxOf symG) (sumsOf sums23) 10000 24 f24A f24T39 ((((((((((((facts0 f24K).no f24Q0).no f24Q2).no f24Q4).no f24Q6).no f24Q8).no f24Q10).no f24Q12).no f24Q14).yes f24Q16).no f24Q17).no f24Q31) = true := checkT_test f24C34 f24C38
def f24T40 : STree := .test f24Q31 f24T32 f24T39
theorem f24C40 : checkT Tryd.prog (xOf symX) (gxOf symG) (sumsOf sums23) 10000 24 f24A f24T40 (((((((((((facts0 f24K).no f24Q0).no f24Q2).no f24Q4).no f24Q6).no f24Q8).no f24Q10).no f24Q12).no f24Q14).yes f24Q16).no f24Q17) = true := checkT_test f24C32 f24C39
def f24T41 : STree := .test f24Q17 f24T30 f24T40
theorem f24C41 : checkT Tryd.prog (xOf symX) (gxOf symG) (sumsOf sums23) 10000 24 f24A f24T41 ((((((((((facts0 f24K).no f24Q0).no f24Q2).no f24Q4).no f24Q6).no f24Q8).no f24Q10).no f24Q12).no f24Q14).yes f24Q16) = true := checkT_test f24C30 f24C40
def f24Q42 : Quest := (.le [([], (Int.ofNat (nat_lit 6))), ([(.rem (.var (nat_lit 4)) (.lit (Int.ofNat (nat_lit 12))))], (Int.negSucc (nat_lit 0)))])
def f24Q43 : Quest := (.eq [([(.emod (nat_lit 6) (.var (nat_lit 4)))], (Int.ofNat (nat_lit 1)))])
def f24T44 : STree := (.leaf (.tuple [(.agg [(.int .i64 [([(.var (nat_lit 0))], (Int.negSucc (nat_lit 0)))]), (.int .i64 [([(.var (nat_lit 1))], (Int.negSucc (nat_lit 0)))]), (.int .i64 [([(.var (nat_lit 2))], (Int.negSucc (nat_lit 0)))]), (.int .i64 [([(.var (nat_lit 3))], (Int.negSucc (nat_lit 0)))])]), (.int .i64 [])]))
theorem f24C44 : checkT Tryd.prog (xOf symX) (gxOf symG) (sumsOf sums23) 10000 24 f24A f24T44 ((((((((((((facts0 f24K).no f24Q0).no f24Q2).no f24Q4).no f24Q6).no f24Q8).no f24Q10).no f24Q12).no f24Q14).no f24Q16).yes f24Q42).yes f24Q43) = true := by kernel_rfl
def f24Q45 : Quest := (.eq [([], (Int.negSucc (nat_lit 0))), ([(.emod (nat_lit 6) (.var (nat_lit 4)))], (Int.ofNat (nat_lit 1)))])
def f24T46 : STree := (.test (.le [([], (Int.ofNat (nat_lit 576460752303423489))), ([(.var (nat_lit 1))], (Int.negSucc (nat_lit 0))), ([(.var (nat_lit 3))], (Int.negSucc (nat_lit 0)))])
  (.leaf (.tuple [(.agg [(.int .i64 []), (.int .i64 []), (.int .i64 []), (.int .i64 [])]), (.int .i64 [([], (Int.ofNat (nat_lit 2)))])]))
  (.test (.le [([], (Int.ofNat (nat_lit 576460752303423489))), ([(.var (nat_lit 1))], (Int.ofNat (nat_lit 1))), ([(.var (nat_lit 3))], (Int.ofNat (nat_lit 1)))])
  (.leaf (.tuple [(.agg [(.int .i64 []), (.int .i64 []), (.int .i64 []), (.int .i64 [])]), (.int .i64 [([], (Int.ofNat (nat_lit 2)))])]))
  (.leaf (.tuple [(.agg [(.int .i64 [([(.var (nat_lit 3))], (Int.ofNat (nat_lit 1)))]), (.int .i64 [([(.var (nat_lit 0))], (Int.negSucc (nat_lit 0)))]), (.int .i64 [([(.var (nat_lit 1))], (Int.negSucc (nat_lit 0))), ([(.var (nat_lit 3))], (Int.negSucc (nat_lit 0)))]), (.int .i64 [([(.var (nat_lit 2))], (Int.negSucc (nat_lit 0)))])]), (.int .i64 [])]))))
theorem f24C46 : checkT Tryd.prog (xOf symX) (gxOf symG) (sumsOf sums23) 10000 24 f24A f24T46 (((((((((((((facts0 f24K).no f24Q0).no f24Q2).no f24Q4).no f24Q6).no f24Q8).no f24Q10).no f24Q12).no f24Q14).no f24Q16).yes f24Q42).no f24Q43).yes f24Q45) = true := by kernel_rfl
def f24Q47 : Quest := (.eq [([], (Int.negSucc (nat_lit 1))), ([(.emod (nat_lit 6) (.var (nat_lit 4)))], (Int.ofNat (nat_lit 1)))])
def f24T48 : STree := (.test (.le [([], (Int.ofNat (nat_lit 576460752303423489))), ([(.var (nat_lit 0))], (Int.negSucc (nat_lit 0))), ([(.var (nat_lit 2))], (Int.negSucc (nat_lit 0)))])
  (.leaf (.tuple [(.agg [(.int .i64 []), (.int .i64 []), (.int .i64 []), (.int .i64 [])]), (.int .i64 [([], (Int.ofNat (nat_lit 2)))])]))
  (.test (.le [([], (Int.ofNat (nat_lit 576460752303423489))), ([(.var (nat_lit 0))], (Int.ofNat (nat_lit 1))), ([(.var (nat_lit 2))], (Int.ofNat (nat_lit 1)))])
  (.leaf (.tuple [(.agg [(.int .i64 []), (.int .i64 []), (.int .i64 []), (.int .i64 [])]), (.int .i64 [([], (Int.ofNat (nat_lit 2)))])]))
  (.test (.le [([], (Int.ofNat (nat_lit 576460752303423489))), ([(.var (nat_lit 1))], (Int.negSucc (nat_lit 0))), ([(.var (nat_lit 3))], (Int.negSucc (nat_lit 0)))])
  (.leaf (.tuple [(.agg [(.int .i64 []), (.int .i64 []), (.int .i64 []), (.int .i64 [])]), (.int .i64 [([], (Int.ofNat (nat_lit 2)))])]))
  (.test (.le [([], (Int.ofNat (nat_lit 576460752303423489))), ([(.var (nat_lit 1))], (Int.ofNat (nat_lit 1))), ([(.var (nat_lit 3))], (Int.ofNat (nat_lit 1)))])
  (.leaf (.tuple [(.agg [(.int .i64 []), (.int .i64 []), (.int .i64 []), (.int .i64 [])]), (.int .i64 [([], (Int.ofNat (nat_lit 2)))])]))
  (.leaf (.tuple [(.agg [(.int .i64 [([(.var (nat_lit 2))], (Int.ofNat (nat_lit 1)))]), (.int .i64 [([(.var (nat_lit 3))], (Int.ofNat (nat_lit 1)))]), (.int .i64 [([(.var (nat_lit 0))], (Int.negSucc (nat_lit 0))), ([(.var (nat_lit 2))], (Int.negSucc (nat_lit 0)))]), (.int .i64 [([(.var (nat_lit 1))], (Int.negSucc (nat_lit 0))), ([(.var (nat_lit 3))], (Int.negSucc (nat_lit 0)))])]), (.int .i64 [])]))))))
theorem f24C48 : checkT Tryd.prog (xOf symX) (gxOf symG) (sumsOf sums23) 10000 24 f24A f24T48 ((((((((((((((facts0 f24K).no f24Q0).no f24Q2).no f24Q4).no f24Q6).no f24Q8).no f24Q10).no f24Q12).no f24Q14).no f24Q16).yes f24Q42).no f24Q43).no f24Q45).yes f24Q47) = true := by kernel_rfl
def f24Q49 : Quest := (.eq [([], (Int.negSucc (nat_lit 2))), ([(.emod (nat_lit 6) (.var (nat_lit 4)))], (Int.ofNat (nat_lit 1)))])
def f24T50 : STree := (.test (.le [([], (Int.ofNat (nat_lit 576460752303423489))), ([(.var (nat_lit 1))], (Int.ofNat (nat_lit 1))), ([(.var (nat_lit 3))], (Int.ofNat (nat_lit 1)))])
  (.leaf (.tuple [(.agg [(.int .i64 []), (.int .i64 []), (.int .i64 []), (.int .i64 [])]), (.int .i64 [([], (Int.ofNat (nat_lit 2)))])]))
  (.test (.le [([], (Int.ofNat (nat_lit 576460752303423489))), ([(.var (nat_lit 1))], (Int.negSucc (nat_lit 0))), ([(.var (nat_lit 3))], (Int.negSucc (nat_lit 0)))])
  (.leaf (.tuple [(.agg [(.int .i64 []), (.int .i64 []), (.int .i64 []), (.int .i64 [])]), (.int .i64 [([], (Int.ofNat (nat_lit 2)))])]))
  (.test (.le [([], (Int.ofNat (nat_lit 576460752303423489))), ([(.var (nat_lit 0))], (Int.negSucc (nat_lit 0))), ([(.var (nat_lit 2))], (Int.negSucc (nat_lit 0)))])
  (.leaf (.tuple [(.agg [(.int .i64 []), (.int .i64 []), (.int .i64 []), (.int .i64 [])]), (.int .i64 [([], (Int.ofNat (nat_lit 2)))])]))
  (.test (.le [([], (Int.ofNat (nat_lit 576460752303423489))), ([(.var (nat_lit 0))], (Int.ofNat (nat_lit 1))), ([(.var (nat_lit 2))], (Int.ofNat (nat_lit 1)))])
  (.leaf (.tuple [(.agg [(.int .i64 []), (.int .i64 []), (.int .i64 []), (.int .i64 [])]), (.int .i64 [([], (Int.ofNat (nat_lit 2)))])]))
  (.leaf (.tuple [(.agg [(.int .i64 [([(.var (nat_lit 1))], (Int.ofNat (nat_lit 1))), ([(.var (nat_lit 3))], (Int.ofNat (nat_lit 1)))]), (.int .i64 [([(.var (nat_lit 2))], (Int.ofNat (nat_lit 1)))]), (.int .i64 [([(.var (nat_lit 1))], (Int.negSucc (nat_lit 0)))]), (.int .i64 [([(.var (nat_lit 0))], (Int.negSucc (nat_lit 0))), ([(.var (nat_lit 2))], (Int.negSucc (nat_lit 0)))])]), (.int .i64 [])]))))))
theorem f24C50 : checkT Tryd.prog (xOf symX) (gxOf symG) (sumsOf sums23) 10000 24 f24A f24T50 (((((((((((((((facts0 f24K).no f24Q0).no f24Q2).no f24Q4).no f24Q6).no f24Q8).no f24Q10).no f24Q12).no f24Q14).no f24Q16).yes f24Q42).no f24Q43).no f24Q45).no f24Q47).yes f24Q49) = true := by kernel_rfl
def f24T51 : STree := (.test (.eq [([], (Int.negSucc (nat_lit 3))), ([(.emod (nat_lit 6) (.var (nat_lit 4)))], (Int.ofNat (nat_lit 1)))])
  (.test (.le [([], (Int.ofNat (nat_lit 576460752303423489))), ([(.var (nat_lit 0))], (Int.ofNat (nat_lit 1))), ([(.var (nat_lit 2))], (Int.ofNat (nat_lit 1)))])
  (.leaf (.tuple [(.agg [(.int .i64 []), (.int .i64 []), (.int .i64 []), (.int .i64 [])]), (.int .i64 [([], (Int.ofNat (nat_lit 2)))])]))
  (.test (.le [([], (Int.ofNat (nat_lit 576460752303423489))), ([(.var (nat_lit 0))], (Int.negSucc (nat_lit 0))), ([(.var (nat_lit 2))], (Int.negSucc (nat_lit 0)))])
  (.leaf (.tuple [(.agg [(.int .i64 []), (.int .i64 []), (.int .i64 []), (.int .i64 [])]), (.int .i64 [([], (Int.ofNat (nat_lit 2)))])]))
  (.test (.le [([], (Int.ofNat (nat_lit 576460752303423489))), ([(.var (nat_lit 1))], (Int.ofNat (nat_lit 1))), ([(.var (nat_lit 3))], (Int.ofNat (nat_lit 1)))])
  (.leaf (.tuple [(.agg [(.int .i64 []), (.int .i64 []), (.int .i64 []), (.int .i64 [])]), (.int .i64 [([], (Int.ofNat (nat_lit 2)))])]))
  (.test (.le [([], (Int.ofNat (nat_lit 576460752303423489))), ([(.var (nat_lit 1))], (Int.negSucc (nat_lit 0))), ([(.var (nat_lit 3))], (Int.negSucc (nat_lit 0)))])
  (.leaf (.tuple [(.agg [(.int .i64 []), (.int .i64 []), (.int .i64 []), (.int .i64 [])]), (.int .i64 [([], (Int.ofNat (nat_lit 2)))])]))
  (.leaf (.tuple [(.agg [(.int .i64 [([(.var (nat_lit 0))], (Int.ofNat (nat_lit 1))), ([(.var (nat_lit 2))], (Int.ofNat (nat_lit 1)))]), (.int .i64 [([(.var (nat_lit 1))], (Int.ofNat (nat_lit 1))), ([(.var (nat_lit 3))], (Int.ofNat (nat_lit 1)))]), (.int .i64 [([(.var (nat_lit 0))], (Int.negSucc (nat_lit 0)))]), (.int .i64 [([(.var (nat_lit 1))], (Int.negSucc (nat_lit 0)))])]), (.int .i64 [])]))))))
  (.test (.le [([], (Int.ofNat (nat_lit 576460752303423489))), ([(.var (nat_lit 0))], (Int.ofNat (nat_lit 1))), ([(.var (nat_lit 2))], (Int.ofNat (nat_lit 1)))])
  (.leaf (.tuple [(.agg [(.int .i64 []), (.int .i64 []), (.int .i64 []), (.int .i64 [])]), (.int .i64 [([], (Int.ofNat (nat_lit 2)))])]))
  (.test (.le [([], (Int.ofNat (nat_lit 576460752303423489))), ([(.var (nat_lit 0))], (Int.negSucc (nat_lit 0))), ([(.var (nat_lit 2))], (Int.negSucc (nat_lit 0)))])
  (.leaf (.tuple [(.agg [(.int .i64 []), (.int .i64 []), (.int .i64 []), (.int .i64 [])]), (.int .i64 [([], (Int.ofNat (nat_lit 2)))])]))
  (.leaf (.tuple [(.agg [(.int .i64 [([(.var (nat_lit 1))], (Int.ofNat (nat_lit 1)))]), (.int .i64 [([(.var (nat_lit 0))], (Int.ofNat (nat_lit 1))), ([(.var (nat_lit 2))], (Int.ofNat (nat_lit 1)))]), (.int .i64 [([(.var (nat_lit 3))], (Int.ofNat (nat_lit 1)))]), (.int .i64 [([(.var (nat_lit 0))], (Int.negSucc (nat_lit 0)))])]), (.int .i64 [])])))))
theorem f24C51 : checkT Tryd.prog (xOf symX) (gxOf symG) (sumsOf sums23) 10000 24 f24A f24T51 (((((((((((((((facts0 f24K).no f24Q0).no f24Q2).no f24Q4).no f24Q6).no f24Q8).no f24Q10).no f24Q12).no f24Q14).no f24Q16).yes f24Q42).no f24Q43).no f24Q45).no f24Q47).no f24Q49) = true := by kernel_rfl
def f24T52 : STree := .test f24Q49 f24T50 f24T51
theorem f24C52 : checkT Tryd.prog (xOf symX) (gxOf symG) (sumsOf sums23) 10000 24 f24A f24T52 ((((((((((((((facts0 f24K).no f24Q0).no f24Q2).no f24Q4).no f24Q6).no f24Q8).no f24Q10).no f24Q12).no f24Q14).no f24Q16).yes f24Q42).no f24Q43).no f24Q45).no f24Q47) = true := checkT_test f24C50 f24C51
def f24T53 : STree := .test f24Q47 f24T48 f24T52
theorem f24C53 : checkT Tryd.prog (xOf symX) (gxOf symG) (sumsOf sums23) 10000 24 f24A f24T53 (((((((((((((facts0 f24K).no f24Q0).no f24Q2).no f24Q4).no f24Q6).no f24Q8).no f24Q10).no f24Q12).no f24Q14).no f24Q16).yes f24Q42).no f24Q43).no f24Q45) = true := checkT_test f24C48 f24C52
def f24T54 : STree := .test f24Q45 f24T46 f24T53
theorem f24C54 : checkT Tryd.prog (xOf symX) (gxOf symG) (sumsOf sums23) 10000 24 f24A f24T54 ((((((((((((facts0 f24K).no f24Q0).no f24Q2).no f24Q4).no f24Q6).no f24Q8).no f24Q10).no f24Q12).no f24Q14).no f24Q16).yes f24Q42).no f24Q43) = true := checkT_test f24C46 f24C53
def f24T55 : STree := .test f24Q43 f24T44 f24T54
theorem f24C55 : checkT Tryd.prog (xOf symX) (gxOf symG) (sumsOf sums23) 10000 24 f24A f24T55 (((((((((((facts0 f24K).no f24Q0).no f24Q2).no f24Q4).no f24Q6).no f24Q8).no f24Q10).no f24Q12).no f24Q14).no f24Q16).yes f24Q42) = true := checkT_test f24C44 f24C54
def f24Q56 : Quest := (.eq [([(.rem (.var (nat_lit 4)) (.lit (Int.ofNat (nat_lit 12))))], (Int.ofNat (nat_lit 1)))])
def f24T57 : STree := (.leaf (.tuple [(.agg [(.int .i64 [([(.var (nat_lit 0))], (Int.ofNat (nat_lit 1)))]), (.int .i64 [([(.var (nat_lit 1))], (Int.ofNat (nat_lit 1)))]), (.int .i64 [([(.var (nat_lit 2))], (Int.ofNat (nat_lit 1)))]), (.int .i64 [([(.var (nat_lit 3))], (Int.ofNat (nat_lit 1)))])]), (.int .i64 [])]))
theorem f24C57 : checkT Tryd.prog (xOf symX) (gxOf symG) (sumsOf sums23) 10000 24 f24A f24T57 ((((((((((((facts0 f24K).no f24Q0).no f24Q2).no f24Q4).no f24Q6).no f24Q8).no f24Q10).no f24Q12).no f24Q14).no f24Q16).no f24Q42).yes f24Q56) = true := by kernel_rfl
def f24Q58 : Quest := (.eq [([], (Int.negSucc (nat_lit 0))), ([(.rem (.var (nat_lit 4)) (.lit (Int.ofNat (nat_lit 12))))], (Int.ofNat (nat_lit 1)))])
def f24T59 : STree := (.test (.le [([], (Int.ofNat (nat_lit 576460752303423489))), ([(.var (nat_lit 1))], (Int.ofNat (nat_lit 1))), ([(.var (nat_lit 3))], (Int.ofNat (nat_lit 1)))])
  (.leaf (.tuple [(.agg [(.int .i64 []), (.int .i64 []), (.int .i64 []), (.int .i64 [])]), (.int .i64 [([], (Int.ofNat (nat_lit 2)))])]))
  (.test (.le [([], (Int.ofNat (nat_lit 576460752303423489))), ([(.var (nat_lit 1))], (Int.negSucc (nat_lit 0))), ([(.var (nat_lit 3))], (Int.negSucc (nat_lit 0)))])
  (.leaf (.tuple [(.agg [(.int .i64 []), (.int .i64 []), (.int .i64 []), (.int .i64 [])]), (.int .i64 [([], (Int.ofNat (nat_lit 2)))])]))
  (.leaf (.tuple [(.agg [(.int .i64 [([(.var (nat_lit 3))], (Int.negSucc (nat_lit 0)))]), (.int .i64 [([(.var (nat_lit 0))], (Int.ofNat (nat_lit 1)))]), (.int .i64 [([(.var (nat_lit 1))], (Int.ofNat (nat_lit 1))), ([(.var (nat_lit 3))], (Int.ofNat (nat_lit 1)))]), (.int .i64 [([(.var (nat_lit 2))], (Int.ofNat (nat_lit 1)))])]), (.int .i64 [])]))))
theorem f24C59 : checkT Tryd.prog (xOf symX) (gxOf symG) (sumsOf sums23) 10000 24 f24A f24T59 (((((((((((((facts0 f24K).no f24Q0).no f24Q2).no f24Q4).no f24Q6).no f24Q8).no f24Q10).no f24Q12).no f24Q14).no f24Q16).no f24Q42).no f24Q56).yes f24Q58) = true := by kernel_rfl
def f24Q60 : Quest := (.eq [([], (Int.negSucc (nat_lit 1))), ([(.rem (.var (nat_lit 4)) (.lit (Int.ofNat (nat_lit 12))))], (Int.ofNat (nat_lit 1)))])
def f24T61 : STree := (.test (.le [([], (Int.ofNat (nat_lit 576460752303423489))), ([(.var (nat_lit 0))], (Int.ofNat (nat_lit 1))), ([(.var (nat_lit 2))], (Int.ofNat (nat_lit 1)))])
  (.leaf (.tuple [(.agg [(.int .i64 []), (.int .i64 []), (.int .i64 []), (.int .i64 [])]), (.int .i64 [([], (Int.ofNat (nat_lit 2)))])]))
  (.test (.le [([], (Int.ofNat (nat_lit 576460752303423489))), ([(.var (nat_lit 0))], (Int.negSucc (nat_lit 0))), ([(.var (nat_lit 2))], (Int.negSucc (nat_lit 0)))])
  (.leaf (.tuple [(.agg [(.int .i64 []), (.int .i64 []), (.int .i64 []), (.int .i64 [])]), (.int .i64 [([], (Int.ofNat (nat_lit 2)))])]))
  (.test (.le [([], (Int.ofNat (nat_lit 576460752303423489))), ([(.var (nat_lit 1))], (Int.ofNat (nat_lit 1))), ([(.var (nat_lit 3))], (Int.ofNat (nat_lit 1)))])
  (.leaf (.tuple [(.agg [(.int .i64 []), (.int .i64 []), (.int .i64 []), (.int .i64 [])]), (.int .i64 [([], (Int.ofNat (nat_lit 2)))])]))
  (.test (.le [([], (Int.ofNat (nat_lit 576460752303423489))), ([(.var (nat_lit 1))], (Int.negSucc (nat_lit 0))), ([(.var (nat_lit 3))], (Int.negSucc (nat_lit 0)))])
  (.leaf (.tuple [(.agg [(.int .i64 []), (.int .i64 []), (.int .i64 []), (.int .i64 [])]), (.int .i64 [([], (Int.ofNat (nat_lit 2)))])]))
  (.leaf (.tuple [(.agg [(.int .i64 [([(.var (nat_lit 2))], (Int.negSucc (nat_lit 0)))]), (.int .i64 [([(.var (nat_lit 3))], (Int.negSucc (nat_lit 0)))]), (.int .i64 [([(.var (nat_lit 0))], (Int.ofNat (nat_lit 1))), ([(.var (nat_lit 2))], (Int.ofNat (nat_lit 1)))]), (.int .i64 [([(.var (nat_lit 1))], (Int.ofNat (nat_lit 1))), ([(.var (nat_lit 3))], (Int.ofNat (nat_lit 1)))])]), (.int .i64 [])]))))))
theorem f24C61 : checkT Tryd.prog (xOf symX) (gxOf symG) (sumsOf sums23) 10000 24 f24A f24T61 ((((((((((((((facts0 f24K).no f24Q0).no f24Q2).no f24Q4).no f24Q6).no f24Q8).no f24Q10).no f24Q12).no f24Q14).no f24Q16).no f24Q42).no f24Q56).no f24Q58).yes f24Q60) = true := by kernel_rfl
def f24Q62 : Quest := (.eq [([], (Int.negSucc (nat_lit 2))), ([(.rem (.var (nat_lit 4)) (.lit (Int.ofNat (nat_lit 12))))], (Int.ofNat (nat_lit 1)))])
def f24T63 : STree := (.test (.le [([], (Int.ofNat (nat_lit 576460752303423489))), ([(.var (nat_lit 1))], (Int.negSucc (nat_lit 0))), ([(.var (nat_lit 3))], (Int.negSucc (nat_lit 0)))])
  (.leaf (.tuple [(.agg [(.int .i64 []), (.int .i64 []), (.int .i64 []), (.int .i64 [])]), (.int .i64 [([], (Int.ofNat (nat_lit 2)))])]))
  (.test (.le [([], (Int.ofNat (nat_lit 576460752303423489))), ([(.var (nat_lit 1))], (Int.ofNat (nat_lit 1))), ([(.var (nat_lit 3))], (Int.ofNat (nat_lit 1)))])
  (.leaf (.tuple [(.agg [(.int .i64 []), (.int .i64 []), (.int .i64 []), (.int .i64 [])]), (.int .i64 [([], (Int.ofNat (nat_lit 2)))])]))
  (.test (.le [([], (Int.ofNat (nat_lit 576460752303423489))), ([(.var (nat_lit 0))], (Int.ofNat (nat_lit 1))), ([(.var (nat_lit 2))], (Int.ofNat (nat_lit 1)))])
  (.leaf (.tuple [(.agg [(.int .i64 []), (.int .i64 []), (.int .i64 []), (.int .i64 [])]), (.int .i64 [([], (Int.ofNat (nat_lit 2)))])]))
  (.test (.le [([], (Int.ofNat (nat_lit 576460752303423489))), ([(.var (nat_lit 0))], (Int.negSucc (nat_lit 0))), ([(.var (nat_lit 2))], (Int.negSucc (nat_lit 0)))])
  (.leaf (.tuple [(.agg [(.int .i64 []), (.int .i64 []), (.int .i64 []), (.int .i64 [])]), (.int .i64 [([], (Int.ofNat (nat_lit 2)))])]))
  (.leaf (.tuple [(.agg [(.int .i64 [([(.var (nat_lit 1))], (Int.negSucc (nat_lit 0))), ([(.var (nat_lit 3))], (Int.negSucc (nat_lit 0)))]), (.int .i64 [([(.var (nat_lit 2))], (Int.negSucc (nat_lit 0)))]), (.int .i64 [([(.var (nat_lit 1))], (Int.ofNat (nat_lit 1)))]), (.int .i64 [([(.var (nat_lit 0))], (Int.ofNat (nat_lit 1))), ([(.var (nat_lit 2))], (Int.ofNat (nat_lit 1)))])]), (.int .i64 [])]))))))
theorem f24C63 : checkT Tryd.prog (xOf symX) (gxOf symG) (sumsOf sums23) 10000 24 f24A f24T63 (((((((((((((((facts0 f24K).no f24Q0).no f24Q2).no f24Q4).no f24Q6).no f24Q8).no f24Q10).no f24Q12).no f24Q14).no f24Q16).no f24Q42).no f24Q56).no f24Q58).no f24Q60).yes f24Q62) = true := by kernel_rfl
def f24T64 : STree := (.test (.eq [([], (Int.negSucc (nat_lit 3))), ([(.rem (.var (nat_lit 4)) (.lit (Int.ofNat (nat_lit 12))))], (Int.ofNat (nat_lit 1)))])
  (.test (.le [([], (Int.ofNat (nat_lit 576460752303423489))), ([(.var (nat_lit 0))], (Int.negSucc (nat_lit 0))), ([(.var (nat_lit 2))], (Int.negSucc (nat_lit 0)))])
  (.leaf (.tuple [(.agg [(.int .i64 []), (.int .i64 []), (.int .i64 []), (.int .i64 [])]), (.int .i64 [([], (Int.ofNat (nat_lit 2)))])]))
  (.test (.le [([], (Int.ofNat (nat_lit 576460752303423489))), ([(.var (nat_lit 0))], (Int.ofNat (nat_lit 1))), ([(.var (nat_lit 2))], (Int.ofNat (nat_lit 1)))])
  (.leaf (.tuple [(.agg [(.int .i64 []), (.int .i64 []), (.int .i64 []), (.int .i64 [])]), (.int .i64 [([], (Int.ofNat (nat_lit 2)))])]))
  (.test (.le [([], (Int.ofNat (nat_lit 576460752303423489))), ([(.var (nat_lit 1))], (Int.negSucc (nat_lit 0))), ([(.var (nat_lit 3))], (Int.negSucc (nat_lit 0)))])
  (.leaf (.tuple [(.agg [(.int .i64 []), (.int .i64 []), (.int .i64 []), (.int .i64 [])]), (.int .i64 [([], (Int.ofNat (nat_lit 2)))])]))
  (.test (.le [([], (Int.ofNat (nat_lit 576460752303423489))), ([(.var (nat_lit 1))], (Int.ofNat (nat_lit 1))), ([(.var (nat_lit 3))], (Int.ofNat (nat_lit 1)))])
  (.leaf (.tuple [(.agg [(.int .i64 []), (.int .i64 []), (.int .i64 []), (.int .i64 [])]), (.int .i64 [([], (Int.ofNat (nat_lit 2)))])]))
  (.leaf (.tuple [(.agg [(.int .i64 [([(.var (nat_lit 0))], (Int.negSucc (nat_lit 0))), ([(.var (nat_lit 2))], (Int.negSucc (nat_lit 0)))]), (.int .i64 [([(.var (nat_lit 1))], (Int.negSucc (nat_lit 0))), ([(.var (nat_lit 3))], (Int.negSucc (nat_lit 0)))]), (.int .i64 [([(.var (nat_lit 0))], (Int.ofNat (nat_lit 1)))]), (.int .i64 [([(.var (nat_lit 1))], (Int.ofNat (nat_lit 1)))])]), (.int .i64 [])]))))))
  (.test (.le [([], (Int.ofNat (nat_lit 576460752303423489))), ([(.var (nat_lit 0))], (Int.negSucc (nat_lit 0))), ([(.var (nat_lit 2))], (Int.negSucc (nat_lit 0)))])
  (.leaf (.tuple [(.agg [(.int .i64 []), (.int .i64 []), (.int .i64 []), (.int .i64 [])]), (.int .i64 [([], (Int.ofNat (nat_lit 2)))])]))
  (.test (.le [([], (Int.ofNat (nat_lit 576460752303423489))), ([(.var (nat_lit 0))], (Int.ofNat (nat_lit 1))), ([(.var (nat_lit 2))], (Int.ofNat (nat_lit 1)))])
  (.leaf (.tuple [(.agg [(.int .i64 []), (.int .i64 []), (.int .i64 []), (.int .i64 [])]), (.int .i64 [([], (Int.ofNat (nat_lit 2)))])]))
  (.leaf (.tuple [(.agg [(.int .i64 [([(.var (nat_lit 1))], (Int.negSucc (nat_lit 0)))]), (.int .i64 [([(.var (nat_lit 0))], (Int.negSucc (nat_lit 0))), ([(.var (nat_lit 2))], (Int.negSucc (nat_lit 0)))]), (.int .i64 [([(.var (nat_lit 3))], (Int.negSucc (nat_lit 0)))]), (.int .i64 [([(.var (nat_lit 0))], (Int.ofNat (nat_lit 1)))])]), (.int .i64 [])])))))
theorem f24C64 : checkT Tryd.prog (xOf symX) (gxOf symG) (sumsOf sums23) 10000 24 f24A f24T64 (((((((((((((((facts0 f24K).no f24Q0).no f24Q2).no f24Q4).no f24Q6).no f24Q8).no f24Q10).no f24Q12).no f24Q14).no f24Q16).no f24Q42).no f24Q56).no f24Q58).no f24Q60).no f24Q62) = true := by kernel_rfl
def f24T65 : STree := .test f24Q62 f24T63 f24T64
theorem f24C65 : checkT Tryd.prog (xOf symX) (gxOf symG) (sumsOf sums23) 10000 24 f24A f24T65 ((((((((((((((facts0 f24K).no f24Q0).no f24Q2).no f24Q4).no f24Q6).no f24Q8).no f24Q10).no f24Q12).no f24Q14).no f24Q16).no f24Q42).no f24Q56).no f24Q58).no f24Q60) = true := checkT_test f24C63 f24C64
def f24T66 : STree := .test f24Q60 f24T61 f24T65
theorem f24C66 : checkT Tryd.prog (xOf symX) (gxOf symG) (sumsOf sums23) 10000 24 f24A f24T66 (((((((((((((facts0 f24K).no f24Q0).no f24Q2).no f24Q4).no f24Q6).no f24Q8).no f24Q10).no f24Q12).no f24Q14).no f24Q16).no f24Q42).no f24Q56).no f24Q58) = true := checkT_test f24C61 f24C65
def f24T67 : STree := .test f24Q58 f24T59 f24T66
theorem f24C67 : checkT Tryd.prog (xOf symX) (gxOf symG) (sumsOf sums23) 10000 24 f24A f24T67 ((((((((((((facts0 f24K).no f24Q0).no f24Q2).no f24Q4).no f24Q6).no f24Q8).no f24Q10).no f24Q12).no f24Q14).no f24Q16).no f24Q42).no f24Q56) = true := checkT_test f24C59 f24C66
def f24T68 : STree := .test f24Q56 f24T57 f24T67
theorem f24C68 : checkT Tryd.prog (xOf symX) (gxOf symG) (sumsOf sums23) 10000 24 f24A f24T68 (((((((((((facts0 f24K).no f24Q0).no f24Q2).no f24Q4).no f24Q6).no f24Q8).no f24Q10).no f24Q12).no f24Q14).no f24Q16).no f24Q42) = true := checkT_test f24C57 f24C67
def f24T69 : STree := .test f24Q42 f24T55 f24T68
theorem f24C69 : checkT Tryd.prog (xOf symX) (gxOf symG) (sumsOf sums23) 10000 24 f24A f24T69 ((((((((((facts0 f24K).no f24Q0).no f24Q2).no f24Q4).no f24Q6).no f24Q8).no f24Q10).no f24Q12).no f24Q14).no f24Q16) = true := checkT_test f24C55 f24C68
def f24T70 : STree := .test f24Q16 f24T41 f24T69
theorem f24C70 : checkT Tryd.prog (xOf symX) (gxOf symG) (sumsOf sums23) 10000 24 f24A f24T70 (((((((((facts0 f24K).no f24Q0).no f24Q2).no f24Q4).no f24Q6).no f24Q8).no f24Q10).no f24Q12).no f24Q14) = true := checkT_test f24C41 f24C69
def f24T71 : STree := .test f24Q14 f24T15 f24T70
theorem f24C71 : checkT Tryd.prog (xOf symX) (gxOf symG) (sumsOf sums23) 10000 24 f24A f24T71 ((((((((facts0 f24K).no f24Q0).no f24Q2).no f24Q4).no f24Q6).no f24Q8).no f24Q10).no f24Q12) = true := checkT_test f24C15 f24C70
def f24T72 : STree := .test f24Q12 f24T13 f24T71
theorem f24C72 : checkT Tryd.prog (xOf symX) (gxOf symG) (sumsOf sums23) 10000 24 f24A f24T72 (((((((facts0 f24K).no f24Q0).no f24Q2).no f24Q4).no f24Q6).no f24Q8).no f24Q10) = true := checkT_test f24C13 f24C71
def f24T73 : STree := .test f24Q10 f24T11 f24T72
theorem f24C73 : checkT Tryd.prog (xOf symX) (gxOf symG) (sumsOf sums23) 10000 24 f24A f24T73 ((((((facts0 f24K).no f24Q0).no f24Q2).no f24Q4).no f24Q6).no f24Q8) = true := checkT_test f24C11 f24C72
def f24T74 : STree := .test f24Q8 f24T9 f24T73
theorem f24C74 : checkT Tryd.prog (xOf symX) (gxOf symG) (sumsOf sums23) 10000 24 f24A f24T74 (((((facts0 f24K).no f24Q0).no f24Q2).no f24Q4).no f24Q6) = true := checkT_test f24C9 f24C73
def f24T75 : STree := .test f24Q6 f24T7 f24T74
theorem f24C75 : checkT Tryd.prog (xOf symX) (gxOf symG) (sumsOf sums23) 10000 24 f24A f24T75 ((((facts0 f24K).no f24Q0).no f24Q2).no f24Q4) = true := checkT_test f24C7 f24C74
def f24T76 : STree := .test f24Q4 f24T5 f24T75
theorem f24C76 : checkT Tryd.prog (xOf symX) (gxOf symG) (sumsOf sums23) 10000 24 f24A f24T76 (((facts0 f24K).no f24Q0).no f24Q2) = true := checkT_test f24C5 f24C75
def f24T77 : STree := .test f24Q2 f24T3 f24T76
theorem f24C77 : checkT Tryd.prog (xOf symX) (gxOf symG) (sumsOf sums23) 10000 24 f24A f24T77 ((facts0 f24K).no f24Q0) = true := checkT_test f24C3 f24C76
def f24T78 : STree := .test f24Q0 f24T1 f24T77
theorem f24C78 : checkT Tryd.prog (xOf symX) (gxOf symG) (sumsOf sums23) 10000 24 f24A f24T78 (facts0 f24K) = true := checkT_test f24C1 f24C77
def f24M : Summ := ⟨f24A, f24K, f24T78⟩
theorem f24Ok : SumOk Tryd.prog (xOf symX) (gxOf symG) 24 f24M := sumOk_of symMixed symClosed sums23Ok f24C78
def sums24 : List (Nat × Summ) := (24, f24M) :: sums23
theorem sums24Ok : ∀ g m, sumsOf sums24 g = some m → SumOk Tryd.prog (xOf symX) (gxOf symG) g m := sumsOf_ok f24Ok sums23Ok
end Go.Proofs.YtchmfiiipdjikaaDoor
