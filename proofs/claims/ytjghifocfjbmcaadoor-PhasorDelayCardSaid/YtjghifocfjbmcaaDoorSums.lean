/- The summaries of the functions that the laws call, each proved by the kernel along its tree of tests. -/
import Derived.Test.YtjghifocfjbmcaaDoorCards
import Derived.Test.YtjghifocfjbmcaaDoorSym14
import Derived.Test.YtjghifocfjbmcaaDoorSymM
import Derived.KernelRfl
namespace Go.Proofs.YtjghifocfjbmcaaDoor
open Go.Sym

def symG : List Nat := [(nat_lit 0)]
def symX : List (List SV) := [[(.int .i64 [([], (Int.ofNat (nat_lit 1)))]), (.int .i64 []), (.int .i64 []), (.int .i64 []), (.int .i64 []), (.int .i64 [([], (Int.ofNat (nat_lit 1)))]), (.int .i64 []), (.int .i64 []), (.int .i64 []), (.int .i64 []), (.int .i64 [([], (Int.ofNat (nat_lit 1)))]), (.int .i64 []), (.int .i64 []), (.int .i64 []), (.int .i64 []), (.int .i64 [([], (Int.ofNat (nat_lit 1)))]), (.int .i64 [([], (Int.negSucc (nat_lit 0)))]), (.int .i64 []), (.int .i64 [([], (Int.ofNat (nat_lit 1)))]), (.int .i64 []), (.int .i64 []), (.int .i64 [([], (Int.negSucc (nat_lit 0)))]), (.int .i64 []), (.int .i64 [([], (Int.ofNat (nat_lit 1)))])]]
theorem symMixed : Tryd.prog.follows .mixedOrders = true := by kernel_rfl
theorem symClosed : Closed0 (xOf symX) := closedLit (by kernel_rfl)
def sums0 : List (Nat × Summ) := []
theorem sums0Ok : ∀ g, ∀ m ∈ sumsOf sums0 g, SumOk Tryd.prog (xOf symX) (gxOf symG) g m := sumsOf_nil
def f34A : List SV := [(.agg [(.int .i64 [([(.var (nat_lit 0))], (Int.ofNat (nat_lit 1)))]), (.int .i64 [([(.var (nat_lit 1))], (Int.ofNat (nat_lit 1)))]), (.int .i64 [([(.var (nat_lit 2))], (Int.ofNat (nat_lit 1)))]), (.int .i64 [([(.var (nat_lit 3))], (Int.ofNat (nat_lit 1)))])]), (.int .i64 [([(.var (nat_lit 4))], (Int.ofNat (nat_lit 1)))])]
def f34K : List Iv := [ivT .i64, ivT .i64, ivT .i64, ivT .i64, ivT .i64]
def f34R : List (List SV) := []
def f34T0 : STree := (.test (.le [([], (Int.ofNat (nat_lit 1))), ([(.var (nat_lit 0))], (Int.ofNat (nat_lit 1))), ([(.wrap .i64 (.mul (.lit (Int.negSucc (nat_lit 0))) (.var (nat_lit 4))))], (Int.negSucc (nat_lit 0)))])
  (.leaf (.bool false))
  (.test (.le [([], (Int.ofNat (nat_lit 1))), ([(.var (nat_lit 0))], (Int.negSucc (nat_lit 0))), ([(.var (nat_lit 4))], (Int.ofNat (nat_lit 1)))])
  (.leaf (.bool false))
  (.test (.le [([], (Int.ofNat (nat_lit 1))), ([(.var (nat_lit 1))], (Int.ofNat (nat_lit 1))), ([(.wrap .i64 (.mul (.lit (Int.negSucc (nat_lit 0))) (.var (nat_lit 4))))], (Int.negSucc (nat_lit 0)))])
  (.leaf (.bool false))
  (.test (.le [([], (Int.ofNat (nat_lit 1))), ([(.var (nat_lit 1))], (Int.negSucc (nat_lit 0))), ([(.var (nat_lit 4))], (Int.ofNat (nat_lit 1)))])
  (.leaf (.bool false))
  (.test (.le [([], (Int.ofNat (nat_lit 1))), ([(.var (nat_lit 2))], (Int.ofNat (nat_lit 1))), ([(.wrap .i64 (.mul (.lit (Int.negSucc (nat_lit 0))) (.var (nat_lit 4))))], (Int.negSucc (nat_lit 0)))])
  (.leaf (.bool false))
  (.test (.le [([], (Int.ofNat (nat_lit 1))), ([(.var (nat_lit 2))], (Int.negSucc (nat_lit 0))), ([(.var (nat_lit 4))], (Int.ofNat (nat_lit 1)))])
  (.leaf (.bool false))
  (.test (.le [([], (Int.ofNat (nat_lit 1))), ([(.var (nat_lit 3))], (Int.ofNat (nat_lit 1))), ([(.wrap .i64 (.mul (.lit (Int.negSucc (nat_lit 0))) (.var (nat_lit 4))))], (Int.negSucc (nat_lit 0)))])
  (.leaf (.bool false))
  (.test (.le [([], (Int.ofNat (nat_lit 1))), ([(.var (nat_lit 3))], (Int.negSucc (nat_lit 0))), ([(.var (nat_lit 4))], (Int.ofNat (nat_lit 1)))])
  (.leaf (.bool false))
  (.leaf (.bool true))))))))))
theorem f34C0 : checkT Tryd.prog (xWith (xOf symX) f34R) (gxOf symG) (sumsOf sums0) 10000 34 f34A f34T0 (facts0 f34K) = true := by kernel_rfl
def f34M : Summ := ⟨f34A, f34K, f34T0, f34R, []⟩
theorem f34Ok : SumOk Tryd.prog (xOf symX) (gxOf symG) 34 f34M := sumOk_of symMixed symClosed sums0Ok f34C0
def sums34 : List (Nat × Summ) := (34, f34M) :: sums0
theorem sums34Ok : ∀ g, ∀ m ∈ sumsOf sums34 g, SumOk Tryd.prog (xOf symX) (gxOf symG) g m := sumsOf_ok f34Ok sums0Ok
def f36A : List SV := [(.agg [(.int .i64 [([(.var (nat_lit 0))], (Int.ofNat (nat_lit 1)))]), (.int .i64 [([(.var (nat_lit 1))], (Int.ofNat (nat_lit 1)))]), (.int .i64 [([(.var (nat_lit 2))], (Int.ofNat (nat_lit 1)))]), (.int .i64 [([(.var (nat_lit 3))], (Int.ofNat (nat_lit 1)))])])]
def f36K : List Iv := [ivT .i64, ivT .i64, ivT .i64, ivT .i64]
def f36R : List (List SV) := []
def f36T0 : STree := (.test (.le [([], (Int.ofNat (nat_lit 576460752303423489))), ([(.var (nat_lit 0))], (Int.ofNat (nat_lit 1)))])
  (.leaf (.tuple [(.agg [(.int .i64 []), (.int .i64 []), (.int .i64 []), (.int .i64 [])]), (.int .i64 [([], (Int.ofNat (nat_lit 2)))])]))
  (.test (.le [([], (Int.ofNat (nat_lit 576460752303423489))), ([(.var (nat_lit 0))], (Int.negSucc (nat_lit 0)))])
  (.leaf (.tuple [(.agg [(.int .i64 []), (.int .i64 []), (.int .i64 []), (.int .i64 [])]), (.int .i64 [([], (Int.ofNat (nat_lit 2)))])]))
  (.test (.le [([], (Int.ofNat (nat_lit 576460752303423489))), ([(.var (nat_lit 1))], (Int.ofNat (nat_lit 1)))])
  (.leaf (.tuple [(.agg [(.int .i64 []), (.int .i64 []), (.int .i64 []), (.int .i64 [])]), (.int .i64 [([], (Int.ofNat (nat_lit 2)))])]))
  (.test (.le [([], (Int.ofNat (nat_lit 576460752303423489))), ([(.var (nat_lit 1))], (Int.negSucc (nat_lit 0)))])
  (.leaf (.tuple [(.agg [(.int .i64 []), (.int .i64 []), (.int .i64 []), (.int .i64 [])]), (.int .i64 [([], (Int.ofNat (nat_lit 2)))])]))
  (.test (.le [([], (Int.ofNat (nat_lit 576460752303423489))), ([(.var (nat_lit 2))], (Int.ofNat (nat_lit 1)))])
  (.leaf (.tuple [(.agg [(.int .i64 []), (.int .i64 []), (.int .i64 []), (.int .i64 [])]), (.int .i64 [([], (Int.ofNat (nat_lit 2)))])]))
  (.test (.le [([], (Int.ofNat (nat_lit 576460752303423489))), ([(.var (nat_lit 2))], (Int.negSucc (nat_lit 0)))])
  (.leaf (.tuple [(.agg [(.int .i64 []), (.int .i64 []), (.int .i64 []), (.int .i64 [])]), (.int .i64 [([], (Int.ofNat (nat_lit 2)))])]))
  (.test (.le [([], (Int.ofNat (nat_lit 576460752303423489))), ([(.var (nat_lit 3))], (Int.ofNat (nat_lit 1)))])
  (.leaf (.tuple [(.agg [(.int .i64 []), (.int .i64 []), (.int .i64 []), (.int .i64 [])]), (.int .i64 [([], (Int.ofNat (nat_lit 2)))])]))
  (.test (.le [([], (Int.ofNat (nat_lit 576460752303423489))), ([(.var (nat_lit 3))], (Int.negSucc (nat_lit 0)))])
  (.leaf (.tuple [(.agg [(.int .i64 []), (.int .i64 []), (.int .i64 []), (.int .i64 [])]), (.int .i64 [([], (Int.ofNat (nat_lit 2)))])]))
  (.leaf (.tuple [(.agg [(.int .i64 [([(.var (nat_lit 0))], (Int.ofNat (nat_lit 1)))]), (.int .i64 [([(.var (nat_lit 1))], (Int.ofNat (nat_lit 1)))]), (.int .i64 [([(.var (nat_lit 2))], (Int.ofNat (nat_lit 1)))]), (.int .i64 [([(.var (nat_lit 3))], (Int.ofNat (nat_lit 1)))])]), (.int .i64 [])]))))))))))
theorem f36C0 : checkT Tryd.prog (xWith (xOf symX) f36R) (gxOf symG) (sumsOf sums34) 10000 36 f36A f36T0 (facts0 f36K) = true := by kernel_rfl
def f36M : Summ := ⟨f36A, f36K, f36T0, f36R, []⟩
theorem f36Ok : SumOk Tryd.prog (xOf symX) (gxOf symG) 36 f36M := sumOk_of symMixed symClosed sums34Ok f36C0
def sums36 : List (Nat × Summ) := (36, f36M) :: sums34
theorem sums36Ok : ∀ g, ∀ m ∈ sumsOf sums36 g, SumOk Tryd.prog (xOf symX) (gxOf symG) g m := sumsOf_ok f36Ok sums34Ok
def f35A : List SV := [(.int .i64 [([(.var (nat_lit 0))], (Int.ofNat (nat_lit 1)))])]
def f35K : List Iv := [ivT .i64]
def f35R : List (List SV) := []
def f35T0 : STree := (.test (.le [([], (Int.ofNat (nat_lit 6))), ([(.emod (nat_lit 12) (.var (nat_lit 0)))], (Int.negSucc (nat_lit 0)))])
  (.test (.le [([], (Int.negSucc (nat_lit 7))), ([(.emod (nat_lit 12) (.var (nat_lit 0)))], (Int.ofNat (nat_lit 1)))])
  (.test (.le [([], (Int.negSucc (nat_lit 6))), ([(.emod (nat_lit 12) (.var (nat_lit 0)))], (Int.ofNat (nat_lit 1)))])
  (.test (.le [([], (Int.negSucc (nat_lit 5))), ([(.emod (nat_lit 12) (.var (nat_lit 0)))], (Int.ofNat (nat_lit 1)))])
  (.leaf (.agg [(.int .i64 [([], (Int.negSucc (nat_lit 0)))]), (.int .i64 []), (.int .i64 []), (.int .i64 [])]))
  (.leaf (.agg [(.int .i64 []), (.int .i64 [([], (Int.negSucc (nat_lit 0)))]), (.int .i64 []), (.int .i64 [])])))
  (.leaf (.agg [(.int .i64 []), (.int .i64 []), (.int .i64 [([], (Int.negSucc (nat_lit 0)))]), (.int .i64 [])])))
  (.test (.le [([], (Int.negSucc (nat_lit 9))), ([(.emod (nat_lit 12) (.var (nat_lit 0)))], (Int.ofNat (nat_lit 1)))])
  (.test (.le [([], (Int.negSucc (nat_lit 8))), ([(.emod (nat_lit 12) (.var (nat_lit 0)))], (Int.ofNat (nat_lit 1)))])
  (.leaf (.agg [(.int .i64 []), (.int .i64 []), (.int .i64 []), (.int .i64 [([], (Int.negSucc (nat_lit 0)))])]))
  (.leaf (.agg [(.int .i64 [([], (Int.ofNat (nat_lit 1)))]), (.int .i64 []), (.int .i64 [([], (Int.negSucc (nat_lit 0)))]), (.int .i64 [])])))
  (.leaf (.agg [(.int .i64 []), (.int .i64 [([], (Int.ofNat (nat_lit 1)))]), (.int .i64 []), (.int .i64 [([], (Int.negSucc (nat_lit 0)))])]))))
  (.test (.le [([], (Int.negSucc (nat_lit 1))), ([(.emod (nat_lit 12) (.var (nat_lit 0)))], (Int.ofNat (nat_lit 1)))])
  (.test (.le [([], (Int.negSucc (nat_lit 0))), ([(.emod (nat_lit 12) (.var (nat_lit 0)))], (Int.ofNat (nat_lit 1)))])
  (.test (.le [([(.emod (nat_lit 12) (.var (nat_lit 0)))], (Int.ofNat (nat_lit 1)))])
  (.leaf (.agg [(.int .i64 [([], (Int.ofNat (nat_lit 1)))]), (.int .i64 []), (.int .i64 []), (.int .i64 [])]))
  (.leaf (.agg [(.int .i64 []), (.int .i64 [([], (Int.ofNat (nat_lit 1)))]), (.int .i64 []), (.int .i64 [])])))
  (.leaf (.agg [(.int .i64 []), (.int .i64 []), (.int .i64 [([], (Int.ofNat (nat_lit 1)))]), (.int .i64 [])])))
  (.test (.le [([], (Int.negSucc (nat_lit 3))), ([(.emod (nat_lit 12) (.var (nat_lit 0)))], (Int.ofNat (nat_lit 1)))])
  (.test (.le [([], (Int.negSucc (nat_lit 2))), ([(.emod (nat_lit 12) (.var (nat_lit 0)))], (Int.ofNat (nat_lit 1)))])
  (.leaf (.agg [(.int .i64 []), (.int .i64 []), (.int .i64 []), (.int .i64 [([], (Int.ofNat (nat_lit 1)))])]))
  (.leaf (.agg [(.int .i64 [([], (Int.negSucc (nat_lit 0)))]), (.int .i64 []), (.int .i64 [([], (Int.ofNat (nat_lit 1)))]), (.int .i64 [])])))
  (.leaf (.agg [(.int .i64 []), (.int .i64 [([], (Int.negSucc (nat_lit 0)))]), (.int .i64 []), (.int .i64 [([], (Int.ofNat (nat_lit 1)))])])))))
theorem f35C0 : checkT Tryd.prog (xWith (xOf symX) f35R) (gxOf symG) (sumsOf sums36) 10000 35 f35A f35T0 (facts0 f35K) = true := by kernel_rfl
def f35M : Summ := ⟨f35A, f35K, f35T0, f35R, []⟩
theorem f35Ok : SumOk Tryd.prog (xOf symX) (gxOf symG) 35 f35M := sumOk_of symMixed symClosed sums36Ok f35C0
def sums35 : List (Nat × Summ) := (35, f35M) :: sums36
theorem sums35Ok : ∀ g, ∀ m ∈ sumsOf sums35 g, SumOk Tryd.prog (xOf symX) (gxOf symG) g m := sumsOf_ok f35Ok sums36Ok
def f10A : List SV := []
def f10K : List Iv := []
def f10R : List (List SV) := []
def f10T0 : STree := (.leaf (.bool true))
theorem f10C0 : checkT Tryd.prog (xWith (xOf symX) f10R) (gxOf symG) (sumsOf sums35) 10000 10 f10A f10T0 (facts0 f10K) = true := by kernel_rfl
def f10M : Summ := ⟨f10A, f10K, f10T0, f10R, []⟩
theorem f10Ok : SumOk Tryd.prog (xOf symX) (gxOf symG) 10 f10M := sumOk_of symMixed symClosed sums35Ok f10C0
def sums10 : List (Nat × Summ) := (10, f10M) :: sums35
theorem sums10Ok : ∀ g, ∀ m ∈ sumsOf sums10 g, SumOk Tryd.prog (xOf symX) (gxOf symG) g m := sumsOf_ok f10Ok sums35Ok
def f51_mul64A : List SV := [(.int .u64 [([(.var (nat_lit 0))], (Int.ofNat (nat_lit 1)))]), (.int .u64 [([(.var (nat_lit 1))], (Int.ofNat (nat_lit 1)))])]
def f51_mul64K : List Iv := [ivT .u64, ivT .u64]
def f51_mul64R : List (List SV) := []
def f51_mul64T0 : STree := (.leaf (.tuple [(.int .u64 [([(.fdiv (.add (.fdiv (.mul (.emod (nat_lit 4294967296) (.var (nat_lit 0))) (.emod (nat_lit 4294967296) (.var (nat_lit 1)))) (.lit (Int.ofNat (nat_lit 4294967296)))) (.mul (.fdiv (.var (nat_lit 0)) (.lit (Int.ofNat (nat_lit 4294967296)))) (.emod (nat_lit 4294967296) (.var (nat_lit 1))))) (.lit (Int.ofNat (nat_lit 4294967296))))], (Int.ofNat (nat_lit 1))), ([(.fdiv (.add (.emod (nat_lit 4294967296) (.add (.fdiv (.mul (.emod (nat_lit 4294967296) (.var (nat_lit 0))) (.emod (nat_lit 4294967296) (.var (nat_lit 1)))) (.lit (Int.ofNat (nat_lit 4294967296)))) (.mul (.var (nat_lit 1)) (.fdiv (.var (nat_lit 0)) (.lit (Int.ofNat (nat_lit 4294967296))))))) (.mul (.fdiv (.var (nat_lit 1)) (.lit (Int.ofNat (nat_lit 4294967296)))) (.emod (nat_lit 4294967296) (.var (nat_lit 0))))) (.lit (Int.ofNat (nat_lit 4294967296))))], (Int.ofNat (nat_lit 1))), ([(.fdiv (.var (nat_lit 0)) (.lit (Int.ofNat (nat_lit 4294967296)))), (.fdiv (.var (nat_lit 1)) (.lit (Int.ofNat (nat_lit 4294967296))))], (Int.ofNat (nat_lit 1)))]), (.int .u64 [([(.wrap .u64 (.mul (.var (nat_lit 0)) (.var (nat_lit 1))))], (Int.ofNat (nat_lit 1)))])]))
theorem f51_mul64C0 : checkT Tryd.prog (xWith (xOf symX) f51_mul64R) (gxOf symG) (sumsOf sums10) 10000 51 f51_mul64A f51_mul64T0 (facts0 f51_mul64K) = true := by kernel_rfl
def f51_mul64M : Summ := mul64S
theorem f51_mul64Ok : SumOk Tryd.prog (xOf symX) (gxOf symG) 51 f51_mul64M := Exch.ok (sumOk_of (m := ⟨f51_mul64A, f51_mul64K, f51_mul64T0, f51_mul64R, []⟩) symMixed symClosed sums10Ok f51_mul64C0) (mul64S_exch)
def sums51_mul64 : List (Nat × Summ) := (51, f51_mul64M) :: sums10
theorem sums51_mul64Ok : ∀ g, ∀ m ∈ sumsOf sums51_mul64 g, SumOk Tryd.prog (xOf symX) (gxOf symG) g m := sumsOf_ok f51_mul64Ok sums10Ok
def f39_prod59A : List SV := [(.int .i64 [([(.var (nat_lit 0))], (Int.ofNat (nat_lit 1)))]), (.int .i64 [([(.var (nat_lit 1))], (Int.ofNat (nat_lit 1)))])]
def f39_prod59K : List Iv := [⟨(Int.negSucc (nat_lit 576460752303423487)), (Int.ofNat (nat_lit 576460752303423488))⟩, ⟨(Int.negSucc (nat_lit 576460752303423487)), (Int.ofNat (nat_lit 576460752303423488))⟩]
def f39_prod59R : List (List SV) := []
def f39_prod59T0 : STree := (.test (.le [([], (Int.ofNat (nat_lit 1))), ([(.var (nat_lit 1))], (Int.ofNat (nat_lit 2)))])
  (.test (.le [([], (Int.ofNat (nat_lit 1))), ([(.var (nat_lit 0))], (Int.ofNat (nat_lit 2)))])
  (.test (.le [([], (Int.ofNat (nat_lit 1))), ([(.fdiv (.mul (.var (nat_lit 0)) (.var (nat_lit 1))) (.lit (Int.ofNat (nat_lit 18446744073709551616))))], (Int.negSucc (nat_lit 0)))])
  (.leaf (.int .i64 [([], (Int.ofNat (nat_lit 576460752303423489)))]))
  (.test (.le [([], (Int.ofNat (nat_lit 576460752303423489))), ([(.wrap .u64 (.mul (.var (nat_lit 0)) (.var (nat_lit 1))))], (Int.negSucc (nat_lit 0)))])
  (.leaf (.int .i64 [([], (Int.ofNat (nat_lit 576460752303423489)))]))
  (.leaf (.int .i64 [([(.wrap .u64 (.mul (.var (nat_lit 0)) (.var (nat_lit 1))))], (Int.ofNat (nat_lit 1)))]))))
  (.test (.le [([], (Int.ofNat (nat_lit 1))), ([(.fdiv (.mul (.lit (Int.negSucc (nat_lit 0))) (.mul (.var (nat_lit 0)) (.var (nat_lit 1)))) (.lit (Int.ofNat (nat_lit 18446744073709551616))))], (Int.negSucc (nat_lit 0)))])
  (.leaf (.int .i64 [([], (Int.ofNat (nat_lit 576460752303423489)))]))
  (.test (.le [([], (Int.ofNat (nat_lit 576460752303423489))), ([(.wrap .u64 (.mul (.lit (Int.negSucc (nat_lit 0))) (.mul (.var (nat_lit 0)) (.var (nat_lit 1)))))], (Int.negSucc (nat_lit 0)))])
  (.leaf (.int .i64 [([], (Int.ofNat (nat_lit 576460752303423489)))]))
  (.leaf (.int .i64 [([(.wrap .u64 (.mul (.lit (Int.negSucc (nat_lit 0))) (.mul (.var (nat_lit 0)) (.var (nat_lit 1)))))], (Int.negSucc (nat_lit 0)))])))))
  (.test (.le [([], (Int.ofNat (nat_lit 1))), ([(.var (nat_lit 0))], (Int.ofNat (nat_lit 2)))])
  (.test (.le [([], (Int.ofNat (nat_lit 1))), ([(.fdiv (.mul (.lit (Int.negSucc (nat_lit 0))) (.mul (.var (nat_lit 0)) (.var (nat_lit 1)))) (.lit (Int.ofNat (nat_lit 18446744073709551616))))], (Int.negSucc (nat_lit 0)))])
  (.leaf (.int .i64 [([], (Int.ofNat (nat_lit 576460752303423489)))]))
  (.test (.le [([], (Int.ofNat (nat_lit 576460752303423489))), ([(.wrap .u64 (.mul (.lit (Int.negSucc (nat_lit 0))) (.mul (.var (nat_lit 0)) (.var (nat_lit 1)))))], (Int.negSucc (nat_lit 0)))])
  (.leaf (.int .i64 [([], (Int.ofNat (nat_lit 576460752303423489)))]))
  (.leaf (.int .i64 [([(.wrap .u64 (.mul (.lit (Int.negSucc (nat_lit 0))) (.mul (.var (nat_lit 0)) (.var (nat_lit 1)))))], (Int.negSucc (nat_lit 0)))]))))
  (.test (.le [([], (Int.ofNat (nat_lit 1))), ([(.fdiv (.mul (.var (nat_lit 0)) (.var (nat_lit 1))) (.lit (Int.ofNat (nat_lit 18446744073709551616))))], (Int.negSucc (nat_lit 0)))])
  (.leaf (.int .i64 [([], (Int.ofNat (nat_lit 576460752303423489)))]))
  (.test (.le [([], (Int.ofNat (nat_lit 576460752303423489))), ([(.wrap .u64 (.mul (.var (nat_lit 0)) (.var (nat_lit 1))))], (Int.negSucc (nat_lit 0)))])
  (.leaf (.int .i64 [([], (Int.ofNat (nat_lit 576460752303423489)))]))
  (.leaf (.int .i64 [([(.wrap .u64 (.mul (.var (nat_lit 0)) (.var (nat_lit 1))))], (Int.ofNat (nat_lit 1)))]))))))
theorem f39_prod59C0 : checkT Tryd.prog (xWith (xOf symX) f39_prod59R) (gxOf symG) (sumsOf sums51_mul64) 10000 39 f39_prod59A f39_prod59T0 (facts0 f39_prod59K) = true := by kernel_rfl
def f39_prod59M : Summ := prod59S
theorem f39_prod59Ok : SumOk Tryd.prog (xOf symX) (gxOf symG) 39 f39_prod59M := Exch.ok (sumOk_of (m := ⟨f39_prod59A, f39_prod59K, f39_prod59T0, f39_prod59R, []⟩) symMixed symClosed sums51_mul64Ok f39_prod59C0) (prod59S_exch)
def sums39_prod59 : List (Nat × Summ) := (39, f39_prod59M) :: sums51_mul64
theorem sums39_prod59Ok : ∀ g, ∀ m ∈ sumsOf sums39_prod59 g, SumOk Tryd.prog (xOf symX) (gxOf symG) g m := sumsOf_ok f39_prod59Ok sums51_mul64Ok
def f11_within_12A : List SV := [(.int .i64 [([(.var (nat_lit 0))], (Int.ofNat (nat_lit 1)))]), (.int .i64 [([], (Int.ofNat (nat_lit 12)))])]
def f11_within_12K : List Iv := [ivT .i64, ivT .i64]
def f11_within_12R : List (List SV) := []
def f11_within_12T0 : STree := (.test (.le [([], (Int.ofNat (nat_lit 1))), ([(.rem (.var (nat_lit 0)) (.lit (Int.ofNat (nat_lit 12))))], (Int.ofNat (nat_lit 1)))])
  (.leaf (.int .i64 [([], (Int.ofNat (nat_lit 12))), ([(.rem (.var (nat_lit 0)) (.lit (Int.ofNat (nat_lit 12))))], (Int.ofNat (nat_lit 1)))]))
  (.leaf (.int .i64 [([(.rem (.var (nat_lit 0)) (.lit (Int.ofNat (nat_lit 12))))], (Int.ofNat (nat_lit 1)))])))
theorem f11_within_12C0 : checkT Tryd.prog (xWith (xOf symX) f11_within_12R) (gxOf symG) (sumsOf sums39_prod59) 10000 11 f11_within_12A f11_within_12T0 (facts0 f11_within_12K) = true := by kernel_rfl
def f11_within_12M : Summ := withinS 12
theorem f11_within_12Ok : SumOk Tryd.prog (xOf symX) (gxOf symG) 11 f11_within_12M := Exch.ok (sumOk_of (m := ⟨f11_within_12A, f11_within_12K, f11_within_12T0, f11_within_12R, []⟩) symMixed symClosed sums39_prod59Ok f11_within_12C0) (withinS_exch (m := 12) (by decide))
def sums11_within_12 : List (Nat × Summ) := (11, f11_within_12M) :: sums39_prod59
theorem sums11_within_12Ok : ∀ g, ∀ m ∈ sumsOf sums11_within_12 g, SumOk Tryd.prog (xOf symX) (gxOf symG) g m := sumsOf_ok f11_within_12Ok sums39_prod59Ok
def f11_within_6A : List SV := [(.int .i64 [([(.var (nat_lit 0))], (Int.ofNat (nat_lit 1)))]), (.int .i64 [([], (Int.ofNat (nat_lit 6)))])]
def f11_within_6K : List Iv := [ivT .i64, ivT .i64]
def f11_within_6R : List (List SV) := []
def f11_within_6T0 : STree := (.test (.le [([], (Int.ofNat (nat_lit 1))), ([(.rem (.var (nat_lit 0)) (.lit (Int.ofNat (nat_lit 6))))], (Int.ofNat (nat_lit 1)))])
  (.leaf (.int .i64 [([], (Int.ofNat (nat_lit 6))), ([(.rem (.var (nat_lit 0)) (.lit (Int.ofNat (nat_lit 6))))], (Int.ofNat (nat_lit 1)))]))
  (.leaf (.int .i64 [([(.rem (.var (nat_lit 0)) (.lit (Int.ofNat (nat_lit 6))))], (Int.ofNat (nat_lit 1)))])))
theorem f11_within_6C0 : checkT Tryd.prog (xWith (xOf symX) f11_within_6R) (gxOf symG) (sumsOf sums11_within_12) 10000 11 f11_within_6A f11_within_6T0 (facts0 f11_within_6K) = true := by kernel_rfl
def f11_within_6M : Summ := withinS 6
theorem f11_within_6Ok : SumOk Tryd.prog (xOf symX) (gxOf symG) 11 f11_within_6M := Exch.ok (sumOk_of (m := ⟨f11_within_6A, f11_within_6K, f11_within_6T0, f11_within_6R, []⟩) symMixed symClosed sums11_within_12Ok f11_within_6C0) (withinS_exch (m := 6) (by decide))
def sums11_within_6 : List (Nat × Summ) := (11, f11_within_6M) :: sums11_within_12
theorem sums11_within_6Ok : ∀ g, ∀ m ∈ sumsOf sums11_within_6 g, SumOk Tryd.prog (xOf symX) (gxOf symG) g m := sumsOf_ok f11_within_6Ok sums11_within_12Ok
def f11_within_32767A : List SV := [(.int .i64 [([(.var (nat_lit 0))], (Int.ofNat (nat_lit 1)))]), (.int .i64 [([], (Int.ofNat (nat_lit 32767)))])]
def f11_within_32767K : List Iv := [ivT .i64, ivT .i64]
def f11_within_32767R : List (List SV) := []
def f11_within_32767T0 : STree := (.test (.le [([], (Int.ofNat (nat_lit 1))), ([(.rem (.var (nat_lit 0)) (.lit (Int.ofNat (nat_lit 32767))))], (Int.ofNat (nat_lit 1)))])
  (.leaf (.int .i64 [([], (Int.ofNat (nat_lit 32767))), ([(.rem (.var (nat_lit 0)) (.lit (Int.ofNat (nat_lit 32767))))], (Int.ofNat (nat_lit 1)))]))
  (.leaf (.int .i64 [([(.rem (.var (nat_lit 0)) (.lit (Int.ofNat (nat_lit 32767))))], (Int.ofNat (nat_lit 1)))])))
theorem f11_within_32767C0 : checkT Tryd.prog (xWith (xOf symX) f11_within_32767R) (gxOf symG) (sumsOf sums11_within_6) 10000 11 f11_within_32767A f11_within_32767T0 (facts0 f11_within_32767K) = true := by kernel_rfl
def f11_within_32767M : Summ := withinS 32767
theorem f11_within_32767Ok : SumOk Tryd.prog (xOf symX) (gxOf symG) 11 f11_within_32767M := Exch.ok (sumOk_of (m := ⟨f11_within_32767A, f11_within_32767K, f11_within_32767T0, f11_within_32767R, []⟩) symMixed symClosed sums11_within_6Ok f11_within_32767C0) (withinS_exch (m := 32767) (by decide))
def sums11_within_32767 : List (Nat × Summ) := (11, f11_within_32767M) :: sums11_within_6
theorem sums11_within_32767Ok : ∀ g, ∀ m ∈ sumsOf sums11_within_32767 g, SumOk Tryd.prog (xOf symX) (gxOf symG) g m := sumsOf_ok f11_within_32767Ok sums11_within_6Ok
def f46A : List SV := [(.agg [(.int .i64 [([(.var (nat_lit 0))], (Int.ofNat (nat_lit 1)))]), (.int .i64 [([(.var (nat_lit 1))], (Int.ofNat (nat_lit 1)))])]), (.int .i64 [([(.var (nat_lit 2))], (Int.ofNat (nat_lit 1)))])]
def f46K : List Iv := [ivT .i64, ivT .i64, ivT .i64]
def f46R : List (List SV) := []
def f46T0 : STree := (.test (.le [([], (Int.ofNat (nat_lit 1))), ([(.var (nat_lit 0))], (Int.ofNat (nat_lit 1))), ([(.wrap .i64 (.mul (.lit (Int.negSucc (nat_lit 0))) (.var (nat_lit 2))))], (Int.negSucc (nat_lit 0)))])
  (.leaf (.bool false))
  (.test (.le [([], (Int.ofNat (nat_lit 1))), ([(.var (nat_lit 0))], (Int.negSucc (nat_lit 0))), ([(.var (nat_lit 2))], (Int.ofNat (nat_lit 1)))])
  (.leaf (.bool false))
  (.test (.le [([], (Int.ofNat (nat_lit 1))), ([(.var (nat_lit 1))], (Int.ofNat (nat_lit 1))), ([(.wrap .i64 (.mul (.lit (Int.negSucc (nat_lit 0))) (.var (nat_lit 2))))], (Int.negSucc (nat_lit 0)))])
  (.leaf (.bool false))
  (.test (.le [([], (Int.ofNat (nat_lit 1))), ([(.var (nat_lit 1))], (Int.negSucc (nat_lit 0))), ([(.var (nat_lit 2))], (Int.ofNat (nat_lit 1)))])
  (.leaf (.bool false))
  (.leaf (.bool true))))))
theorem f46C0 : checkT Tryd.prog (xWith (xOf symX) f46R) (gxOf symG) (sumsOf sums11_within_32767) 10000 46 f46A f46T0 (facts0 f46K) = true := by kernel_rfl
def f46M : Summ := ⟨f46A, f46K, f46T0, f46R, []⟩
theorem f46Ok : SumOk Tryd.prog (xOf symX) (gxOf symG) 46 f46M := sumOk_of symMixed symClosed sums11_within_32767Ok f46C0
def sums46 : List (Nat × Summ) := (46, f46M) :: sums11_within_32767
theorem sums46Ok : ∀ g, ∀ m ∈ sumsOf sums46 g, SumOk Tryd.prog (xOf symX) (gxOf symG) g m := sumsOf_ok f46Ok sums11_within_32767Ok
def f47A : List SV := [(.int .i64 [([(.var (nat_lit 0))], (Int.ofNat (nat_lit 1)))]), (.int .i64 [([(.var (nat_lit 1))], (Int.ofNat (nat_lit 1)))])]
def f47K : List Iv := [ivT .i64, ivT .i64]
def f47R : List (List SV) := []
def f47T0 : STree := (.test (.le [([], (Int.ofNat (nat_lit 1152921504606846977))), ([(.var (nat_lit 0))], (Int.ofNat (nat_lit 1)))])
  (.leaf (.tuple [(.agg [(.int .i64 []), (.int .i64 [])]), (.int .i64 [([], (Int.ofNat (nat_lit 2)))])]))
  (.test (.le [([], (Int.ofNat (nat_lit 1152921504606846977))), ([(.var (nat_lit 0))], (Int.negSucc (nat_lit 0)))])
  (.leaf (.tuple [(.agg [(.int .i64 []), (.int .i64 [])]), (.int .i64 [([], (Int.ofNat (nat_lit 2)))])]))
  (.test (.le [([], (Int.ofNat (nat_lit 1152921504606846977))), ([(.var (nat_lit 1))], (Int.ofNat (nat_lit 1)))])
  (.leaf (.tuple [(.agg [(.int .i64 []), (.int .i64 [])]), (.int .i64 [([], (Int.ofNat (nat_lit 2)))])]))
  (.test (.le [([], (Int.ofNat (nat_lit 1152921504606846977))), ([(.var (nat_lit 1))], (Int.negSucc (nat_lit 0)))])
  (.leaf (.tuple [(.agg [(.int .i64 []), (.int .i64 [])]), (.int .i64 [([], (Int.ofNat (nat_lit 2)))])]))
  (.leaf (.tuple [(.agg [(.int .i64 [([(.var (nat_lit 0))], (Int.ofNat (nat_lit 1)))]), (.int .i64 [([(.var (nat_lit 1))], (Int.ofNat (nat_lit 1)))])]), (.int .i64 [])]))))))
theorem f47C0 : checkT Tryd.prog (xWith (xOf symX) f47R) (gxOf symG) (sumsOf sums46) 10000 47 f47A f47T0 (facts0 f47K) = true := by kernel_rfl
def f47M : Summ := ⟨f47A, f47K, f47T0, f47R, []⟩
theorem f47Ok : SumOk Tryd.prog (xOf symX) (gxOf symG) 47 f47M := sumOk_of symMixed symClosed sums46Ok f47C0
def sums47 : List (Nat × Summ) := (47, f47M) :: sums46
theorem sums47Ok : ∀ g, ∀ m ∈ sumsOf sums47 g, SumOk Tryd.prog (xOf symX) (gxOf symG) g m := sumsOf_ok f47Ok sums46Ok
def f22A : List SV := [(.agg [(.int .i64 [([(.var (nat_lit 0))], (Int.ofNat (nat_lit 1)))]), (.int .i64 [([(.var (nat_lit 1))], (Int.ofNat (nat_lit 1)))]), (.int .i64 [([(.var (nat_lit 2))], (Int.ofNat (nat_lit 1)))]), (.int .i64 [([(.var (nat_lit 3))], (Int.ofNat (nat_lit 1)))])]), (.agg [(.int .i64 [([(.var (nat_lit 4))], (Int.ofNat (nat_lit 1)))]), (.int .i64 [([(.var (nat_lit 5))], (Int.ofNat (nat_lit 1)))]), (.int .i64 [([(.var (nat_lit 6))], (Int.ofNat (nat_lit 1)))]), (.int .i64 [([(.var (nat_lit 7))], (Int.ofNat (nat_lit 1)))])])]
def f22K : List Iv := [ivT .i64, ivT .i64, ivT .i64, ivT .i64, ivT .i64, ivT .i64, ivT .i64, ivT .i64]
def f22R : List (List SV) := []
def f22T0 : STree := (.test (.le [([], (Int.ofNat (nat_lit 576460752303423489))), ([(.var (nat_lit 0))], (Int.ofNat (nat_lit 1)))])
  (.leaf (.tuple [(.agg [(.int .i64 []), (.int .i64 []), (.int .i64 []), (.int .i64 [])]), (.int .i64 [([], (Int.ofNat (nat_lit 1)))])]))
  (.test (.le [([], (Int.ofNat (nat_lit 576460752303423489))), ([(.var (nat_lit 0))], (Int.negSucc (nat_lit 0)))])
  (.leaf (.tuple [(.agg [(.int .i64 []), (.int .i64 []), (.int .i64 []), (.int .i64 [])]), (.int .i64 [([], (Int.ofNat (nat_lit 1)))])]))
  (.test (.le [([], (Int.ofNat (nat_lit 576460752303423489))), ([(.var (nat_lit 1))], (Int.ofNat (nat_lit 1)))])
  (.leaf (.tuple [(.agg [(.int .i64 []), (.int .i64 []), (.int .i64 []), (.int .i64 [])]), (.int .i64 [([], (Int.ofNat (nat_lit 1)))])]))
  (.test (.le [([], (Int.ofNat (nat_lit 576460752303423489))), ([(.var (nat_lit 1))], (Int.negSucc (nat_lit 0)))])
  (.leaf (.tuple [(.agg [(.int .i64 []), (.int .i64 []), (.int .i64 []), (.int .i64 [])]), (.int .i64 [([], (Int.ofNat (nat_lit 1)))])]))
  (.test (.le [([], (Int.ofNat (nat_lit 576460752303423489))), ([(.var (nat_lit 2))], (Int.ofNat (nat_lit 1)))])
  (.leaf (.tuple [(.agg [(.int .i64 []), (.int .i64 []), (.int .i64 []), (.int .i64 [])]), (.int .i64 [([], (Int.ofNat (nat_lit 1)))])]))
  (.test (.le [([], (Int.ofNat (nat_lit 576460752303423489))), ([(.var (nat_lit 2))], (Int.negSucc (nat_lit 0)))])
  (.leaf (.tuple [(.agg [(.int .i64 []), (.int .i64 []), (.int .i64 []), (.int .i64 [])]), (.int .i64 [([], (Int.ofNat (nat_lit 1)))])]))
  (.test (.le [([], (Int.ofNat (nat_lit 576460752303423489))), ([(.var (nat_lit 3))], (Int.ofNat (nat_lit 1)))])
  (.leaf (.tuple [(.agg [(.int .i64 []), (.int .i64 []), (.int .i64 []), (.int .i64 [])]), (.int .i64 [([], (Int.ofNat (nat_lit 1)))])]))
  (.test (.le [([], (Int.ofNat (nat_lit 576460752303423489))), ([(.var (nat_lit 3))], (Int.negSucc (nat_lit 0)))])
  (.leaf (.tuple [(.agg [(.int .i64 []), (.int .i64 []), (.int .i64 []), (.int .i64 [])]), (.int .i64 [([], (Int.ofNat (nat_lit 1)))])]))
  (.test (.le [([], (Int.ofNat (nat_lit 576460752303423489))), ([(.var (nat_lit 4))], (Int.ofNat (nat_lit 1)))])
  (.leaf (.tuple [(.agg [(.int .i64 []), (.int .i64 []), (.int .i64 []), (.int .i64 [])]), (.int .i64 [([], (Int.ofNat (nat_lit 1)))])]))
  (.test (.le [([], (Int.ofNat (nat_lit 576460752303423489))), ([(.var (nat_lit 4))], (Int.negSucc (nat_lit 0)))])
  (.leaf (.tuple [(.agg [(.int .i64 []), (.int .i64 []), (.int .i64 []), (.int .i64 [])]), (.int .i64 [([], (Int.ofNat (nat_lit 1)))])]))
  (.test (.le [([], (Int.ofNat (nat_lit 576460752303423489))), ([(.var (nat_lit 5))], (Int.ofNat (nat_lit 1)))])
  (.leaf (.tuple [(.agg [(.int .i64 []), (.int .i64 []), (.int .i64 []), (.int .i64 [])]), (.int .i64 [([], (Int.ofNat (nat_lit 1)))])]))
  (.test (.le [([], (Int.ofNat (nat_lit 576460752303423489))), ([(.var (nat_lit 5))], (Int.negSucc (nat_lit 0)))])
  (.leaf (.tuple [(.agg [(.int .i64 []), (.int .i64 []), (.int .i64 []), (.int .i64 [])]), (.int .i64 [([], (Int.ofNat (nat_lit 1)))])]))
  (.test (.le [([], (Int.ofNat (nat_lit 576460752303423489))), ([(.var (nat_lit 6))], (Int.ofNat (nat_lit 1)))])
  (.leaf (.tuple [(.agg [(.int .i64 []), (.int .i64 []), (.int .i64 []), (.int .i64 [])]), (.int .i64 [([], (Int.ofNat (nat_lit 1)))])]))
  (.test (.le [([], (Int.ofNat (nat_lit 576460752303423489))), ([(.var (nat_lit 6))], (Int.negSucc (nat_lit 0)))])
  (.leaf (.tuple [(.agg [(.int .i64 []), (.int .i64 []), (.int .i64 []), (.int .i64 [])]), (.int .i64 [([], (Int.ofNat (nat_lit 1)))])]))
  (.test (.le [([], (Int.ofNat (nat_lit 576460752303423489))), ([(.var (nat_lit 7))], (Int.ofNat (nat_lit 1)))])
  (.leaf (.tuple [(.agg [(.int .i64 []), (.int .i64 []), (.int .i64 []), (.int .i64 [])]), (.int .i64 [([], (Int.ofNat (nat_lit 1)))])]))
  (.test (.le [([], (Int.ofNat (nat_lit 576460752303423489))), ([(.var (nat_lit 7))], (Int.negSucc (nat_lit 0)))])
  (.leaf (.tuple [(.agg [(.int .i64 []), (.int .i64 []), (.int .i64 []), (.int .i64 [])]), (.int .i64 [([], (Int.ofNat (nat_lit 1)))])]))
  (.test (.le [([], (Int.ofNat (nat_lit 576460752303423489))), ([(.var (nat_lit 0))], (Int.ofNat (nat_lit 1))), ([(.var (nat_lit 4))], (Int.ofNat (nat_lit 1)))])
  (.leaf (.tuple [(.agg [(.int .i64 []), (.int .i64 []), (.int .i64 []), (.int .i64 [])]), (.int .i64 [([], (Int.ofNat (nat_lit 2)))])]))
  (.test (.le [([], (Int.ofNat (nat_lit 576460752303423489))), ([(.var (nat_lit 0))], (Int.negSucc (nat_lit 0))), ([(.var (nat_lit 4))], (Int.negSucc (nat_lit 0)))])
  (.leaf (.tuple [(.agg [(.int .i64 []), (.int .i64 []), (.int .i64 []), (.int .i64 [])]), (.int .i64 [([], (Int.ofNat (nat_lit 2)))])]))
  (.test (.le [([], (Int.ofNat (nat_lit 576460752303423489))), ([(.var (nat_lit 1))], (Int.ofNat (nat_lit 1))), ([(.var (nat_lit 5))], (Int.ofNat (nat_lit 1)))])
  (.leaf (.tuple [(.agg [(.int .i64 []), (.int .i64 []), (.int .i64 []), (.int .i64 [])]), (.int .i64 [([], (Int.ofNat (nat_lit 2)))])]))
  (.test (.le [([], (Int.ofNat (nat_lit 576460752303423489))), ([(.var (nat_lit 1))], (Int.negSucc (nat_lit 0))), ([(.var (nat_lit 5))], (Int.negSucc (nat_lit 0)))])
  (.leaf (.tuple [(.agg [(.int .i64 []), (.int .i64 []), (.int .i64 []), (.int .i64 [])]), (.int .i64 [([], (Int.ofNat (nat_lit 2)))])]))
  (.test (.le [([], (Int.ofNat (nat_lit 576460752303423489))), ([(.var (nat_lit 2))], (Int.ofNat (nat_lit 1))), ([(.var (nat_lit 6))], (Int.ofNat (nat_lit 1)))])
  (.leaf (.tuple [(.agg [(.int .i64 []), (.int .i64 []), (.int .i64 []), (.int .i64 [])]), (.int .i64 [([], (Int.ofNat (nat_lit 2)))])]))
  (.test (.le [([], (Int.ofNat (nat_lit 576460752303423489))), ([(.var (nat_lit 2))], (Int.negSucc (nat_lit 0))), ([(.var (nat_lit 6))], (Int.negSucc (nat_lit 0)))])
  (.leaf (.tuple [(.agg [(.int .i64 []), (.int .i64 []), (.int .i64 []), (.int .i64 [])]), (.int .i64 [([], (Int.ofNat (nat_lit 2)))])]))
  (.test (.le [([], (Int.ofNat (nat_lit 576460752303423489))), ([(.var (nat_lit 3))], (Int.ofNat (nat_lit 1))), ([(.var (nat_lit 7))], (Int.ofNat (nat_lit 1)))])
  (.leaf (.tuple [(.agg [(.int .i64 []), (.int .i64 []), (.int .i64 []), (.int .i64 [])]), (.int .i64 [([], (Int.ofNat (nat_lit 2)))])]))
  (.test (.le [([], (Int.ofNat (nat_lit 576460752303423489))), ([(.var (nat_lit 3))], (Int.negSucc (nat_lit 0))), ([(.var (nat_lit 7))], (Int.negSucc (nat_lit 0)))])
  (.leaf (.tuple [(.agg [(.int .i64 []), (.int .i64 []), (.int .i64 []), (.int .i64 [])]), (.int .i64 [([], (Int.ofNat (nat_lit 2)))])]))
  (.leaf (.tuple [(.agg [(.int .i64 [([(.var (nat_lit 0))], (Int.ofNat (nat_lit 1))), ([(.var (nat_lit 4))], (Int.ofNat (nat_lit 1)))]), (.int .i64 [([(.var (nat_lit 1))], (Int.ofNat (nat_lit 1))), ([(.var (nat_lit 5))], (Int.ofNat (nat_lit 1)))]), (.int .i64 [([(.var (nat_lit 2))], (Int.ofNat (nat_lit 1))), ([(.var (nat_lit 6))], (Int.ofNat (nat_lit 1)))]), (.int .i64 [([(.var (nat_lit 3))], (Int.ofNat (nat_lit 1))), ([(.var (nat_lit 7))], (Int.ofNat (nat_lit 1)))])]), (.int .i64 [])]))))))))))))))))))))))))))
theorem f22C0 : checkT Tryd.prog (xWith (xOf symX) f22R) (gxOf symG) (sumsOf sums47) 10000 22 f22A f22T0 (facts0 f22K) = true := by kernel_rfl
def f22M : Summ := ⟨f22A, f22K, f22T0, f22R, []⟩
theorem f22Ok : SumOk Tryd.prog (xOf symX) (gxOf symG) 22 f22M := sumOk_of symMixed symClosed sums47Ok f22C0
def sums22 : List (Nat × Summ) := (22, f22M) :: sums47
theorem sums22Ok : ∀ g, ∀ m ∈ sumsOf sums22 g, SumOk Tryd.prog (xOf symX) (gxOf symG) g m := sumsOf_ok f22Ok sums47Ok
def f27A : List SV := [(.agg [(.int .i64 [([(.var (nat_lit 0))], (Int.ofNat (nat_lit 1)))]), (.int .i64 [([(.var (nat_lit 1))], (Int.ofNat (nat_lit 1)))]), (.int .i64 [([(.var (nat_lit 2))], (Int.ofNat (nat_lit 1)))]), (.int .i64 [([(.var (nat_lit 3))], (Int.ofNat (nat_lit 1)))])])]
def f27K : List Iv := [ivT .i64, ivT .i64, ivT .i64, ivT .i64]
def f27R : List (List SV) := []
def f27T0 : STree := (.test (.le [([], (Int.ofNat (nat_lit 268435457))), ([(.var (nat_lit 0))], (Int.ofNat (nat_lit 1)))])
  (.leaf (.tuple [(.agg [(.int .i64 []), (.int .i64 [])]), (.int .i64 [([], (Int.ofNat (nat_lit 1)))])]))
  (.test (.le [([], (Int.ofNat (nat_lit 268435457))), ([(.var (nat_lit 0))], (Int.negSucc (nat_lit 0)))])
  (.leaf (.tuple [(.agg [(.int .i64 []), (.int .i64 [])]), (.int .i64 [([], (Int.ofNat (nat_lit 1)))])]))
  (.test (.le [([], (Int.ofNat (nat_lit 268435457))), ([(.var (nat_lit 1))], (Int.ofNat (nat_lit 1)))])
  (.leaf (.tuple [(.agg [(.int .i64 []), (.int .i64 [])]), (.int .i64 [([], (Int.ofNat (nat_lit 1)))])]))
  (.test (.le [([], (Int.ofNat (nat_lit 268435457))), ([(.var (nat_lit 1))], (Int.negSucc (nat_lit 0)))])
  (.leaf (.tuple [(.agg [(.int .i64 []), (.int .i64 [])]), (.int .i64 [([], (Int.ofNat (nat_lit 1)))])]))
  (.test (.le [([], (Int.ofNat (nat_lit 268435457))), ([(.var (nat_lit 2))], (Int.ofNat (nat_lit 1)))])
  (.leaf (.tuple [(.agg [(.int .i64 []), (.int .i64 [])]), (.int .i64 [([], (Int.ofNat (nat_lit 1)))])]))
  (.test (.le [([], (Int.ofNat (nat_lit 268435457))), ([(.var (nat_lit 2))], (Int.negSucc (nat_lit 0)))])
  (.leaf (.tuple [(.agg [(.int .i64 []), (.int .i64 [])]), (.int .i64 [([], (Int.ofNat (nat_lit 1)))])]))
  (.test (.le [([], (Int.ofNat (nat_lit 268435457))), ([(.var (nat_lit 3))], (Int.ofNat (nat_lit 1)))])
  (.leaf (.tuple [(.agg [(.int .i64 []), (.int .i64 [])]), (.int .i64 [([], (Int.ofNat (nat_lit 1)))])]))
  (.test (.le [([], (Int.ofNat (nat_lit 268435457))), ([(.var (nat_lit 3))], (Int.negSucc (nat_lit 0)))])
  (.leaf (.tuple [(.agg [(.int .i64 []), (.int .i64 [])]), (.int .i64 [([], (Int.ofNat (nat_lit 1)))])]))
  (.leaf (.tuple [(.agg [(.int .i64 [([(.var (nat_lit 0)), (.var (nat_lit 0))], (Int.ofNat (nat_lit 1))), ([(.var (nat_lit 0)), (.var (nat_lit 2))], (Int.ofNat (nat_lit 1))), ([(.var (nat_lit 1)), (.var (nat_lit 1))], (Int.ofNat (nat_lit 1))), ([(.var (nat_lit 1)), (.var (nat_lit 3))], (Int.ofNat (nat_lit 1))), ([(.var (nat_lit 2)), (.var (nat_lit 2))], (Int.ofNat (nat_lit 1))), ([(.var (nat_lit 3)), (.var (nat_lit 3))], (Int.ofNat (nat_lit 1)))]), (.int .i64 [([(.var (nat_lit 0)), (.var (nat_lit 1))], (Int.ofNat (nat_lit 1))), ([(.var (nat_lit 1)), (.var (nat_lit 2))], (Int.ofNat (nat_lit 1))), ([(.var (nat_lit 2)), (.var (nat_lit 3))], (Int.ofNat (nat_lit 1)))])]), (.int .i64 [])]))))))))))
theorem f27C0 : checkT Tryd.prog (xWith (xOf symX) f27R) (gxOf symG) (sumsOf sums22) 10000 27 f27A f27T0 (facts0 f27K) = true := by kernel_rfl
def f27M : Summ := ⟨f27A, f27K, f27T0, f27R, []⟩
theorem f27Ok : SumOk Tryd.prog (xOf symX) (gxOf symG) 27 f27M := sumOk_of symMixed symClosed sums22Ok f27C0
def sums27 : List (Nat × Summ) := (27, f27M) :: sums22
theorem sums27Ok : ∀ g, ∀ m ∈ sumsOf sums27 g, SumOk Tryd.prog (xOf symX) (gxOf symG) g m := sumsOf_ok f27Ok sums22Ok
def f28A : List SV := [(.agg [(.int .i64 [([(.var (nat_lit 0))], (Int.ofNat (nat_lit 1)))]), (.int .i64 [([(.var (nat_lit 1))], (Int.ofNat (nat_lit 1)))])]), (.agg [(.int .i64 [([(.var (nat_lit 2))], (Int.ofNat (nat_lit 1)))]), (.int .i64 [([(.var (nat_lit 3))], (Int.ofNat (nat_lit 1)))])])]
def f28K : List Iv := [ivT .i64, ivT .i64, ivT .i64, ivT .i64]
def f28R : List (List SV) := []
def f28T0 : STree := (.test (.le [([], (Int.ofNat (nat_lit 1152921504606846977))), ([(.var (nat_lit 0))], (Int.ofNat (nat_lit 1)))])
  (.leaf (.tuple [(.agg [(.int .i64 []), (.int .i64 [])]), (.int .i64 [([], (Int.ofNat (nat_lit 1)))])]))
  (.test (.le [([], (Int.ofNat (nat_lit 1152921504606846977))), ([(.var (nat_lit 0))], (Int.negSucc (nat_lit 0)))])
  (.leaf (.tuple [(.agg [(.int .i64 []), (.int .i64 [])]), (.int .i64 [([], (Int.ofNat (nat_lit 1)))])]))
  (.test (.le [([], (Int.ofNat (nat_lit 1152921504606846977))), ([(.var (nat_lit 1))], (Int.ofNat (nat_lit 1)))])
  (.leaf (.tuple [(.agg [(.int .i64 []), (.int .i64 [])]), (.int .i64 [([], (Int.ofNat (nat_lit 1)))])]))
  (.test (.le [([], (Int.ofNat (nat_lit 1152921504606846977))), ([(.var (nat_lit 1))], (Int.negSucc (nat_lit 0)))])
  (.leaf (.tuple [(.agg [(.int .i64 []), (.int .i64 [])]), (.int .i64 [([], (Int.ofNat (nat_lit 1)))])]))
  (.test (.le [([], (Int.ofNat (nat_lit 1152921504606846977))), ([(.var (nat_lit 2))], (Int.ofNat (nat_lit 1)))])
  (.leaf (.tuple [(.agg [(.int .i64 []), (.int .i64 [])]), (.int .i64 [([], (Int.ofNat (nat_lit 1)))])]))
  (.test (.le [([], (Int.ofNat (nat_lit 1152921504606846977))), ([(.var (nat_lit 2))], (Int.negSucc (nat_lit 0)))])
  (.leaf (.tuple [(.agg [(.int .i64 []), (.int .i64 [])]), (.int .i64 [([], (Int.ofNat (nat_lit 1)))])]))
  (.test (.le [([], (Int.ofNat (nat_lit 1152921504606846977))), ([(.var (nat_lit 3))], (Int.ofNat (nat_lit 1)))])
  (.leaf (.tuple [(.agg [(.int .i64 []), (.int .i64 [])]), (.int .i64 [([], (Int.ofNat (nat_lit 1)))])]))
  (.test (.le [([], (Int.ofNat (nat_lit 1152921504606846977))), ([(.var (nat_lit 3))], (Int.negSucc (nat_lit 0)))])
  (.leaf (.tuple [(.agg [(.int .i64 []), (.int .i64 [])]), (.int .i64 [([], (Int.ofNat (nat_lit 1)))])]))
  (.test (.le [([], (Int.ofNat (nat_lit 1152921504606846977))), ([(.var (nat_lit 0))], (Int.ofNat (nat_lit 1))), ([(.var (nat_lit 2))], (Int.ofNat (nat_lit 1)))])
  (.leaf (.tuple [(.agg [(.int .i64 []), (.int .i64 [])]), (.int .i64 [([], (Int.ofNat (nat_lit 2)))])]))
  (.test (.le [([], (Int.ofNat (nat_lit 1152921504606846977))), ([(.var (nat_lit 0))], (Int.negSucc (nat_lit 0))), ([(.var (nat_lit 2))], (Int.negSucc (nat_lit 0)))])
  (.leaf (.tuple [(.agg [(.int .i64 []), (.int .i64 [])]), (.int .i64 [([], (Int.ofNat (nat_lit 2)))])]))
  (.test (.le [([], (Int.ofNat (nat_lit 1152921504606846977))), ([(.var (nat_lit 1))], (Int.ofNat (nat_lit 1))), ([(.var (nat_lit 3))], (Int.ofNat (nat_lit 1)))])
  (.leaf (.tuple [(.agg [(.int .i64 []), (.int .i64 [])]), (.int .i64 [([], (Int.ofNat (nat_lit 2)))])]))
  (.test (.le [([], (Int.ofNat (nat_lit 1152921504606846977))), ([(.var (nat_lit 1))], (Int.negSucc (nat_lit 0))), ([(.var (nat_lit 3))], (Int.negSucc (nat_lit 0)))])
  (.leaf (.tuple [(.agg [(.int .i64 []), (.int .i64 [])]), (.int .i64 [([], (Int.ofNat (nat_lit 2)))])]))
  (.leaf (.tuple [(.agg [(.int .i64 [([(.var (nat_lit 0))], (Int.ofNat (nat_lit 1))), ([(.var (nat_lit 2))], (Int.ofNat (nat_lit 1)))]), (.int .i64 [([(.var (nat_lit 1))], (Int.ofNat (nat_lit 1))), ([(.var (nat_lit 3))], (Int.ofNat (nat_lit 1)))])]), (.int .i64 [])]))))))))))))))
theorem f28C0 : checkT Tryd.prog (xWith (xOf symX) f28R) (gxOf symG) (sumsOf sums27) 10000 28 f28A f28T0 (facts0 f28K) = true := by kernel_rfl
def f28M : Summ := ⟨f28A, f28K, f28T0, f28R, []⟩
theorem f28Ok : SumOk Tryd.prog (xOf symX) (gxOf symG) 28 f28M := sumOk_of symMixed symClosed sums27Ok f28C0
def sums28 : List (Nat × Summ) := (28, f28M) :: sums27
theorem sums28Ok : ∀ g, ∀ m ∈ sumsOf sums28 g, SumOk Tryd.prog (xOf symX) (gxOf symG) g m := sumsOf_ok f28Ok sums27Ok
def f29A : List SV := [(.agg [(.int .i64 [([(.var (nat_lit 0))], (Int.ofNat (nat_lit 1)))]), (.int .i64 [([(.var (nat_lit 1))], (Int.ofNat (nat_lit 1)))]), (.int .i64 [([(.var (nat_lit 2))], (Int.ofNat (nat_lit 1)))]), (.int .i64 [([(.var (nat_lit 3))], (Int.ofNat (nat_lit 1)))])])]
def f29K : List Iv := [ivT .i64, ivT .i64, ivT .i64, ivT .i64]
def f29R : List (List SV) := []
def f29T0 : STree := (.test (.le [([], (Int.ofNat (nat_lit 576460752303423489))), ([(.var (nat_lit 0))], (Int.ofNat (nat_lit 1)))])
  (.leaf (.tuple [(.agg [(.int .i64 []), (.int .i64 []), (.int .i64 []), (.int .i64 [])]), (.int .i64 [([], (Int.ofNat (nat_lit 1)))])]))
  (.test (.le [([], (Int.ofNat (nat_lit 576460752303423489))), ([(.var (nat_lit 0))], (Int.negSucc (nat_lit 0)))])
  (.leaf (.tuple [(.agg [(.int .i64 []), (.int .i64 []), (.int .i64 []), (.int .i64 [])]), (.int .i64 [([], (Int.ofNat (nat_lit 1)))])]))
  (.test (.le [([], (Int.ofNat (nat_lit 576460752303423489))), ([(.var (nat_lit 1))], (Int.ofNat (nat_lit 1)))])
  (.leaf (.tuple [(.agg [(.int .i64 []), (.int .i64 []), (.int .i64 []), (.int .i64 [])]), (.int .i64 [([], (Int.ofNat (nat_lit 1)))])]))
  (.test (.le [([], (Int.ofNat (nat_lit 576460752303423489))), ([(.var (nat_lit 1))], (Int.negSucc (nat_lit 0)))])
  (.leaf (.tuple [(.agg [(.int .i64 []), (.int .i64 []), (.int .i64 []), (.int .i64 [])]), (.int .i64 [([], (Int.ofNat (nat_lit 1)))])]))
  (.test (.le [([], (Int.ofNat (nat_lit 576460752303423489))), ([(.var (nat_lit 2))], (Int.ofNat (nat_lit 1)))])
  (.leaf (.tuple [(.agg [(.int .i64 []), (.int .i64 []), (.int .i64 []), (.int .i64 [])]), (.int .i64 [([], (Int.ofNat (nat_lit 1)))])]))
  (.test (.le [([], (Int.ofNat (nat_lit 576460752303423489))), ([(.var (nat_lit 2))], (Int.negSucc (nat_lit 0)))])
  (.leaf (.tuple [(.agg [(.int .i64 []), (.int .i64 []), (.int .i64 []), (.int .i64 [])]), (.int .i64 [([], (Int.ofNat (nat_lit 1)))])]))
  (.test (.le [([], (Int.ofNat (nat_lit 576460752303423489))), ([(.var (nat_lit 3))], (Int.ofNat (nat_lit 1)))])
  (.leaf (.tuple [(.agg [(.int .i64 []), (.int .i64 []), (.int .i64 []), (.int .i64 [])]), (.int .i64 [([], (Int.ofNat (nat_lit 1)))])]))
  (.test (.le [([], (Int.ofNat (nat_lit 576460752303423489))), ([(.var (nat_lit 3))], (Int.negSucc (nat_lit 0)))])
  (.leaf (.tuple [(.agg [(.int .i64 []), (.int .i64 []), (.int .i64 []), (.int .i64 [])]), (.int .i64 [([], (Int.ofNat (nat_lit 1)))])]))
  (.test (.le [([], (Int.ofNat (nat_lit 576460752303423489))), ([(.var (nat_lit 0))], (Int.ofNat (nat_lit 1))), ([(.var (nat_lit 2))], (Int.ofNat (nat_lit 1)))])
  (.leaf (.tuple [(.agg [(.int .i64 []), (.int .i64 []), (.int .i64 []), (.int .i64 [])]), (.int .i64 [([], (Int.ofNat (nat_lit 2)))])]))
  (.test (.le [([], (Int.ofNat (nat_lit 576460752303423489))), ([(.var (nat_lit 0))], (Int.negSucc (nat_lit 0))), ([(.var (nat_lit 2))], (Int.negSucc (nat_lit 0)))])
  (.leaf (.tuple [(.agg [(.int .i64 []), (.int .i64 []), (.int .i64 []), (.int .i64 [])]), (.int .i64 [([], (Int.ofNat (nat_lit 2)))])]))
  (.test (.le [([], (Int.ofNat (nat_lit 576460752303423489))), ([(.var (nat_lit 1))], (Int.negSucc (nat_lit 0))), ([(.var (nat_lit 3))], (Int.negSucc (nat_lit 0)))])
  (.leaf (.tuple [(.agg [(.int .i64 []), (.int .i64 []), (.int .i64 []), (.int .i64 [])]), (.int .i64 [([], (Int.ofNat (nat_lit 2)))])]))
  (.test (.le [([], (Int.ofNat (nat_lit 576460752303423489))), ([(.var (nat_lit 1))], (Int.ofNat (nat_lit 1))), ([(.var (nat_lit 3))], (Int.ofNat (nat_lit 1)))])
  (.leaf (.tuple [(.agg [(.int .i64 []), (.int .i64 []), (.int .i64 []), (.int .i64 [])]), (.int .i64 [([], (Int.ofNat (nat_lit 2)))])]))
  (.leaf (.tuple [(.agg [(.int .i64 [([(.var (nat_lit 0))], (Int.ofNat (nat_lit 1))), ([(.var (nat_lit 2))], (Int.ofNat (nat_lit 1)))]), (.int .i64 [([(.var (nat_lit 1))], (Int.ofNat (nat_lit 1)))]), (.int .i64 [([(.var (nat_lit 2))], (Int.negSucc (nat_lit 0)))]), (.int .i64 [([(.var (nat_lit 1))], (Int.negSucc (nat_lit 0))), ([(.var (nat_lit 3))], (Int.negSucc (nat_lit 0)))])]), (.int .i64 [])]))))))))))))))
theorem f29C0 : checkT Tryd.prog (xWith (xOf symX) f29R) (gxOf symG) (sumsOf sums28) 10000 29 f29A f29T0 (facts0 f29K) = true := by kernel_rfl
def f29M : Summ := ⟨f29A, f29K, f29T0, f29R, []⟩
theorem f29Ok : SumOk Tryd.prog (xOf symX) (gxOf symG) 29 f29M := sumOk_of symMixed symClosed sums28Ok f29C0
def sums29 : List (Nat × Summ) := (29, f29M) :: sums28
theorem sums29Ok : ∀ g, ∀ m ∈ sumsOf sums29 g, SumOk Tryd.prog (xOf symX) (gxOf symG) g m := sumsOf_ok f29Ok sums28Ok
def f21A : List SV := [(.agg [(.int .i64 [([(.var (nat_lit 0))], (Int.ofNat (nat_lit 1)))]), (.int .i64 [([(.var (nat_lit 1))], (Int.ofNat (nat_lit 1)))]), (.int .i64 [([(.var (nat_lit 2))], (Int.ofNat (nat_lit 1)))]), (.int .i64 [([(.var (nat_lit 3))], (Int.ofNat (nat_lit 1)))])]), (.int .i64 [([(.var (nat_lit 4))], (Int.ofNat (nat_lit 1)))])]
def f21K : List Iv := [ivT .i64, ivT .i64, ivT .i64, ivT .i64, ivT .i64]
def f21R : List (List SV) := []
def f21T0 : STree := (.test (.le [([], (Int.ofNat (nat_lit 576460752303423489))), ([(.var (nat_lit 0))], (Int.ofNat (nat_lit 1)))])
  (.leaf (.tuple [(.agg [(.int .i64 []), (.int .i64 []), (.int .i64 []), (.int .i64 [])]), (.int .i64 [([], (Int.ofNat (nat_lit 1)))])]))
  (.test (.le [([], (Int.ofNat (nat_lit 576460752303423489))), ([(.var (nat_lit 0))], (Int.negSucc (nat_lit 0)))])
  (.leaf (.tuple [(.agg [(.int .i64 []), (.int .i64 []), (.int .i64 []), (.int .i64 [])]), (.int .i64 [([], (Int.ofNat (nat_lit 1)))])]))
  (.test (.le [([], (Int.ofNat (nat_lit 576460752303423489))), ([(.var (nat_lit 1))], (Int.ofNat (nat_lit 1)))])
  (.leaf (.tuple [(.agg [(.int .i64 []), (.int .i64 []), (.int .i64 []), (.int .i64 [])]), (.int .i64 [([], (Int.ofNat (nat_lit 1)))])]))
  (.test (.le [([], (Int.ofNat (nat_lit 576460752303423489))), ([(.var (nat_lit 1))], (Int.negSucc (nat_lit 0)))])
  (.leaf (.tuple [(.agg [(.int .i64 []), (.int .i64 []), (.int .i64 []), (.int .i64 [])]), (.int .i64 [([], (Int.ofNat (nat_lit 1)))])]))
  (.test (.le [([], (Int.ofNat (nat_lit 576460752303423489))), ([(.var (nat_lit 2))], (Int.ofNat (nat_lit 1)))])
  (.leaf (.tuple [(.agg [(.int .i64 []), (.int .i64 []), (.int .i64 []), (.int .i64 [])]), (.int .i64 [([], (Int.ofNat (nat_lit 1)))])]))
  (.test (.le [([], (Int.ofNat (nat_lit 576460752303423489))), ([(.var (nat_lit 2))], (Int.negSucc (nat_lit 0)))])
  (.leaf (.tuple [(.agg [(.int .i64 []), (.int .i64 []), (.int .i64 []), (.int .i64 [])]), (.int .i64 [([], (Int.ofNat (nat_lit 1)))])]))
  (.test (.le [([], (Int.ofNat (nat_lit 576460752303423489))), ([(.var (nat_lit 3))], (Int.ofNat (nat_lit 1)))])
  (.leaf (.tuple [(.agg [(.int .i64 []), (.int .i64 []), (.int .i64 []), (.int .i64 [])]), (.int .i64 [([], (Int.ofNat (nat_lit 1)))])]))
  (.test (.le [([], (Int.ofNat (nat_lit 576460752303423489))), ([(.var (nat_lit 3))], (Int.negSucc (nat_lit 0)))])
  (.leaf (.tuple [(.agg [(.int .i64 []), (.int .i64 []), (.int .i64 []), (.int .i64 [])]), (.int .i64 [([], (Int.ofNat (nat_lit 1)))])]))
  (.test (.le [([], (Int.ofNat (nat_lit 6))), ([(.emod (nat_lit 12) (.var (nat_lit 4)))], (Int.negSucc (nat_lit 0)))])
  (.test (.le [([], (Int.negSucc (nat_lit 7))), ([(.emod (nat_lit 12) (.var (nat_lit 4)))], (Int.ofNat (nat_lit 1)))])
  (.test (.le [([], (Int.negSucc (nat_lit 6))), ([(.emod (nat_lit 12) (.var (nat_lit 4)))], (Int.ofNat (nat_lit 1)))])
  (.test (.le [([], (Int.negSucc (nat_lit 5))), ([(.emod (nat_lit 12) (.var (nat_lit 4)))], (Int.ofNat (nat_lit 1)))])
  (.leaf (.tuple [(.agg [(.int .i64 [([(.var (nat_lit 0))], (Int.negSucc (nat_lit 0)))]), (.int .i64 [([(.var (nat_lit 1))], (Int.negSucc (nat_lit 0)))]), (.int .i64 [([(.var (nat_lit 2))], (Int.negSucc (nat_lit 0)))]), (.int .i64 [([(.var (nat_lit 3))], (Int.negSucc (nat_lit 0)))])]), (.int .i64 [])]))
  (.test (.le [([], (Int.ofNat (nat_lit 576460752303423489))), ([(.var (nat_lit 1))], (Int.negSucc (nat_lit 0))), ([(.var (nat_lit 3))], (Int.negSucc (nat_lit 0)))])
  (.leaf (.tuple [(.agg [(.int .i64 []), (.int .i64 []), (.int .i64 []), (.int .i64 [])]), (.int .i64 [([], (Int.ofNat (nat_lit 2)))])]))
  (.test (.le [([], (Int.ofNat (nat_lit 576460752303423489))), ([(.var (nat_lit 1))], (Int.ofNat (nat_lit 1))), ([(.var (nat_lit 3))], (Int.ofNat (nat_lit 1)))])
  (.leaf (.tuple [(.agg [(.int .i64 []), (.int .i64 []), (.int .i64 []), (.int .i64 [])]), (.int .i64 [([], (Int.ofNat (nat_lit 2)))])]))
  (.leaf (.tuple [(.agg [(.int .i64 [([(.var (nat_lit 3))], (Int.ofNat (nat_lit 1)))]), (.int .i64 [([(.var (nat_lit 0))], (Int.negSucc (nat_lit 0)))]), (.int .i64 [([(.var (nat_lit 1))], (Int.negSucc (nat_lit 0))), ([(.var (nat_lit 3))], (Int.negSucc (nat_lit 0)))]), (.int .i64 [([(.var (nat_lit 2))], (Int.negSucc (nat_lit 0)))])]), (.int .i64 [])])))))
  (.test (.le [([], (Int.ofNat (nat_lit 576460752303423489))), ([(.var (nat_lit 0))], (Int.negSucc (nat_lit 0))), ([(.var (nat_lit 2))], (Int.negSucc (nat_lit 0)))])
  (.leaf (.tuple [(.agg [(.int .i64 []), (.int .i64 []), (.int .i64 []), (.int .i64 [])]), (.int .i64 [([], (Int.ofNat (nat_lit 2)))])]))
  (.test (.le [([], (Int.ofNat (nat_lit 576460752303423489))), ([(.var (nat_lit 0))], (Int.ofNat (nat_lit 1))), ([(.var (nat_lit 2))], (Int.ofNat (nat_lit 1)))])
  (.leaf (.tuple [(.agg [(.int .i64 []), (.int .i64 []), (.int .i64 []), (.int .i64 [])]), (.int .i64 [([], (Int.ofNat (nat_lit 2)))])]))
  (.test (.le [([], (Int.ofNat (nat_lit 576460752303423489))), ([(.var (nat_lit 1))], (Int.negSucc (nat_lit 0))), ([(.var (nat_lit 3))], (Int.negSucc (nat_lit 0)))])
  (.leaf (.tuple [(.agg [(.int .i64 []), (.int .i64 []), (.int .i64 []), (.int .i64 [])]), (.int .i64 [([], (Int.ofNat (nat_lit 2)))])]))
  (.test (.le [([], (Int.ofNat (nat_lit 576460752303423489))), ([(.var (nat_lit 1))], (Int.ofNat (nat_lit 1))), ([(.var (nat_lit 3))], (Int.ofNat (nat_lit 1)))])
  (.leaf (.tuple [(.agg [(.int .i64 []), (.int .i64 []), (.int .i64 []), (.int .i64 [])]), (.int .i64 [([], (Int.ofNat (nat_lit 2)))])]))
  (.leaf (.tuple [(.agg [(.int .i64 [([(.var (nat_lit 2))], (Int.ofNat (nat_lit 1)))]), (.int .i64 [([(.var (nat_lit 3))], (Int.ofNat (nat_lit 1)))]), (.int .i64 [([(.var (nat_lit 0))], (Int.negSucc (nat_lit 0))), ([(.var (nat_lit 2))], (Int.negSucc (nat_lit 0)))]), (.int .i64 [([(.var (nat_lit 1))], (Int.negSucc (nat_lit 0))), ([(.var (nat_lit 3))], (Int.negSucc (nat_lit 0)))])]), (.int .i64 [])])))))))
  (.test (.le [([], (Int.negSucc (nat_lit 9))), ([(.emod (nat_lit 12) (.var (nat_lit 4)))], (Int.ofNat (nat_lit 1)))])
  (.test (.le [([], (Int.negSucc (nat_lit 8))), ([(.emod (nat_lit 12) (.var (nat_lit 4)))], (Int.ofNat (nat_lit 1)))])
  (.test (.le [([], (Int.ofNat (nat_lit 576460752303423489))), ([(.var (nat_lit 1))], (Int.ofNat (nat_lit 1))), ([(.var (nat_lit 3))], (Int.ofNat (nat_lit 1)))])
  (.leaf (.tuple [(.agg [(.int .i64 []), (.int .i64 []), (.int .i64 []), (.int .i64 [])]), (.int .i64 [([], (Int.ofNat (nat_lit 2)))])]))
  (.test (.le [([], (Int.ofNat (nat_lit 576460752303423489))), ([(.var (nat_lit 1))], (Int.negSucc (nat_lit 0))), ([(.var (nat_lit 3))], (Int.negSucc (nat_lit 0)))])
  (.leaf (.tuple [(.agg [(.int .i64 []), (.int .i64 []), (.int .i64 []), (.int .i64 [])]), (.int .i64 [([], (Int.ofNat (nat_lit 2)))])]))
  (.test (.le [([], (Int.ofNat (nat_lit 576460752303423489))), ([(.var (nat_lit 0))], (Int.negSucc (nat_lit 0))), ([(.var (nat_lit 2))], (Int.negSucc (nat_lit 0)))])
  (.leaf (.tuple [(.agg [(.int .i64 []), (.int .i64 []), (.int .i64 []), (.int .i64 [])]), (.int .i64 [([], (Int.ofNat (nat_lit 2)))])]))
  (.test (.le [([], (Int.ofNat (nat_lit 576460752303423489))), ([(.var (nat_lit 0))], (Int.ofNat (nat_lit 1))), ([(.var (nat_lit 2))], (Int.ofNat (nat_lit 1)))])
  (.leaf (.tuple [(.agg [(.int .i64 []), (.int .i64 []), (.int .i64 []), (.int .i64 [])]), (.int .i64 [([], (Int.ofNat (nat_lit 2)))])]))
  (.leaf (.tuple [(.agg [(.int .i64 [([(.var (nat_lit 1))], (Int.ofNat (nat_lit 1))), ([(.var (nat_lit 3))], (Int.ofNat (nat_lit 1)))]), (.int .i64 [([(.var (nat_lit 2))], (Int.ofNat (nat_lit 1)))]), (.int .i64 [([(.var (nat_lit 1))], (Int.negSucc (nat_lit 0)))]), (.int .i64 [([(.var (nat_lit 0))], (Int.negSucc (nat_lit 0))), ([(.var (nat_lit 2))], (Int.negSucc (nat_lit 0)))])]), (.int .i64 [])]))))))
  (.test (.le [([], (Int.ofNat (nat_lit 576460752303423489))), ([(.var (nat_lit 0))], (Int.ofNat (nat_lit 1))), ([(.var (nat_lit 2))], (Int.ofNat (nat_lit 1)))])
  (.leaf (.tuple [(.agg [(.int .i64 []), (.int .i64 []), (.int .i64 []), (.int .i64 [])]), (.int .i64 [([], (Int.ofNat (nat_lit 2)))])]))
  (.test (.le [([], (Int.ofNat (nat_lit 576460752303423489))), ([(.var (nat_lit 0))], (Int.negSucc (nat_lit 0))), ([(.var (nat_lit 2))], (Int.negSucc (nat_lit 0)))])
  (.leaf (.tuple [(.agg [(.int .i64 []), (.int .i64 []), (.int .i64 []), (.int .i64 [])]), (.int .i64 [([], (Int.ofNat (nat_lit 2)))])]))
  (.test (.le [([], (Int.ofNat (nat_lit 576460752303423489))), ([(.var (nat_lit 1))], (Int.ofNat (nat_lit 1))), ([(.var (nat_lit 3))], (Int.ofNat (nat_lit 1)))])
  (.leaf (.tuple [(.agg [(.int .i64 []), (.int .i64 []), (.int .i64 []), (.int .i64 [])]), (.int .i64 [([], (Int.ofNat (nat_lit 2)))])]))
  (.test (.le [([], (Int.ofNat (nat_lit 576460752303423489))), ([(.var (nat_lit 1))], (Int.negSucc (nat_lit 0))), ([(.var (nat_lit 3))], (Int.negSucc (nat_lit 0)))])
  (.leaf (.tuple [(.agg [(.int .i64 []), (.int .i64 []), (.int .i64 []), (.int .i64 [])]), (.int .i64 [([], (Int.ofNat (nat_lit 2)))])]))
  (.leaf (.tuple [(.agg [(.int .i64 [([(.var (nat_lit 0))], (Int.ofNat (nat_lit 1))), ([(.var (nat_lit 2))], (Int.ofNat (nat_lit 1)))]), (.int .i64 [([(.var (nat_lit 1))], (Int.ofNat (nat_lit 1))), ([(.var (nat_lit 3))], (Int.ofNat (nat_lit 1)))]), (.int .i64 [([(.var (nat_lit 0))], (Int.negSucc (nat_lit 0)))]), (.int .i64 [([(.var (nat_lit 1))], (Int.negSucc (nat_lit 0)))])]), (.int .i64 [])])))))))
  (.test (.le [([], (Int.ofNat (nat_lit 576460752303423489))), ([(.var (nat_lit 0))], (Int.ofNat (nat_lit 1))), ([(.var (nat_lit 2))], (Int.ofNat (nat_lit 1)))])
  (.leaf (.tuple [(.agg [(.int .i64 []), (.int .i64 []), (.int .i64 []), (.int .i64 [])]), (.int .i64 [([], (Int.ofNat (nat_lit 2)))])]))
  (.test (.le [([], (Int.ofNat (nat_lit 576460752303423489))), ([(.var (nat_lit 0))], (Int.negSucc (nat_lit 0))), ([(.var (nat_lit 2))], (Int.negSucc (nat_lit 0)))])
  (.leaf (.tuple [(.agg [(.int .i64 []), (.int .i64 []), (.int .i64 []), (.int .i64 [])]), (.int .i64 [([], (Int.ofNat (nat_lit 2)))])]))
  (.leaf (.tuple [(.agg [(.int .i64 [([(.var (nat_lit 1))], (Int.ofNat (nat_lit 1)))]), (.int .i64 [([(.var (nat_lit 0))], (Int.ofNat (nat_lit 1))), ([(.var (nat_lit 2))], (Int.ofNat (nat_lit 1)))]), (.int .i64 [([(.var (nat_lit 3))], (Int.ofNat (nat_lit 1)))]), (.int .i64 [([(.var (nat_lit 0))], (Int.negSucc (nat_lit 0)))])]), (.int .i64 [])]))))))
  (.test (.le [([], (Int.negSucc (nat_lit 1))), ([(.emod (nat_lit 12) (.var (nat_lit 4)))], (Int.ofNat (nat_lit 1)))])
  (.test (.le [([], (Int.negSucc (nat_lit 0))), ([(.emod (nat_lit 12) (.var (nat_lit 4)))], (Int.ofNat (nat_lit 1)))])
  (.test (.le [([(.emod (nat_lit 12) (.var (nat_lit 4)))], (Int.ofNat (nat_lit 1)))])
  (.leaf (.tuple [(.agg [(.int .i64 [([(.var (nat_lit 0))], (Int.ofNat (nat_lit 1)))]), (.int .i64 [([(.var (nat_lit 1))], (Int.ofNat (nat_lit 1)))]), (.int .i64 [([(.var (nat_lit 2))], (Int.ofNat (nat_lit 1)))]), (.int .i64 [([(.var (nat_lit 3))], (Int.ofNat (nat_lit 1)))])]), (.int .i64 [])]))
  (.test (.le [([], (Int.ofNat (nat_lit 576460752303423489))), ([(.var (nat_lit 1))], (Int.ofNat (nat_lit 1))), ([(.var (nat_lit 3))], (Int.ofNat (nat_lit 1)))])
  (.leaf (.tuple [(.agg [(.int .i64 []), (.int .i64 []), (.int .i64 []), (.int .i64 [])]), (.int .i64 [([], (Int.ofNat (nat_lit 2)))])]))
  (.test (.le [([], (Int.ofNat (nat_lit 576460752303423489))), ([(.var (nat_lit 1))], (Int.negSucc (nat_lit 0))), ([(.var (nat_lit 3))], (Int.negSucc (nat_lit 0)))])
  (.leaf (.tuple [(.agg [(.int .i64 []), (.int .i64 []), (.int .i64 []), (.int .i64 [])]), (.int .i64 [([], (Int.ofNat (nat_lit 2)))])]))
  (.leaf (.tuple [(.agg [(.int .i64 [([(.var (nat_lit 3))], (Int.negSucc (nat_lit 0)))]), (.int .i64 [([(.var (nat_lit 0))], (Int.ofNat (nat_lit 1)))]), (.int .i64 [([(.var (nat_lit 1))], (Int.ofNat (nat_lit 1))), ([(.var (nat_lit 3))], (Int.ofNat (nat_lit 1)))]), (.int .i64 [([(.var (nat_lit 2))], (Int.ofNat (nat_lit 1)))])]), (.int .i64 [])])))))
  (.test (.le [([], (Int.ofNat (nat_lit 576460752303423489))), ([(.var (nat_lit 0))], (Int.ofNat (nat_lit 1))), ([(.var (nat_lit 2))], (Int.ofNat (nat_lit 1)))])
  (.leaf (.tuple [(.agg [(.int .i64 []), (.int .i64 []), (.int .i64 []), (.int .i64 [])]), (.int .i64 [([], (Int.ofNat (nat_lit 2)))])]))
  (.test (.le [([], (Int.ofNat (nat_lit 576460752303423489))), ([(.var (nat_lit 0))], (Int.negSucc (nat_lit 0))), ([(.var (nat_lit 2))], (Int.negSucc (nat_lit 0)))])
  (.leaf (.tuple [(.agg [(.int .i64 []), (.int .i64 []), (.int .i64 []), (.int .i64 [])]), (.int .i64 [([], (Int.ofNat (nat_lit 2)))])]))
  (.test (.le [([], (Int.ofNat (nat_lit 576460752303423489))), ([(.var (nat_lit 1))], (Int.ofNat (nat_lit 1))), ([(.var (nat_lit 3))], (Int.ofNat (nat_lit 1)))])
  (.leaf (.tuple [(.agg [(.int .i64 []), (.int .i64 []), (.int .i64 []), (.int .i64 [])]), (.int .i64 [([], (Int.ofNat (nat_lit 2)))])]))
  (.test (.le [([], (Int.ofNat (nat_lit 576460752303423489))), ([(.var (nat_lit 1))], (Int.negSucc (nat_lit 0))), ([(.var (nat_lit 3))], (Int.negSucc (nat_lit 0)))])
  (.leaf (.tuple [(.agg [(.int .i64 []), (.int .i64 []), (.int .i64 []), (.int .i64 [])]), (.int .i64 [([], (Int.ofNat (nat_lit 2)))])]))
  (.leaf (.tuple [(.agg [(.int .i64 [([(.var (nat_lit 2))], (Int.negSucc (nat_lit 0)))]), (.int .i64 [([(.var (nat_lit 3))], (Int.negSucc (nat_lit 0)))]), (.int .i64 [([(.var (nat_lit 0))], (Int.ofNat (nat_lit 1))), ([(.var (nat_lit 2))], (Int.ofNat (nat_lit 1)))]), (.int .i64 [([(.var (nat_lit 1))], (Int.ofNat (nat_lit 1))), ([(.var (nat_lit 3))], (Int.ofNat (nat_lit 1)))])]), (.int .i64 [])])))))))
  (.test (.le [([], (Int.negSucc (nat_lit 3))), ([(.emod (nat_lit 12) (.var (nat_lit 4)))], (Int.ofNat (nat_lit 1)))])
  (.test (.le [([], (Int.negSucc (nat_lit 2))), ([(.emod (nat_lit 12) (.var (nat_lit 4)))], (Int.ofNat (nat_lit 1)))])
  (.test (.le [([], (Int.ofNat (nat_lit 576460752303423489))), ([(.var (nat_lit 1))], (Int.negSucc (nat_lit 0))), ([(.var (nat_lit 3))], (Int.negSucc (nat_lit 0)))])
  (.leaf (.tuple [(.agg [(.int .i64 []), (.int .i64 []), (.int .i64 []), (.int .i64 [])]), (.int .i64 [([], (Int.ofNat (nat_lit 2)))])]))
  (.test (.le [([], (Int.ofNat (nat_lit 576460752303423489))), ([(.var (nat_lit 1))], (Int.ofNat (nat_lit 1))), ([(.var (nat_lit 3))], (Int.ofNat (nat_lit 1)))])
  (.leaf (.tuple [(.agg [(.int .i64 []), (.int .i64 []), (.int .i64 []), (.int .i64 [])]), (.int .i64 [([], (Int.ofNat (nat_lit 2)))])]))
  (.test (.le [([], (Int.ofNat (nat_lit 576460752303423489))), ([(.var (nat_lit 0))], (Int.ofNat (nat_lit 1))), ([(.var (nat_lit 2))], (Int.ofNat (nat_lit 1)))])
  (.leaf (.tuple [(.agg [(.int .i64 []), (.int .i64 []), (.int .i64 []), (.int .i64 [])]), (.int .i64 [([], (Int.ofNat (nat_lit 2)))])]))
  (.test (.le [([], (Int.ofNat (nat_lit 576460752303423489))), ([(.var (nat_lit 0))], (Int.negSucc (nat_lit 0))), ([(.var (nat_lit 2))], (Int.negSucc (nat_lit 0)))])
  (.leaf (.tuple [(.agg [(.int .i64 []), (.int .i64 []), (.int .i64 []), (.int .i64 [])]), (.int .i64 [([], (Int.ofNat (nat_lit 2)))])]))
  (.leaf (.tuple [(.agg [(.int .i64 [([(.var (nat_lit 1))], (Int.negSucc (nat_lit 0))), ([(.var (nat_lit 3))], (Int.negSucc (nat_lit 0)))]), (.int .i64 [([(.var (nat_lit 2))], (Int.negSucc (nat_lit 0)))]), (.int .i64 [([(.var (nat_lit 1))], (Int.ofNat (nat_lit 1)))]), (.int .i64 [([(.var (nat_lit 0))], (Int.ofNat (nat_lit 1))), ([(.var (nat_lit 2))], (Int.ofNat (nat_lit 1)))])]), (.int .i64 [])]))))))
  (.test (.le [([], (Int.ofNat (nat_lit 576460752303423489))), ([(.var (nat_lit 0))], (Int.negSucc (nat_lit 0))), ([(.var (nat_lit 2))], (Int.negSucc (nat_lit 0)))])
  (.leaf (.tuple [(.agg [(.int .i64 []), (.int .i64 []), (.int .i64 []), (.int .i64 [])]), (.int .i64 [([], (Int.ofNat (nat_lit 2)))])]))
  (.test (.le [([], (Int.ofNat (nat_lit 576460752303423489))), ([(.var (nat_lit 0))], (Int.ofNat (nat_lit 1))), ([(.var (nat_lit 2))], (Int.ofNat (nat_lit 1)))])
  (.leaf (.tuple [(.agg [(.int .i64 []), (.int .i64 []), (.int .i64 []), (.int .i64 [])]), (.int .i64 [([], (Int.ofNat (nat_lit 2)))])]))
  (.test (.le [([], (Int.ofNat (nat_lit 576460752303423489))), ([(.var (nat_lit 1))], (Int.negSucc (nat_lit 0))), ([(.var (nat_lit 3))], (Int.negSucc (nat_lit 0)))])
  (.leaf (.tuple [(.agg [(.int .i64 []), (.int .i64 []), (.int .i64 []), (.int .i64 [])]), (.int .i64 [([], (Int.ofNat (nat_lit 2)))])]))
  (.test (.le [([], (Int.ofNat (nat_lit 576460752303423489))), ([(.var (nat_lit 1))], (Int.ofNat (nat_lit 1))), ([(.var (nat_lit 3))], (Int.ofNat (nat_lit 1)))])
  (.leaf (.tuple [(.agg [(.int .i64 []), (.int .i64 []), (.int .i64 []), (.int .i64 [])]), (.int .i64 [([], (Int.ofNat (nat_lit 2)))])]))
  (.leaf (.tuple [(.agg [(.int .i64 [([(.var (nat_lit 0))], (Int.negSucc (nat_lit 0))), ([(.var (nat_lit 2))], (Int.negSucc (nat_lit 0)))]), (.int .i64 [([(.var (nat_lit 1))], (Int.negSucc (nat_lit 0))), ([(.var (nat_lit 3))], (Int.negSucc (nat_lit 0)))]), (.int .i64 [([(.var (nat_lit 0))], (Int.ofNat (nat_lit 1)))]), (.int .i64 [([(.var (nat_lit 1))], (Int.ofNat (nat_lit 1)))])]), (.int .i64 [])])))))))
  (.test (.le [([], (Int.ofNat (nat_lit 576460752303423489))), ([(.var (nat_lit 0))], (Int.negSucc (nat_lit 0))), ([(.var (nat_lit 2))], (Int.negSucc (nat_lit 0)))])
  (.leaf (.tuple [(.agg [(.int .i64 []), (.int .i64 []), (.int .i64 []), (.int .i64 [])]), (.int .i64 [([], (Int.ofNat (nat_lit 2)))])]))
  (.test (.le [([], (Int.ofNat (nat_lit 576460752303423489))), ([(.var (nat_lit 0))], (Int.ofNat (nat_lit 1))), ([(.var (nat_lit 2))], (Int.ofNat (nat_lit 1)))])
  (.leaf (.tuple [(.agg [(.int .i64 []), (.int .i64 []), (.int .i64 []), (.int .i64 [])]), (.int .i64 [([], (Int.ofNat (nat_lit 2)))])]))
  (.leaf (.tuple [(.agg [(.int .i64 [([(.var (nat_lit 1))], (Int.negSucc (nat_lit 0)))]), (.int .i64 [([(.var (nat_lit 0))], (Int.negSucc (nat_lit 0))), ([(.var (nat_lit 2))], (Int.negSucc (nat_lit 0)))]), (.int .i64 [([(.var (nat_lit 3))], (Int.negSucc (nat_lit 0)))]), (.int .i64 [([(.var (nat_lit 0))], (Int.ofNat (nat_lit 1)))])]), (.int .i64 [])])))))))))))))))
theorem f21C0 : checkT Tryd.prog (xWith (xOf symX) f21R) (gxOf symG) (sumsOf sums29) 10000 21 f21A f21T0 (facts0 f21K) = true := by kernel_rfl
def f21M : Summ := ⟨f21A, f21K, f21T0, f21R, []⟩
theorem f21Ok : SumOk Tryd.prog (xOf symX) (gxOf symG) 21 f21M := sumOk_of symMixed symClosed sums29Ok f21C0
def sums21 : List (Nat × Summ) := (21, f21M) :: sums29
theorem sums21Ok : ∀ g, ∀ m ∈ sumsOf sums21 g, SumOk Tryd.prog (xOf symX) (gxOf symG) g m := sumsOf_ok f21Ok sums29Ok
def f18_x12im16383to16383A : List SV := [(.aslice (nat_lit 1000) (nat_lit 12) (nat_lit 12))]
def f18_x12im16383to16383K : List Iv := [⟨(Int.negSucc (nat_lit 16382)), (Int.ofNat (nat_lit 16383))⟩, ⟨(Int.negSucc (nat_lit 16382)), (Int.ofNat (nat_lit 16383))⟩, ⟨(Int.negSucc (nat_lit 16382)), (Int.ofNat (nat_lit 16383))⟩, ⟨(Int.negSucc (nat_lit 16382)), (Int.ofNat (nat_lit 16383))⟩, ⟨(Int.negSucc (nat_lit 16382)), (Int.ofNat (nat_lit 16383))⟩, ⟨(Int.negSucc (nat_lit 16382)), (Int.ofNat (nat_lit 16383))⟩, ⟨(Int.negSucc (nat_lit 16382)), (Int.ofNat (nat_lit 16383))⟩, ⟨(Int.negSucc (nat_lit 16382)), (Int.ofNat (nat_lit 16383))⟩, ⟨(Int.negSucc (nat_lit 16382)), (Int.ofNat (nat_lit 16383))⟩, ⟨(Int.negSucc (nat_lit 16382)), (Int.ofNat (nat_lit 16383))⟩, ⟨(Int.negSucc (nat_lit 16382)), (Int.ofNat (nat_lit 16383))⟩, ⟨(Int.negSucc (nat_lit 16382)), (Int.ofNat (nat_lit 16383))⟩]
def f18_x12im16383to16383R : List (List SV) := [[(.int .i64 [([(.var (nat_lit 0))], (Int.ofNat (nat_lit 1)))]), (.int .i64 [([(.var (nat_lit 1))], (Int.ofNat (nat_lit 1)))]), (.int .i64 [([(.var (nat_lit 2))], (Int.ofNat (nat_lit 1)))]), (.int .i64 [([(.var (nat_lit 3))], (Int.ofNat (nat_lit 1)))]), (.int .i64 [([(.var (nat_lit 4))], (Int.ofNat (nat_lit 1)))]), (.int .i64 [([(.var (nat_lit 5))], (Int.ofNat (nat_lit 1)))]), (.int .i64 [([(.var (nat_lit 6))], (Int.ofNat (nat_lit 1)))]), (.int .i64 [([(.var (nat_lit 7))], (Int.ofNat (nat_lit 1)))]), (.int .i64 [([(.var (nat_lit 8))], (Int.ofNat (nat_lit 1)))]), (.int .i64 [([(.var (nat_lit 9))], (Int.ofNat (nat_lit 1)))]), (.int .i64 [([(.var (nat_lit 10))], (Int.ofNat (nat_lit 1)))]), (.int .i64 [([(.var (nat_lit 11))], (Int.ofNat (nat_lit 1)))])]]
def f18_x12im16383to16383T0 : STree := (.leaf (.int .i64 []))
theorem f18_x12im16383to16383C0 : checkT Tryd.prog (xWith (xOf symX) f18_x12im16383to16383R) (gxOf symG) (sumsOf sums21) 10000 18 f18_x12im16383to16383A f18_x12im16383to16383T0 (facts0 f18_x12im16383to16383K) = true := by kernel_rfl
def f18_x12im16383to16383M : Summ := ⟨f18_x12im16383to16383A, f18_x12im16383to16383K, f18_x12im16383to16383T0, f18_x12im16383to16383R, []⟩
theorem f18_x12im16383to16383Ok : SumOk Tryd.prog (xOf symX) (gxOf symG) 18 f18_x12im16383to16383M := sumOk_of symMixed symClosed sums21Ok f18_x12im16383to16383C0
def sums18_x12im16383to16383 : List (Nat × Summ) := (18, f18_x12im16383to16383M) :: sums21
theorem sums18_x12im16383to16383Ok : ∀ g, ∀ m ∈ sumsOf sums18_x12im16383to16383 g, SumOk Tryd.prog (xOf symX) (gxOf symG) g m := sumsOf_ok f18_x12im16383to16383Ok sums21Ok
def f12_x12im16383to16383A : List SV := [(.aslice (nat_lit 1000) (nat_lit 12) (nat_lit 12)), (.int .i64 [([(.var (nat_lit 0))], (Int.ofNat (nat_lit 1)))])]
def f12_x12im16383to16383K : List Iv := [ivT .i64, ⟨(Int.negSucc (nat_lit 16382)), (Int.ofNat (nat_lit 16383))⟩, ⟨(Int.negSucc (nat_lit 16382)), (Int.ofNat (nat_lit 16383))⟩, ⟨(Int.negSucc (nat_lit 16382)), (Int.ofNat (nat_lit 16383))⟩, ⟨(Int.negSucc (nat_lit 16382)), (Int.ofNat (nat_lit 16383))⟩, ⟨(Int.negSucc (nat_lit 16382)), (Int.ofNat (nat_lit 16383))⟩, ⟨(Int.negSucc (nat_lit 16382)), (Int.ofNat (nat_lit 16383))⟩, ⟨(Int.negSucc (nat_lit 16382)), (Int.ofNat (nat_lit 16383))⟩, ⟨(Int.negSucc (nat_lit 16382)), (Int.ofNat (nat_lit 16383))⟩, ⟨(Int.negSucc (nat_lit 16382)), (Int.ofNat (nat_lit 16383))⟩, ⟨(Int.negSucc (nat_lit 16382)), (Int.ofNat (nat_lit 16383))⟩, ⟨(Int.negSucc (nat_lit 16382)), (Int.ofNat (nat_lit 16383))⟩, ⟨(Int.negSucc (nat_lit 16382)), (Int.ofNat (nat_lit 16383))⟩]
def f12_x12im16383to16383R : List (List SV) := [[(.int .i64 [([(.var (nat_lit 1))], (Int.ofNat (nat_lit 1)))]), (.int .i64 [([(.var (nat_lit 2))], (Int.ofNat (nat_lit 1)))]), (.int .i64 [([(.var (nat_lit 3))], (Int.ofNat (nat_lit 1)))]), (.int .i64 [([(.var (nat_lit 4))], (Int.ofNat (nat_lit 1)))]), (.int .i64 [([(.var (nat_lit 5))], (Int.ofNat (nat_lit 1)))]), (.int .i64 [([(.var (nat_lit 6))], (Int.ofNat (nat_lit 1)))]), (.int .i64 [([(.var (nat_lit 7))], (Int.ofNat (nat_lit 1)))]), (.int .i64 [([(.var (nat_lit 8))], (Int.ofNat (nat_lit 1)))]), (.int .i64 [([(.var (nat_lit 9))], (Int.ofNat (nat_lit 1)))]), (.int .i64 [([(.var (nat_lit 10))], (Int.ofNat (nat_lit 1)))]), (.int .i64 [([(.var (nat_lit 11))], (Int.ofNat (nat_lit 1)))]), (.int .i64 [([(.var (nat_lit 12))], (Int.ofNat (nat_lit 1)))])]]
def f12_x12im16383to16383Q0 : Quest := (.le [([], (Int.negSucc (nat_lit 4))), ([(.emod (nat_lit 12) (.var (nat_lit 0)))], (Int.ofNat (nat_lit 1)))])
def f12_x12im16383to16383T1 : STree := (.test (.le [([], (Int.negSucc (nat_lit 1))), ([(.emod (nat_lit 12) (.var (nat_lit 0)))], (Int.ofNat (nat_lit 1)))])
  (.test (.le [([], (Int.negSucc (nat_lit 0))), ([(.emod (nat_lit 12) (.var (nat_lit 0)))], (Int.ofNat (nat_lit 1)))])
  (.test (.le [([(.emod (nat_lit 12) (.var (nat_lit 0)))], (Int.ofNat (nat_lit 1)))])
  (.leaf (.tuple [(.agg [(.int .i64 [([(.var (nat_lit 1))], (Int.ofNat (nat_lit 1))), ([(.var (nat_lit 2))], (Int.ofNat (nat_lit 1))), ([(.var (nat_lit 3))], (Int.ofNat (nat_lit 1))), ([(.var (nat_lit 4))], (Int.ofNat (nat_lit 1))), ([(.var (nat_lit 5))], (Int.ofNat (nat_lit 1))), ([(.var (nat_lit 6))], (Int.ofNat (nat_lit 1))), ([(.var (nat_lit 7))], (Int.ofNat (nat_lit 1))), ([(.var (nat_lit 8))], (Int.ofNat (nat_lit 1))), ([(.var (nat_lit 9))], (Int.ofNat (nat_lit 1))), ([(.var (nat_lit 10))], (Int.ofNat (nat_lit 1))), ([(.var (nat_lit 11))], (Int.ofNat (nat_lit 1))), ([(.var (nat_lit 12))], (Int.ofNat (nat_lit 1)))]), (.int .i64 []), (.int .i64 []), (.int .i64 [])]), (.int .i64 [])]))
  (.leaf (.tuple [(.agg [(.int .i64 [([(.var (nat_lit 1))], (Int.ofNat (nat_lit 1))), ([(.var (nat_lit 3))], (Int.ofNat (nat_lit 1))), ([(.var (nat_lit 7))], (Int.negSucc (nat_lit 0))), ([(.var (nat_lit 9))], (Int.negSucc (nat_lit 0)))]), (.int .i64 [([(.var (nat_lit 2))], (Int.ofNat (nat_lit 1))), ([(.var (nat_lit 6))], (Int.negSucc (nat_lit 0))), ([(.var (nat_lit 8))], (Int.negSucc (nat_lit 0))), ([(.var (nat_lit 12))], (Int.ofNat (nat_lit 1)))]), (.int .i64 [([(.var (nat_lit 3))], (Int.negSucc (nat_lit 0))), ([(.var (nat_lit 5))], (Int.negSucc (nat_lit 0))), ([(.var (nat_lit 9))], (Int.ofNat (nat_lit 1))), ([(.var (nat_lit 11))], (Int.ofNat (nat_lit 1)))]), (.int .i64 [([(.var (nat_lit 2))], (Int.negSucc (nat_lit 0))), ([(.var (nat_lit 4))], (Int.negSucc (nat_lit 0))), ([(.var (nat_lit 8))], (Int.ofNat (nat_lit 1))), ([(.var (nat_lit 10))], (Int.ofNat (nat_lit 1)))])]), (.int .i64 [])])))
  (.leaf (.tuple [(.agg [(.int .i64 [([(.var (nat_lit 1))], (Int.ofNat (nat_lit 1))), ([(.var (nat_lit 2))], (Int.ofNat (nat_lit 1))), ([(.var (nat_lit 4))], (Int.negSucc (nat_lit 0))), ([(.var (nat_lit 5))], (Int.negSucc (nat_lit 0))), ([(.var (nat_lit 7))], (Int.ofNat (nat_lit 1))), ([(.var (nat_lit 8))], (Int.ofNat (nat_lit 1))), ([(.var (nat_lit 10))], (Int.negSucc (nat_lit 0))), ([(.var (nat_lit 11))], (Int.negSucc (nat_lit 0)))]), (.int .i64 []), (.int .i64 [([(.var (nat_lit 2))], (Int.negSucc (nat_lit 0))), ([(.var (nat_lit 3))], (Int.negSucc (nat_lit 0))), ([(.var (nat_lit 5))], (Int.ofNat (nat_lit 1))), ([(.var (nat_lit 6))], (Int.ofNat (nat_lit 1))), ([(.var (nat_lit 8))], (Int.negSucc (nat_lit 0))), ([(.var (nat_lit 9))], (Int.negSucc (nat_lit 0))), ([(.var (nat_lit 11))], (Int.ofNat (nat_lit 1))), ([(.var (nat_lit 12))], (Int.ofNat (nat_lit 1)))]), (.int .i64 [])]), (.int .i64 [])])))
  (.test (.le [([], (Int.negSucc (nat_lit 3))), ([(.emod (nat_lit 12) (.var (nat_lit 0)))], (Int.ofNat (nat_lit 1)))])
  (.test (.le [([], (Int.negSucc (nat_lit 2))), ([(.emod (nat_lit 12) (.var (nat_lit 0)))], (Int.ofNat (nat_lit 1)))])
  (.leaf (.tuple [(.agg [(.int .i64 [([(.var (nat_lit 1))], (Int.ofNat (nat_lit 1))), ([(.var (nat_lit 3))], (Int.negSucc (nat_lit 0))), ([(.var (nat_lit 5))], (Int.ofNat (nat_lit 1))), ([(.var (nat_lit 7))], (Int.negSucc (nat_lit 0))), ([(.var (nat_lit 9))], (Int.ofNat (nat_lit 1))), ([(.var (nat_lit 11))], (Int.negSucc (nat_lit 0)))]), (.int .i64 []), (.int .i64 []), (.int .i64 [([(.var (nat_lit 2))], (Int.negSucc (nat_lit 0))), ([(.var (nat_lit 4))], (Int.ofNat (nat_lit 1))), ([(.var (nat_lit 6))], (Int.negSucc (nat_lit 0))), ([(.var (nat_lit 8))], (Int.ofNat (nat_lit 1))), ([(.var (nat_lit 10))], (Int.negSucc (nat_lit 0))), ([(.var (nat_lit 12))], (Int.ofNat (nat_lit 1)))])]), (.int .i64 [])]))
  (.leaf (.tuple [(.agg [(.int .i64 [([(.var (nat_lit 1))], (Int.ofNat (nat_lit 1))), ([(.var (nat_lit 3))], (Int.negSucc (nat_lit 0))), ([(.var (nat_lit 4))], (Int.ofNat (nat_lit 1))), ([(.var (nat_lit 6))], (Int.negSucc (nat_lit 0))), ([(.var (nat_lit 7))], (Int.ofNat (nat_lit 1))), ([(.var (nat_lit 9))], (Int.negSucc (nat_lit 0))), ([(.var (nat_lit 10))], (Int.ofNat (nat_lit 1))), ([(.var (nat_lit 12))], (Int.negSucc (nat_lit 0)))]), (.int .i64 []), (.int .i64 [([(.var (nat_lit 2))], (Int.negSucc (nat_lit 0))), ([(.var (nat_lit 3))], (Int.ofNat (nat_lit 1))), ([(.var (nat_lit 5))], (Int.negSucc (nat_lit 0))), ([(.var (nat_lit 6))], (Int.ofNat (nat_lit 1))), ([(.var (nat_lit 8))], (Int.negSucc (nat_lit 0))), ([(.var (nat_lit 9))], (Int.ofNat (nat_lit 1))), ([(.var (nat_lit 11))], (Int.negSucc (nat_lit 0))), ([(.var (nat_lit 12))], (Int.ofNat (nat_lit 1)))]), (.int .i64 [])]), (.int .i64 [])])))
  (.leaf (.tuple [(.agg [(.int .i64 [([(.var (nat_lit 1))], (Int.ofNat (nat_lit 1))), ([(.var (nat_lit 5))], (Int.negSucc (nat_lit 0))), ([(.var (nat_lit 7))], (Int.negSucc (nat_lit 0))), ([(.var (nat_lit 11))], (Int.ofNat (nat_lit 1)))]), (.int .i64 [([(.var (nat_lit 2))], (Int.negSucc (nat_lit 0))), ([(.var (nat_lit 6))], (Int.ofNat (nat_lit 1))), ([(.var (nat_lit 8))], (Int.ofNat (nat_lit 1))), ([(.var (nat_lit 12))], (Int.negSucc (nat_lit 0)))]), (.int .i64 [([(.var (nat_lit 3))], (Int.ofNat (nat_lit 1))), ([(.var (nat_lit 5))], (Int.ofNat (nat_lit 1))), ([(.var (nat_lit 9))], (Int.negSucc (nat_lit 0))), ([(.var (nat_lit 11))], (Int.negSucc (nat_lit 0)))]), (.int .i64 [([(.var (nat_lit 4))], (Int.negSucc (nat_lit 0))), ([(.var (nat_lit 6))], (Int.negSucc (nat_lit 0))), ([(.var (nat_lit 10))], (Int.ofNat (nat_lit 1))), ([(.var (nat_lit 12))], (Int.ofNat (nat_lit 1)))])]), (.int .i64 [])]))))
theorem f12_x12im16383to16383C1 : checkT Tryd.prog (xWith (xOf symX) f12_x12im16383to16383R) (gxOf symG) (sumsOf sums18_x12im16383to16383) 10000 12 f12_x12im16383to16383A f12_x12im16383to16383T1 ((facts0 f12_x12im16383to16383K).yes f12_x12im16383to16383Q0) = true := by kernel_rfl
def f12_x12im16383to16383T2 : STree := (.test (.le [([], (Int.negSucc (nat_lit 7))), ([(.emod (nat_lit 12) (.var (nat_lit 0)))], (Int.ofNat (nat_lit 1)))])
  (.test (.le [([], (Int.negSucc (nat_lit 6))), ([(.emod (nat_lit 12) (.var (nat_lit 0)))], (Int.ofNat (nat_lit 1)))])
  (.test (.le [([], (Int.negSucc (nat_lit 5))), ([(.emod (nat_lit 12) (.var (nat_lit 0)))], (Int.ofNat (nat_lit 1)))])
  (.leaf (.tuple [(.agg [(.int .i64 [([(.var (nat_lit 1))], (Int.ofNat (nat_lit 1))), ([(.var (nat_lit 2))], (Int.negSucc (nat_lit 0))), ([(.var (nat_lit 3))], (Int.ofNat (nat_lit 1))), ([(.var (nat_lit 4))], (Int.negSucc (nat_lit 0))), ([(.var (nat_lit 5))], (Int.ofNat (nat_lit 1))), ([(.var (nat_lit 6))], (Int.negSucc (nat_lit 0))), ([(.var (nat_lit 7))], (Int.ofNat (nat_lit 1))), ([(.var (nat_lit 8))], (Int.negSucc (nat_lit 0))), ([(.var (nat_lit 9))], (Int.ofNat (nat_lit 1))), ([(.var (nat_lit 10))], (Int.negSucc (nat_lit 0))), ([(.var (nat_lit 11))], (Int.ofNat (nat_lit 1))), ([(.var (nat_lit 12))], (Int.negSucc (nat_lit 0)))]), (.int .i64 []), (.int .i64 []), (.int .i64 [])]), (.int .i64 [])]))
  (.leaf (.tuple [(.agg [(.int .i64 [([(.var (nat_lit 1))], (Int.ofNat (nat_lit 1))), ([(.var (nat_lit 3))], (Int.ofNat (nat_lit 1))), ([(.var (nat_lit 7))], (Int.negSucc (nat_lit 0))), ([(.var (nat_lit 9))], (Int.negSucc (nat_lit 0)))]), (.int .i64 [([(.var (nat_lit 2))], (Int.negSucc (nat_lit 0))), ([(.var (nat_lit 6))], (Int.ofNat (nat_lit 1))), ([(.var (nat_lit 8))], (Int.ofNat (nat_lit 1))), ([(.var (nat_lit 12))], (Int.negSucc (nat_lit 0)))]), (.int .i64 [([(.var (nat_lit 3))], (Int.negSucc (nat_lit 0))), ([(.var (nat_lit 5))], (Int.negSucc (nat_lit 0))), ([(.var (nat_lit 9))], (Int.ofNat (nat_lit 1))), ([(.var (nat_lit 11))], (Int.ofNat (nat_lit 1)))]), (.int .i64 [([(.var (nat_lit 2))], (Int.ofNat (nat_lit 1))), ([(.var (nat_lit 4))], (Int.ofNat (nat_lit 1))), ([(.var (nat_lit 8))], (Int.negSucc (nat_lit 0))), ([(.var (nat_lit 10))], (Int.negSucc (nat_lit 0)))])]), (.int .i64 [])])))
  (.leaf (.tuple [(.agg [(.int .i64 [([(.var (nat_lit 1))], (Int.ofNat (nat_lit 1))), ([(.var (nat_lit 2))], (Int.negSucc (nat_lit 0))), ([(.var (nat_lit 4))], (Int.ofNat (nat_lit 1))), ([(.var (nat_lit 5))], (Int.negSucc (nat_lit 0))), ([(.var (nat_lit 7))], (Int.ofNat (nat_lit 1))), ([(.var (nat_lit 8))], (Int.negSucc (nat_lit 0))), ([(.var (nat_lit 10))], (Int.ofNat (nat_lit 1))), ([(.var (nat_lit 11))], (Int.negSucc (nat_lit 0)))]), (.int .i64 []), (.int .i64 [([(.var (nat_lit 2))], (Int.ofNat (nat_lit 1))), ([(.var (nat_lit 3))], (Int.negSucc (nat_lit 0))), ([(.var (nat_lit 5))], (Int.ofNat (nat_lit 1))), ([(.var (nat_lit 6))], (Int.negSucc (nat_lit 0))), ([(.var (nat_lit 8))], (Int.ofNat (nat_lit 1))), ([(.var (nat_lit 9))], (Int.negSucc (nat_lit 0))), ([(.var (nat_lit 11))], (Int.ofNat (nat_lit 1))), ([(.var (nat_lit 12))], (Int.negSucc (nat_lit 0)))]), (.int .i64 [])]), (.int .i64 [])])))
  (.test (.le [([], (Int.negSucc (nat_lit 9))), ([(.emod (nat_lit 12) (.var (nat_lit 0)))], (Int.ofNat (nat_lit 1)))])
  (.test (.le [([], (Int.negSucc (nat_lit 8))), ([(.emod (nat_lit 12) (.var (nat_lit 0)))], (Int.ofNat (nat_lit 1)))])
  (.leaf (.tuple [(.agg [(.int .i64 [([(.var (nat_lit 1))], (Int.ofNat (nat_lit 1))), ([(.var (nat_lit 3))], (Int.negSucc (nat_lit 0))), ([(.var (nat_lit 5))], (Int.ofNat (nat_lit 1))), ([(.var (nat_lit 7))], (Int.negSucc (nat_lit 0))), ([(.var (nat_lit 9))], (Int.ofNat (nat_lit 1))), ([(.var (nat_lit 11))], (Int.negSucc (nat_lit 0)))]), (.int .i64 []), (.int .i64 []), (.int .i64 [([(.var (nat_lit 2))], (Int.ofNat (nat_lit 1))), ([(.var (nat_lit 4))], (Int.negSucc (nat_lit 0))), ([(.var (nat_lit 6))], (Int.ofNat (nat_lit 1))), ([(.var (nat_lit 8))], (Int.negSucc (nat_lit 0))), ([(.var (nat_lit 10))], (Int.ofNat (nat_lit 1))), ([(.var (nat_lit 12))], (Int.negSucc (nat_lit 0)))])]), (.int .i64 [])]))
  (.leaf (.tuple [(.agg [(.int .i64 [([(.var (nat_lit 1))], (Int.ofNat (nat_lit 1))), ([(.var (nat_lit 3))], (Int.negSucc (nat_lit 0))), ([(.var (nat_lit 4))], (Int.negSucc (nat_lit 0))), ([(.var (nat_lit 6))], (Int.ofNat (nat_lit 1))), ([(.var (nat_lit 7))], (Int.ofNat (nat_lit 1))), ([(.var (nat_lit 9))], (Int.negSucc (nat_lit 0))), ([(.var (nat_lit 10))], (Int.negSucc (nat_lit 0))), ([(.var (nat_lit 12))], (Int.ofNat (nat_lit 1)))]), (.int .i64 []), (.int .i64 [([(.var (nat_lit 2))], (Int.ofNat (nat_lit 1))), ([(.var (nat_lit 3))], (Int.ofNat (nat_lit 1))), ([(.var (nat_lit 5))], (Int.negSucc (nat_lit 0))), ([(.var (nat_lit 6))], (Int.negSucc (nat_lit 0))), ([(.var (nat_lit 8))], (Int.ofNat (nat_lit 1))), ([(.var (nat_lit 9))], (Int.ofNat (nat_lit 1))), ([(.var (nat_lit 11))], (Int.negSucc (nat_lit 0))), ([(.var (nat_lit 12))], (Int.negSucc (nat_lit 0)))]), (.int .i64 [])]), (.int .i64 [])])))
  (.leaf (.tuple [(.agg [(.int .i64 [([(.var (nat_lit 1))], (Int.ofNat (nat_lit 1))), ([(.var (nat_lit 5))], (Int.negSucc (nat_lit 0))), ([(.var (nat_lit 7))], (Int.negSucc (nat_lit 0))), ([(.var (nat_lit 11))], (Int.ofNat (nat_lit 1)))]), (.int .i64 [([(.var (nat_lit 2))], (Int.ofNat (nat_lit 1))), ([(.var (nat_lit 6))], (Int.negSucc (nat_lit 0))), ([(.var (nat_lit 8))], (Int.negSucc (nat_lit 0))), ([(.var (nat_lit 12))], (Int.ofNat (nat_lit 1)))]), (.int .i64 [([(.var (nat_lit 3))], (Int.ofNat (nat_lit 1))), ([(.var (nat_lit 5))], (Int.ofNat (nat_lit 1))), ([(.var (nat_lit 9))], (Int.negSucc (nat_lit 0))), ([(.var (nat_lit 11))], (Int.negSucc (nat_lit 0)))]), (.int .i64 [([(.var (nat_lit 4))], (Int.ofNat (nat_lit 1))), ([(.var (nat_lit 6))], (Int.ofNat (nat_lit 1))), ([(.var (nat_lit 10))], (Int.negSucc (nat_lit 0))), ([(.var (nat_lit 12))], (Int.negSucc (nat_lit 0)))])]), (.int .i64 [])]))))
theorem f12_x12im16383to16383C2 : checkT Tryd.prog (xWith (xOf symX) f12_x12im16383to16383R) (gxOf symG) (sumsOf sums18_x12im16383to16383) 10000 12 f12_x12im16383to16383A f12_x12im16383to16383T2 ((facts0 f12_x12im16383to16383K).no f12_x12im16383to16383Q0) = true := by kernel_rfl
def f12_x12im16383to16383T3 : STree := .test f12_x12im16383to16383Q0 f12_x12im16383to16383T1 f12_x12im16383to16383T2
theorem f12_x12im16383to16383C3 : checkT Tryd.prog (xWith (xOf symX) f12_x12im16383to16383R) (gxOf symG) (sumsOf sums18_x12im16383to16383) 10000 12 f12_x12im16383to16383A f12_x12im16383to16383T3 (facts0 f12_x12im16383to16383K) = true := checkT_test f12_x12im16383to16383C1 f12_x12im16383to16383C2
def f12_x12im16383to16383M : Summ := ⟨f12_x12im16383to16383A, f12_x12im16383to16383K, f12_x12im16383to16383T3, f12_x12im16383to16383R, []⟩
theorem f12_x12im16383to16383Ok : SumOk Tryd.prog (xOf symX) (gxOf symG) 12 f12_x12im16383to16383M := sumOk_of symMixed symClosed sums18_x12im16383to16383Ok f12_x12im16383to16383C3
def sums12_x12im16383to16383 : List (Nat × Summ) := (12, f12_x12im16383to16383M) :: sums18_x12im16383to16383
theorem sums12_x12im16383to16383Ok : ∀ g, ∀ m ∈ sumsOf sums12_x12im16383to16383 g, SumOk Tryd.prog (xOf symX) (gxOf symG) g m := sumsOf_ok f12_x12im16383to16383Ok sums18_x12im16383to16383Ok
def f13_x12im16383to16383A : List SV := [(.aslice (nat_lit 1000) (nat_lit 12) (nat_lit 12))]
def f13_x12im16383to16383K : List Iv := [⟨(Int.negSucc (nat_lit 16382)), (Int.ofNat (nat_lit 16383))⟩, ⟨(Int.negSucc (nat_lit 16382)), (Int.ofNat (nat_lit 16383))⟩, ⟨(Int.negSucc (nat_lit 16382)), (Int.ofNat (nat_lit 16383))⟩, ⟨(Int.negSucc (nat_lit 16382)), (Int.ofNat (nat_lit 16383))⟩, ⟨(Int.negSucc (nat_lit 16382)), (Int.ofNat (nat_lit 16383))⟩, ⟨(Int.negSucc (nat_lit 16382)), (Int.ofNat (nat_lit 16383))⟩, ⟨(Int.negSucc (nat_lit 16382)), (Int.ofNat (nat_lit 16383))⟩, ⟨(Int.negSucc (nat_lit 16382)), (Int.ofNat (nat_lit 16383))⟩, ⟨(Int.negSucc (nat_lit 16382)), (Int.ofNat (nat_lit 16383))⟩, ⟨(Int.negSucc (nat_lit 16382)), (Int.ofNat (nat_lit 16383))⟩, ⟨(Int.negSucc (nat_lit 16382)), (Int.ofNat (nat_lit 16383))⟩, ⟨(Int.negSucc (nat_lit 16382)), (Int.ofNat (nat_lit 16383))⟩]
def f13_x12im16383to16383R : List (List SV) := [[(.int .i64 [([(.var (nat_lit 0))], (Int.ofNat (nat_lit 1)))]), (.int .i64 [([(.var (nat_lit 1))], (Int.ofNat (nat_lit 1)))]), (.int .i64 [([(.var (nat_lit 2))], (Int.ofNat (nat_lit 1)))]), (.int .i64 [([(.var (nat_lit 3))], (Int.ofNat (nat_lit 1)))]), (.int .i64 [([(.var (nat_lit 4))], (Int.ofNat (nat_lit 1)))]), (.int .i64 [([(.var (nat_lit 5))], (Int.ofNat (nat_lit 1)))]), (.int .i64 [([(.var (nat_lit 6))], (Int.ofNat (nat_lit 1)))]), (.int .i64 [([(.var (nat_lit 7))], (Int.ofNat (nat_lit 1)))]), (.int .i64 [([(.var (nat_lit 8))], (Int.ofNat (nat_lit 1)))]), (.int .i64 [([(.var (nat_lit 9))], (Int.ofNat (nat_lit 1)))]), (.int .i64 [([(.var (nat_lit 10))], (Int.ofNat (nat_lit 1)))]), (.int .i64 [([(.var (nat_lit 11))], (Int.ofNat (nat_lit 1)))])]]
def f13_x12im16383to16383T0 : STree := (.leaf (.tuple [(.int .i64 [([(.var (nat_lit 0)), (.var (nat_lit 0))], (Int.ofNat (nat_lit 1))), ([(.var (nat_lit 1)), (.var (nat_lit 1))], (Int.ofNat (nat_lit 1))), ([(.var (nat_lit 2)), (.var (nat_lit 2))], (Int.ofNat (nat_lit 1))), ([(.var (nat_lit 3)), (.var (nat_lit 3))], (Int.ofNat (nat_lit 1))), ([(.var (nat_lit 4)), (.var (nat_lit 4))], (Int.ofNat (nat_lit 1))), ([(.var (nat_lit 5)), (.var (nat_lit 5))], (Int.ofNat (nat_lit 1))), ([(.var (nat_lit 6)), (.var (nat_lit 6))], (Int.ofNat (nat_lit 1))), ([(.var (nat_lit 7)), (.var (nat_lit 7))], (Int.ofNat (nat_lit 1))), ([(.var (nat_lit 8)), (.var (nat_lit 8))], (Int.ofNat (nat_lit 1))), ([(.var (nat_lit 9)), (.var (nat_lit 9))], (Int.ofNat (nat_lit 1))), ([(.var (nat_lit 10)), (.var (nat_lit 10))], (Int.ofNat (nat_lit 1))), ([(.var (nat_lit 11)), (.var (nat_lit 11))], (Int.ofNat (nat_lit 1)))]), (.int .i64 [])]))
theorem f13_x12im16383to16383C0 : checkT Tryd.prog (xWith (xOf symX) f13_x12im16383to16383R) (gxOf symG) (sumsOf sums12_x12im16383to16383) 10000 13 f13_x12im16383to16383A f13_x12im16383to16383T0 (facts0 f13_x12im16383to16383K) = true := by kernel_rfl
def f13_x12im16383to16383M : Summ := ⟨f13_x12im16383to16383A, f13_x12im16383to16383K, f13_x12im16383to16383T0, f13_x12im16383to16383R, []⟩
theorem f13_x12im16383to16383Ok : SumOk Tryd.prog (xOf symX) (gxOf symG) 13 f13_x12im16383to16383M := sumOk_of symMixed symClosed sums12_x12im16383to16383Ok f13_x12im16383to16383C0
def sums13_x12im16383to16383 : List (Nat × Summ) := (13, f13_x12im16383to16383M) :: sums12_x12im16383to16383
theorem sums13_x12im16383to16383Ok : ∀ g, ∀ m ∈ sumsOf sums13_x12im16383to16383 g, SumOk Tryd.prog (xOf symX) (gxOf symG) g m := sumsOf_ok f13_x12im16383to16383Ok sums12_x12im16383to16383Ok
end Go.Proofs.YtjghifocfjbmcaaDoor
