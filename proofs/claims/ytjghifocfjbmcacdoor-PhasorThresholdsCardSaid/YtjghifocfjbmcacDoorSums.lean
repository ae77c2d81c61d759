/- The summaries of the functions that the laws call, each proved by the kernel along its tree of tests. -/
import Derived.Test.YtjghifocfjbmcacDoorCards
import Derived.Test.YtjghifocfjbmcacDoorSym14
import Derived.Test.YtjghifocfjbmcacDoorSymN
import Derived.KernelRfl
namespace Go.Proofs.YtjghifocfjbmcacDoor
open Go.Sym

def symG : List Nat := [(nat_lit 1), (nat_lit 0)]
def symX : List (List SV) := [[(.int .i64 [([], (Int.ofNat (nat_lit 1)))]), (.int .i64 []), (.int .i64 []), (.int .i64 []), (.int .i64 []), (.int .i64 [([], (Int.ofNat (nat_lit 1)))]), (.int .i64 []), (.int .i64 []), (.int .i64 []), (.int .i64 []), (.int .i64 [([], (Int.ofNat (nat_lit 1)))]), (.int .i64 []), (.int .i64 []), (.int .i64 []), (.int .i64 []), (.int .i64 [([], (Int.ofNat (nat_lit 1)))]), (.int .i64 [([], (Int.negSucc (nat_lit 0)))]), (.int .i64 []), (.int .i64 [([], (Int.ofNat (nat_lit 1)))]), (.int .i64 []), (.int .i64 []), (.int .i64 [([], (Int.negSucc (nat_lit 0)))]), (.int .i64 []), (.int .i64 [([], (Int.ofNat (nat_lit 1)))])], [(.int .i64 [([], (Int.negSucc (nat_lit 0)))]), (.int .i64 [([], (Int.negSucc (nat_lit 0)))]), (.int .i64 [([], (Int.ofNat (nat_lit 2)))]), (.int .i64 [([], (Int.negSucc (nat_lit 0)))]), (.int .i64 []), (.int .i64 [([], (Int.ofNat (nat_lit 1)))]), (.int .i64 [([], (Int.ofNat (nat_lit 2)))]), (.int .i64 [([], (Int.ofNat (nat_lit 1)))]), (.int .i64 [([], (Int.ofNat (nat_lit 1)))])]]
theorem symMixed : Tryd.prog.follows .mixedOrders = true := by kernel_rfl
theorem symClosed : Closed0 (xOf symX) := closedLit (by kernel_rfl)
def sums0 : List (Nat × Summ) := []
theorem sums0Ok : ∀ g, ∀ m ∈ sumsOf sums0 g, SumOk Tryd.prog (xOf symX) (gxOf symG) g m := sumsOf_nil
def f75_mul64A : List SV := [(.int .u64 [([(.var (nat_lit 0))], (Int.ofNat (nat_lit 1)))]), (.int .u64 [([(.var (nat_lit 1))], (Int.ofNat (nat_lit 1)))])]
def f75_mul64K : List Iv := [ivT .u64, ivT .u64]
def f75_mul64R : List (List SV) := []
def f75_mul64T0 : STree := (.leaf (.tuple [(.int .u64 [([(.fdiv (.add (.fdiv (.mul (.emod (nat_lit 4294967296) (.var (nat_lit 0))) (.emod (nat_lit 4294967296) (.var (nat_lit 1)))) (.lit (Int.ofNat (nat_lit 4294967296)))) (.mul (.fdiv (.var (nat_lit 0)) (.lit (Int.ofNat (nat_lit 4294967296)))) (.emod (nat_lit 4294967296) (.var (nat_lit 1))))) (.lit (Int.ofNat (nat_lit 4294967296))))], (Int.ofNat (nat_lit 1))), ([(.fdiv (.add (.emod (nat_lit 4294967296) (.add (.fdiv (.mul (.emod (nat_lit 4294967296) (.var (nat_lit 0))) (.emod (nat_lit 4294967296) (.var (nat_lit 1)))) (.lit (Int.ofNat (nat_lit 4294967296)))) (.mul (.var (nat_lit 1)) (.fdiv (.var (nat_lit 0)) (.lit (Int.ofNat (nat_lit 4294967296))))))) (.mul (.fdiv (.var (nat_lit 1)) (.lit (Int.ofNat (nat_lit 4294967296)))) (.emod (nat_lit 4294967296) (.var (nat_lit 0))))) (.lit (Int.ofNat (nat_lit 4294967296))))], (Int.ofNat (nat_lit 1))), ([(.fdiv (.var (nat_lit 0)) (.lit (Int.ofNat (nat_lit 4294967296)))), (.fdiv (.var (nat_lit 1)) (.lit (Int.ofNat (nat_lit 4294967296))))], (Int.ofNat (nat_lit 1)))]), (.int .u64 [([(.wrap .u64 (.mul (.var (nat_lit 0)) (.var (nat_lit 1))))], (Int.ofNat (nat_lit 1)))])]))
theorem f75_mul64C0 : checkT Tryd.prog (xWith (xOf symX) f75_mul64R) (gxOf symG) (sumsOf sums0) 10000 75 f75_mul64A f75_mul64T0 (facts0 f75_mul64K) = true := by kernel_rfl
def f75_mul64M : Summ := mul64S
theorem f75_mul64Ok : SumOk Tryd.prog (xOf symX) (gxOf symG) 75 f75_mul64M := Exch.ok (sumOk_of (m := ⟨f75_mul64A, f75_mul64K, f75_mul64T0, f75_mul64R, []⟩) symMixed symClosed sums0Ok f75_mul64C0) (mul64S_exch)
def sums75_mul64 : List (Nat × Summ) := (75, f75_mul64M) :: sums0
theorem sums75_mul64Ok : ∀ g, ∀ m ∈ sumsOf sums75_mul64 g, SumOk Tryd.prog (xOf symX) (gxOf symG) g m := sumsOf_ok f75_mul64Ok sums0Ok
def f59_magA : List SV := [(.int .i64 [([(.var (nat_lit 0))], (Int.ofNat (nat_lit 1)))])]
def f59_magK : List Iv := [ivT .i64]
def f59_magR : List (List SV) := []
def f59_magT0 : STree := (.test (.le [([], (Int.ofNat (nat_lit 1))), ([(.var (nat_lit 0))], (Int.ofNat (nat_lit 1)))])
  (.leaf (.int .u64 [([(.wrap .u64 (.mul (.lit (Int.negSucc (nat_lit 0))) (.wrap .u64 (.var (nat_lit 0)))))], (Int.ofNat (nat_lit 1)))]))
  (.leaf (.int .u64 [([(.var (nat_lit 0))], (Int.ofNat (nat_lit 1)))])))
theorem f59_magC0 : checkT Tryd.prog (xWith (xOf symX) f59_magR) (gxOf symG) (sumsOf sums75_mul64) 10000 59 f59_magA f59_magT0 (facts0 f59_magK) = true := by kernel_rfl
def f59_magM : Summ := magS
theorem f59_magOk : SumOk Tryd.prog (xOf symX) (gxOf symG) 59 f59_magM := Exch.ok (sumOk_of (m := ⟨f59_magA, f59_magK, f59_magT0, f59_magR, []⟩) symMixed symClosed sums75_mul64Ok f59_magC0) (magS_exch)
def sums59_mag : List (Nat × Summ) := (59, f59_magM) :: sums75_mul64
theorem sums59_magOk : ∀ g, ∀ m ∈ sumsOf sums59_mag g, SumOk Tryd.prog (xOf symX) (gxOf symG) g m := sumsOf_ok f59_magOk sums75_mul64Ok
def f58A : List SV := [(.int .u64 [([(.var (nat_lit 0))], (Int.ofNat (nat_lit 1)))])]
def f58K : List Iv := [ivT .u64]
def f58R : List (List SV) := []
def f58T0 : STree := (.leaf (.agg [(.int .u64 [([(.fdiv (.mul (.var (nat_lit 0)) (.var (nat_lit 0))) (.lit (Int.ofNat (nat_lit 18446744073709551616))))], (Int.ofNat (nat_lit 1)))]), (.int .u64 [([(.wrap .u64 (.mul (.var (nat_lit 0)) (.var (nat_lit 0))))], (Int.ofNat (nat_lit 1)))])]))
theorem f58C0 : checkT Tryd.prog (xWith (xOf symX) f58R) (gxOf symG) (sumsOf sums59_mag) 10000 58 f58A f58T0 (facts0 f58K) = true := by kernel_rfl
def f58M : Summ := ⟨f58A, f58K, f58T0, f58R, []⟩
theorem f58Ok : SumOk Tryd.prog (xOf symX) (gxOf symG) 58 f58M := sumOk_of symMixed symClosed sums59_magOk f58C0
def sums58 : List (Nat × Summ) := (58, f58M) :: sums59_mag
theorem sums58Ok : ∀ g, ∀ m ∈ sumsOf sums58 g, SumOk Tryd.prog (xOf symX) (gxOf symG) g m := sumsOf_ok f58Ok sums59_magOk
def f60A : List SV := [(.agg [(.int .u64 [([(.var (nat_lit 0))], (Int.ofNat (nat_lit 1)))]), (.int .u64 [([(.var (nat_lit 1))], (Int.ofNat (nat_lit 1)))])])]
def f60K : List Iv := [ivT .u64, ivT .u64]
def f60R : List (List SV) := []
def f60T0 : STree := (.leaf (.agg [(.int .u64 [([(.wrap .u64 (.add (.wrap .u64 (.mul (.lit (Int.ofNat (nat_lit 3))) (.var (nat_lit 0)))) (.fdiv (.mul (.lit (Int.ofNat (nat_lit 3))) (.var (nat_lit 1))) (.lit (Int.ofNat (nat_lit 18446744073709551616))))))], (Int.ofNat (nat_lit 1)))]), (.int .u64 [([(.wrap .u64 (.mul (.lit (Int.ofNat (nat_lit 3))) (.var (nat_lit 1))))], (Int.ofNat (nat_lit 1)))])]))
theorem f60C0 : checkT Tryd.prog (xWith (xOf symX) f60R) (gxOf symG) (sumsOf sums58) 10000 60 f60A f60T0 (facts0 f60K) = true := by kernel_rfl
def f60M : Summ := ⟨f60A, f60K, f60T0, f60R, []⟩
theorem f60Ok : SumOk Tryd.prog (xOf symX) (gxOf symG) 60 f60M := sumOk_of symMixed symClosed sums58Ok f60C0
def sums60 : List (Nat × Summ) := (60, f60M) :: sums58
theorem sums60Ok : ∀ g, ∀ m ∈ sumsOf sums60 g, SumOk Tryd.prog (xOf symX) (gxOf symG) g m := sumsOf_ok f60Ok sums58Ok
def f56A : List SV := [(.int .i64 [([(.var (nat_lit 0))], (Int.ofNat (nat_lit 1)))]), (.int .i64 [([(.var (nat_lit 1))], (Int.ofNat (nat_lit 1)))])]
def f56K : List Iv := [ivT .i64, ivT .i64]
def f56R : List (List SV) := []
def f56T0 : STree := (.test (.le [([], (Int.ofNat (nat_lit 1))), ([(.var (nat_lit 0))], (Int.ofNat (nat_lit 1))), ([(.var (nat_lit 1))], (Int.negSucc (nat_lit 0)))])
  (.leaf (.int .i64 [([], (Int.negSucc (nat_lit 0)))]))
  (.test (.le [([], (Int.ofNat (nat_lit 1))), ([(.var (nat_lit 0))], (Int.negSucc (nat_lit 0))), ([(.var (nat_lit 1))], (Int.ofNat (nat_lit 1)))])
  (.leaf (.int .i64 [([], (Int.ofNat (nat_lit 1)))]))
  (.leaf (.int .i64 []))))
theorem f56C0 : checkT Tryd.prog (xWith (xOf symX) f56R) (gxOf symG) (sumsOf sums60) 10000 56 f56A f56T0 (facts0 f56K) = true := by kernel_rfl
def f56M : Summ := ⟨f56A, f56K, f56T0, f56R, []⟩
theorem f56Ok : SumOk Tryd.prog (xOf symX) (gxOf symG) 56 f56M := sumOk_of symMixed symClosed sums60Ok f56C0
def sums56 : List (Nat × Summ) := (56, f56M) :: sums60
theorem sums56Ok : ∀ g, ∀ m ∈ sumsOf sums56 g, SumOk Tryd.prog (xOf symX) (gxOf symG) g m := sumsOf_ok f56Ok sums60Ok
def f78A : List SV := [(.int .u64 [([(.var (nat_lit 0))], (Int.ofNat (nat_lit 1)))]), (.int .u64 [([(.var (nat_lit 1))], (Int.ofNat (nat_lit 1)))])]
def f78K : List Iv := [ivT .u64, ivT .u64]
def f78R : List (List SV) := []
def f78T0 : STree := (.test (.le [([], (Int.ofNat (nat_lit 1))), ([(.var (nat_lit 0))], (Int.ofNat (nat_lit 1))), ([(.var (nat_lit 1))], (Int.negSucc (nat_lit 0)))])
  (.leaf (.int .i64 [([], (Int.negSucc (nat_lit 0)))]))
  (.test (.le [([], (Int.ofNat (nat_lit 1))), ([(.var (nat_lit 0))], (Int.negSucc (nat_lit 0))), ([(.var (nat_lit 1))], (Int.ofNat (nat_lit 1)))])
  (.leaf (.int .i64 [([], (Int.ofNat (nat_lit 1)))]))
  (.leaf (.int .i64 []))))
theorem f78C0 : checkT Tryd.prog (xWith (xOf symX) f78R) (gxOf symG) (sumsOf sums56) 10000 78 f78A f78T0 (facts0 f78K) = true := by kernel_rfl
def f78M : Summ := ⟨f78A, f78K, f78T0, f78R, []⟩
theorem f78Ok : SumOk Tryd.prog (xOf symX) (gxOf symG) 78 f78M := sumOk_of symMixed symClosed sums56Ok f78C0
def sums78 : List (Nat × Summ) := (78, f78M) :: sums56
theorem sums78Ok : ∀ g, ∀ m ∈ sumsOf sums78 g, SumOk Tryd.prog (xOf symX) (gxOf symG) g m := sumsOf_ok f78Ok sums56Ok
def f57A : List SV := [(.agg [(.int .u64 [([(.var (nat_lit 0))], (Int.ofNat (nat_lit 1)))]), (.int .u64 [([(.var (nat_lit 1))], (Int.ofNat (nat_lit 1)))])]), (.agg [(.int .u64 [([(.var (nat_lit 2))], (Int.ofNat (nat_lit 1)))]), (.int .u64 [([(.var (nat_lit 3))], (Int.ofNat (nat_lit 1)))])])]
def f57K : List Iv := [ivT .u64, ivT .u64, ivT .u64, ivT .u64]
def f57R : List (List SV) := []
def f57T0 : STree := (.test (.le [([], (Int.ofNat (nat_lit 1))), ([(.var (nat_lit 0))], (Int.ofNat (nat_lit 1))), ([(.var (nat_lit 2))], (Int.negSucc (nat_lit 0)))])
  (.leaf (.int .i64 [([], (Int.negSucc (nat_lit 0)))]))
  (.test (.le [([], (Int.ofNat (nat_lit 1))), ([(.var (nat_lit 0))], (Int.negSucc (nat_lit 0))), ([(.var (nat_lit 2))], (Int.ofNat (nat_lit 1)))])
  (.leaf (.int .i64 [([], (Int.ofNat (nat_lit 1)))]))
  (.test (.le [([], (Int.ofNat (nat_lit 1))), ([(.var (nat_lit 1))], (Int.ofNat (nat_lit 1))), ([(.var (nat_lit 3))], (Int.negSucc (nat_lit 0)))])
  (.leaf (.int .i64 [([], (Int.negSucc (nat_lit 0)))]))
  (.test (.le [([], (Int.ofNat (nat_lit 1))), ([(.var (nat_lit 1))], (Int.negSucc (nat_lit 0))), ([(.var (nat_lit 3))], (Int.ofNat (nat_lit 1)))])
  (.leaf (.int .i64 [([], (Int.ofNat (nat_lit 1)))]))
  (.leaf (.int .i64 []))))))
theorem f57C0 : checkT Tryd.prog (xWith (xOf symX) f57R) (gxOf symG) (sumsOf sums78) 10000 57 f57A f57T0 (facts0 f57K) = true := by kernel_rfl
def f57M : Summ := ⟨f57A, f57K, f57T0, f57R, []⟩
theorem f57Ok : SumOk Tryd.prog (xOf symX) (gxOf symG) 57 f57M := sumOk_of symMixed symClosed sums78Ok f57C0
def sums57 : List (Nat × Summ) := (57, f57M) :: sums78
theorem sums57Ok : ∀ g, ∀ m ∈ sumsOf sums57 g, SumOk Tryd.prog (xOf symX) (gxOf symG) g m := sumsOf_ok f57Ok sums78Ok
def f24_sgnA : List SV := [(.agg [(.int .i64 [([(.var (nat_lit 0))], (Int.ofNat (nat_lit 1)))]), (.int .i64 [([(.var (nat_lit 1))], (Int.ofNat (nat_lit 1)))])])]
def f24_sgnK : List Iv := [ivT .i64, ivT .i64]
def f24_sgnR : List (List SV) := []
def f24_sgnT0 : STree := (.test (.le [([], (Int.ofNat (nat_lit 1))), ([(.var (nat_lit 0))], (Int.ofNat (nat_lit 1)))])
  (.test (.le [([], (Int.ofNat (nat_lit 1))), ([(.var (nat_lit 1))], (Int.ofNat (nat_lit 1)))])
  (.leaf (.int .i64 [([], (Int.negSucc (nat_lit 0)))]))
  (.test (.le [([], (Int.ofNat (nat_lit 1))), ([(.var (nat_lit 1))], (Int.negSucc (nat_lit 0)))])
  (.test (.le [([], (Int.ofNat (nat_lit 1))), ([(.fdiv (.mul (.lit (Int.ofNat (nat_lit 3))) (.wrap .u64 (.mul (.var (nat_lit 1)) (.var (nat_lit 1))))) (.lit (Int.ofNat (nat_lit 18446744073709551616))))], (Int.negSucc (nat_lit 0))), ([(.fdiv (.mul (.var (nat_lit 0)) (.var (nat_lit 0))) (.lit (Int.ofNat (nat_lit 18446744073709551616))))], (Int.ofNat (nat_lit 1))), ([(.fdiv (.mul (.var (nat_lit 1)) (.var (nat_lit 1))) (.lit (Int.ofNat (nat_lit 18446744073709551616))))], (Int.negSucc (nat_lit 2)))])
  (.leaf (.int .i64 [([], (Int.ofNat (nat_lit 1)))]))
  (.test (.le [([], (Int.ofNat (nat_lit 1))), ([(.fdiv (.mul (.lit (Int.ofNat (nat_lit 3))) (.wrap .u64 (.mul (.var (nat_lit 1)) (.var (nat_lit 1))))) (.lit (Int.ofNat (nat_lit 18446744073709551616))))], (Int.ofNat (nat_lit 1))), ([(.fdiv (.mul (.var (nat_lit 0)) (.var (nat_lit 0))) (.lit (Int.ofNat (nat_lit 18446744073709551616))))], (Int.negSucc (nat_lit 0))), ([(.fdiv (.mul (.var (nat_lit 1)) (.var (nat_lit 1))) (.lit (Int.ofNat (nat_lit 18446744073709551616))))], (Int.ofNat (nat_lit 3)))])
  (.leaf (.int .i64 [([], (Int.negSucc (nat_lit 0)))]))
  (.test (.le [([], (Int.ofNat (nat_lit 1))), ([(.wrap .u64 (.mul (.lit (Int.ofNat (nat_lit 3))) (.wrap .u64 (.mul (.var (nat_lit 1)) (.var (nat_lit 1))))))], (Int.negSucc (nat_lit 0))), ([(.wrap .u64 (.mul (.var (nat_lit 0)) (.var (nat_lit 0))))], (Int.ofNat (nat_lit 1)))])
  (.leaf (.int .i64 [([], (Int.ofNat (nat_lit 1)))]))
  (.test (.le [([], (Int.ofNat (nat_lit 1))), ([(.wrap .u64 (.mul (.lit (Int.ofNat (nat_lit 3))) (.wrap .u64 (.mul (.var (nat_lit 1)) (.var (nat_lit 1))))))], (Int.ofNat (nat_lit 1))), ([(.wrap .u64 (.mul (.var (nat_lit 0)) (.var (nat_lit 0))))], (Int.negSucc (nat_lit 0)))])
  (.leaf (.int .i64 [([], (Int.negSucc (nat_lit 0)))]))
  (.leaf (.int .i64 []))))))
  (.leaf (.int .i64 [([], (Int.negSucc (nat_lit 0)))]))))
  (.test (.le [([], (Int.ofNat (nat_lit 1))), ([(.var (nat_lit 0))], (Int.negSucc (nat_lit 0)))])
  (.test (.le [([], (Int.ofNat (nat_lit 1))), ([(.var (nat_lit 1))], (Int.ofNat (nat_lit 1)))])
  (.test (.le [([], (Int.ofNat (nat_lit 1))), ([(.fdiv (.mul (.lit (Int.ofNat (nat_lit 3))) (.wrap .u64 (.mul (.var (nat_lit 1)) (.var (nat_lit 1))))) (.lit (Int.ofNat (nat_lit 18446744073709551616))))], (Int.negSucc (nat_lit 0))), ([(.fdiv (.mul (.var (nat_lit 0)) (.var (nat_lit 0))) (.lit (Int.ofNat (nat_lit 18446744073709551616))))], (Int.ofNat (nat_lit 1))), ([(.fdiv (.mul (.var (nat_lit 1)) (.var (nat_lit 1))) (.lit (Int.ofNat (nat_lit 18446744073709551616))))], (Int.negSucc (nat_lit 2)))])
  (.leaf (.int .i64 [([], (Int.negSucc (nat_lit 0)))]))
  (.test (.le [([], (Int.ofNat (nat_lit 1))), ([(.fdiv (.mul (.lit (Int.ofNat (nat_lit 3))) (.wrap .u64 (.mul (.var (nat_lit 1)) (.var (nat_lit 1))))) (.lit (Int.ofNat (nat_lit 18446744073709551616))))], (Int.ofNat (nat_lit 1))), ([(.fdiv (.mul (.var (nat_lit 0)) (.var (nat_lit 0))) (.lit (Int.ofNat (nat_lit 18446744073709551616))))], (Int.negSucc (nat_lit 0))), ([(.fdiv (.mul (.var (nat_lit 1)) (.var (nat_lit 1))) (.lit (Int.ofNat (nat_lit 18446744073709551616))))], (Int.ofNat (nat_lit 3)))])
  (.leaf (.int .i64 [([], (Int.ofNat (nat_lit 1)))]))
  (.test (.le [([], (Int.ofNat (nat_lit 1))), ([(.wrap .u64 (.mul (.lit (Int.ofNat (nat_lit 3))) (.wrap .u64 (.mul (.var (nat_lit 1)) (.var (nat_lit 1))))))], (Int.negSucc (nat_lit 0))), ([(.wrap .u64 (.mul (.var (nat_lit 0)) (.var (nat_lit 0))))], (Int.ofNat (nat_lit 1)))])
  (.leaf (.int .i64 [([], (Int.negSucc (nat_lit 0)))]))
  (.test (.le [([], (Int.ofNat (nat_lit 1))), ([(.wrap .u64 (.mul (.lit (Int.ofNat (nat_lit 3))) (.wrap .u64 (.mul (.var (nat_lit 1)) (.var (nat_lit 1))))))], (Int.ofNat (nat_lit 1))), ([(.wrap .u64 (.mul (.var (nat_lit 0)) (.var (nat_lit 0))))], (Int.negSucc (nat_lit 0)))])
  (.leaf (.int .i64 [([], (Int.ofNat (nat_lit 1)))]))
  (.leaf (.int .i64 []))))))
  (.test (.le [([], (Int.ofNat (nat_lit 1))), ([(.var (nat_lit 1))], (Int.negSucc (nat_lit 0)))])
  (.leaf (.int .i64 [([], (Int.ofNat (nat_lit 1)))]))
  (.leaf (.int .i64 [([], (Int.ofNat (nat_lit 1)))]))))
  (.test (.le [([], (Int.ofNat (nat_lit 1))), ([(.var (nat_lit 1))], (Int.ofNat (nat_lit 1)))])
  (.leaf (.int .i64 [([], (Int.negSucc (nat_lit 0)))]))
  (.test (.le [([], (Int.ofNat (nat_lit 1))), ([(.var (nat_lit 1))], (Int.negSucc (nat_lit 0)))])
  (.leaf (.int .i64 [([], (Int.ofNat (nat_lit 1)))]))
  (.leaf (.int .i64 []))))))
theorem f24_sgnC0 : checkT Tryd.prog (xWith (xOf symX) f24_sgnR) (gxOf symG) (sumsOf sums57) 10000 24 f24_sgnA f24_sgnT0 (facts0 f24_sgnK) = true := by kernel_rfl
def f24_sgnM : Summ := sgnS
theorem f24_sgnOk : SumOk Tryd.prog (xOf symX) (gxOf symG) 24 f24_sgnM := Exch.ok (sumOk_of (m := ⟨f24_sgnA, f24_sgnK, f24_sgnT0, f24_sgnR, []⟩) symMixed symClosed sums57Ok f24_sgnC0) (sgnS_exch)
def sums24_sgn : List (Nat × Summ) := (24, f24_sgnM) :: sums57
theorem sums24_sgnOk : ∀ g, ∀ m ∈ sumsOf sums24_sgn g, SumOk Tryd.prog (xOf symX) (gxOf symG) g m := sumsOf_ok f24_sgnOk sums57Ok
def f25A : List SV := [(.agg [(.int .i64 [([(.var (nat_lit 0))], (Int.ofNat (nat_lit 1)))]), (.int .i64 [([(.var (nat_lit 1))], (Int.ofNat (nat_lit 1)))])]), (.int .i64 [([(.var (nat_lit 2))], (Int.ofNat (nat_lit 1)))])]
def f25K : List Iv := [ivT .i64, ivT .i64, ivT .i64]
def f25R : List (List SV) := []
def f25T0 : STree := (.test (.le [([], (Int.ofNat (nat_lit 1))), ([(.var (nat_lit 0))], (Int.ofNat (nat_lit 1))), ([(.wrap .i64 (.mul (.lit (Int.negSucc (nat_lit 0))) (.var (nat_lit 2))))], (Int.negSucc (nat_lit 0)))])
  (.leaf (.bool false))
  (.test (.le [([], (Int.ofNat (nat_lit 1))), ([(.var (nat_lit 0))], (Int.negSucc (nat_lit 0))), ([(.var (nat_lit 2))], (Int.ofNat (nat_lit 1)))])
  (.leaf (.bool false))
  (.test (.le [([], (Int.ofNat (nat_lit 1))), ([(.var (nat_lit 1))], (Int.ofNat (nat_lit 1))), ([(.wrap .i64 (.mul (.lit (Int.negSucc (nat_lit 0))) (.var (nat_lit 2))))], (Int.negSucc (nat_lit 0)))])
  (.leaf (.bool false))
  (.test (.le [([], (Int.ofNat (nat_lit 1))), ([(.var (nat_lit 1))], (Int.negSucc (nat_lit 0))), ([(.var (nat_lit 2))], (Int.ofNat (nat_lit 1)))])
  (.leaf (.bool false))
  (.leaf (.bool true))))))
theorem f25C0 : checkT Tryd.prog (xWith (xOf symX) f25R) (gxOf symG) (sumsOf sums24_sgn) 10000 25 f25A f25T0 (facts0 f25K) = true := by kernel_rfl
def f25M : Summ := ⟨f25A, f25K, f25T0, f25R, []⟩
theorem f25Ok : SumOk Tryd.prog (xOf symX) (gxOf symG) 25 f25M := sumOk_of symMixed symClosed sums24_sgnOk f25C0
def sums25 : List (Nat × Summ) := (25, f25M) :: sums24_sgn
theorem sums25Ok : ∀ g, ∀ m ∈ sumsOf sums25 g, SumOk Tryd.prog (xOf symX) (gxOf symG) g m := sumsOf_ok f25Ok sums24_sgnOk
def f8A : List SV := [(.agg [(.int .i64 [([(.var (nat_lit 0))], (Int.ofNat (nat_lit 1)))]), (.int .i64 [([(.var (nat_lit 1))], (Int.ofNat (nat_lit 1)))])]), (.agg [(.int .i64 [([(.var (nat_lit 2))], (Int.ofNat (nat_lit 1)))]), (.int .i64 [([(.var (nat_lit 3))], (Int.ofNat (nat_lit 1)))])])]
def f8K : List Iv := [ivT .i64, ivT .i64, ivT .i64, ivT .i64]
def f8R : List (List SV) := []
def f8T0 : STree := (.test (.le [([], (Int.ofNat (nat_lit 1152921504606846977))), ([(.var (nat_lit 0))], (Int.ofNat (nat_lit 1)))])
  (.leaf (.tuple [(.int .i64 []), (.int .i64 [([], (Int.ofNat (nat_lit 1)))])]))
  (.test (.le [([], (Int.ofNat (nat_lit 1152921504606846977))), ([(.var (nat_lit 0))], (Int.negSucc (nat_lit 0)))])
  (.leaf (.tuple [(.int .i64 []), (.int .i64 [([], (Int.ofNat (nat_lit 1)))])]))
  (.test (.le [([], (Int.ofNat (nat_lit 1152921504606846977))), ([(.var (nat_lit 1))], (Int.ofNat (nat_lit 1)))])
  (.leaf (.tuple [(.int .i64 []), (.int .i64 [([], (Int.ofNat (nat_lit 1)))])]))
  (.test (.le [([], (Int.ofNat (nat_lit 1152921504606846977))), ([(.var (nat_lit 1))], (Int.negSucc (nat_lit 0)))])
  (.leaf (.tuple [(.int .i64 []), (.int .i64 [([], (Int.ofNat (nat_lit 1)))])]))
  (.test (.le [([], (Int.ofNat (nat_lit 1152921504606846977))), ([(.var (nat_lit 2))], (Int.ofNat (nat_lit 1)))])
  (.leaf (.tuple [(.int .i64 []), (.int .i64 [([], (Int.ofNat (nat_lit 1)))])]))
  (.test (.le [([], (Int.ofNat (nat_lit 1152921504606846977))), ([(.var (nat_lit 2))], (Int.negSucc (nat_lit 0)))])
  (.leaf (.tuple [(.int .i64 []), (.int .i64 [([], (Int.ofNat (nat_lit 1)))])]))
  (.test (.le [([], (Int.ofNat (nat_lit 1152921504606846977))), ([(.var (nat_lit 3))], (Int.ofNat (nat_lit 1)))])
  (.leaf (.tuple [(.int .i64 []), (.int .i64 [([], (Int.ofNat (nat_lit 1)))])]))
  (.test (.le [([], (Int.ofNat (nat_lit 1152921504606846977))), ([(.var (nat_lit 3))], (Int.negSucc (nat_lit 0)))])
  (.leaf (.tuple [(.int .i64 []), (.int .i64 [([], (Int.ofNat (nat_lit 1)))])]))
  (.leaf (.tuple [(.int .i64 [([(.app (nat_lit 0) (.add (.var (nat_lit 0)) (.mul (.lit (Int.negSucc (nat_lit 0))) (.var (nat_lit 2)))) (.add (.var (nat_lit 1)) (.mul (.lit (Int.negSucc (nat_lit 0))) (.var (nat_lit 3)))) (.lit (Int.ofNat (nat_lit 0))))], (Int.ofNat (nat_lit 1)))]), (.int .i64 [])]))))))))))
theorem f8C0 : checkT Tryd.prog (xWith (xOf symX) f8R) (gxOf symG) (sumsOf sums25) 10000 8 f8A f8T0 (facts0 f8K) = true := by kernel_rfl
def f8M : Summ := ⟨f8A, f8K, f8T0, f8R, []⟩
theorem f8Ok : SumOk Tryd.prog (xOf symX) (gxOf symG) 8 f8M := sumOk_of symMixed symClosed sums25Ok f8C0
def sums8 : List (Nat × Summ) := (8, f8M) :: sums25
theorem sums8Ok : ∀ g, ∀ m ∈ sumsOf sums8 g, SumOk Tryd.prog (xOf symX) (gxOf symG) g m := sumsOf_ok f8Ok sums25Ok
def f44A : List SV := [(.agg [(.int .i64 [([(.var (nat_lit 0))], (Int.ofNat (nat_lit 1)))]), (.int .i64 [([(.var (nat_lit 1))], (Int.ofNat (nat_lit 1)))]), (.int .i64 [([(.var (nat_lit 2))], (Int.ofNat (nat_lit 1)))]), (.int .i64 [([(.var (nat_lit 3))], (Int.ofNat (nat_lit 1)))])]), (.int .i64 [([(.var (nat_lit 4))], (Int.ofNat (nat_lit 1)))])]
def f44K : List Iv := [ivT .i64, ivT .i64, ivT .i64, ivT .i64, ivT .i64]
def f44R : List (List SV) := []
def f44T0 : STree := (.test (.le [([], (Int.ofNat (nat_lit 1))), ([(.var (nat_lit 0))], (Int.ofNat (nat_lit 1))), ([(.wrap .i64 (.mul (.lit (Int.negSucc (nat_lit 0))) (.var (nat_lit 4))))], (Int.negSucc (nat_lit 0)))])
  (.leaf (.bool false))
  (.test (.le [([], (Int.ofNat (nat_lit 1))), ([(.var (nat_lit 0))], (Int.negSucc (nat_lit 0))), ([(.var (nat_lit 4))], (Int.ofNat (nat_lit 1)))])
  (.leaf (.bool false))
  (.test (.le [([], (Int.ofNat (nat_lit 1))), ([(.var (nat_lit 1))], (Int.ofNat (nat_lit 1))), ([(.wrap .i64 (.mul (.lit (Int.negSucc (nat_lit 0))) (.var (nat_lit 4))))], (Int.negSucc (nat_lit 0)))])
  (.leaf (.bool false))
  (.test (.le [([], (Int.ofNat (nat_lit 1))), ([(.var (nat_lit 1))], (Int.negSucc (nat_lit 0))), ([(.var (nat_lit 4))], (Int.ofNat (nat_lit 1)))])
  (.leaf (.bool false))
  (.test (.le [([], (Int.ofNat (nat_lit 1))), ([(.var (nat_lit 2))], (Int.ofNat (nat_lit 1))), ([(.wrap .i64 (.mul (.lit (Int.negSucc (nat_lit 0))) (.var (nat_lit 4))))], (Int.negSucc (nat_lit 0)))])
  (.leaf (.bool false))
  (.test (.le [([], (Int.ofNat (nat_lit 1))), ([(.var (nat_lit 2))], (Int.negSucc (nat_lit 0))), ([(.var (nat_lit 4))], (Int.ofNat (nat_lit 1)))])
  (.leaf (.bool false))
  (.test (.le [([], (Int.ofNat (nat_lit 1))), ([(.var (nat_lit 3))], (Int.ofNat (nat_lit 1))), ([(.wrap .i64 (.mul (.lit (Int.negSucc (nat_lit 0))) (.var (nat_lit 4))))], (Int.negSucc (nat_lit 0)))])
  (.leaf (.bool false))
  (.test (.le [([], (Int.ofNat (nat_lit 1))), ([(.var (nat_lit 3))], (Int.negSucc (nat_lit 0))), ([(.var (nat_lit 4))], (Int.ofNat (nat_lit 1)))])
  (.leaf (.bool false))
  (.leaf (.bool true))))))))))
theorem f44C0 : checkT Tryd.prog (xWith (xOf symX) f44R) (gxOf symG) (sumsOf sums8) 10000 44 f44A f44T0 (facts0 f44K) = true := by kernel_rfl
def f44M : Summ := ⟨f44A, f44K, f44T0, f44R, []⟩
theorem f44Ok : SumOk Tryd.prog (xOf symX) (gxOf symG) 44 f44M := sumOk_of symMixed symClosed sums8Ok f44C0
def sums44 : List (Nat × Summ) := (44, f44M) :: sums8
theorem sums44Ok : ∀ g, ∀ m ∈ sumsOf sums44 g, SumOk Tryd.prog (xOf symX) (gxOf symG) g m := sumsOf_ok f44Ok sums8Ok
def f46A : List SV := [(.agg [(.int .i64 [([(.var (nat_lit 0))], (Int.ofNat (nat_lit 1)))]), (.int .i64 [([(.var (nat_lit 1))], (Int.ofNat (nat_lit 1)))]), (.int .i64 [([(.var (nat_lit 2))], (Int.ofNat (nat_lit 1)))]), (.int .i64 [([(.var (nat_lit 3))], (Int.ofNat (nat_lit 1)))])])]
def f46K : List Iv := [ivT .i64, ivT .i64, ivT .i64, ivT .i64]
def f46R : List (List SV) := []
def f46T0 : STree := (.test (.le [([], (Int.ofNat (nat_lit 576460752303423489))), ([(.var (nat_lit 0))], (Int.ofNat (nat_lit 1)))])
  (.leaf (.tuple [(.agg [(.int .i64 []), (.int .i64 []), (.int .i64 []), (.int .i64 [])]), (.int .i64 [([], (Int.ofNat (nat_lit 2)))])]))
  (.test (.le [([], (Int.ofNat (nat_lit 576460752303423489))), ([(.var (nat_lit 0))], (Int.negSucc (nat_lit 0)))])
  (.leaf (.tuple [(.agg [(.int .i64 []), (.int .i64 []), (.int .i64 []), (.int .i64 [])]), (.int .i64 [([], (Int.ofNat (nat_lit 2)))])]))
  (.test (.le [([], (Int.ofNat (nat_lit 576460752303423489))), ([(.var (nat_lit 1))], (Int.ofNat (nat_lit 1)))])
  (.leaf (.tuple [(.agg [(.int .i64 []), (.int .i64 []), (.int .i64 []), (.int .i64 [])]), (.int .i64 [([], (Int.ofNat (nat_lit 2)))])]))
  (.test (.le [([], (Int.ofNat (nat_lit 576460752303423489))), ([(.var (nat_lit 1))], (Int.negSucc (nat_lit 0)))])
  (.leaf (.tuple [(.agg [(.int .i64 []), (.int .i64 []), (.int .i64 []), (.int .i64 [])]), (.int .i64 [([], (Int.ofNat (nat_lit 2)))])]))
  (.test (.le [([], (Int.ofNat (nat_lit 576460752303423489))), ([(.var (nat_lit 2))], (Int.ofNat (nat_lit 1)))])
  (.leaf (.tuple [(.agg [(.int .i64 []), (.int .i64 []), (.int .i64 []), (.int .i64 [])]), (.int .i64 [([], (Int.ofNat (nat_lit 2)))])]))
  (.test (.le [([], (Int.ofNat (nat_lit 576460752303423489))), ([(.var (nat_lit 2))], (Int.negSucc (nat_lit 0)))])
  (.leaf (.tuple [(.agg [(.int .i64 []), (.int .i64 []), (.int .i64 []), (.int .i64 [])]), (.int .i64 [([], (Int.ofNat (nat_lit 2)))])]))
  (.test (.le [([], (Int.ofNat (nat_lit 576460752303423489))), ([(.var (nat_lit 3))], (Int.ofNat (nat_lit 1)))])
  (.leaf (.tuple [(.agg [(.int .i64 []), (.int .i64 []), (.int .i64 []), (.int .i64 [])]), (.int .i64 [([], (Int.ofNat (nat_lit 2)))])]))
  (.test (.le [([], (Int.ofNat (nat_lit 576460752303423489))), ([(.var (nat_lit 3))], (Int.negSucc (nat_lit 0)))])
  (.leaf (.tuple [(.agg [(.int .i64 []), (.int .i64 []), (.int .i64 []), (.int .i64 [])]), (.int .i64 [([], (Int.ofNat (nat_lit 2)))])]))
  (.leaf (.tuple [(.agg [(.int .i64 [([(.var (nat_lit 0))], (Int.ofNat (nat_lit 1)))]), (.int .i64 [([(.var (nat_lit 1))], (Int.ofNat (nat_lit 1)))]), (.int .i64 [([(.var (nat_lit 2))], (Int.ofNat (nat_lit 1)))]), (.int .i64 [([(.var (nat_lit 3))], (Int.ofNat (nat_lit 1)))])]), (.int .i64 [])]))))))))))
theorem f46C0 : checkT Tryd.prog (xWith (xOf symX) f46R) (gxOf symG) (sumsOf sums44) 10000 46 f46A f46T0 (facts0 f46K) = true := by kernel_rfl
def f46M : Summ := ⟨f46A, f46K, f46T0, f46R, []⟩
theorem f46Ok : SumOk Tryd.prog (xOf symX) (gxOf symG) 46 f46M := sumOk_of symMixed symClosed sums44Ok f46C0
def sums46 : List (Nat × Summ) := (46, f46M) :: sums44
theorem sums46Ok : ∀ g, ∀ m ∈ sumsOf sums46 g, SumOk Tryd.prog (xOf symX) (gxOf symG) g m := sumsOf_ok f46Ok sums44Ok
def f74A : List SV := [(.int .i64 [([(.var (nat_lit 0))], (Int.ofNat (nat_lit 1)))])]
def f74K : List Iv := [ivT .i64]
def f74R : List (List SV) := []
def f74T0 : STree := (.test (.le [([], (Int.ofNat (nat_lit 6))), ([(.emod (nat_lit 12) (.var (nat_lit 0)))], (Int.negSucc (nat_lit 0)))])
  (.test (.le [([], (Int.negSucc (nat_lit 7))), ([(.emod (nat_lit 12) (.var (nat_lit 0)))], (Int.ofNat (nat_lit 1)))])
  (.test (.le [([], (Int.negSucc (nat_lit 6))), ([(.emod (nat_lit 12) (.var (nat_lit 0)))], (Int.ofNat (nat_lit 1)))])
  (.test (.le [([], (Int.negSucc (nat_lit 5))), ([(.emod (nat_lit 12) (.var (nat_lit 0)))], (Int.ofNat (nat_lit 1)))])
  (.leaf (.agg [(.int .i64 [([], (Int.negSucc (nat_lit 0)))]), (.int .i64 []), (.int .i64 []), (.int .i64 [])]))
  (.leaf (.agg [(.int .i64 []), (.int .i64 [([], (Int.negSucc (nat_lit 0)))]), (.int .i64 []), (.int .i64 [])])))
  (.leaf (.agg [(.int .i64 []), (.int .i64 []), (.int .i64 [([], (Int.negSucc (nat_lit 0)))]), (.int .i64 [])])))
  (.test (.le [([], (Int.negSucc (nat_lit 9))), ([(.emod (nat_lit 12) (.var (nat_lit 0)))], (Int.ofNat (nat_lit 1)))])
  (.test (.le [([], (Int.negSucc (nat_lit 8))), ([(.emod (nat_lit 12) (.var (nat_lit 0)))], (Int.ofNat (nat_lit 1)))])
  (.leaf (.agg [(.int .i64 []), (.int .i64 []), (.int .i64 []), (.int .i64 [([], (Int.negSucc (nat_lit 0)))])]))
  (.leaf (.agg [(.int .i64 [([], (Int.ofNat (nat_lit 1)))]), (.int .i64 []), (.int .i64 [([], (Int.negSucc (nat_lit 0)))]), (.int .i64 [])])))
  (.leaf (.agg [(.int .i64 []), (.int .i64 [([], (Int.ofNat (nat_lit 1)))]), (.int .i64 []), (.int .i64 [([], (Int.negSucc (nat_lit 0)))])]))))
  (.test (.le [([], (Int.negSucc (nat_lit 1))), ([(.emod (nat_lit 12) (.var (nat_lit 0)))], (Int.ofNat (nat_lit 1)))])
  (.test (.le [([], (Int.negSucc (nat_lit 0))), ([(.emod (nat_lit 12) (.var (nat_lit 0)))], (Int.ofNat (nat_lit 1)))])
  (.test (.le [([(.emod (nat_lit 12) (.var (nat_lit 0)))], (Int.ofNat (nat_lit 1)))])
  (.leaf (.agg [(.int .i64 [([], (Int.ofNat (nat_lit 1)))]), (.int .i64 []), (.int .i64 []), (.int .i64 [])]))
  (.leaf (.agg [(.int .i64 []), (.int .i64 [([], (Int.ofNat (nat_lit 1)))]), (.int .i64 []), (.int .i64 [])])))
  (.leaf (.agg [(.int .i64 []), (.int .i64 []), (.int .i64 [([], (Int.ofNat (nat_lit 1)))]), (.int .i64 [])])))
  (.test (.le [([], (Int.negSucc (nat_lit 3))), ([(.emod (nat_lit 12) (.var (nat_lit 0)))], (Int.ofNat (nat_lit 1)))])
  (.test (.le [([], (Int.negSucc (nat_lit 2))), ([(.emod (nat_lit 12) (.var (nat_lit 0)))], (Int.ofNat (nat_lit 1)))])
  (.leaf (.agg [(.int .i64 []), (.int .i64 []), (.int .i64 []), (.int .i64 [([], (Int.ofNat (nat_lit 1)))])]))
  (.leaf (.agg [(.int .i64 [([], (Int.negSucc (nat_lit 0)))]), (.int .i64 []), (.int .i64 [([], (Int.ofNat (nat_lit 1)))]), (.int .i64 [])])))
  (.leaf (.agg [(.int .i64 []), (.int .i64 [([], (Int.negSucc (nat_lit 0)))]), (.int .i64 []), (.int .i64 [([], (Int.ofNat (nat_lit 1)))])])))))
theorem f74C0 : checkT Tryd.prog (xWith (xOf symX) f74R) (gxOf symG) (sumsOf sums46) 10000 74 f74A f74T0 (facts0 f74K) = true := by kernel_rfl
def f74M : Summ := ⟨f74A, f74K, f74T0, f74R, []⟩
theorem f74Ok : SumOk Tryd.prog (xOf symX) (gxOf symG) 74 f74M := sumOk_of symMixed symClosed sums46Ok f74C0
def sums74 : List (Nat × Summ) := (74, f74M) :: sums46
theorem sums74Ok : ∀ g, ∀ m ∈ sumsOf sums74 g, SumOk Tryd.prog (xOf symX) (gxOf symG) g m := sumsOf_ok f74Ok sums46Ok
def f14A : List SV := []
def f14K : List Iv := []
def f14R : List (List SV) := []
def f14T0 : STree := (.leaf (.bool true))
theorem f14C0 : checkT Tryd.prog (xWith (xOf symX) f14R) (gxOf symG) (sumsOf sums74) 10000 14 f14A f14T0 (facts0 f14K) = true := by kernel_rfl
def f14M : Summ := ⟨f14A, f14K, f14T0, f14R, []⟩
theorem f14Ok : SumOk Tryd.prog (xOf symX) (gxOf symG) 14 f14M := sumOk_of symMixed symClosed sums74Ok f14C0
def sums14 : List (Nat × Summ) := (14, f14M) :: sums74
theorem sums14Ok : ∀ g, ∀ m ∈ sumsOf sums14 g, SumOk Tryd.prog (xOf symX) (gxOf symG) g m := sumsOf_ok f14Ok sums74Ok
def f45_prod59A : List SV := [(.int .i64 [([(.var (nat_lit 0))], (Int.ofNat (nat_lit 1)))]), (.int .i64 [([(.var (nat_lit 1))], (Int.ofNat (nat_lit 1)))])]
def f45_prod59K : List Iv := [⟨(Int.negSucc (nat_lit 576460752303423487)), (Int.ofNat (nat_lit 576460752303423488))⟩, ⟨(Int.negSucc (nat_lit 576460752303423487)), (Int.ofNat (nat_lit 576460752303423488))⟩]
def f45_prod59R : List (List SV) := []
def f45_prod59T0 : STree := (.test (.le [([], (Int.ofNat (nat_lit 1))), ([(.var (nat_lit 1))], (Int.ofNat (nat_lit 2)))])
  (.test (.le [([], (Int.ofNat (nat_lit 1))), ([(.var (nat_lit 0))], (Int.ofNat (nat_lit 2)))])
  (.test (.le [([], (Int.ofNat (nat_lit 1))), ([(.fdiv (.mul (.var (nat_lit 0)) (.var (nat_lit 1))) (.lit (Int.ofNat (nat_lit 18446744073709551616))))], (Int.negSucc (nat_lit 0)))])
  (.leaf (.int .i64 [([], (Int.ofNat (nat_lit 576460752303423489)))]))
  (.test (.le [([], (Int.ofNat (nat_lit 576460752303423489))), ([(.wrap .u64 (.mul (.var (nat_lit 0)) (.var (nat_lit 1))))], (Int.negSucc (nat_lit 0)))])
  (.leaf (.int .i64 [([], (Int.ofNat (nat_lit 576460752303423489)))]))
  (.leaf (.int .i64 [([(.wrap .u64 (.mul (.var (nat_lit 0)) (.var (nat_lit 1))))], (Int.ofNat (nat_lit 1)))]))))
  (.test (.le [([], (Int.ofNat (nat_lit 1))), ([(.fdiv (.mul (.lit (Int.negSucc (nat_lit 0))) (.mul (.var (nat_lit 0)) (.var (nat_lit 1)))) (.lit (Int.ofNat (nat_lit 18446744073709551616))))], (Int.negSucc (nat_lit 0)))])
  (.leaf (.int .i64 [([], (Int.ofNat (nat_lit 576460752303423489)))]))
  (.test (.le [([], (Int.ofNat (nat_lit 576460752303423489))), ([(.wrap .u64 (.mul (.lit (Int.negSucc (nat_lit 0))) (.mul (.var (nat_lit 0)) (.var (nat_lit 1)))))], (Int.negSucc (nat_lit 0)))])
  (.leaf (.int .i64 [([], (Int.ofNat (nat_lit 576460752303423489)))]))
  (.leaf (.int .i64 [([(.wrap .u64 (.mul (.lit (Int.negSucc (nat_lit 0))) (.mul (.var (nat_lit 0)) (.var (nat_lit 1)))))], (Int.negSucc (nat_lit 0)))])))))
  (.test (.le [([], (Int.ofNat (nat_lit 1))), ([(.var (nat_lit 0))], (Int.ofNat (nat_lit 2)))])
  (.test (.le [([], (Int.ofNat (nat_lit 1))), ([(.fdiv (.mul (.lit (Int.negSucc (nat_lit 0))) (.mul (.var (nat_lit 0)) (.var (nat_lit 1)))) (.lit (Int.ofNat (nat_lit 18446744073709551616))))], (Int.negSucc (nat_lit 0)))])
  (.leaf (.int .i64 [([], (Int.ofNat (nat_lit 576460752303423489)))]))
  (.test (.le [([], (Int.ofNat (nat_lit 576460752303423489))), ([(.wrap .u64 (.mul (.lit (Int.negSucc (nat_lit 0))) (.mul (.var (nat_lit 0)) (.var (nat_lit 1)))))], (Int.negSucc (nat_lit 0)))])
  (.leaf (.int .i64 [([], (Int.ofNat (nat_lit 576460752303423489)))]))
  (.leaf (.int .i64 [([(.wrap .u64 (.mul (.lit (Int.negSucc (nat_lit 0))) (.mul (.var (nat_lit 0)) (.var (nat_lit 1)))))], (Int.negSucc (nat_lit 0)))]))))
  (.test (.le [([], (Int.ofNat (nat_lit 1))), ([(.fdiv (.mul (.var (nat_lit 0)) (.var (nat_lit 1))) (.lit (Int.ofNat (nat_lit 18446744073709551616))))], (Int.negSucc (nat_lit 0)))])
  (.leaf (.int .i64 [([], (Int.ofNat (nat_lit 576460752303423489)))]))
  (.test (.le [([], (Int.ofNat (nat_lit 576460752303423489))), ([(.wrap .u64 (.mul (.var (nat_lit 0)) (.var (nat_lit 1))))], (Int.negSucc (nat_lit 0)))])
  (.leaf (.int .i64 [([], (Int.ofNat (nat_lit 576460752303423489)))]))
  (.leaf (.int .i64 [([(.wrap .u64 (.mul (.var (nat_lit 0)) (.var (nat_lit 1))))], (Int.ofNat (nat_lit 1)))]))))))
theorem f45_prod59C0 : checkT Tryd.prog (xWith (xOf symX) f45_prod59R) (gxOf symG) (sumsOf sums14) 10000 45 f45_prod59A f45_prod59T0 (facts0 f45_prod59K) = true := by kernel_rfl
def f45_prod59M : Summ := prod59S
theorem f45_prod59Ok : SumOk Tryd.prog (xOf symX) (gxOf symG) 45 f45_prod59M := Exch.ok (sumOk_of (m := ⟨f45_prod59A, f45_prod59K, f45_prod59T0, f45_prod59R, []⟩) symMixed symClosed sums14Ok f45_prod59C0) (prod59S_exch)
def sums45_prod59 : List (Nat × Summ) := (45, f45_prod59M) :: sums14
theorem sums45_prod59Ok : ∀ g, ∀ m ∈ sumsOf sums45_prod59 g, SumOk Tryd.prog (xOf symX) (gxOf symG) g m := sumsOf_ok f45_prod59Ok sums14Ok
def f17_within_12A : List SV := [(.int .i64 [([(.var (nat_lit 0))], (Int.ofNat (nat_lit 1)))]), (.int .i64 [([], (Int.ofNat (nat_lit 12)))])]
def f17_within_12K : List Iv := [ivT .i64, ivT .i64]
def f17_within_12R : List (List SV) := []
def f17_within_12T0 : STree := (.test (.le [([], (Int.ofNat (nat_lit 1))), ([(.rem (.var (nat_lit 0)) (.lit (Int.ofNat (nat_lit 12))))], (Int.ofNat (nat_lit 1)))])
  (.leaf (.int .i64 [([], (Int.ofNat (nat_lit 12))), ([(.rem (.var (nat_lit 0)) (.lit (Int.ofNat (nat_lit 12))))], (Int.ofNat (nat_lit 1)))]))
  (.leaf (.int .i64 [([(.rem (.var (nat_lit 0)) (.lit (Int.ofNat (nat_lit 12))))], (Int.ofNat (nat_lit 1)))])))
theorem f17_within_12C0 : checkT Tryd.prog (xWith (xOf symX) f17_within_12R) (gxOf symG) (sumsOf sums45_prod59) 10000 17 f17_within_12A f17_within_12T0 (facts0 f17_within_12K) = true := by kernel_rfl
def f17_within_12M : Summ := withinS 12
theorem f17_within_12Ok : SumOk Tryd.prog (xOf symX) (gxOf symG) 17 f17_within_12M := Exch.ok (sumOk_of (m := ⟨f17_within_12A, f17_within_12K, f17_within_12T0, f17_within_12R, []⟩) symMixed symClosed sums45_prod59Ok f17_within_12C0) (withinS_exch (m := 12) (by decide))
def sums17_within_12 : List (Nat × Summ) := (17, f17_within_12M) :: sums45_prod59
theorem sums17_within_12Ok : ∀ g, ∀ m ∈ sumsOf sums17_within_12 g, SumOk Tryd.prog (xOf symX) (gxOf symG) g m := sumsOf_ok f17_within_12Ok sums45_prod59Ok
def f17_within_8191A : List SV := [(.int .i64 [([(.var (nat_lit 0))], (Int.ofNat (nat_lit 1)))]), (.int .i64 [([], (Int.ofNat (nat_lit 8191)))])]
def f17_within_8191K : List Iv := [ivT .i64, ivT .i64]
def f17_within_8191R : List (List SV) := []
def f17_within_8191T0 : STree := (.test (.le [([], (Int.ofNat (nat_lit 1))), ([(.rem (.var (nat_lit 0)) (.lit (Int.ofNat (nat_lit 8191))))], (Int.ofNat (nat_lit 1)))])
  (.leaf (.int .i64 [([], (Int.ofNat (nat_lit 8191))), ([(.rem (.var (nat_lit 0)) (.lit (Int.ofNat (nat_lit 8191))))], (Int.ofNat (nat_lit 1)))]))
  (.leaf (.int .i64 [([(.rem (.var (nat_lit 0)) (.lit (Int.ofNat (nat_lit 8191))))], (Int.ofNat (nat_lit 1)))])))
theorem f17_within_8191C0 : checkT Tryd.prog (xWith (xOf symX) f17_within_8191R) (gxOf symG) (sumsOf sums17_within_12) 10000 17 f17_within_8191A f17_within_8191T0 (facts0 f17_within_8191K) = true := by kernel_rfl
def f17_within_8191M : Summ := withinS 8191
theorem f17_within_8191Ok : SumOk Tryd.prog (xOf symX) (gxOf symG) 17 f17_within_8191M := Exch.ok (sumOk_of (m := ⟨f17_within_8191A, f17_within_8191K, f17_within_8191T0, f17_within_8191R, []⟩) symMixed symClosed sums17_within_12Ok f17_within_8191C0) (withinS_exch (m := 8191) (by decide))
def sums17_within_8191 : List (Nat × Summ) := (17, f17_within_8191M) :: sums17_within_12
theorem sums17_within_8191Ok : ∀ g, ∀ m ∈ sumsOf sums17_within_8191 g, SumOk Tryd.prog (xOf symX) (gxOf symG) g m := sumsOf_ok f17_within_8191Ok sums17_within_12Ok
def f17_within_32767A : List SV := [(.int .i64 [([(.var (nat_lit 0))], (Int.ofNat (nat_lit 1)))]), (.int .i64 [([], (Int.ofNat (nat_lit 32767)))])]
def f17_within_32767K : List Iv := [ivT .i64, ivT .i64]
def f17_within_32767R : List (List SV) := []
def f17_within_32767T0 : STree := (.test (.le [([], (Int.ofNat (nat_lit 1))), ([(.rem (.var (nat_lit 0)) (.lit (Int.ofNat (nat_lit 32767))))], (Int.ofNat (nat_lit 1)))])
  (.leaf (.int .i64 [([], (Int.ofNat (nat_lit 32767))), ([(.rem (.var (nat_lit 0)) (.lit (Int.ofNat (nat_lit 32767))))], (Int.ofNat (nat_lit 1)))]))
  (.leaf (.int .i64 [([(.rem (.var (nat_lit 0)) (.lit (Int.ofNat (nat_lit 32767))))], (Int.ofNat (nat_lit 1)))])))
theorem f17_within_32767C0 : checkT Tryd.prog (xWith (xOf symX) f17_within_32767R) (gxOf symG) (sumsOf sums17_within_8191) 10000 17 f17_within_32767A f17_within_32767T0 (facts0 f17_within_32767K) = true := by kernel_rfl
def f17_within_32767M : Summ := withinS 32767
theorem f17_within_32767Ok : SumOk Tryd.prog (xOf symX) (gxOf symG) 17 f17_within_32767M := Exch.ok (sumOk_of (m := ⟨f17_within_32767A, f17_within_32767K, f17_within_32767T0, f17_within_32767R, []⟩) symMixed symClosed sums17_within_8191Ok f17_within_32767C0) (withinS_exch (m := 32767) (by decide))
def sums17_within_32767 : List (Nat × Summ) := (17, f17_within_32767M) :: sums17_within_8191
theorem sums17_within_32767Ok : ∀ g, ∀ m ∈ sumsOf sums17_within_32767 g, SumOk Tryd.prog (xOf symX) (gxOf symG) g m := sumsOf_ok f17_within_32767Ok sums17_within_8191Ok
def f43A : List SV := [(.agg [(.int .i64 [([(.var (nat_lit 0))], (Int.ofNat (nat_lit 1)))]), (.int .i64 [([(.var (nat_lit 1))], (Int.ofNat (nat_lit 1)))]), (.int .i64 [([(.var (nat_lit 2))], (Int.ofNat (nat_lit 1)))]), (.int .i64 [([(.var (nat_lit 3))], (Int.ofNat (nat_lit 1)))])])]
def f43K : List Iv := [ivT .i64, ivT .i64, ivT .i64, ivT .i64]
def f43R : List (List SV) := []
def f43T0 : STree := (.test (.le [([], (Int.ofNat (nat_lit 268435457))), ([(.var (nat_lit 0))], (Int.ofNat (nat_lit 1)))])
  (.leaf (.tuple [(.agg [(.int .i64 []), (.int .i64 [])]), (.int .i64 [([], (Int.ofNat (nat_lit 1)))])]))
  (.test (.le [([], (Int.ofNat (nat_lit 268435457))), ([(.var (nat_lit 0))], (Int.negSucc (nat_lit 0)))])
  (.leaf (.tuple [(.agg [(.int .i64 []), (.int .i64 [])]), (.int .i64 [([], (Int.ofNat (nat_lit 1)))])]))
  (.test (.le [([], (Int.ofNat (nat_lit 268435457))), ([(.var (nat_lit 1))], (Int.ofNat (nat_lit 1)))])
  (.leaf (.tuple [(.agg [(.int .i64 []), (.int .i64 [])]), (.int .i64 [([], (Int.ofNat (nat_lit 1)))])]))
  (.test (.le [([], (Int.ofNat (nat_lit 268435457))), ([(.var (nat_lit 1))], (Int.negSucc (nat_lit 0)))])
  (.leaf (.tuple [(.agg [(.int .i64 []), (.int .i64 [])]), (.int .i64 [([], (Int.ofNat (nat_lit 1)))])]))
  (.test (.le [([], (Int.ofNat (nat_lit 268435457))), ([(.var (nat_lit 2))], (Int.ofNat (nat_lit 1)))])
  (.leaf (.tuple [(.agg [(.int .i64 []), (.int .i64 [])]), (.int .i64 [([], (Int.ofNat (nat_lit 1)))])]))
  (.test (.le [([], (Int.ofNat (nat_lit 268435457))), ([(.var (nat_lit 2))], (Int.negSucc (nat_lit 0)))])
  (.leaf (.tuple [(.agg [(.int .i64 []), (.int .i64 [])]), (.int .i64 [([], (Int.ofNat (nat_lit 1)))])]))
  (.test (.le [([], (Int.ofNat (nat_lit 268435457))), ([(.var (nat_lit 3))], (Int.ofNat (nat_lit 1)))])
  (.leaf (.tuple [(.agg [(.int .i64 []), (.int .i64 [])]), (.int .i64 [([], (Int.ofNat (nat_lit 1)))])]))
  (.test (.le [([], (Int.ofNat (nat_lit 268435457))), ([(.var (nat_lit 3))], (Int.negSucc (nat_lit 0)))])
  (.leaf (.tuple [(.agg [(.int .i64 []), (.int .i64 [])]), (.int .i64 [([], (Int.ofNat (nat_lit 1)))])]))
  (.leaf (.tuple [(.agg [(.int .i64 [([(.var (nat_lit 0)), (.var (nat_lit 0))], (Int.ofNat (nat_lit 1))), ([(.var (nat_lit 0)), (.var (nat_lit 2))], (Int.ofNat (nat_lit 1))), ([(.var (nat_lit 1)), (.var (nat_lit 1))], (Int.ofNat (nat_lit 1))), ([(.var (nat_lit 1)), (.var (nat_lit 3))], (Int.ofNat (nat_lit 1))), ([(.var (nat_lit 2)), (.var (nat_lit 2))], (Int.ofNat (nat_lit 1))), ([(.var (nat_lit 3)), (.var (nat_lit 3))], (Int.ofNat (nat_lit 1)))]), (.int .i64 [([(.var (nat_lit 0)), (.var (nat_lit 1))], (Int.ofNat (nat_lit 1))), ([(.var (nat_lit 1)), (.var (nat_lit 2))], (Int.ofNat (nat_lit 1))), ([(.var (nat_lit 2)), (.var (nat_lit 3))], (Int.ofNat (nat_lit 1)))])]), (.int .i64 [])]))))))))))
theorem f43C0 : checkT Tryd.prog (xWith (xOf symX) f43R) (gxOf symG) (sumsOf sums17_within_32767) 10000 43 f43A f43T0 (facts0 f43K) = true := by kernel_rfl
def f43M : Summ := ⟨f43A, f43K, f43T0, f43R, []⟩
theorem f43Ok : SumOk Tryd.prog (xOf symX) (gxOf symG) 43 f43M := sumOk_of symMixed symClosed sums17_within_32767Ok f43C0
def sums43 : List (Nat × Summ) := (43, f43M) :: sums17_within_32767
theorem sums43Ok : ∀ g, ∀ m ∈ sumsOf sums43 g, SumOk Tryd.prog (xOf symX) (gxOf symG) g m := sumsOf_ok f43Ok sums17_within_32767Ok
def f19A : List SV := [(.agg [(.int .i64 [([(.var (nat_lit 0))], (Int.ofNat (nat_lit 1)))]), (.int .i64 [([(.var (nat_lit 1))], (Int.ofNat (nat_lit 1)))]), (.int .i64 [([(.var (nat_lit 2))], (Int.ofNat (nat_lit 1)))]), (.int .i64 [([(.var (nat_lit 3))], (Int.ofNat (nat_lit 1)))])]), (.int .i64 [([(.var (nat_lit 4))], (Int.ofNat (nat_lit 1)))])]
def f19K : List Iv := [ivT .i64, ivT .i64, ivT .i64, ivT .i64, ivT .i64]
def f19R : List (List SV) := []
def f19T0 : STree := (.test (.le [([], (Int.ofNat (nat_lit 576460752303423489))), ([(.var (nat_lit 0))], (Int.ofNat (nat_lit 1)))])
  (.leaf (.tuple [(.agg [(.int .i64 []), (.int .i64 []), (.int .i64 []), (.int .i64 [])]), (.int .i64 [([], (Int.ofNat (nat_lit 1)))])]))
  (.test (.le [([], (Int.ofNat (nat_lit 576460752303423489))), ([(.var (nat_lit 0))], (Int.negSucc (nat_lit 0)))])
  (.leaf (.tuple [(.agg [(.int .i64 []), (.int .i64 []), (.int .i64 []), (.int .i64 [])]), (.int .i64 [([], (Int.ofNat (nat_lit 1)))])]))
  (.test (.le [([], (Int.ofNat (nat_lit 576460752303423489))), ([(.var (nat_lit 1))], (Int.ofNat (nat_lit 1)))])
  (.leaf (.tuple [(.agg [(.int .i64 []), (.int .i64 []), (.int .i64 []), (.int .i64 [])]), (.int .i64 [([], (Int.ofNat (nat_lit 1)))])]))
  (.test (.le [([], (Int.ofNat (nat_lit 576460752303423489))), ([(.var (nat_lit 1))], (Int.negSucc (nat_lit 0)))])
  (.leaf (.tuple [(.agg [(.int .i64 []), (.int .i64 []), (.int .i64 []), (.int .i64 [])]), (.int .i64 [([], (Int.ofNat (nat_lit 1)))])]))
  (.test (.le [([], (Int.ofNat (nat_lit 576460752303423489))), ([(.var (nat_lit 2))], (Int.ofNat (nat_lit 1)))])
  (.leaf (.tuple [(.agg [(.int .i64 []), (.int .i64 []), (.int .i64 []), (.int .i64 [])]), (.int .i64 [([], (Int.ofNat (nat_lit 1)))])]))
  (.test (.le [([], (Int.ofNat (nat_lit 576460752303423489))), ([(.var (nat_lit 2))], (Int.negSucc (nat_lit 0)))])
  (.leaf (.tuple [(.agg [(.int .i64 []), (.int .i64 []), (.int .i64 []), (.int .i64 [])]), (.int .i64 [([], (Int.ofNat (nat_lit 1)))])]))
  (.test (.le [([], (Int.ofNat (nat_lit 576460752303423489))), ([(.var (nat_lit 3))], (Int.ofNat (nat_lit 1)))])
  (.leaf (.tuple [(.agg [(.int .i64 []), (.int .i64 []), (.int .i64 []), (.int .i64 [])]), (.int .i64 [([], (Int.ofNat (nat_lit 1)))])]))
  (.test (.le [([], (Int.ofNat (nat_lit 576460752303423489))), ([(.var (nat_lit 3))], (Int.negSucc (nat_lit 0)))])
  (.leaf (.tuple [(.agg [(.int .i64 []), (.int .i64 []), (.int .i64 []), (.int .i64 [])]), (.int .i64 [([], (Int.ofNat (nat_lit 1)))])]))
  (.test (.le [([], (Int.ofNat (nat_lit 576460752303423489))), ([(.var (nat_lit 4))], (Int.ofNat (nat_lit 1)))])
  (.leaf (.tuple [(.agg [(.int .i64 []), (.int .i64 []), (.int .i64 []), (.int .i64 [])]), (.int .i64 [([], (Int.ofNat (nat_lit 1)))])]))
  (.test (.le [([], (Int.ofNat (nat_lit 576460752303423489))), ([(.var (nat_lit 4))], (Int.negSucc (nat_lit 0)))])
  (.leaf (.tuple [(.agg [(.int .i64 []), (.int .i64 []), (.int .i64 []), (.int .i64 [])]), (.int .i64 [([], (Int.ofNat (nat_lit 1)))])]))
  (.test (.le [([], (Int.negSucc (nat_lit 576460752303423487))), ([(.var (nat_lit 0)), (.var (nat_lit 4))], (Int.ofNat (nat_lit 1)))])
  (.test (.le [([], (Int.negSucc (nat_lit 576460752303423487))), ([(.var (nat_lit 0)), (.var (nat_lit 4))], (Int.negSucc (nat_lit 0)))])
  (.test (.le [([], (Int.negSucc (nat_lit 576460752303423487))), ([(.var (nat_lit 1)), (.var (nat_lit 4))], (Int.ofNat (nat_lit 1)))])
  (.test (.le [([], (Int.negSucc (nat_lit 576460752303423487))), ([(.var (nat_lit 1)), (.var (nat_lit 4))], (Int.negSucc (nat_lit 0)))])
  (.test (.le [([], (Int.negSucc (nat_lit 576460752303423487))), ([(.var (nat_lit 2)), (.var (nat_lit 4))], (Int.ofNat (nat_lit 1)))])
  (.test (.le [([], (Int.negSucc (nat_lit 576460752303423487))), ([(.var (nat_lit 2)), (.var (nat_lit 4))], (Int.negSucc (nat_lit 0)))])
  (.test (.le [([], (Int.negSucc (nat_lit 576460752303423487))), ([(.var (nat_lit 3)), (.var (nat_lit 4))], (Int.ofNat (nat_lit 1)))])
  (.test (.le [([], (Int.negSucc (nat_lit 576460752303423487))), ([(.var (nat_lit 3)), (.var (nat_lit 4))], (Int.negSucc (nat_lit 0)))])
  (.leaf (.tuple [(.agg [(.int .i64 [([(.var (nat_lit 0)), (.var (nat_lit 4))], (Int.ofNat (nat_lit 1)))]), (.int .i64 [([(.var (nat_lit 1)), (.var (nat_lit 4))], (Int.ofNat (nat_lit 1)))]), (.int .i64 [([(.var (nat_lit 2)), (.var (nat_lit 4))], (Int.ofNat (nat_lit 1)))]), (.int .i64 [([(.var (nat_lit 3)), (.var (nat_lit 4))], (Int.ofNat (nat_lit 1)))])]), (.int .i64 [])]))
  (.leaf (.tuple [(.agg [(.int .i64 []), (.int .i64 []), (.int .i64 []), (.int .i64 [])]), (.int .i64 [([], (Int.ofNat (nat_lit 2)))])])))
  (.leaf (.tuple [(.agg [(.int .i64 []), (.int .i64 []), (.int .i64 []), (.int .i64 [])]), (.int .i64 [([], (Int.ofNat (nat_lit 2)))])])))
  (.test (.le [([], (Int.negSucc (nat_lit 576460752303423487))), ([(.var (nat_lit 3)), (.var (nat_lit 4))], (Int.ofNat (nat_lit 1)))])
  (.test (.le [([], (Int.negSucc (nat_lit 576460752303423487))), ([(.var (nat_lit 3)), (.var (nat_lit 4))], (Int.negSucc (nat_lit 0)))])
  (.leaf (.tuple [(.agg [(.int .i64 []), (.int .i64 []), (.int .i64 []), (.int .i64 [])]), (.int .i64 [([], (Int.ofNat (nat_lit 2)))])]))
  (.leaf (.tuple [(.agg [(.int .i64 []), (.int .i64 []), (.int .i64 []), (.int .i64 [])]), (.int .i64 [([], (Int.ofNat (nat_lit 2)))])])))
  (.leaf (.tuple [(.agg [(.int .i64 []), (.int .i64 []), (.int .i64 []), (.int .i64 [])]), (.int .i64 [([], (Int.ofNat (nat_lit 2)))])]))))
  (.test (.le [([], (Int.negSucc (nat_lit 576460752303423487))), ([(.var (nat_lit 3)), (.var (nat_lit 4))], (Int.ofNat (nat_lit 1)))])
  (.test (.le [([], (Int.negSucc (nat_lit 576460752303423487))), ([(.var (nat_lit 3)), (.var (nat_lit 4))], (Int.negSucc (nat_lit 0)))])
  (.leaf (.tuple [(.agg [(.int .i64 []), (.int .i64 []), (.int .i64 []), (.int .i64 [])]), (.int .i64 [([], (Int.ofNat (nat_lit 2)))])]))
  (.leaf (.tuple [(.agg [(.int .i64 []), (.int .i64 []), (.int .i64 []), (.int .i64 [])]), (.int .i64 [([], (Int.ofNat (nat_lit 2)))])])))
  (.leaf (.tuple [(.agg [(.int .i64 []), (.int .i64 []), (.int .i64 []), (.int .i64 [])]), (.int .i64 [([], (Int.ofNat (nat_lit 2)))])]))))
  (.test (.le [([], (Int.negSucc (nat_lit 576460752303423487))), ([(.var (nat_lit 2)), (.var (nat_lit 4))], (Int.ofNat (nat_lit 1)))])
  (.test (.le [([], (Int.negSucc (nat_lit 576460752303423487))), ([(.var (nat_lit 2)), (.var (nat_lit 4))], (Int.negSucc (nat_lit 0)))])
  (.test (.le [([], (Int.negSucc (nat_lit 576460752303423487))), ([(.var (nat_lit 3)), (.var (nat_lit 4))], (Int.ofNat (nat_lit 1)))])
  (.test (.le [([], (Int.negSucc (nat_lit 576460752303423487))), ([(.var (nat_lit 3)), (.var (nat_lit 4))], (Int.negSucc (nat_lit 0)))])
  (.leaf (.tuple [(.agg [(.int .i64 []), (.int .i64 []), (.int .i64 []), (.int .i64 [])]), (.int .i64 [([], (Int.ofNat (nat_lit 2)))])]))
  (.leaf (.tuple [(.agg [(.int .i64 []), (.int .i64 []), (.int .i64 []), (.int .i64 [])]), (.int .i64 [([], (Int.ofNat (nat_lit 2)))])])))
  (.leaf (.tuple [(.agg [(.int .i64 []), (.int .i64 []), (.int .i64 []), (.int .i64 [])]), (.int .i64 [([], (Int.ofNat (nat_lit 2)))])])))
  (.test (.le [([], (Int.negSucc (nat_lit 576460752303423487))), ([(.var (nat_lit 3)), (.var (nat_lit 4))], (Int.ofNat (nat_lit 1)))])
  (.test (.le [([], (Int.negSucc (nat_lit 576460752303423487))), ([(.var (nat_lit 3)), (.var (nat_lit 4))], (Int.negSucc (nat_lit 0)))])
  (.leaf (.tuple [(.agg [(.int .i64 []), (.int .i64 []), (.int .i64 []), (.int .i64 [])]), (.int .i64 [([], (Int.ofNat (nat_lit 2)))])]))
  (.leaf (.tuple [(.agg [(.int .i64 []), (.int .i64 []), (.int .i64 []), (.int .i64 [])]), (.int .i64 [([], (Int.ofNat (nat_lit 2)))])])))
  (.leaf (.tuple [(.agg [(.int .i64 []), (.int .i64 []), (.int .i64 []), (.int .i64 [])]), (.int .i64 [([], (Int.ofNat (nat_lit 2)))])]))))
  (.test (.le [([], (Int.negSucc (nat_lit 576460752303423487))), ([(.var (nat_lit 3)), (.var (nat_lit 4))], (Int.ofNat (nat_lit 1)))])
  (.test (.le [([], (Int.negSucc (nat_lit 576460752303423487))), ([(.var (nat_lit 3)), (.var (nat_lit 4))], (Int.negSucc (nat_lit 0)))])
  (.leaf (.tuple [(.agg [(.int .i64 []), (.int .i64 []), (.int .i64 []), (.int .i64 [])]), (.int .i64 [([], (Int.ofNat (nat_lit 2)))])]))
  (.leaf (.tuple [(.agg [(.int .i64 []), (.int .i64 []), (.int .i64 []), (.int .i64 [])]), (.int .i64 [([], (Int.ofNat (nat_lit 2)))])])))
  (.leaf (.tuple [(.agg [(.int .i64 []), (.int .i64 []), (.int .i64 []), (.int .i64 [])]), (.int .i64 [([], (Int.ofNat (nat_lit 2)))])])))))
  (.test (.le [([], (Int.negSucc (nat_lit 576460752303423487))), ([(.var (nat_lit 2)), (.var (nat_lit 4))], (Int.ofNat (nat_lit 1)))])
  (.test (.le [([], (Int.negSucc (nat_lit 576460752303423487))), ([(.var (nat_lit 2)), (.var (nat_lit 4))], (Int.negSucc (nat_lit 0)))])
  (.test (.le [([], (Int.negSucc (nat_lit 576460752303423487))), ([(.var (nat_lit 3)), (.var (nat_lit 4))], (Int.ofNat (nat_lit 1)))])
  (.test (.le [([], (Int.negSucc (nat_lit 576460752303423487))), ([(.var (nat_lit 3)), (.var (nat_lit 4))], (Int.negSucc (nat_lit 0)))])
  (.leaf (.tuple [(.agg [(.int .i64 []), (.int .i64 []), (.int .i64 []), (.int .i64 [])]), (.int .i64 [([], (Int.ofNat (nat_lit 2)))])]))
  (.leaf (.tuple [(.agg [(.int .i64 []), (.int .i64 []), (.int .i64 []), (.int .i64 [])]), (.int .i64 [([], (Int.ofNat (nat_lit 2)))])])))
  (.leaf (.tuple [(.agg [(.int .i64 []), (.int .i64 []), (.int .i64 []), (.int .i64 [])]), (.int .i64 [([], (Int.ofNat (nat_lit 2)))])])))
  (.test (.le [([], (Int.negSucc (nat_lit 576460752303423487))), ([(.var (nat_lit 3)), (.var (nat_lit 4))], (Int.ofNat (nat_lit 1)))])
  (.test (.le [([], (Int.negSucc (nat_lit 576460752303423487))), ([(.var (nat_lit 3)), (.var (nat_lit 4))], (Int.negSucc (nat_lit 0)))])
  (.leaf (.tuple [(.agg [(.int .i64 []), (.int .i64 []), (.int .i64 []), (.int .i64 [])]), (.int .i64 [([], (Int.ofNat (nat_lit 2)))])]))
  (.leaf (.tuple [(.agg [(.int .i64 []), (.int .i64 []), (.int .i64 []), (.int .i64 [])]), (.int .i64 [([], (Int.ofNat (nat_lit 2)))])])))
  (.leaf (.tuple [(.agg [(.int .i64 []), (.int .i64 []), (.int .i64 []), (.int .i64 [])]), (.int .i64 [([], (Int.ofNat (nat_lit 2)))])]))))
  (.test (.le [([], (Int.negSucc (nat_lit 576460752303423487))), ([(.var (nat_lit 3)), (.var (nat_lit 4))], (Int.ofNat (nat_lit 1)))])
  (.test (.le [([], (Int.negSucc (nat_lit 576460752303423487))), ([(.var (nat_lit 3)), (.var (nat_lit 4))], (Int.negSucc (nat_lit 0)))])
  (.leaf (.tuple [(.agg [(.int .i64 []), (.int .i64 []), (.int .i64 []), (.int .i64 [])]), (.int .i64 [([], (Int.ofNat (nat_lit 2)))])]))
  (.leaf (.tuple [(.agg [(.int .i64 []), (.int .i64 []), (.int .i64 []), (.int .i64 [])]), (.int .i64 [([], (Int.ofNat (nat_lit 2)))])])))
  (.leaf (.tuple [(.agg [(.int .i64 []), (.int .i64 []), (.int .i64 []), (.int .i64 [])]), (.int .i64 [([], (Int.ofNat (nat_lit 2)))])])))))
  (.test (.le [([], (Int.negSucc (nat_lit 576460752303423487))), ([(.var (nat_lit 1)), (.var (nat_lit 4))], (Int.ofNat (nat_lit 1)))])
  (.test (.le [([], (Int.negSucc (nat_lit 576460752303423487))), ([(.var (nat_lit 1)), (.var (nat_lit 4))], (Int.negSucc (nat_lit 0)))])
  (.test (.le [([], (Int.negSucc (nat_lit 576460752303423487))), ([(.var (nat_lit 2)), (.var (nat_lit 4))], (Int.ofNat (nat_lit 1)))])
  (.test (.le [([], (Int.negSucc (nat_lit 576460752303423487))), ([(.var (nat_lit 2)), (.var (nat_lit 4))], (Int.negSucc (nat_lit 0)))])
  (.test (.le [([], (Int.negSucc (nat_lit 576460752303423487))), ([(.var (nat_lit 3)), (.var (nat_lit 4))], (Int.ofNat (nat_lit 1)))])
  (.test (.le [([], (Int.negSucc (nat_lit 576460752303423487))), ([(.var (nat_lit 3)), (.var (nat_lit 4))], (Int.negSucc (nat_lit 0)))])
  (.leaf (.tuple [(.agg [(.int .i64 []), (.int .i64 []), (.int .i64 []), (.int .i64 [])]), (.int .i64 [([], (Int.ofNat (nat_lit 2)))])]))
  (.leaf (.tuple [(.agg [(.int .i64 []), (.int .i64 []), (.int .i64 []), (.int .i64 [])]), (.int .i64 [([], (Int.ofNat (nat_lit 2)))])])))
  (.leaf (.tuple [(.agg [(.int .i64 []), (.int .i64 []), (.int .i64 []), (.int .i64 [])]), (.int .i64 [([], (Int.ofNat (nat_lit 2)))])])))
  (.test (.le [([], (Int.negSucc (nat_lit 576460752303423487))), ([(.var (nat_lit 3)), (.var (nat_lit 4))], (Int.ofNat (nat_lit 1)))])
  (.test (.le [([], (Int.negSucc (nat_lit 576460752303423487))), ([(.var (nat_lit 3)), (.var (nat_lit 4))], (Int.negSucc (nat_lit 0)))])
  (.leaf (.tuple [(.agg [(.int .i64 []), (.int .i64 []), (.int .i64 []), (.int .i64 [])]), (.int .i64 [([], (Int.ofNat (nat_lit 2)))])]))
  (.leaf (.tuple [(.agg [(.int .i64 []), (.int .i64 []), (.int .i64 []), (.int .i64 [])]), (.int .i64 [([], (Int.ofNat (nat_lit 2)))])])))
  (.leaf (.tuple [(.agg [(.int .i64 []), (.int .i64 []), (.int .i64 []), (.int .i64 [])]), (.int .i64 [([], (Int.ofNat (nat_lit 2)))])]))))
  (.test (.le [([], (Int.negSucc (nat_lit 576460752303423487))), ([(.var (nat_lit 3)), (.var (nat_lit 4))], (Int.ofNat (nat_lit 1)))])
  (.test (.le [([], (Int.negSucc (nat_lit 576460752303423487))), ([(.var (nat_lit 3)), (.var (nat_lit 4))], (Int.negSucc (nat_lit 0)))])
  (.leaf (.tuple [(.agg [(.int .i64 []), (.int .i64 []), (.int .i64 []), (.int .i64 [])]), (.int .i64 [([], (Int.ofNat (nat_lit 2)))])]))
  (.leaf (.tuple [(.agg [(.int .i64 []), (.int .i64 []), (.int .i64 []), (.int .i64 [])]), (.int .i64 [([], (Int.ofNat (nat_lit 2)))])])))
  (.leaf (.tuple [(.agg [(.int .i64 []), (.int .i64 []), (.int .i64 []), (.int .i64 [])]), (.int .i64 [([], (Int.ofNat (nat_lit 2)))])]))))
  (.test (.le [([], (Int.negSucc (nat_lit 576460752303423487))), ([(.var (nat_lit 2)), (.var (nat_lit 4))], (Int.ofNat (nat_lit 1)))])
  (.test (.le [([], (Int.negSucc (nat_lit 576460752303423487))), ([(.var (nat_lit 2)), (.var (nat_lit 4))], (Int.negSucc (nat_lit 0)))])
  (.test (.le [([], (Int.negSucc (nat_lit 576460752303423487))), ([(.var (nat_lit 3)), (.var (nat_lit 4))], (Int.ofNat (nat_lit 1)))])
  (.test (.le [([], (Int.negSucc (nat_lit 576460752303423487))), ([(.var (nat_lit 3)), (.var (nat_lit 4))], (Int.negSucc (nat_lit 0)))])
  (.leaf (.tuple [(.agg [(.int .i64 []), (.int .i64 []), (.int .i64 []), (.int .i64 [])]), (.int .i64 [([], (Int.ofNat (nat_lit 2)))])]))
  (.leaf (.tuple [(.agg [(.int .i64 []), (.int .i64 []), (.int .i64 []), (.int .i64 [])]), (.int .i64 [([], (Int.ofNat (nat_lit 2)))])])))
  (.leaf (.tuple [(.agg [(.int .i64 []), (.int .i64 []), (.int .i64 []), (.int .i64 [])]), (.int .i64 [([], (Int.ofNat (nat_lit 2)))])])))
  (.test (.le [([], (Int.negSucc (nat_lit 576460752303423487))), ([(.var (nat_lit 3)), (.var (nat_lit 4))], (Int.ofNat (nat_lit 1)))])
  (.test (.le [([], (Int.negSucc (nat_lit 576460752303423487))), ([(.var (nat_lit 3)), (.var (nat_lit 4))], (Int.negSucc (nat_lit 0)))])
  (.leaf (.tuple [(.agg [(.int .i64 []), (.int .i64 []), (.int .i64 []), (.int .i64 [])]), (.int .i64 [([], (Int.ofNat (nat_lit 2)))])]))
  (.leaf (.tuple [(.agg [(.int .i64 []), (.int .i64 []), (.int .i64 []), (.int .i64 [])]), (.int .i64 [([], (Int.ofNat (nat_lit 2)))])])))
  (.leaf (.tuple [(.agg [(.int .i64 []), (.int .i64 []), (.int .i64 []), (.int .i64 [])]), (.int .i64 [([], (Int.ofNat (nat_lit 2)))])]))))
  (.test (.le [([], (Int.negSucc (nat_lit 576460752303423487))), ([(.var (nat_lit 3)), (.var (nat_lit 4))], (Int.ofNat (nat_lit 1)))])
  (.test (.le [([], (Int.negSucc (nat_lit 576460752303423487))), ([(.var (nat_lit 3)), (.var (nat_lit 4))], (Int.negSucc (nat_lit 0)))])
  (.leaf (.tuple [(.agg [(.int .i64 []), (.int .i64 []), (.int .i64 []), (.int .i64 [])]), (.int .i64 [([], (Int.ofNat (nat_lit 2)))])]))
  (.leaf (.tuple [(.agg [(.int .i64 []), (.int .i64 []), (.int .i64 []), (.int .i64 [])]), (.int .i64 [([], (Int.ofNat (nat_lit 2)))])])))
  (.leaf (.tuple [(.agg [(.int .i64 []), (.int .i64 []), (.int .i64 []), (.int .i64 [])]), (.int .i64 [([], (Int.ofNat (nat_lit 2)))])])))))
  (.test (.le [([], (Int.negSucc (nat_lit 576460752303423487))), ([(.var (nat_lit 2)), (.var (nat_lit 4))], (Int.ofNat (nat_lit 1)))])
  (.test (.le [([], (Int.negSucc (nat_lit 576460752303423487))), ([(.var (nat_lit 2)), (.var (nat_lit 4))], (Int.negSucc (nat_lit 0)))])
  (.test (.le [([], (Int.negSucc (nat_lit 576460752303423487))), ([(.var (nat_lit 3)), (.var (nat_lit 4))], (Int.ofNat (nat_lit 1)))])
  (.test (.le [([], (Int.negSucc (nat_lit 576460752303423487))), ([(.var (nat_lit 3)), (.var (nat_lit 4))], (Int.negSucc (nat_lit 0)))])
  (.leaf (.tuple [(.agg [(.int .i64 []), (.int .i64 []), (.int .i64 []), (.int .i64 [])]), (.int .i64 [([], (Int.ofNat (nat_lit 2)))])]))
  (.leaf (.tuple [(.agg [(.int .i64 []), (.int .i64 []), (.int .i64 []), (.int .i64 [])]), (.int .i64 [([], (Int.ofNat (nat_lit 2)))])])))
  (.leaf (.tuple [(.agg [(.int .i64 []), (.int .i64 []), (.int .i64 []), (.int .i64 [])]), (.int .i64 [([], (Int.ofNat (nat_lit 2)))])])))
  (.test (.le [([], (Int.negSucc (nat_lit 576460752303423487))), ([(.var (nat_lit 3)), (.var (nat_lit 4))], (Int.ofNat (nat_lit 1)))])
  (.test (.le [([], (Int.negSucc (nat_lit 576460752303423487))), ([(.var (nat_lit 3)), (.var (nat_lit 4))], (Int.negSucc (nat_lit 0)))])
  (.leaf (.tuple [(.agg [(.int .i64 []), (.int .i64 []), (.int .i64 []), (.int .i64 [])]), (.int .i64 [([], (Int.ofNat (nat_lit 2)))])]))
  (.leaf (.tuple [(.agg [(.int .i64 []), (.int .i64 []), (.int .i64 []), (.int .i64 [])]), (.int .i64 [([], (Int.ofNat (nat_lit 2)))])])))
  (.leaf (.tuple [(.agg [(.int .i64 []), (.int .i64 []), (.int .i64 []), (.int .i64 [])]), (.int .i64 [([], (Int.ofNat (nat_lit 2)))])]))))
  (.test (.le [([], (Int.negSucc (nat_lit 576460752303423487))), ([(.var (nat_lit 3)), (.var (nat_lit 4))], (Int.ofNat (nat_lit 1)))])
  (.test (.le [([], (Int.negSucc (nat_lit 576460752303423487))), ([(.var (nat_lit 3)), (.var (nat_lit 4))], (Int.negSucc (nat_lit 0)))])
  (.leaf (.tuple [(.agg [(.int .i64 []), (.int .i64 []), (.int .i64 []), (.int .i64 [])]), (.int .i64 [([], (Int.ofNat (nat_lit 2)))])]))
  (.leaf (.tuple [(.agg [(.int .i64 []), (.int .i64 []), (.int .i64 []), (.int .i64 [])]), (.int .i64 [([], (Int.ofNat (nat_lit 2)))])])))
  (.leaf (.tuple [(.agg [(.int .i64 []), (.int .i64 []), (.int .i64 []), (.int .i64 [])]), (.int .i64 [([], (Int.ofNat (nat_lit 2)))])]))))))
  (.test (.le [([], (Int.negSucc (nat_lit 576460752303423487))), ([(.var (nat_lit 1)), (.var (nat_lit 4))], (Int.ofNat (nat_lit 1)))])
  (.test (.le [([], (Int.negSucc (nat_lit 576460752303423487))), ([(.var (nat_lit 1)), (.var (nat_lit 4))], (Int.negSucc (nat_lit 0)))])
  (.test (.le [([], (Int.negSucc (nat_lit 576460752303423487))), ([(.var (nat_lit 2)), (.var (nat_lit 4))], (Int.ofNat (nat_lit 1)))])
  (.test (.le [([], (Int.negSucc (nat_lit 576460752303423487))), ([(.var (nat_lit 2)), (.var (nat_lit 4))], (Int.negSucc (nat_lit 0)))])
  (.test (.le [([], (Int.negSucc (nat_lit 576460752303423487))), ([(.var (nat_lit 3)), (.var (nat_lit 4))], (Int.ofNat (nat_lit 1)))])
  (.test (.le [([], (Int.negSucc (nat_lit 576460752303423487))), ([(.var (nat_lit 3)), (.var (nat_lit 4))], (Int.negSucc (nat_lit 0)))])
  (.leaf (.tuple [(.agg [(.int .i64 []), (.int .i64 []), (.int .i64 []), (.int .i64 [])]), (.int .i64 [([], (Int.ofNat (nat_lit 2)))])]))
  (.leaf (.tuple [(.agg [(.int .i64 []), (.int .i64 []), (.int .i64 []), (.int .i64 [])]), (.int .i64 [([], (Int.ofNat (nat_lit 2)))])])))
  (.leaf (.tuple [(.agg [(.int .i64 []), (.int .i64 []), (.int .i64 []), (.int .i64 [])]), (.int .i64 [([], (Int.ofNat (nat_lit 2)))])])))
  (.test (.le [([], (Int.negSucc (nat_lit 576460752303423487))), ([(.var (nat_lit 3)), (.var (nat_lit 4))], (Int.ofNat (nat_lit 1)))])
  (.test (.le [([], (Int.negSucc (nat_lit 576460752303423487))), ([(.var (nat_lit 3)), (.var (nat_lit 4))], (Int.negSucc (nat_lit 0)))])
  (.leaf (.tuple [(.agg [(.int .i64 []), (.int .i64 []), (.int .i64 []), (.int .i64 [])]), (.int .i64 [([], (Int.ofNat (nat_lit 2)))])]))
  (.leaf (.tuple [(.agg [(.int .i64 []), (.int .i64 []), (.int .i64 []), (.int .i64 [])]), (.int .i64 [([], (Int.ofNat (nat_lit 2)))])])))
  (.leaf (.tuple [(.agg [(.int .i64 []), (.int .i64 []), (.int .i64 []), (.int .i64 [])]), (.int .i64 [([], (Int.ofNat (nat_lit 2)))])]))))
  (.test (.le [([], (Int.negSucc (nat_lit 576460752303423487))), ([(.var (nat_lit 3)), (.var (nat_lit 4))], (Int.ofNat (nat_lit 1)))])
  (.test (.le [([], (Int.negSucc (nat_lit 576460752303423487))), ([(.var (nat_lit 3)), (.var (nat_lit 4))], (Int.negSucc (nat_lit 0)))])
  (.leaf (.tuple [(.agg [(.int .i64 []), (.int .i64 []), (.int .i64 []), (.int .i64 [])]), (.int .i64 [([], (Int.ofNat (nat_lit 2)))])]))
  (.leaf (.tuple [(.agg [(.int .i64 []), (.int .i64 []), (.int .i64 []), (.int .i64 [])]), (.int .i64 [([], (Int.ofNat (nat_lit 2)))])])))
  (.leaf (.tuple [(.agg [(.int .i64 []), (.int .i64 []), (.int .i64 []), (.int .i64 [])]), (.int .i64 [([], (Int.ofNat (nat_lit 2)))])]))))
  (.test (.le [([], (Int.negSucc (nat_lit 576460752303423487))), ([(.var (nat_lit 2)), (.var (nat_lit 4))], (Int.ofNat (nat_lit 1)))])
  (.test (.le [([], (Int.negSucc (nat_lit 576460752303423487))), ([(.var (nat_lit 2)), (.var (nat_lit 4))], (Int.negSucc (nat_lit 0)))])
  (.test (.le [([], (Int.negSucc (nat_lit 576460752303423487))), ([(.var (nat_lit 3)), (.var (nat_lit 4))], (Int.ofNat (nat_lit 1)))])
  (.test (.le [([], (Int.negSucc (nat_lit 576460752303423487))), ([(.var (nat_lit 3)), (.var (nat_lit 4))], (Int.negSucc (nat_lit 0)))])
  (.leaf (.tuple [(.agg [(.int .i64 []), (.int .i64 []), (.int .i64 []), (.int .i64 [])]), (.int .i64 [([], (Int.ofNat (nat_lit 2)))])]))
  (.leaf (.tuple [(.agg [(.int .i64 []), (.int .i64 []), (.int .i64 []), (.int .i64 [])]), (.int .i64 [([], (Int.ofNat (nat_lit 2)))])])))
  (.leaf (.tuple [(.agg [(.int .i64 []), (.int .i64 []), (.int .i64 []), (.int .i64 [])]), (.int .i64 [([], (Int.ofNat (nat_lit 2)))])])))
  (.test (.le [([], (Int.negSucc (nat_lit 576460752303423487))), ([(.var (nat_lit 3)), (.var (nat_lit 4))], (Int.ofNat (nat_lit 1)))])
  (.test (.le [([], (Int.negSucc (nat_lit 576460752303423487))), ([(.var (nat_lit 3)), (.var (nat_lit 4))], (Int.negSucc (nat_lit 0)))])
  (.leaf (.tuple [(.agg [(.int .i64 []), (.int .i64 []), (.int .i64 []), (.int .i64 [])]), (.int .i64 [([], (Int.ofNat (nat_lit 2)))])]))
  (.leaf (.tuple [(.agg [(.int .i64 []), (.int .i64 []), (.int .i64 []), (.int .i64 [])]), (.int .i64 [([], (Int.ofNat (nat_lit 2)))])])))
  (.leaf (.tuple [(.agg [(.int .i64 []), (.int .i64 []), (.int .i64 []), (.int .i64 [])]), (.int .i64 [([], (Int.ofNat (nat_lit 2)))])]))))
  (.test (.le [([], (Int.negSucc (nat_lit 576460752303423487))), ([(.var (nat_lit 3)), (.var (nat_lit 4))], (Int.ofNat (nat_lit 1)))])
  (.test (.le [([], (Int.negSucc (nat_lit 576460752303423487))), ([(.var (nat_lit 3)), (.var (nat_lit 4))], (Int.negSucc (nat_lit 0)))])
  (.leaf (.tuple [(.agg [(.int .i64 []), (.int .i64 []), (.int .i64 []), (.int .i64 [])]), (.int .i64 [([], (Int.ofNat (nat_lit 2)))])]))
  (.leaf (.tuple [(.agg [(.int .i64 []), (.int .i64 []), (.int .i64 []), (.int .i64 [])]), (.int .i64 [([], (Int.ofNat (nat_lit 2)))])])))
  (.leaf (.tuple [(.agg [(.int .i64 []), (.int .i64 []), (.int .i64 []), (.int .i64 [])]), (.int .i64 [([], (Int.ofNat (nat_lit 2)))])])))))
  (.test (.le [([], (Int.negSucc (nat_lit 576460752303423487))), ([(.var (nat_lit 2)), (.var (nat_lit 4))], (Int.ofNat (nat_lit 1)))])
  (.test (.le [([], (Int.negSucc (nat_lit 576460752303423487))), ([(.var (nat_lit 2)), (.var (nat_lit 4))], (Int.negSucc (nat_lit 0)))])
  (.test (.le [([], (Int.negSucc (nat_lit 576460752303423487))), ([(.var (nat_lit 3)), (.var (nat_lit 4))], (Int.ofNat (nat_lit 1)))])
  (.test (.le [([], (Int.negSucc (nat_lit 576460752303423487))), ([(.var (nat_lit 3)), (.var (nat_lit 4))], (Int.negSucc (nat_lit 0)))])
  (.leaf (.tuple [(.agg [(.int .i64 []), (.int .i64 []), (.int .i64 []), (.int .i64 [])]), (.int .i64 [([], (Int.ofNat (nat_lit 2)))])]))
  (.leaf (.tuple [(.agg [(.int .i64 []), (.int .i64 []), (.int .i64 []), (.int .i64 [])]), (.int .i64 [([], (Int.ofNat (nat_lit 2)))])])))
  (.leaf (.tuple [(.agg [(.int .i64 []), (.int .i64 []), (.int .i64 []), (.int .i64 [])]), (.int .i64 [([], (Int.ofNat (nat_lit 2)))])])))
  (.test (.le [([], (Int.negSucc (nat_lit 576460752303423487))), ([(.var (nat_lit 3)), (.var (nat_lit 4))], (Int.ofNat (nat_lit 1)))])
  (.test (.le [([], (Int.negSucc (nat_lit 576460752303423487))), ([(.var (nat_lit 3)), (.var (nat_lit 4))], (Int.negSucc (nat_lit 0)))])
  (.leaf (.tuple [(.agg [(.int .i64 []), (.int .i64 []), (.int .i64 []), (.int .i64 [])]), (.int .i64 [([], (Int.ofNat (nat_lit 2)))])]))
  (.leaf (.tuple [(.agg [(.int .i64 []), (.int .i64 []), (.int .i64 []), (.int .i64 [])]), (.int .i64 [([], (Int.ofNat (nat_lit 2)))])])))
  (.leaf (.tuple [(.agg [(.int .i64 []), (.int .i64 []), (.int .i64 []), (.int .i64 [])]), (.int .i64 [([], (Int.ofNat (nat_lit 2)))])]))))
  (.test (.le [([], (Int.negSucc (nat_lit 576460752303423487))), ([(.var (nat_lit 3)), (.var (nat_lit 4))], (Int.ofNat (nat_lit 1)))])
  (.test (.le [([], (Int.negSucc (nat_lit 576460752303423487))), ([(.var (nat_lit 3)), (.var (nat_lit 4))], (Int.negSucc (nat_lit 0)))])
  (.leaf (.tuple [(.agg [(.int .i64 []), (.int .i64 []), (.int .i64 []), (.int .i64 [])]), (.int .i64 [([], (Int.ofNat (nat_lit 2)))])]))
  (.leaf (.tuple [(.agg [(.int .i64 []), (.int .i64 []), (.int .i64 []), (.int .i64 [])]), (.int .i64 [([], (Int.ofNat (nat_lit 2)))])])))
  (.leaf (.tuple [(.agg [(.int .i64 []), (.int .i64 []), (.int .i64 []), (.int .i64 [])]), (.int .i64 [([], (Int.ofNat (nat_lit 2)))])]))))))))))))))))
theorem f19C0 : checkT Tryd.prog (xWith (xOf symX) f19R) (gxOf symG) (sumsOf sums43) 10000 19 f19A f19T0 (facts0 f19K) = true := by kernel_rfl
def f19M : Summ := ⟨f19A, f19K, f19T0, f19R, []⟩
theorem f19Ok : SumOk Tryd.prog (xOf symX) (gxOf symG) 19 f19M := sumOk_of symMixed symClosed sums43Ok f19C0
def sums19 : List (Nat × Summ) := (19, f19M) :: sums43
theorem sums19Ok : ∀ g, ∀ m ∈ sumsOf sums19 g, SumOk Tryd.prog (xOf symX) (gxOf symG) g m := sumsOf_ok f19Ok sums43Ok
def f18A : List SV := [(.agg [(.int .i64 [([(.var (nat_lit 0))], (Int.ofNat (nat_lit 1)))]), (.int .i64 [([(.var (nat_lit 1))], (Int.ofNat (nat_lit 1)))]), (.int .i64 [([(.var (nat_lit 2))], (Int.ofNat (nat_lit 1)))]), (.int .i64 [([(.var (nat_lit 3))], (Int.ofNat (nat_lit 1)))])]), (.int .i64 [([(.var (nat_lit 4))], (Int.ofNat (nat_lit 1)))])]
def f18K : List Iv := [ivT .i64, ivT .i64, ivT .i64, ivT .i64, ivT .i64]
def f18R : List (List SV) := []
def f18T0 : STree := (.test (.le [([], (Int.ofNat (nat_lit 16777217))), ([(.var (nat_lit 0))], (Int.ofNat (nat_lit 1)))])
  (.leaf (.tuple [(.bool false), (.int .i64 [([], (Int.ofNat (nat_lit 1)))])]))
  (.test (.le [([], (Int.ofNat (nat_lit 16777217))), ([(.var (nat_lit 0))], (Int.negSucc (nat_lit 0)))])
  (.leaf (.tuple [(.bool false), (.int .i64 [([], (Int.ofNat (nat_lit 1)))])]))
  (.test (.le [([], (Int.ofNat (nat_lit 16777217))), ([(.var (nat_lit 1))], (Int.ofNat (nat_lit 1)))])
  (.leaf (.tuple [(.bool false), (.int .i64 [([], (Int.ofNat (nat_lit 1)))])]))
  (.test (.le [([], (Int.ofNat (nat_lit 16777217))), ([(.var (nat_lit 1))], (Int.negSucc (nat_lit 0)))])
  (.leaf (.tuple [(.bool false), (.int .i64 [([], (Int.ofNat (nat_lit 1)))])]))
  (.test (.le [([], (Int.ofNat (nat_lit 16777217))), ([(.var (nat_lit 2))], (Int.ofNat (nat_lit 1)))])
  (.leaf (.tuple [(.bool false), (.int .i64 [([], (Int.ofNat (nat_lit 1)))])]))
  (.test (.le [([], (Int.ofNat (nat_lit 16777217))), ([(.var (nat_lit 2))], (Int.negSucc (nat_lit 0)))])
  (.leaf (.tuple [(.bool false), (.int .i64 [([], (Int.ofNat (nat_lit 1)))])]))
  (.test (.le [([], (Int.ofNat (nat_lit 16777217))), ([(.var (nat_lit 3))], (Int.ofNat (nat_lit 1)))])
  (.leaf (.tuple [(.bool false), (.int .i64 [([], (Int.ofNat (nat_lit 1)))])]))
  (.test (.le [([], (Int.ofNat (nat_lit 16777217))), ([(.var (nat_lit 3))], (Int.negSucc (nat_lit 0)))])
  (.leaf (.tuple [(.bool false), (.int .i64 [([], (Int.ofNat (nat_lit 1)))])]))
  (.test (.le [([], (Int.ofNat (nat_lit 1))), ([(.var (nat_lit 4))], (Int.ofNat (nat_lit 1)))])
  (.leaf (.tuple [(.bool false), (.int .i64 [([], (Int.ofNat (nat_lit 1)))])]))
  (.test (.le [([], (Int.ofNat (nat_lit 16384))), ([(.var (nat_lit 4))], (Int.negSucc (nat_lit 0)))])
  (.leaf (.tuple [(.bool false), (.int .i64 [([], (Int.ofNat (nat_lit 1)))])]))
  (.test (.le [([(.app (nat_lit 0) (.add (.mul (.var (nat_lit 0)) (.var (nat_lit 0))) (.add (.mul (.var (nat_lit 0)) (.var (nat_lit 2))) (.add (.mul (.var (nat_lit 1)) (.var (nat_lit 1))) (.add (.mul (.var (nat_lit 1)) (.var (nat_lit 3))) (.add (.mul (.var (nat_lit 2)) (.var (nat_lit 2))) (.add (.mul (.var (nat_lit 3)) (.var (nat_lit 3))) (.mul (.lit (Int.negSucc (nat_lit 35))) (.mul (.var (nat_lit 4)) (.var (nat_lit 4)))))))))) (.add (.mul (.var (nat_lit 0)) (.var (nat_lit 1))) (.add (.mul (.var (nat_lit 1)) (.var (nat_lit 2))) (.mul (.var (nat_lit 2)) (.var (nat_lit 3))))) (.lit (Int.ofNat (nat_lit 0))))], (Int.negSucc (nat_lit 0)))])
  (.leaf (.tuple [(.bool true), (.int .i64 [])]))
  (.leaf (.tuple [(.bool false), (.int .i64 [])])))))))))))))
theorem f18C0 : checkT Tryd.prog (xWith (xOf symX) f18R) (gxOf symG) (sumsOf sums19) 10000 18 f18A f18T0 (facts0 f18K) = true := by kernel_rfl
def f18M : Summ := ⟨f18A, f18K, f18T0, f18R, []⟩
theorem f18Ok : SumOk Tryd.prog (xOf symX) (gxOf symG) 18 f18M := sumOk_of symMixed symClosed sums19Ok f18C0
def sums18 : List (Nat × Summ) := (18, f18M) :: sums19
theorem sums18Ok : ∀ g, ∀ m ∈ sumsOf sums18 g, SumOk Tryd.prog (xOf symX) (gxOf symG) g m := sumsOf_ok f18Ok sums19Ok
def f38_x12im16383to16383A : List SV := [(.aslice (nat_lit 1000) (nat_lit 12) (nat_lit 12))]
def f38_x12im16383to16383K : List Iv := [⟨(Int.negSucc (nat_lit 16382)), (Int.ofNat (nat_lit 16383))⟩, ⟨(Int.negSucc (nat_lit 16382)), (Int.ofNat (nat_lit 16383))⟩, ⟨(Int.negSucc (nat_lit 16382)), (Int.ofNat (nat_lit 16383))⟩, ⟨(Int.negSucc (nat_lit 16382)), (Int.ofNat (nat_lit 16383))⟩, ⟨(Int.negSucc (nat_lit 16382)), (Int.ofNat (nat_lit 16383))⟩, ⟨(Int.negSucc (nat_lit 16382)), (Int.ofNat (nat_lit 16383))⟩, ⟨(Int.negSucc (nat_lit 16382)), (Int.ofNat (nat_lit 16383))⟩, ⟨(Int.negSucc (nat_lit 16382)), (Int.ofNat (nat_lit 16383))⟩, ⟨(Int.negSucc (nat_lit 16382)), (Int.ofNat (nat_lit 16383))⟩, ⟨(Int.negSucc (nat_lit 16382)), (Int.ofNat (nat_lit 16383))⟩, ⟨(Int.negSucc (nat_lit 16382)), (Int.ofNat (nat_lit 16383))⟩, ⟨(Int.negSucc (nat_lit 16382)), (Int.ofNat (nat_lit 16383))⟩]
def f38_x12im16383to16383R : List (List SV) := [[(.int .i64 [([(.var (nat_lit 0))], (Int.ofNat (nat_lit 1)))]), (.int .i64 [([(.var (nat_lit 1))], (Int.ofNat (nat_lit 1)))]), (.int .i64 [([(.var (nat_lit 2))], (Int.ofNat (nat_lit 1)))]), (.int .i64 [([(.var (nat_lit 3))], (Int.ofNat (nat_lit 1)))]), (.int .i64 [([(.var (nat_lit 4))], (Int.ofNat (nat_lit 1)))]), (.int .i64 [([(.var (nat_lit 5))], (Int.ofNat (nat_lit 1)))]), (.int .i64 [([(.var (nat_lit 6))], (Int.ofNat (nat_lit 1)))]), (.int .i64 [([(.var (nat_lit 7))], (Int.ofNat (nat_lit 1)))]), (.int .i64 [([(.var (nat_lit 8))], (Int.ofNat (nat_lit 1)))]), (.int .i64 [([(.var (nat_lit 9))], (Int.ofNat (nat_lit 1)))]), (.int .i64 [([(.var (nat_lit 10))], (Int.ofNat (nat_lit 1)))]), (.int .i64 [([(.var (nat_lit 11))], (Int.ofNat (nat_lit 1)))])]]
def f38_x12im16383to16383T0 : STree := (.leaf (.int .i64 []))
theorem f38_x12im16383to16383C0 : checkT Tryd.prog (xWith (xOf symX) f38_x12im16383to16383R) (gxOf symG) (sumsOf sums18) 10000 38 f38_x12im16383to16383A f38_x12im16383to16383T0 (facts0 f38_x12im16383to16383K) = true := by kernel_rfl
def f38_x12im16383to16383M : Summ := ⟨f38_x12im16383to16383A, f38_x12im16383to16383K, f38_x12im16383to16383T0, f38_x12im16383to16383R, []⟩
theorem f38_x12im16383to16383Ok : SumOk Tryd.prog (xOf symX) (gxOf symG) 38 f38_x12im16383to16383M := sumOk_of symMixed symClosed sums18Ok f38_x12im16383to16383C0
def sums38_x12im16383to16383 : List (Nat × Summ) := (38, f38_x12im16383to16383M) :: sums18
theorem sums38_x12im16383to16383Ok : ∀ g, ∀ m ∈ sumsOf sums38_x12im16383to16383 g, SumOk Tryd.prog (xOf symX) (gxOf symG) g m := sumsOf_ok f38_x12im16383to16383Ok sums18Ok
def f16_x12im16383to16383A : List SV := [(.aslice (nat_lit 1000) (nat_lit 12) (nat_lit 12)), (.int .i64 [([(.var (nat_lit 0))], (Int.ofNat (nat_lit 1)))])]
def f16_x12im16383to16383K : List Iv := [ivT .i64, ⟨(Int.negSucc (nat_lit 16382)), (Int.ofNat (nat_lit 16383))⟩, ⟨(Int.negSucc (nat_lit 16382)), (Int.ofNat (nat_lit 16383))⟩, ⟨(Int.negSucc (nat_lit 16382)), (Int.ofNat (nat_lit 16383))⟩, ⟨(Int.negSucc (nat_lit 16382)), (Int.ofNat (nat_lit 16383))⟩, ⟨(Int.negSucc (nat_lit 16382)), (Int.ofNat (nat_lit 16383))⟩, ⟨(Int.negSucc (nat_lit 16382)), (Int.ofNat (nat_lit 16383))⟩, ⟨(Int.negSucc (nat_lit 16382)), (Int.ofNat (nat_lit 16383))⟩, ⟨(Int.negSucc (nat_lit 16382)), (Int.ofNat (nat_lit 16383))⟩, ⟨(Int.negSucc (nat_lit 16382)), (Int.ofNat (nat_lit 16383))⟩, ⟨(Int.negSucc (nat_lit 16382)), (Int.ofNat (nat_lit 16383))⟩, ⟨(Int.negSucc (nat_lit 16382)), (Int.ofNat (nat_lit 16383))⟩, ⟨(Int.negSucc (nat_lit 16382)), (Int.ofNat (nat_lit 16383))⟩]
def f16_x12im16383to16383R : List (List SV) := [[(.int .i64 [([(.var (nat_lit 1))], (Int.ofNat (nat_lit 1)))]), (.int .i64 [([(.var (nat_lit 2))], (Int.ofNat (nat_lit 1)))]), (.int .i64 [([(.var (nat_lit 3))], (Int.ofNat (nat_lit 1)))]), (.int .i64 [([(.var (nat_lit 4))], (Int.ofNat (nat_lit 1)))]), (.int .i64 [([(.var (nat_lit 5))], (Int.ofNat (nat_lit 1)))]), (.int .i64 [([(.var (nat_lit 6))], (Int.ofNat (nat_lit 1)))]), (.int .i64 [([(.var (nat_lit 7))], (Int.ofNat (nat_lit 1)))]), (.int .i64 [([(.var (nat_lit 8))], (Int.ofNat (nat_lit 1)))]), (.int .i64 [([(.var (nat_lit 9))], (Int.ofNat (nat_lit 1)))]), (.int .i64 [([(.var (nat_lit 10))], (Int.ofNat (nat_lit 1)))]), (.int .i64 [([(.var (nat_lit 11))], (Int.ofNat (nat_lit 1)))]), (.int .i64 [([(.var (nat_lit 12))], (Int.ofNat (nat_lit 1)))])]]
def f16_x12im16383to16383Q0 : Quest := (.le [([], (Int.negSucc (nat_lit 4))), ([(.emod (nat_lit 12) (.var (nat_lit 0)))], (Int.ofNat (nat_lit 1)))])
def f16_x12im16383to16383T1 : STree := (.test (.le [([], (Int.negSucc (nat_lit 1))), ([(.emod (nat_lit 12) (.var (nat_lit 0)))], (Int.ofNat (nat_lit 1)))])
  (.test (.le [([], (Int.negSucc (nat_lit 0))), ([(.emod (nat_lit 12) (.var (nat_lit 0)))], (Int.ofNat (nat_lit 1)))])
  (.test (.le [([(.emod (nat_lit 12) (.var (nat_lit 0)))], (Int.ofNat (nat_lit 1)))])
  (.leaf (.tuple [(.agg [(.int .i64 [([(.var (nat_lit 1))], (Int.ofNat (nat_lit 1))), ([(.var (nat_lit 2))], (Int.ofNat (nat_lit 1))), ([(.var (nat_lit 3))], (Int.ofNat (nat_lit 1))), ([(.var (nat_lit 4))], (Int.ofNat (nat_lit 1))), ([(.var (nat_lit 5))], (Int.ofNat (nat_lit 1))), ([(.var (nat_lit 6))], (Int.ofNat (nat_lit 1))), ([(.var (nat_lit 7))], (Int.ofNat (nat_lit 1))), ([(.var (nat_lit 8))], (Int.ofNat (nat_lit 1))), ([(.var (nat_lit 9))], (Int.ofNat (nat_lit 1))), ([(.var (nat_lit 10))], (Int.ofNat (nat_lit 1))), ([(.var (nat_lit 11))], (Int.ofNat (nat_lit 1))), ([(.var (nat_lit 12))], (Int.ofNat (nat_lit 1)))]), (.int .i64 []), (.int .i64 []), (.int .i64 [])]), (.int .i64 [])]))
  (.leaf (.tuple [(.agg [(.int .i64 [([(.var (nat_lit 1))], (Int.ofNat (nat_lit 1))), ([(.var (nat_lit 3))], (Int.ofNat (nat_lit 1))), ([(.var (nat_lit 7))], (Int.negSucc (nat_lit 0))), ([(.var (nat_lit 9))], (Int.negSucc (nat_lit 0)))]), (.int .i64 [([(.var (nat_lit 2))], (Int.ofNat (nat_lit 1))), ([(.var (nat_lit 6))], (Int.negSucc (nat_lit 0))), ([(.var (nat_lit 8))], (Int.negSucc (nat_lit 0))), ([(.var (nat_lit 12))], (Int.ofNat (nat_lit 1)))]), (.int .i64 [([(.var (nat_lit 3))], (Int.negSucc (nat_lit 0))), ([(.var (nat_lit 5))], (Int.negSucc (nat_lit 0))), ([(.var (nat_lit 9))], (Int.ofNat (nat_lit 1))), ([(.var (nat_lit 11))], (Int.ofNat (nat_lit 1)))]), (.int .i64 [([(.var (nat_lit 2))], (Int.negSucc (nat_lit 0))), ([(.var (nat_lit 4))], (Int.negSucc (nat_lit 0))), ([(.var (nat_lit 8))], (Int.ofNat (nat_lit 1))), ([(.var (nat_lit 10))], (Int.ofNat (nat_lit 1)))])]), (.int .i64 [])])))
  (.leaf (.tuple [(.agg [(.int .i64 [([(.var (nat_lit 1))], (Int.ofNat (nat_lit 1))), ([(.var (nat_lit 2))], (Int.ofNat (nat_lit 1))), ([(.var (nat_lit 4))], (Int.negSucc (nat_lit 0))), ([(.var (nat_lit 5))], (Int.negSucc (nat_lit 0))), ([(.var (nat_lit 7))], (Int.ofNat (nat_lit 1))), ([(.var (nat_lit 8))], (Int.ofNat (nat_lit 1))), ([(.var (nat_lit 10))], (Int.negSucc (nat_lit 0))), ([(.var (nat_lit 11))], (Int.negSucc (nat_lit 0)))]), (.int .i64 []), (.int .i64 [([(.var (nat_lit 2))], (Int.negSucc (nat_lit 0))), ([(.var (nat_lit 3))], (Int.negSucc (nat_lit 0))), ([(.var (nat_lit 5))], (Int.ofNat (nat_lit 1))), ([(.var (nat_lit 6))], (Int.ofNat (nat_lit 1))), ([(.var (nat_lit 8))], (Int.negSucc (nat_lit 0))), ([(.var (nat_lit 9))], (Int.negSucc (nat_lit 0))), ([(.var (nat_lit 11))], (Int.ofNat (nat_lit 1))), ([(.var (nat_lit 12))], (Int.ofNat (nat_lit 1)))]), (.int .i64 [])]), (.int .i64 [])])))
  (.test (.le [([], (Int.negSucc (nat_lit 3))), ([(.emod (nat_lit 12) (.var (nat_lit 0)))], (Int.ofNat (nat_lit 1)))])
  (.test (.le [([], (Int.negSucc (nat_lit 2))), ([(.emod (nat_lit 12) (.var (nat_lit 0)))], (Int.ofNat (nat_lit 1)))])
  (.leaf (.tuple [(.agg [(.int .i64 [([(.var (nat_lit 1))], (Int.ofNat (nat_lit 1))), ([(.var (nat_lit 3))], (Int.negSucc (nat_lit 0))), ([(.var (nat_lit 5))], (Int.ofNat (nat_lit 1))), ([(.var (nat_lit 7))], (Int.negSucc (nat_lit 0))), ([(.var (nat_lit 9))], (Int.ofNat (nat_lit 1))), ([(.var (nat_lit 11))], (Int.negSucc (nat_lit 0)))]), (.int .i64 []), (.int .i64 []), (.int .i64 [([(.var (nat_lit 2))], (Int.negSucc (nat_lit 0))), ([(.var (nat_lit 4))], (Int.ofNat (nat_lit 1))), ([(.var (nat_lit 6))], (Int.negSucc (nat_lit 0))), ([(.var (nat_lit 8))], (Int.ofNat (nat_lit 1))), ([(.var (nat_lit 10))], (Int.negSucc (nat_lit 0))), ([(.var (nat_lit 12))], (Int.ofNat (nat_lit 1)))])]), (.int .i64 [])]))
  (.leaf (.tuple [(.agg [(.int .i64 [([(.var (nat_lit 1))], (Int.ofNat (nat_lit 1))), ([(.var (nat_lit 3))], (Int.negSucc (nat_lit 0))), ([(.var (nat_lit 4))], (Int.ofNat (nat_lit 1))), ([(.var (nat_lit 6))], (Int.negSucc (nat_lit 0))), ([(.var (nat_lit 7))], (Int.ofNat (nat_lit 1))), ([(.var (nat_lit 9))], (Int.negSucc (nat_lit 0))), ([(.var (nat_lit 10))], (Int.ofNat (nat_lit 1))), ([(.var (nat_lit 12))], (Int.negSucc (nat_lit 0)))]), (.int .i64 []), (.int .i64 [([(.var (nat_lit 2))], (Int.negSucc (nat_lit 0))), ([(.var (nat_lit 3))], (Int.ofNat (nat_lit 1))), ([(.var (nat_lit 5))], (Int.negSucc (nat_lit 0))), ([(.var (nat_lit 6))], (Int.ofNat (nat_lit 1))), ([(.var (nat_lit 8))], (Int.negSucc (nat_lit 0))), ([(.var (nat_lit 9))], (Int.ofNat (nat_lit 1))), ([(.var (nat_lit 11))], (Int.negSucc (nat_lit 0))), ([(.var (nat_lit 12))], (Int.ofNat (nat_lit 1)))]), (.int .i64 [])]), (.int .i64 [])])))
  (.leaf (.tuple [(.agg [(.int .i64 [([(.var (nat_lit 1))], (Int.ofNat (nat_lit 1))), ([(.var (nat_lit 5))], (Int.negSucc (nat_lit 0))), ([(.var (nat_lit 7))], (Int.negSucc (nat_lit 0))), ([(.var (nat_lit 11))], (Int.ofNat (nat_lit 1)))]), (.int .i64 [([(.var (nat_lit 2))], (Int.negSucc (nat_lit 0))), ([(.var (nat_lit 6))], (Int.ofNat (nat_lit 1))), ([(.var (nat_lit 8))], (Int.ofNat (nat_lit 1))), ([(.var (nat_lit 12))], (Int.negSucc (nat_lit 0)))]), (.int .i64 [([(.var (nat_lit 3))], (Int.ofNat (nat_lit 1))), ([(.var (nat_lit 5))], (Int.ofNat (nat_lit 1))), ([(.var (nat_lit 9))], (Int.negSucc (nat_lit 0))), ([(.var (nat_lit 11))], (Int.negSucc (nat_lit 0)))]), (.int .i64 [([(.var (nat_lit 4))], (Int.negSucc (nat_lit 0))), ([(.var (nat_lit 6))], (Int.negSucc (nat_lit 0))), ([(.var (nat_lit 10))], (Int.ofNat (nat_lit 1))), ([(.var (nat_lit 12))], (Int.ofNat (nat_lit 1)))])]), (.int .i64 [])]))))
theorem f16_x12im16383to16383C1 : checkT Tryd.prog (xWith (xOf symX) f16_x12im16383to16383R) (gxOf symG) (sumsOf sums38_x12im16383to16383) 10000 16 f16_x12im16383to16383A f16_x12im16383to16383T1 ((facts0 f16_x12im16383to16383K).yes f16_x12im16383to16383Q0) = true := by kernel_rfl
def f16_x12im16383to16383T2 : STree := (.test (.le [([], (Int.negSucc (nat_lit 7))), ([(.emod (nat_lit 12) (.var (nat_lit 0)))], (Int.ofNat (nat_lit 1)))])
  (.test (.le [([], (Int.negSucc (nat_lit 6))), ([(.emod (nat_lit 12) (.var (nat_lit 0)))], (Int.ofNat (nat_lit 1)))])
  (.test (.le [([], (Int.negSucc (nat_lit 5))), ([(.emod (nat_lit 12) (.var (nat_lit 0)))], (Int.ofNat (nat_lit 1)))])
  (.leaf (.tuple [(.agg [(.int .i64 [([(.var (nat_lit 1))], (Int.ofNat (nat_lit 1))), ([(.var (nat_lit 2))], (Int.negSucc (nat_lit 0))), ([(.var (nat_lit 3))], (Int.ofNat (nat_lit 1))), ([(.var (nat_lit 4))], (Int.negSucc (nat_lit 0))), ([(.var (nat_lit 5))], (Int.ofNat (nat_lit 1))), ([(.var (nat_lit 6))], (Int.negSucc (nat_lit 0))), ([(.var (nat_lit 7))], (Int.ofNat (nat_lit 1))), ([(.var (nat_lit 8))], (Int.negSucc (nat_lit 0))), ([(.var (nat_lit 9))], (Int.ofNat (nat_lit 1))), ([(.var (nat_lit 10))], (Int.negSucc (nat_lit 0))), ([(.var (nat_lit 11))], (Int.ofNat (nat_lit 1))), ([(.var (nat_lit 12))], (Int.negSucc (nat_lit 0)))]), (.int .i64 []), (.int .i64 []), (.int .i64 [])]), (.int .i64 [])]))
  (.leaf (.tuple [(.agg [(.int .i64 [([(.var (nat_lit 1))], (Int.ofNat (nat_lit 1))), ([(.var (nat_lit 3))], (Int.ofNat (nat_lit 1))), ([(.var (nat_lit 7))], (Int.negSucc (nat_lit 0))), ([(.var (nat_lit 9))], (Int.negSucc (nat_lit 0)))]), (.int .i64 [([(.var (nat_lit 2))], (Int.negSucc (nat_lit 0))), ([(.var (nat_lit 6))], (Int.ofNat (nat_lit 1))), ([(.var (nat_lit 8))], (Int.ofNat (nat_lit 1))), ([(.var (nat_lit 12))], (Int.negSucc (nat_lit 0)))]), (.int .i64 [([(.var (nat_lit 3))], (Int.negSucc (nat_lit 0))), ([(.var (nat_lit 5))], (Int.negSucc (nat_lit 0))), ([(.var (nat_lit 9))], (Int.ofNat (nat_lit 1))), ([(.var (nat_lit 11))], (Int.ofNat (nat_lit 1)))]), (.int .i64 [([(.var (nat_lit 2))], (Int.ofNat (nat_lit 1))), ([(.var (nat_lit 4))], (Int.ofNat (nat_lit 1))), ([(.var (nat_lit 8))], (Int.negSucc (nat_lit 0))), ([(.var (nat_lit 10))], (Int.negSucc (nat_lit 0)))])]), (.int .i64 [])])))
  (.leaf (.tuple [(.agg [(.int .i64 [([(.var (nat_lit 1))], (Int.ofNat (nat_lit 1))), ([(.var (nat_lit 2))], (Int.negSucc (nat_lit 0))), ([(.var (nat_lit 4))], (Int.ofNat (nat_lit 1))), ([(.var (nat_lit 5))], (Int.negSucc (nat_lit 0))), ([(.var (nat_lit 7))], (Int.ofNat (nat_lit 1))), ([(.var (nat_lit 8))], (Int.negSucc (nat_lit 0))), ([(.var (nat_lit 10))], (Int.ofNat (nat_lit 1))), ([(.var (nat_lit 11))], (Int.negSucc (nat_lit 0)))]), (.int .i64 []), (.int .i64 [([(.var (nat_lit 2))], (Int.ofNat (nat_lit 1))), ([(.var (nat_lit 3))], (Int.negSucc (nat_lit 0))), ([(.var (nat_lit 5))], (Int.ofNat (nat_lit 1))), ([(.var (nat_lit 6))], (Int.negSucc (nat_lit 0))), ([(.var (nat_lit 8))], (Int.ofNat (nat_lit 1))), ([(.var (nat_lit 9))], (Int.negSucc (nat_lit 0))), ([(.var (nat_lit 11))], (Int.ofNat (nat_lit 1))), ([(.var (nat_lit 12))], (Int.negSucc (nat_lit 0)))]), (.int .i64 [])]), (.int .i64 [])])))
  (.test (.le [([], (Int.negSucc (nat_lit 9))), ([(.emod (nat_lit 12) (.var (nat_lit 0)))], (Int.ofNat (nat_lit 1)))])
  (.test (.le [([], (Int.negSucc (nat_lit 8))), ([(.emod (nat_lit 12) (.var (nat_lit 0)))], (Int.ofNat (nat_lit 1)))])
  (.leaf (.tuple [(.agg [(.int .i64 [([(.var (nat_lit 1))], (Int.ofNat (nat_lit 1))), ([(.var (nat_lit 3))], (Int.negSucc (nat_lit 0))), ([(.var (nat_lit 5))], (Int.ofNat (nat_lit 1))), ([(.var (nat_lit 7))], (Int.negSucc (nat_lit 0))), ([(.var (nat_lit 9))], (Int.ofNat (nat_lit 1))), ([(.var (nat_lit 11))], (Int.negSucc (nat_lit 0)))]), (.int .i64 []), (.int .i64 []), (.int .i64 [([(.var (nat_lit 2))], (Int.ofNat (nat_lit 1))), ([(.var (nat_lit 4))], (Int.negSucc (nat_lit 0))), ([(.var (nat_lit 6))], (Int.ofNat (nat_lit 1))), ([(.var (nat_lit 8))], (Int.negSucc (nat_lit 0))), ([(.var (nat_lit 10))], (Int.ofNat (nat_lit 1))), ([(.var (nat_lit 12))], (Int.negSucc (nat_lit 0)))])]), (.int .i64 [])]))
  (.leaf (.tuple [(.agg [(.int .i64 [([(.var (nat_lit 1))], (Int.ofNat (nat_lit 1))), ([(.var (nat_lit 3))], (Int.negSucc (nat_lit 0))), ([(.var (nat_lit 4))], (Int.negSucc (nat_lit 0))), ([(.var (nat_lit 6))], (Int.ofNat (nat_lit 1))), ([(.var (nat_lit 7))], (Int.ofNat (nat_lit 1))), ([(.var (nat_lit 9))], (Int.negSucc (nat_lit 0))), ([(.var (nat_lit 10))], (Int.negSucc (nat_lit 0))), ([(.var (nat_lit 12))], (Int.ofNat (nat_lit 1)))]), (.int .i64 []), (.int .i64 [([(.var (nat_lit 2))], (Int.ofNat (nat_lit 1))), ([(.var (nat_lit 3))], (Int.ofNat (nat_lit 1))), ([(.var (nat_lit 5))], (Int.negSucc (nat_lit 0))), ([(.var (nat_lit 6))], (Int.negSucc (nat_lit 0))), ([(.var (nat_lit 8))], (Int.ofNat (nat_lit 1))), ([(.var (nat_lit 9))], (Int.ofNat (nat_lit 1))), ([(.var (nat_lit 11))], (Int.negSucc (nat_lit 0))), ([(.var (nat_lit 12))], (Int.negSucc (nat_lit 0)))]), (.int .i64 [])]), (.int .i64 [])])))
  (.leaf (.tuple [(.agg [(.int .i64 [([(.var (nat_lit 1))], (Int.ofNat (nat_lit 1))), ([(.var (nat_lit 5))], (Int.negSucc (nat_lit 0))), ([(.var (nat_lit 7))], (Int.negSucc (nat_lit 0))), ([(.var (nat_lit 11))], (Int.ofNat (nat_lit 1)))]), (.int .i64 [([(.var (nat_lit 2))], (Int.ofNat (nat_lit 1))), ([(.var (nat_lit 6))], (Int.negSucc (nat_lit 0))), ([(.var (nat_lit 8))], (Int.negSucc (nat_lit 0))), ([(.var (nat_lit 12))], (Int.ofNat (nat_lit 1)))]), (.int .i64 [([(.var (nat_lit 3))], (Int.ofNat (nat_lit 1))), ([(.var (nat_lit 5))], (Int.ofNat (nat_lit 1))), ([(.var (nat_lit 9))], (Int.negSucc (nat_lit 0))), ([(.var (nat_lit 11))], (Int.negSucc (nat_lit 0)))]), (.int .i64 [([(.var (nat_lit 4))], (Int.ofNat (nat_lit 1))), ([(.var (nat_lit 6))], (Int.ofNat (nat_lit 1))), ([(.var (nat_lit 10))], (Int.negSucc (nat_lit 0))), ([(.var (nat_lit 12))], (Int.negSucc (nat_lit 0)))])]), (.int .i64 [])]))))
theorem f16_x12im16383to16383C2 : checkT Tryd.prog (xWith (xOf symX) f16_x12im16383to16383R) (gxOf symG) (sumsOf sums38_x12im16383to16383) 10000 16 f16_x12im16383to16383A f16_x12im16383to16383T2 ((facts0 f16_x12im16383to16383K).no f16_x12im16383to16383Q0) = true := by kernel_rfl
def f16_x12im16383to16383T3 : STree := .test f16_x12im16383to16383Q0 f16_x12im16383to16383T1 f16_x12im16383to16383T2
theorem f16_x12im16383to16383C3 : checkT Tryd.prog (xWith (xOf symX) f16_x12im16383to16383R) (gxOf symG) (sumsOf sums38_x12im16383to16383) 10000 16 f16_x12im16383to16383A f16_x12im16383to16383T3 (facts0 f16_x12im16383to16383K) = true := checkT_test f16_x12im16383to16383C1 f16_x12im16383to16383C2
def f16_x12im16383to16383M : Summ := ⟨f16_x12im16383to16383A, f16_x12im16383to16383K, f16_x12im16383to16383T3, f16_x12im16383to16383R, []⟩
theorem f16_x12im16383to16383Ok : SumOk Tryd.prog (xOf symX) (gxOf symG) 16 f16_x12im16383to16383M := sumOk_of symMixed symClosed sums38_x12im16383to16383Ok f16_x12im16383to16383C3
def sums16_x12im16383to16383 : List (Nat × Summ) := (16, f16_x12im16383to16383M) :: sums38_x12im16383to16383
theorem sums16_x12im16383to16383Ok : ∀ g, ∀ m ∈ sumsOf sums16_x12im16383to16383 g, SumOk Tryd.prog (xOf symX) (gxOf symG) g m := sumsOf_ok f16_x12im16383to16383Ok sums38_x12im16383to16383Ok
end Go.Proofs.YtjghifocfjbmcacDoor
