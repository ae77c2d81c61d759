/- The summaries of the functions that the laws call, each proved by the kernel along its tree of tests. -/
import Derived.Test.YtjghifocfjbmcabDoorCards
import Derived.Test.YtjghifocfjbmcabDoorSym14
import Derived.Test.YtjghifocfjbmcabDoorSymN
import Derived.KernelRfl
namespace Go.Proofs.YtjghifocfjbmcabDoor
open Go.Sym

def symG : List Nat := [(nat_lit 0)]
def symX : List (List SV) := [[(.int .i64 [([], (Int.negSucc (nat_lit 0)))]), (.int .i64 [([], (Int.negSucc (nat_lit 0)))]), (.int .i64 [([], (Int.ofNat (nat_lit 2)))]), (.int .i64 [([], (Int.negSucc (nat_lit 0)))]), (.int .i64 []), (.int .i64 [([], (Int.ofNat (nat_lit 1)))]), (.int .i64 [([], (Int.ofNat (nat_lit 2)))]), (.int .i64 [([], (Int.ofNat (nat_lit 1)))]), (.int .i64 [([], (Int.ofNat (nat_lit 1)))])]]
theorem symMixed : Tryd.prog.follows .mixedOrders = true := by kernel_rfl
theorem symClosed : Closed0 (xOf symX) := closedLit (by kernel_rfl)
def sums0 : List (Nat × Summ) := []
theorem sums0Ok : ∀ g, ∀ m ∈ sumsOf sums0 g, SumOk Tryd.prog (xOf symX) (gxOf symG) g m := sumsOf_nil
def f77_mul64A : List SV := [(.int .u64 [([(.var (nat_lit 0))], (Int.ofNat (nat_lit 1)))]), (.int .u64 [([(.var (nat_lit 1))], (Int.ofNat (nat_lit 1)))])]
def f77_mul64K : List Iv := [ivT .u64, ivT .u64]
def f77_mul64R : List (List SV) := []
def f77_mul64T0 : STree := (.leaf (.tuple [(.int .u64 [([(.fdiv (.add (.fdiv (.mul (.emod (nat_lit 4294967296) (.var (nat_lit 0))) (.emod (nat_lit 4294967296) (.var (nat_lit 1)))) (.lit (Int.ofNat (nat_lit 4294967296)))) (.mul (.fdiv (.var (nat_lit 0)) (.lit (Int.ofNat (nat_lit 4294967296)))) (.emod (nat_lit 4294967296) (.var (nat_lit 1))))) (.lit (Int.ofNat (nat_lit 4294967296))))], (Int.ofNat (nat_lit 1))), ([(.fdiv (.add (.emod (nat_lit 4294967296) (.add (.fdiv (.mul (.emod (nat_lit 4294967296) (.var (nat_lit 0))) (.emod (nat_lit 4294967296) (.var (nat_lit 1)))) (.lit (Int.ofNat (nat_lit 4294967296)))) (.mul (.var (nat_lit 1)) (.fdiv (.var (nat_lit 0)) (.lit (Int.ofNat (nat_lit 4294967296))))))) (.mul (.fdiv (.var (nat_lit 1)) (.lit (Int.ofNat (nat_lit 4294967296)))) (.emod (nat_lit 4294967296) (.var (nat_lit 0))))) (.lit (Int.ofNat (nat_lit 4294967296))))], (Int.ofNat (nat_lit 1))), ([(.fdiv (.var (nat_lit 0)) (.lit (Int.ofNat (nat_lit 4294967296)))), (.fdiv (.var (nat_lit 1)) (.lit (Int.ofNat (nat_lit 4294967296))))], (Int.ofNat (nat_lit 1)))]), (.int .u64 [([(.wrap .u64 (.mul (.var (nat_lit 0)) (.var (nat_lit 1))))], (Int.ofNat (nat_lit 1)))])]))
theorem f77_mul64C0 : checkT Tryd.prog (xWith (xOf symX) f77_mul64R) (gxOf symG) (sumsOf sums0) 10000 77 f77_mul64A f77_mul64T0 (facts0 f77_mul64K) = true := by kernel_rfl
def f77_mul64M : Summ := mul64S
theorem f77_mul64Ok : SumOk Tryd.prog (xOf symX) (gxOf symG) 77 f77_mul64M := Exch.ok (sumOk_of (m := ⟨f77_mul64A, f77_mul64K, f77_mul64T0, f77_mul64R, []⟩) symMixed symClosed sums0Ok f77_mul64C0) (mul64S_exch)
def sums77_mul64 : List (Nat × Summ) := (77, f77_mul64M) :: sums0
theorem sums77_mul64Ok : ∀ g, ∀ m ∈ sumsOf sums77_mul64 g, SumOk Tryd.prog (xOf symX) (gxOf symG) g m := sumsOf_ok f77_mul64Ok sums0Ok
def f48_magA : List SV := [(.int .i64 [([(.var (nat_lit 0))], (Int.ofNat (nat_lit 1)))])]
def f48_magK : List Iv := [ivT .i64]
def f48_magR : List (List SV) := []
def f48_magT0 : STree := (.test (.le [([], (Int.ofNat (nat_lit 1))), ([(.var (nat_lit 0))], (Int.ofNat (nat_lit 1)))])
  (.leaf (.int .u64 [([(.wrap .u64 (.mul (.lit (Int.negSucc (nat_lit 0))) (.wrap .u64 (.var (nat_lit 0)))))], (Int.ofNat (nat_lit 1)))]))
  (.leaf (.int .u64 [([(.var (nat_lit 0))], (Int.ofNat (nat_lit 1)))])))
theorem f48_magC0 : checkT Tryd.prog (xWith (xOf symX) f48_magR) (gxOf symG) (sumsOf sums77_mul64) 10000 48 f48_magA f48_magT0 (facts0 f48_magK) = true := by kernel_rfl
def f48_magM : Summ := magS
theorem f48_magOk : SumOk Tryd.prog (xOf symX) (gxOf symG) 48 f48_magM := Exch.ok (sumOk_of (m := ⟨f48_magA, f48_magK, f48_magT0, f48_magR, []⟩) symMixed symClosed sums77_mul64Ok f48_magC0) (magS_exch)
def sums48_mag : List (Nat × Summ) := (48, f48_magM) :: sums77_mul64
theorem sums48_magOk : ∀ g, ∀ m ∈ sumsOf sums48_mag g, SumOk Tryd.prog (xOf symX) (gxOf symG) g m := sumsOf_ok f48_magOk sums77_mul64Ok
def f57_prod60A : List SV := [(.int .i64 [([(.var (nat_lit 0))], (Int.ofNat (nat_lit 1)))]), (.int .i64 [([(.var (nat_lit 1))], (Int.ofNat (nat_lit 1)))])]
def f57_prod60K : List Iv := [ivT .i64, ivT .i64]
def f57_prod60R : List (List SV) := []
def f57_prod60T0 : STree := (.test (.le [([], (Int.ofNat (nat_lit 1))), ([(.var (nat_lit 0))], (Int.ofNat (nat_lit 1)))])
  (.test (.le [([], (Int.ofNat (nat_lit 1))), ([(.var (nat_lit 1))], (Int.ofNat (nat_lit 1)))])
  (.test (.le [([], (Int.ofNat (nat_lit 1))), ([(.fdiv (.mul (.var (nat_lit 0)) (.var (nat_lit 1))) (.lit (Int.ofNat (nat_lit 18446744073709551616))))], (Int.negSucc (nat_lit 0)))])
  (.leaf (.int .i64 [([], (Int.ofNat (nat_lit 1152921504606846977)))]))
  (.test (.le [([], (Int.ofNat (nat_lit 1152921504606846977))), ([(.wrap .u64 (.mul (.var (nat_lit 0)) (.var (nat_lit 1))))], (Int.negSucc (nat_lit 0)))])
  (.leaf (.int .i64 [([], (Int.ofNat (nat_lit 1152921504606846977)))]))
  (.leaf (.int .i64 [([(.wrap .u64 (.mul (.var (nat_lit 0)) (.var (nat_lit 1))))], (Int.ofNat (nat_lit 1)))]))))
  (.test (.le [([], (Int.ofNat (nat_lit 1))), ([(.fdiv (.mul (.lit (Int.negSucc (nat_lit 0))) (.mul (.var (nat_lit 0)) (.var (nat_lit 1)))) (.lit (Int.ofNat (nat_lit 18446744073709551616))))], (Int.negSucc (nat_lit 0)))])
  (.leaf (.int .i64 [([], (Int.ofNat (nat_lit 1152921504606846977)))]))
  (.test (.le [([], (Int.ofNat (nat_lit 1152921504606846977))), ([(.wrap .u64 (.mul (.lit (Int.negSucc (nat_lit 0))) (.mul (.var (nat_lit 0)) (.var (nat_lit 1)))))], (Int.negSucc (nat_lit 0)))])
  (.leaf (.int .i64 [([], (Int.ofNat (nat_lit 1152921504606846977)))]))
  (.leaf (.int .i64 [([(.wrap .u64 (.mul (.lit (Int.negSucc (nat_lit 0))) (.mul (.var (nat_lit 0)) (.var (nat_lit 1)))))], (Int.negSucc (nat_lit 0)))])))))
  (.test (.le [([], (Int.ofNat (nat_lit 1))), ([(.var (nat_lit 1))], (Int.ofNat (nat_lit 1)))])
  (.test (.le [([], (Int.ofNat (nat_lit 1))), ([(.fdiv (.mul (.lit (Int.negSucc (nat_lit 0))) (.mul (.var (nat_lit 0)) (.var (nat_lit 1)))) (.lit (Int.ofNat (nat_lit 18446744073709551616))))], (Int.negSucc (nat_lit 0)))])
  (.leaf (.int .i64 [([], (Int.ofNat (nat_lit 1152921504606846977)))]))
  (.test (.le [([], (Int.ofNat (nat_lit 1152921504606846977))), ([(.wrap .u64 (.mul (.lit (Int.negSucc (nat_lit 0))) (.mul (.var (nat_lit 0)) (.var (nat_lit 1)))))], (Int.negSucc (nat_lit 0)))])
  (.leaf (.int .i64 [([], (Int.ofNat (nat_lit 1152921504606846977)))]))
  (.leaf (.int .i64 [([(.wrap .u64 (.mul (.lit (Int.negSucc (nat_lit 0))) (.mul (.var (nat_lit 0)) (.var (nat_lit 1)))))], (Int.negSucc (nat_lit 0)))]))))
  (.test (.le [([], (Int.ofNat (nat_lit 1))), ([(.fdiv (.mul (.var (nat_lit 0)) (.var (nat_lit 1))) (.lit (Int.ofNat (nat_lit 18446744073709551616))))], (Int.negSucc (nat_lit 0)))])
  (.leaf (.int .i64 [([], (Int.ofNat (nat_lit 1152921504606846977)))]))
  (.test (.le [([], (Int.ofNat (nat_lit 1152921504606846977))), ([(.wrap .u64 (.mul (.var (nat_lit 0)) (.var (nat_lit 1))))], (Int.negSucc (nat_lit 0)))])
  (.leaf (.int .i64 [([], (Int.ofNat (nat_lit 1152921504606846977)))]))
  (.leaf (.int .i64 [([(.wrap .u64 (.mul (.var (nat_lit 0)) (.var (nat_lit 1))))], (Int.ofNat (nat_lit 1)))]))))))
theorem f57_prod60C0 : checkT Tryd.prog (xWith (xOf symX) f57_prod60R) (gxOf symG) (sumsOf sums48_mag) 10000 57 f57_prod60A f57_prod60T0 (facts0 f57_prod60K) = true := by kernel_rfl
def f57_prod60M : Summ := prod60S
theorem f57_prod60Ok : SumOk Tryd.prog (xOf symX) (gxOf symG) 57 f57_prod60M := Exch.ok (sumOk_of (m := ⟨f57_prod60A, f57_prod60K, f57_prod60T0, f57_prod60R, []⟩) symMixed symClosed sums48_magOk f57_prod60C0) (prod60S_exch)
def sums57_prod60 : List (Nat × Summ) := (57, f57_prod60M) :: sums48_mag
theorem sums57_prod60Ok : ∀ g, ∀ m ∈ sumsOf sums57_prod60 g, SumOk Tryd.prog (xOf symX) (gxOf symG) g m := sumsOf_ok f57_prod60Ok sums48_magOk
def f47A : List SV := [(.int .u64 [([(.var (nat_lit 0))], (Int.ofNat (nat_lit 1)))])]
def f47K : List Iv := [ivT .u64]
def f47R : List (List SV) := []
def f47T0 : STree := (.leaf (.agg [(.int .u64 [([(.fdiv (.mul (.var (nat_lit 0)) (.var (nat_lit 0))) (.lit (Int.ofNat (nat_lit 18446744073709551616))))], (Int.ofNat (nat_lit 1)))]), (.int .u64 [([(.wrap .u64 (.mul (.var (nat_lit 0)) (.var (nat_lit 0))))], (Int.ofNat (nat_lit 1)))])]))
theorem f47C0 : checkT Tryd.prog (xWith (xOf symX) f47R) (gxOf symG) (sumsOf sums57_prod60) 10000 47 f47A f47T0 (facts0 f47K) = true := by kernel_rfl
def f47M : Summ := ⟨f47A, f47K, f47T0, f47R, []⟩
theorem f47Ok : SumOk Tryd.prog (xOf symX) (gxOf symG) 47 f47M := sumOk_of symMixed symClosed sums57_prod60Ok f47C0
def sums47 : List (Nat × Summ) := (47, f47M) :: sums57_prod60
theorem sums47Ok : ∀ g, ∀ m ∈ sumsOf sums47 g, SumOk Tryd.prog (xOf symX) (gxOf symG) g m := sumsOf_ok f47Ok sums57_prod60Ok
def f49A : List SV := [(.agg [(.int .u64 [([(.var (nat_lit 0))], (Int.ofNat (nat_lit 1)))]), (.int .u64 [([(.var (nat_lit 1))], (Int.ofNat (nat_lit 1)))])])]
def f49K : List Iv := [ivT .u64, ivT .u64]
def f49R : List (List SV) := []
def f49T0 : STree := (.leaf (.agg [(.int .u64 [([(.wrap .u64 (.add (.wrap .u64 (.mul (.lit (Int.ofNat (nat_lit 3))) (.var (nat_lit 0)))) (.fdiv (.mul (.lit (Int.ofNat (nat_lit 3))) (.var (nat_lit 1))) (.lit (Int.ofNat (nat_lit 18446744073709551616))))))], (Int.ofNat (nat_lit 1)))]), (.int .u64 [([(.wrap .u64 (.mul (.lit (Int.ofNat (nat_lit 3))) (.var (nat_lit 1))))], (Int.ofNat (nat_lit 1)))])]))
theorem f49C0 : checkT Tryd.prog (xWith (xOf symX) f49R) (gxOf symG) (sumsOf sums47) 10000 49 f49A f49T0 (facts0 f49K) = true := by kernel_rfl
def f49M : Summ := ⟨f49A, f49K, f49T0, f49R, []⟩
theorem f49Ok : SumOk Tryd.prog (xOf symX) (gxOf symG) 49 f49M := sumOk_of symMixed symClosed sums47Ok f49C0
def sums49 : List (Nat × Summ) := (49, f49M) :: sums47
theorem sums49Ok : ∀ g, ∀ m ∈ sumsOf sums49 g, SumOk Tryd.prog (xOf symX) (gxOf symG) g m := sumsOf_ok f49Ok sums47Ok
def f45A : List SV := [(.int .i64 [([(.var (nat_lit 0))], (Int.ofNat (nat_lit 1)))]), (.int .i64 [([(.var (nat_lit 1))], (Int.ofNat (nat_lit 1)))])]
def f45K : List Iv := [ivT .i64, ivT .i64]
def f45R : List (List SV) := []
def f45T0 : STree := (.test (.le [([], (Int.ofNat (nat_lit 1))), ([(.var (nat_lit 0))], (Int.ofNat (nat_lit 1))), ([(.var (nat_lit 1))], (Int.negSucc (nat_lit 0)))])
  (.leaf (.int .i64 [([], (Int.negSucc (nat_lit 0)))]))
  (.test (.le [([], (Int.ofNat (nat_lit 1))), ([(.var (nat_lit 0))], (Int.negSucc (nat_lit 0))), ([(.var (nat_lit 1))], (Int.ofNat (nat_lit 1)))])
  (.leaf (.int .i64 [([], (Int.ofNat (nat_lit 1)))]))
  (.leaf (.int .i64 []))))
theorem f45C0 : checkT Tryd.prog (xWith (xOf symX) f45R) (gxOf symG) (sumsOf sums49) 10000 45 f45A f45T0 (facts0 f45K) = true := by kernel_rfl
def f45M : Summ := ⟨f45A, f45K, f45T0, f45R, []⟩
theorem f45Ok : SumOk Tryd.prog (xOf symX) (gxOf symG) 45 f45M := sumOk_of symMixed symClosed sums49Ok f45C0
def sums45 : List (Nat × Summ) := (45, f45M) :: sums49
theorem sums45Ok : ∀ g, ∀ m ∈ sumsOf sums45 g, SumOk Tryd.prog (xOf symX) (gxOf symG) g m := sumsOf_ok f45Ok sums49Ok
def f76A : List SV := [(.int .u64 [([(.var (nat_lit 0))], (Int.ofNat (nat_lit 1)))]), (.int .u64 [([(.var (nat_lit 1))], (Int.ofNat (nat_lit 1)))])]
def f76K : List Iv := [ivT .u64, ivT .u64]
def f76R : List (List SV) := []
def f76T0 : STree := (.test (.le [([], (Int.ofNat (nat_lit 1))), ([(.var (nat_lit 0))], (Int.ofNat (nat_lit 1))), ([(.var (nat_lit 1))], (Int.negSucc (nat_lit 0)))])
  (.leaf (.int .i64 [([], (Int.negSucc (nat_lit 0)))]))
  (.test (.le [([], (Int.ofNat (nat_lit 1))), ([(.var (nat_lit 0))], (Int.negSucc (nat_lit 0))), ([(.var (nat_lit 1))], (Int.ofNat (nat_lit 1)))])
  (.leaf (.int .i64 [([], (Int.ofNat (nat_lit 1)))]))
  (.leaf (.int .i64 []))))
theorem f76C0 : checkT Tryd.prog (xWith (xOf symX) f76R) (gxOf symG) (sumsOf sums45) 10000 76 f76A f76T0 (facts0 f76K) = true := by kernel_rfl
def f76M : Summ := ⟨f76A, f76K, f76T0, f76R, []⟩
theorem f76Ok : SumOk Tryd.prog (xOf symX) (gxOf symG) 76 f76M := sumOk_of symMixed symClosed sums45Ok f76C0
def sums76 : List (Nat × Summ) := (76, f76M) :: sums45
theorem sums76Ok : ∀ g, ∀ m ∈ sumsOf sums76 g, SumOk Tryd.prog (xOf symX) (gxOf symG) g m := sumsOf_ok f76Ok sums45Ok
def f46A : List SV := [(.agg [(.int .u64 [([(.var (nat_lit 0))], (Int.ofNat (nat_lit 1)))]), (.int .u64 [([(.var (nat_lit 1))], (Int.ofNat (nat_lit 1)))])]), (.agg [(.int .u64 [([(.var (nat_lit 2))], (Int.ofNat (nat_lit 1)))]), (.int .u64 [([(.var (nat_lit 3))], (Int.ofNat (nat_lit 1)))])])]
def f46K : List Iv := [ivT .u64, ivT .u64, ivT .u64, ivT .u64]
def f46R : List (List SV) := []
def f46T0 : STree := (.test (.le [([], (Int.ofNat (nat_lit 1))), ([(.var (nat_lit 0))], (Int.ofNat (nat_lit 1))), ([(.var (nat_lit 2))], (Int.negSucc (nat_lit 0)))])
  (.leaf (.int .i64 [([], (Int.negSucc (nat_lit 0)))]))
  (.test (.le [([], (Int.ofNat (nat_lit 1))), ([(.var (nat_lit 0))], (Int.negSucc (nat_lit 0))), ([(.var (nat_lit 2))], (Int.ofNat (nat_lit 1)))])
  (.leaf (.int .i64 [([], (Int.ofNat (nat_lit 1)))]))
  (.test (.le [([], (Int.ofNat (nat_lit 1))), ([(.var (nat_lit 1))], (Int.ofNat (nat_lit 1))), ([(.var (nat_lit 3))], (Int.negSucc (nat_lit 0)))])
  (.leaf (.int .i64 [([], (Int.negSucc (nat_lit 0)))]))
  (.test (.le [([], (Int.ofNat (nat_lit 1))), ([(.var (nat_lit 1))], (Int.negSucc (nat_lit 0))), ([(.var (nat_lit 3))], (Int.ofNat (nat_lit 1)))])
  (.leaf (.int .i64 [([], (Int.ofNat (nat_lit 1)))]))
  (.leaf (.int .i64 []))))))
theorem f46C0 : checkT Tryd.prog (xWith (xOf symX) f46R) (gxOf symG) (sumsOf sums76) 10000 46 f46A f46T0 (facts0 f46K) = true := by kernel_rfl
def f46M : Summ := ⟨f46A, f46K, f46T0, f46R, []⟩
theorem f46Ok : SumOk Tryd.prog (xOf symX) (gxOf symG) 46 f46M := sumOk_of symMixed symClosed sums76Ok f46C0
def sums46 : List (Nat × Summ) := (46, f46M) :: sums76
theorem sums46Ok : ∀ g, ∀ m ∈ sumsOf sums46 g, SumOk Tryd.prog (xOf symX) (gxOf symG) g m := sumsOf_ok f46Ok sums76Ok
def f11_sgnA : List SV := [(.agg [(.int .i64 [([(.var (nat_lit 0))], (Int.ofNat (nat_lit 1)))]), (.int .i64 [([(.var (nat_lit 1))], (Int.ofNat (nat_lit 1)))])])]
def f11_sgnK : List Iv := [ivT .i64, ivT .i64]
def f11_sgnR : List (List SV) := []
def f11_sgnT0 : STree := (.test (.le [([], (Int.ofNat (nat_lit 1))), ([(.var (nat_lit 0))], (Int.ofNat (nat_lit 1)))])
  (.test (.le [([], (Int.ofNat (nat_lit 1))), ([(.var (nat_lit 1))], (Int.ofNat (nat_lit 1)))])
  (.leaf (.int .i64 [([], (Int.negSucc (nat_lit 0)))]))
  (.test (.le [([], (Int.ofNat (nat_lit 1))), ([(.var (nat_lit 1))], (Int.negSucc (nat_lit 0)))])
  (.test (.le [([], (Int.ofNat (nat_lit 1))), ([(.fdiv (.mul (.lit (Int.ofNat (nat_lit 3))) (.wrap .u64 (.mul (.var (nat_lit 1)) (.var (nat_lit 1))))) (.lit (Int.ofNat (nat_lit 18446744073709551616))))], (Int.negSucc (nat_lit 0))), ([(.fdiv (.mul (.var (nat_lit 0)) (.var (nat_lit 0))) (.lit (Int.ofNat (nat_lit 18446744073709551616))))], (Int.ofNat (nat_lit 1))), ([(.fdiv (.mul (.var (nat_lit 1)) (.var (nat_lit 1))) (.lit (Int.ofNat (nat_lit 18446744073709551616))))], (Int.negSucc (nat_lit 2)))])
  (.leaf (.int .i64 [([], (Int.ofNat (nat_lit 1)))]))
  (.test (.le [([], (Int.ofNat (nat_lit 1))), ([(.fdiv (.mul (.lit (Int.ofNat (nat_lit 3))) (.wrap .u64 (.mul (.var (nat_lit 1)) (.var (nat_lit 1))))) (.lit (Int.ofNat (nat_lit 18446744073709551616))))], (Int.ofNat (nat_lit 1))), ([(.fdiv (.mul (.var (nat_lit 0)) (.var (nat_lit 0))) (.lit (Int.ofNat (nat_lit 18446744073709551616))))], (Int.negSucc (nat_lit 0))), ([(.fdiv (.mul (.var (nat_lit 1)) (.var (nat_lit 1))) (.lit (Int.ofNat (nat_lit 18446744073709551616))))], (Int.ofNat (nat_lit 3)))])
  (.leaf (.int .i64 [([], (Int.negSucc (nat_lit 0)))]))
  (.test (.le [([], (Int.ofNat (nat_lit 1))), ([(.wrap .u64 (.mul (.lit (Int.ofNat (nat_lit 3))) (.wrap .u64 (.mul (.var (nat_lit 1)) (.var (nat_lit 1))))))], (Int.negSucc (nat_lit 0))), ([(.wrap .u64 (.mul (.var (nat_lit 0)) (.var (nat_lit 0))))], (Int.ofNat (nat_lit 1)))])
  (.leaf (.int .i64 [([], (Int.ofNat (nat_lit 1)))]))
  (.test (.le [([], (Int.ofNat (nat_lit 1))), ([(.wrap .u64 (.mul (.lit (Int.ofNat (nat_lit 3))) (.wrap .u64 (.mul (.var (nat_lit 1)) (.var (nat_lit 1))))))], (Int.ofNat (nat_lit 1))), ([(.wrap .u64 (.mul (.var (nat_lit 0)) (.var (nat_lit 0))))], (Int.negSucc (nat_lit 0)))])
  (.leaf (.int .i64 [([], (Int.negSucc (nat_lit 0)))]))
  (.leaf (.int .i64 []))))))
  (.leaf (.int .i64 [([], (Int.negSucc (nat_lit 0)))]))))
  (.test (.le [([], (Int.ofNat (nat_lit 1))), ([(.var (nat_lit 0))], (Int.negSucc (nat_lit 0)))])
  (.test (.le [([], (Int.ofNat (nat_lit 1))), ([(.var (nat_lit 1))], (Int.ofNat (nat_lit 1)))])
  (.test (.le [([], (Int.ofNat (nat_lit 1))), ([(.fdiv (.mul (.lit (Int.ofNat (nat_lit 3))) (.wrap .u64 (.mul (.var (nat_lit 1)) (.var (nat_lit 1))))) (.lit (Int.ofNat (nat_lit 18446744073709551616))))], (Int.negSucc (nat_lit 0))), ([(.fdiv (.mul (.var (nat_lit 0)) (.var (nat_lit 0))) (.lit (Int.ofNat (nat_lit 18446744073709551616))))], (Int.ofNat (nat_lit 1))), ([(.fdiv (.mul (.var (nat_lit 1)) (.var (nat_lit 1))) (.lit (Int.ofNat (nat_lit 18446744073709551616))))], (Int.negSucc (nat_lit 2)))])
  (.leaf (.int .i64 [([], (Int.negSucc (nat_lit 0)))]))
  (.test (.le [([], (Int.ofNat (nat_lit 1))), ([(.fdiv (.mul (.lit (Int.ofNat (nat_lit 3))) (.wrap .u64 (.mul (.var (nat_lit 1)) (.var (nat_lit 1))))) (.lit (Int.ofNat (nat_lit 18446744073709551616))))], (Int.ofNat (nat_lit 1))), ([(.fdiv (.mul (.var (nat_lit 0)) (.var (nat_lit 0))) (.lit (Int.ofNat (nat_lit 18446744073709551616))))], (Int.negSucc (nat_lit 0))), ([(.fdiv (.mul (.var (nat_lit 1)) (.var (nat_lit 1))) (.lit (Int.ofNat (nat_lit 18446744073709551616))))], (Int.ofNat (nat_lit 3)))])
  (.leaf (.int .i64 [([], (Int.ofNat (nat_lit 1)))]))
  (.test (.le [([], (Int.ofNat (nat_lit 1))), ([(.wrap .u64 (.mul (.lit (Int.ofNat (nat_lit 3))) (.wrap .u64 (.mul (.var (nat_lit 1)) (.var (nat_lit 1))))))], (Int.negSucc (nat_lit 0))), ([(.wrap .u64 (.mul (.var (nat_lit 0)) (.var (nat_lit 0))))], (Int.ofNat (nat_lit 1)))])
  (.leaf (.int .i64 [([], (Int.negSucc (nat_lit 0)))]))
  (.test (.le [([], (Int.ofNat (nat_lit 1))), ([(.wrap .u64 (.mul (.lit (Int.ofNat (nat_lit 3))) (.wrap .u64 (.mul (.var (nat_lit 1)) (.var (nat_lit 1))))))], (Int.ofNat (nat_lit 1))), ([(.wrap .u64 (.mul (.var (nat_lit 0)) (.var (nat_lit 0))))], (Int.negSucc (nat_lit 0)))])
  (.leaf (.int .i64 [([], (Int.ofNat (nat_lit 1)))]))
  (.leaf (.int .i64 []))))))
  (.test (.le [([], (Int.ofNat (nat_lit 1))), ([(.var (nat_lit 1))], (Int.negSucc (nat_lit 0)))])
  (.leaf (.int .i64 [([], (Int.ofNat (nat_lit 1)))]))
  (.leaf (.int .i64 [([], (Int.ofNat (nat_lit 1)))]))))
  (.test (.le [([], (Int.ofNat (nat_lit 1))), ([(.var (nat_lit 1))], (Int.ofNat (nat_lit 1)))])
  (.leaf (.int .i64 [([], (Int.negSucc (nat_lit 0)))]))
  (.test (.le [([], (Int.ofNat (nat_lit 1))), ([(.var (nat_lit 1))], (Int.negSucc (nat_lit 0)))])
  (.leaf (.int .i64 [([], (Int.ofNat (nat_lit 1)))]))
  (.leaf (.int .i64 []))))))
theorem f11_sgnC0 : checkT Tryd.prog (xWith (xOf symX) f11_sgnR) (gxOf symG) (sumsOf sums46) 10000 11 f11_sgnA f11_sgnT0 (facts0 f11_sgnK) = true := by kernel_rfl
def f11_sgnM : Summ := sgnS
theorem f11_sgnOk : SumOk Tryd.prog (xOf symX) (gxOf symG) 11 f11_sgnM := Exch.ok (sumOk_of (m := ⟨f11_sgnA, f11_sgnK, f11_sgnT0, f11_sgnR, []⟩) symMixed symClosed sums46Ok f11_sgnC0) (sgnS_exch)
def sums11_sgn : List (Nat × Summ) := (11, f11_sgnM) :: sums46
theorem sums11_sgnOk : ∀ g, ∀ m ∈ sumsOf sums11_sgn g, SumOk Tryd.prog (xOf symX) (gxOf symG) g m := sumsOf_ok f11_sgnOk sums46Ok
def f52A : List SV := [(.agg [(.int .i64 [([(.var (nat_lit 0))], (Int.ofNat (nat_lit 1)))]), (.int .i64 [([(.var (nat_lit 1))], (Int.ofNat (nat_lit 1)))])]), (.int .i64 [([(.var (nat_lit 2))], (Int.ofNat (nat_lit 1)))])]
def f52K : List Iv := [ivT .i64, ivT .i64, ivT .i64]
def f52R : List (List SV) := []
def f52T0 : STree := (.test (.le [([], (Int.ofNat (nat_lit 1))), ([(.var (nat_lit 0))], (Int.ofNat (nat_lit 1))), ([(.wrap .i64 (.mul (.lit (Int.negSucc (nat_lit 0))) (.var (nat_lit 2))))], (Int.negSucc (nat_lit 0)))])
  (.leaf (.bool false))
  (.test (.le [([], (Int.ofNat (nat_lit 1))), ([(.var (nat_lit 0))], (Int.negSucc (nat_lit 0))), ([(.var (nat_lit 2))], (Int.ofNat (nat_lit 1)))])
  (.leaf (.bool false))
  (.test (.le [([], (Int.ofNat (nat_lit 1))), ([(.var (nat_lit 1))], (Int.ofNat (nat_lit 1))), ([(.wrap .i64 (.mul (.lit (Int.negSucc (nat_lit 0))) (.var (nat_lit 2))))], (Int.negSucc (nat_lit 0)))])
  (.leaf (.bool false))
  (.test (.le [([], (Int.ofNat (nat_lit 1))), ([(.var (nat_lit 1))], (Int.negSucc (nat_lit 0))), ([(.var (nat_lit 2))], (Int.ofNat (nat_lit 1)))])
  (.leaf (.bool false))
  (.leaf (.bool true))))))
theorem f52C0 : checkT Tryd.prog (xWith (xOf symX) f52R) (gxOf symG) (sumsOf sums11_sgn) 10000 52 f52A f52T0 (facts0 f52K) = true := by kernel_rfl
def f52M : Summ := ⟨f52A, f52K, f52T0, f52R, []⟩
theorem f52Ok : SumOk Tryd.prog (xOf symX) (gxOf symG) 52 f52M := sumOk_of symMixed symClosed sums11_sgnOk f52C0
def sums52 : List (Nat × Summ) := (52, f52M) :: sums11_sgn
theorem sums52Ok : ∀ g, ∀ m ∈ sumsOf sums52 g, SumOk Tryd.prog (xOf symX) (gxOf symG) g m := sumsOf_ok f52Ok sums11_sgnOk
def f53A : List SV := [(.int .i64 [([(.var (nat_lit 0))], (Int.ofNat (nat_lit 1)))]), (.int .i64 [([(.var (nat_lit 1))], (Int.ofNat (nat_lit 1)))])]
def f53K : List Iv := [ivT .i64, ivT .i64]
def f53R : List (List SV) := []
def f53T0 : STree := (.test (.le [([], (Int.ofNat (nat_lit 1152921504606846977))), ([(.var (nat_lit 0))], (Int.ofNat (nat_lit 1)))])
  (.leaf (.tuple [(.agg [(.int .i64 []), (.int .i64 [])]), (.int .i64 [([], (Int.ofNat (nat_lit 2)))])]))
  (.test (.le [([], (Int.ofNat (nat_lit 1152921504606846977))), ([(.var (nat_lit 0))], (Int.negSucc (nat_lit 0)))])
  (.leaf (.tuple [(.agg [(.int .i64 []), (.int .i64 [])]), (.int .i64 [([], (Int.ofNat (nat_lit 2)))])]))
  (.test (.le [([], (Int.ofNat (nat_lit 1152921504606846977))), ([(.var (nat_lit 1))], (Int.ofNat (nat_lit 1)))])
  (.leaf (.tuple [(.agg [(.int .i64 []), (.int .i64 [])]), (.int .i64 [([], (Int.ofNat (nat_lit 2)))])]))
  (.test (.le [([], (Int.ofNat (nat_lit 1152921504606846977))), ([(.var (nat_lit 1))], (Int.negSucc (nat_lit 0)))])
  (.leaf (.tuple [(.agg [(.int .i64 []), (.int .i64 [])]), (.int .i64 [([], (Int.ofNat (nat_lit 2)))])]))
  (.leaf (.tuple [(.agg [(.int .i64 [([(.var (nat_lit 0))], (Int.ofNat (nat_lit 1)))]), (.int .i64 [([(.var (nat_lit 1))], (Int.ofNat (nat_lit 1)))])]), (.int .i64 [])]))))))
theorem f53C0 : checkT Tryd.prog (xWith (xOf symX) f53R) (gxOf symG) (sumsOf sums52) 10000 53 f53A f53T0 (facts0 f53K) = true := by kernel_rfl
def f53M : Summ := ⟨f53A, f53K, f53T0, f53R, []⟩
theorem f53Ok : SumOk Tryd.prog (xOf symX) (gxOf symG) 53 f53M := sumOk_of symMixed symClosed sums52Ok f53C0
def sums53 : List (Nat × Summ) := (53, f53M) :: sums52
theorem sums53Ok : ∀ g, ∀ m ∈ sumsOf sums53 g, SumOk Tryd.prog (xOf symX) (gxOf symG) g m := sumsOf_ok f53Ok sums52Ok
def f18A : List SV := [(.agg [(.int .i64 [([(.var (nat_lit 0))], (Int.ofNat (nat_lit 1)))]), (.int .i64 [([(.var (nat_lit 1))], (Int.ofNat (nat_lit 1)))])]), (.agg [(.int .i64 [([(.var (nat_lit 2))], (Int.ofNat (nat_lit 1)))]), (.int .i64 [([(.var (nat_lit 3))], (Int.ofNat (nat_lit 1)))])])]
def f18K : List Iv := [ivT .i64, ivT .i64, ivT .i64, ivT .i64]
def f18R : List (List SV) := []
def f18T0 : STree := (.test (.le [([], (Int.ofNat (nat_lit 1152921504606846977))), ([(.var (nat_lit 0))], (Int.ofNat (nat_lit 1)))])
  (.leaf (.tuple [(.int .i64 []), (.int .i64 [([], (Int.ofNat (nat_lit 1)))])]))
  (.test (.le [([], (Int.ofNat (nat_lit 1152921504606846977))), ([(.var (nat_lit 0))], (Int.negSucc (nat_lit 0)))])
  (.leaf (.tuple [(.int .i64 []), (.int .i64 [([], (Int.ofNat (nat_lit 1)))])]))
  (.test (.le [([], (Int.ofNat (nat_lit 1152921504606846977))), ([(.var (nat_lit 1))], (Int.ofNat (nat_lit 1)))])
  (.leaf (.tuple [(.int .i64 []), (.int .i64 [([], (Int.ofNat (nat_lit 1)))])]))
  (.test (.le [([], (Int.ofNat (nat_lit 1152921504606846977))), ([(.var (nat_lit 1))], (Int.negSucc (nat_lit 0)))])
  (.leaf (.tuple [(.int .i64 []), (.int .i64 [([], (Int.ofNat (nat_lit 1)))])]))
  (.test (.le [([], (Int.ofNat (nat_lit 1152921504606846977))), ([(.var (nat_lit 2))], (Int.ofNat (nat_lit 1)))])
  (.leaf (.tuple [(.int .i64 []), (.int .i64 [([], (Int.ofNat (nat_lit 1)))])]))
  (.test (.le [([], (Int.ofNat (nat_lit 1152921504606846977))), ([(.var (nat_lit 2))], (Int.negSucc (nat_lit 0)))])
  (.leaf (.tuple [(.int .i64 []), (.int .i64 [([], (Int.ofNat (nat_lit 1)))])]))
  (.test (.le [([], (Int.ofNat (nat_lit 1152921504606846977))), ([(.var (nat_lit 3))], (Int.ofNat (nat_lit 1)))])
  (.leaf (.tuple [(.int .i64 []), (.int .i64 [([], (Int.ofNat (nat_lit 1)))])]))
  (.test (.le [([], (Int.ofNat (nat_lit 1152921504606846977))), ([(.var (nat_lit 3))], (Int.negSucc (nat_lit 0)))])
  (.leaf (.tuple [(.int .i64 []), (.int .i64 [([], (Int.ofNat (nat_lit 1)))])]))
  (.leaf (.tuple [(.int .i64 [([(.app (nat_lit 0) (.add (.var (nat_lit 0)) (.mul (.lit (Int.negSucc (nat_lit 0))) (.var (nat_lit 2)))) (.add (.var (nat_lit 1)) (.mul (.lit (Int.negSucc (nat_lit 0))) (.var (nat_lit 3)))) (.lit (Int.ofNat (nat_lit 0))))], (Int.ofNat (nat_lit 1)))]), (.int .i64 [])]))))))))))
theorem f18C0 : checkT Tryd.prog (xWith (xOf symX) f18R) (gxOf symG) (sumsOf sums53) 10000 18 f18A f18T0 (facts0 f18K) = true := by kernel_rfl
def f18M : Summ := ⟨f18A, f18K, f18T0, f18R, []⟩
theorem f18Ok : SumOk Tryd.prog (xOf symX) (gxOf symG) 18 f18M := sumOk_of symMixed symClosed sums53Ok f18C0
def sums18 : List (Nat × Summ) := (18, f18M) :: sums53
theorem sums18Ok : ∀ g, ∀ m ∈ sumsOf sums18 g, SumOk Tryd.prog (xOf symX) (gxOf symG) g m := sumsOf_ok f18Ok sums53Ok
def f19A : List SV := [(.agg [(.int .i64 [([(.var (nat_lit 0))], (Int.ofNat (nat_lit 1)))]), (.int .i64 [([(.var (nat_lit 1))], (Int.ofNat (nat_lit 1)))])]), (.agg [(.int .i64 [([(.var (nat_lit 2))], (Int.ofNat (nat_lit 1)))]), (.int .i64 [([(.var (nat_lit 3))], (Int.ofNat (nat_lit 1)))])])]
def f19K : List Iv := [ivT .i64, ivT .i64, ivT .i64, ivT .i64]
def f19R : List (List SV) := []
def f19T0 : STree := (.test (.le [([], (Int.ofNat (nat_lit 1152921504606846977))), ([(.var (nat_lit 0))], (Int.ofNat (nat_lit 1)))])
  (.leaf (.tuple [(.agg [(.int .i64 []), (.int .i64 [])]), (.int .i64 [([], (Int.ofNat (nat_lit 1)))])]))
  (.test (.le [([], (Int.ofNat (nat_lit 1152921504606846977))), ([(.var (nat_lit 0))], (Int.negSucc (nat_lit 0)))])
  (.leaf (.tuple [(.agg [(.int .i64 []), (.int .i64 [])]), (.int .i64 [([], (Int.ofNat (nat_lit 1)))])]))
  (.test (.le [([], (Int.ofNat (nat_lit 1152921504606846977))), ([(.var (nat_lit 1))], (Int.ofNat (nat_lit 1)))])
  (.leaf (.tuple [(.agg [(.int .i64 []), (.int .i64 [])]), (.int .i64 [([], (Int.ofNat (nat_lit 1)))])]))
  (.test (.le [([], (Int.ofNat (nat_lit 1152921504606846977))), ([(.var (nat_lit 1))], (Int.negSucc (nat_lit 0)))])
  (.leaf (.tuple [(.agg [(.int .i64 []), (.int .i64 [])]), (.int .i64 [([], (Int.ofNat (nat_lit 1)))])]))
  (.test (.le [([], (Int.ofNat (nat_lit 1152921504606846977))), ([(.var (nat_lit 2))], (Int.ofNat (nat_lit 1)))])
  (.leaf (.tuple [(.agg [(.int .i64 []), (.int .i64 [])]), (.int .i64 [([], (Int.ofNat (nat_lit 1)))])]))
  (.test (.le [([], (Int.ofNat (nat_lit 1152921504606846977))), ([(.var (nat_lit 2))], (Int.negSucc (nat_lit 0)))])
  (.leaf (.tuple [(.agg [(.int .i64 []), (.int .i64 [])]), (.int .i64 [([], (Int.ofNat (nat_lit 1)))])]))
  (.test (.le [([], (Int.ofNat (nat_lit 1152921504606846977))), ([(.var (nat_lit 3))], (Int.ofNat (nat_lit 1)))])
  (.leaf (.tuple [(.agg [(.int .i64 []), (.int .i64 [])]), (.int .i64 [([], (Int.ofNat (nat_lit 1)))])]))
  (.test (.le [([], (Int.ofNat (nat_lit 1152921504606846977))), ([(.var (nat_lit 3))], (Int.negSucc (nat_lit 0)))])
  (.leaf (.tuple [(.agg [(.int .i64 []), (.int .i64 [])]), (.int .i64 [([], (Int.ofNat (nat_lit 1)))])]))
  (.test (.le [([], (Int.ofNat (nat_lit 1152921504606846977))), ([(.var (nat_lit 0))], (Int.ofNat (nat_lit 1))), ([(.var (nat_lit 2))], (Int.ofNat (nat_lit 1)))])
  (.leaf (.tuple [(.agg [(.int .i64 []), (.int .i64 [])]), (.int .i64 [([], (Int.ofNat (nat_lit 2)))])]))
  (.test (.le [([], (Int.ofNat (nat_lit 1152921504606846977))), ([(.var (nat_lit 0))], (Int.negSucc (nat_lit 0))), ([(.var (nat_lit 2))], (Int.negSucc (nat_lit 0)))])
  (.leaf (.tuple [(.agg [(.int .i64 []), (.int .i64 [])]), (.int .i64 [([], (Int.ofNat (nat_lit 2)))])]))
  (.test (.le [([], (Int.ofNat (nat_lit 1152921504606846977))), ([(.var (nat_lit 1))], (Int.ofNat (nat_lit 1))), ([(.var (nat_lit 3))], (Int.ofNat (nat_lit 1)))])
  (.leaf (.tuple [(.agg [(.int .i64 []), (.int .i64 [])]), (.int .i64 [([], (Int.ofNat (nat_lit 2)))])]))
  (.test (.le [([], (Int.ofNat (nat_lit 1152921504606846977))), ([(.var (nat_lit 1))], (Int.negSucc (nat_lit 0))), ([(.var (nat_lit 3))], (Int.negSucc (nat_lit 0)))])
  (.leaf (.tuple [(.agg [(.int .i64 []), (.int .i64 [])]), (.int .i64 [([], (Int.ofNat (nat_lit 2)))])]))
  (.leaf (.tuple [(.agg [(.int .i64 [([(.var (nat_lit 0))], (Int.ofNat (nat_lit 1))), ([(.var (nat_lit 2))], (Int.ofNat (nat_lit 1)))]), (.int .i64 [([(.var (nat_lit 1))], (Int.ofNat (nat_lit 1))), ([(.var (nat_lit 3))], (Int.ofNat (nat_lit 1)))])]), (.int .i64 [])]))))))))))))))
theorem f19C0 : checkT Tryd.prog (xWith (xOf symX) f19R) (gxOf symG) (sumsOf sums18) 10000 19 f19A f19T0 (facts0 f19K) = true := by kernel_rfl
def f19M : Summ := ⟨f19A, f19K, f19T0, f19R, []⟩
theorem f19Ok : SumOk Tryd.prog (xOf symX) (gxOf symG) 19 f19M := sumOk_of symMixed symClosed sums18Ok f19C0
def sums19 : List (Nat × Summ) := (19, f19M) :: sums18
theorem sums19Ok : ∀ g, ∀ m ∈ sumsOf sums19 g, SumOk Tryd.prog (xOf symX) (gxOf symG) g m := sumsOf_ok f19Ok sums18Ok
def f22A : List SV := [(.agg [(.int .i64 [([(.var (nat_lit 0))], (Int.ofNat (nat_lit 1)))]), (.int .i64 [([(.var (nat_lit 1))], (Int.ofNat (nat_lit 1)))])]), (.agg [(.int .i64 [([(.var (nat_lit 2))], (Int.ofNat (nat_lit 1)))]), (.int .i64 [([(.var (nat_lit 3))], (Int.ofNat (nat_lit 1)))])])]
def f22K : List Iv := [ivT .i64, ivT .i64, ivT .i64, ivT .i64]
def f22R : List (List SV) := []
def f22T0 : STree := (.test (.le [([], (Int.ofNat (nat_lit 1152921504606846977))), ([(.var (nat_lit 0))], (Int.ofNat (nat_lit 1)))])
  (.leaf (.tuple [(.agg [(.int .i64 []), (.int .i64 [])]), (.int .i64 [([], (Int.ofNat (nat_lit 1)))])]))
  (.test (.le [([], (Int.ofNat (nat_lit 1152921504606846977))), ([(.var (nat_lit 0))], (Int.negSucc (nat_lit 0)))])
  (.leaf (.tuple [(.agg [(.int .i64 []), (.int .i64 [])]), (.int .i64 [([], (Int.ofNat (nat_lit 1)))])]))
  (.test (.le [([], (Int.ofNat (nat_lit 1152921504606846977))), ([(.var (nat_lit 1))], (Int.ofNat (nat_lit 1)))])
  (.leaf (.tuple [(.agg [(.int .i64 []), (.int .i64 [])]), (.int .i64 [([], (Int.ofNat (nat_lit 1)))])]))
  (.test (.le [([], (Int.ofNat (nat_lit 1152921504606846977))), ([(.var (nat_lit 1))], (Int.negSucc (nat_lit 0)))])
  (.leaf (.tuple [(.agg [(.int .i64 []), (.int .i64 [])]), (.int .i64 [([], (Int.ofNat (nat_lit 1)))])]))
  (.test (.le [([], (Int.ofNat (nat_lit 1152921504606846977))), ([(.var (nat_lit 2))], (Int.ofNat (nat_lit 1)))])
  (.leaf (.tuple [(.agg [(.int .i64 []), (.int .i64 [])]), (.int .i64 [([], (Int.ofNat (nat_lit 1)))])]))
  (.test (.le [([], (Int.ofNat (nat_lit 1152921504606846977))), ([(.var (nat_lit 2))], (Int.negSucc (nat_lit 0)))])
  (.leaf (.tuple [(.agg [(.int .i64 []), (.int .i64 [])]), (.int .i64 [([], (Int.ofNat (nat_lit 1)))])]))
  (.test (.le [([], (Int.ofNat (nat_lit 1152921504606846977))), ([(.var (nat_lit 3))], (Int.ofNat (nat_lit 1)))])
  (.leaf (.tuple [(.agg [(.int .i64 []), (.int .i64 [])]), (.int .i64 [([], (Int.ofNat (nat_lit 1)))])]))
  (.test (.le [([], (Int.ofNat (nat_lit 1152921504606846977))), ([(.var (nat_lit 3))], (Int.negSucc (nat_lit 0)))])
  (.leaf (.tuple [(.agg [(.int .i64 []), (.int .i64 [])]), (.int .i64 [([], (Int.ofNat (nat_lit 1)))])]))
  (.test (.le [([], (Int.ofNat (nat_lit 1152921504606846977))), ([(.var (nat_lit 0))], (Int.ofNat (nat_lit 1))), ([(.var (nat_lit 2))], (Int.negSucc (nat_lit 0)))])
  (.leaf (.tuple [(.agg [(.int .i64 []), (.int .i64 [])]), (.int .i64 [([], (Int.ofNat (nat_lit 2)))])]))
  (.test (.le [([], (Int.ofNat (nat_lit 1152921504606846977))), ([(.var (nat_lit 0))], (Int.negSucc (nat_lit 0))), ([(.var (nat_lit 2))], (Int.ofNat (nat_lit 1)))])
  (.leaf (.tuple [(.agg [(.int .i64 []), (.int .i64 [])]), (.int .i64 [([], (Int.ofNat (nat_lit 2)))])]))
  (.test (.le [([], (Int.ofNat (nat_lit 1152921504606846977))), ([(.var (nat_lit 1))], (Int.ofNat (nat_lit 1))), ([(.var (nat_lit 3))], (Int.negSucc (nat_lit 0)))])
  (.leaf (.tuple [(.agg [(.int .i64 []), (.int .i64 [])]), (.int .i64 [([], (Int.ofNat (nat_lit 2)))])]))
  (.test (.le [([], (Int.ofNat (nat_lit 1152921504606846977))), ([(.var (nat_lit 1))], (Int.negSucc (nat_lit 0))), ([(.var (nat_lit 3))], (Int.ofNat (nat_lit 1)))])
  (.leaf (.tuple [(.agg [(.int .i64 []), (.int .i64 [])]), (.int .i64 [([], (Int.ofNat (nat_lit 2)))])]))
  (.leaf (.tuple [(.agg [(.int .i64 [([(.var (nat_lit 0))], (Int.ofNat (nat_lit 1))), ([(.var (nat_lit 2))], (Int.negSucc (nat_lit 0)))]), (.int .i64 [([(.var (nat_lit 1))], (Int.ofNat (nat_lit 1))), ([(.var (nat_lit 3))], (Int.negSucc (nat_lit 0)))])]), (.int .i64 [])]))))))))))))))
theorem f22C0 : checkT Tryd.prog (xWith (xOf symX) f22R) (gxOf symG) (sumsOf sums19) 10000 22 f22A f22T0 (facts0 f22K) = true := by kernel_rfl
def f22M : Summ := ⟨f22A, f22K, f22T0, f22R, []⟩
theorem f22Ok : SumOk Tryd.prog (xOf symX) (gxOf symG) 22 f22M := sumOk_of symMixed symClosed sums19Ok f22C0
def sums22 : List (Nat × Summ) := (22, f22M) :: sums19
theorem sums22Ok : ∀ g, ∀ m ∈ sumsOf sums22 g, SumOk Tryd.prog (xOf symX) (gxOf symG) g m := sumsOf_ok f22Ok sums19Ok
def f24A : List SV := [(.agg [(.int .i64 [([(.var (nat_lit 0))], (Int.ofNat (nat_lit 1)))]), (.int .i64 [([(.var (nat_lit 1))], (Int.ofNat (nat_lit 1)))])]), (.int .i64 [([(.var (nat_lit 2))], (Int.ofNat (nat_lit 1)))])]
def f24K : List Iv := [ivT .i64, ivT .i64, ivT .i64]
def f24R : List (List SV) := []
def f24T0 : STree := (.test (.le [([], (Int.ofNat (nat_lit 1152921504606846977))), ([(.var (nat_lit 0))], (Int.ofNat (nat_lit 1)))])
  (.leaf (.tuple [(.agg [(.int .i64 []), (.int .i64 [])]), (.int .i64 [([], (Int.ofNat (nat_lit 1)))])]))
  (.test (.le [([], (Int.ofNat (nat_lit 1152921504606846977))), ([(.var (nat_lit 0))], (Int.negSucc (nat_lit 0)))])
  (.leaf (.tuple [(.agg [(.int .i64 []), (.int .i64 [])]), (.int .i64 [([], (Int.ofNat (nat_lit 1)))])]))
  (.test (.le [([], (Int.ofNat (nat_lit 1152921504606846977))), ([(.var (nat_lit 1))], (Int.ofNat (nat_lit 1)))])
  (.leaf (.tuple [(.agg [(.int .i64 []), (.int .i64 [])]), (.int .i64 [([], (Int.ofNat (nat_lit 1)))])]))
  (.test (.le [([], (Int.ofNat (nat_lit 1152921504606846977))), ([(.var (nat_lit 1))], (Int.negSucc (nat_lit 0)))])
  (.leaf (.tuple [(.agg [(.int .i64 []), (.int .i64 [])]), (.int .i64 [([], (Int.ofNat (nat_lit 1)))])]))
  (.test (.le [([], (Int.ofNat (nat_lit 1152921504606846977))), ([(.var (nat_lit 2))], (Int.ofNat (nat_lit 1)))])
  (.leaf (.tuple [(.agg [(.int .i64 []), (.int .i64 [])]), (.int .i64 [([], (Int.ofNat (nat_lit 1)))])]))
  (.test (.le [([], (Int.ofNat (nat_lit 1152921504606846977))), ([(.var (nat_lit 2))], (Int.negSucc (nat_lit 0)))])
  (.leaf (.tuple [(.agg [(.int .i64 []), (.int .i64 [])]), (.int .i64 [([], (Int.ofNat (nat_lit 1)))])]))
  (.test (.le [([], (Int.negSucc (nat_lit 1152921504606846975))), ([(.var (nat_lit 0)), (.var (nat_lit 2))], (Int.ofNat (nat_lit 1)))])
  (.test (.le [([], (Int.negSucc (nat_lit 1152921504606846975))), ([(.var (nat_lit 0)), (.var (nat_lit 2))], (Int.negSucc (nat_lit 0)))])
  (.test (.le [([], (Int.negSucc (nat_lit 1152921504606846975))), ([(.var (nat_lit 1)), (.var (nat_lit 2))], (Int.ofNat (nat_lit 1)))])
  (.test (.le [([], (Int.negSucc (nat_lit 1152921504606846975))), ([(.var (nat_lit 1)), (.var (nat_lit 2))], (Int.negSucc (nat_lit 0)))])
  (.leaf (.tuple [(.agg [(.int .i64 [([(.var (nat_lit 0)), (.var (nat_lit 2))], (Int.ofNat (nat_lit 1)))]), (.int .i64 [([(.var (nat_lit 1)), (.var (nat_lit 2))], (Int.ofNat (nat_lit 1)))])]), (.int .i64 [])]))
  (.leaf (.tuple [(.agg [(.int .i64 []), (.int .i64 [])]), (.int .i64 [([], (Int.ofNat (nat_lit 2)))])])))
  (.leaf (.tuple [(.agg [(.int .i64 []), (.int .i64 [])]), (.int .i64 [([], (Int.ofNat (nat_lit 2)))])])))
  (.test (.le [([], (Int.negSucc (nat_lit 1152921504606846975))), ([(.var (nat_lit 1)), (.var (nat_lit 2))], (Int.ofNat (nat_lit 1)))])
  (.test (.le [([], (Int.negSucc (nat_lit 1152921504606846975))), ([(.var (nat_lit 1)), (.var (nat_lit 2))], (Int.negSucc (nat_lit 0)))])
  (.leaf (.tuple [(.agg [(.int .i64 []), (.int .i64 [])]), (.int .i64 [([], (Int.ofNat (nat_lit 2)))])]))
  (.leaf (.tuple [(.agg [(.int .i64 []), (.int .i64 [])]), (.int .i64 [([], (Int.ofNat (nat_lit 2)))])])))
  (.leaf (.tuple [(.agg [(.int .i64 []), (.int .i64 [])]), (.int .i64 [([], (Int.ofNat (nat_lit 2)))])]))))
  (.test (.le [([], (Int.negSucc (nat_lit 1152921504606846975))), ([(.var (nat_lit 1)), (.var (nat_lit 2))], (Int.ofNat (nat_lit 1)))])
  (.test (.le [([], (Int.negSucc (nat_lit 1152921504606846975))), ([(.var (nat_lit 1)), (.var (nat_lit 2))], (Int.negSucc (nat_lit 0)))])
  (.leaf (.tuple [(.agg [(.int .i64 []), (.int .i64 [])]), (.int .i64 [([], (Int.ofNat (nat_lit 2)))])]))
  (.leaf (.tuple [(.agg [(.int .i64 []), (.int .i64 [])]), (.int .i64 [([], (Int.ofNat (nat_lit 2)))])])))
  (.leaf (.tuple [(.agg [(.int .i64 []), (.int .i64 [])]), (.int .i64 [([], (Int.ofNat (nat_lit 2)))])]))))))))))
theorem f24C0 : checkT Tryd.prog (xWith (xOf symX) f24R) (gxOf symG) (sumsOf sums22) 10000 24 f24A f24T0 (facts0 f24K) = true := by kernel_rfl
def f24M : Summ := ⟨f24A, f24K, f24T0, f24R, []⟩
theorem f24Ok : SumOk Tryd.prog (xOf symX) (gxOf symG) 24 f24M := sumOk_of symMixed symClosed sums22Ok f24C0
def sums24 : List (Nat × Summ) := (24, f24M) :: sums22
theorem sums24Ok : ∀ g, ∀ m ∈ sumsOf sums24 g, SumOk Tryd.prog (xOf symX) (gxOf symG) g m := sumsOf_ok f24Ok sums22Ok
def f20A : List SV := [(.agg [(.int .i64 [([(.var (nat_lit 0))], (Int.ofNat (nat_lit 1)))]), (.int .i64 [([(.var (nat_lit 1))], (Int.ofNat (nat_lit 1)))])])]
def f20K : List Iv := [ivT .i64, ivT .i64]
def f20R : List (List SV) := []
def f20T0 : STree := (.test (.le [([], (Int.ofNat (nat_lit 1152921504606846977))), ([(.var (nat_lit 0))], (Int.ofNat (nat_lit 1)))])
  (.leaf (.tuple [(.agg [(.int .i64 []), (.int .i64 [])]), (.int .i64 [([], (Int.ofNat (nat_lit 1)))])]))
  (.test (.le [([], (Int.ofNat (nat_lit 1152921504606846977))), ([(.var (nat_lit 0))], (Int.negSucc (nat_lit 0)))])
  (.leaf (.tuple [(.agg [(.int .i64 []), (.int .i64 [])]), (.int .i64 [([], (Int.ofNat (nat_lit 1)))])]))
  (.test (.le [([], (Int.ofNat (nat_lit 1152921504606846977))), ([(.var (nat_lit 1))], (Int.ofNat (nat_lit 1)))])
  (.leaf (.tuple [(.agg [(.int .i64 []), (.int .i64 [])]), (.int .i64 [([], (Int.ofNat (nat_lit 1)))])]))
  (.test (.le [([], (Int.ofNat (nat_lit 1152921504606846977))), ([(.var (nat_lit 1))], (Int.negSucc (nat_lit 0)))])
  (.leaf (.tuple [(.agg [(.int .i64 []), (.int .i64 [])]), (.int .i64 [([], (Int.ofNat (nat_lit 1)))])]))
  (.leaf (.tuple [(.agg [(.int .i64 [([(.var (nat_lit 0))], (Int.ofNat (nat_lit 1)))]), (.int .i64 [([(.var (nat_lit 1))], (Int.negSucc (nat_lit 0)))])]), (.int .i64 [])]))))))
theorem f20C0 : checkT Tryd.prog (xWith (xOf symX) f20R) (gxOf symG) (sumsOf sums24) 10000 20 f20A f20T0 (facts0 f20K) = true := by kernel_rfl
def f20M : Summ := ⟨f20A, f20K, f20T0, f20R, []⟩
theorem f20Ok : SumOk Tryd.prog (xOf symX) (gxOf symG) 20 f20M := sumOk_of symMixed symClosed sums24Ok f20C0
def sums20 : List (Nat × Summ) := (20, f20M) :: sums24
theorem sums20Ok : ∀ g, ∀ m ∈ sumsOf sums20 g, SumOk Tryd.prog (xOf symX) (gxOf symG) g m := sumsOf_ok f20Ok sums24Ok
def f13A : List SV := [(.agg [(.int .i64 [([(.var (nat_lit 0))], (Int.ofNat (nat_lit 1)))]), (.int .i64 [([(.var (nat_lit 1))], (Int.ofNat (nat_lit 1)))])]), (.agg [(.int .i64 [([(.var (nat_lit 2))], (Int.ofNat (nat_lit 1)))]), (.int .i64 [([(.var (nat_lit 3))], (Int.ofNat (nat_lit 1)))])])]
def f13K : List Iv := [ivT .i64, ivT .i64, ivT .i64, ivT .i64]
def f13R : List (List SV) := []
def f13T0 : STree := (.test (.le [([], (Int.ofNat (nat_lit 268435457))), ([(.var (nat_lit 0))], (Int.ofNat (nat_lit 1)))])
  (.leaf (.tuple [(.agg [(.int .i64 []), (.int .i64 [])]), (.int .i64 [([], (Int.ofNat (nat_lit 1)))])]))
  (.test (.le [([], (Int.ofNat (nat_lit 268435457))), ([(.var (nat_lit 0))], (Int.negSucc (nat_lit 0)))])
  (.leaf (.tuple [(.agg [(.int .i64 []), (.int .i64 [])]), (.int .i64 [([], (Int.ofNat (nat_lit 1)))])]))
  (.test (.le [([], (Int.ofNat (nat_lit 268435457))), ([(.var (nat_lit 1))], (Int.ofNat (nat_lit 1)))])
  (.leaf (.tuple [(.agg [(.int .i64 []), (.int .i64 [])]), (.int .i64 [([], (Int.ofNat (nat_lit 1)))])]))
  (.test (.le [([], (Int.ofNat (nat_lit 268435457))), ([(.var (nat_lit 1))], (Int.negSucc (nat_lit 0)))])
  (.leaf (.tuple [(.agg [(.int .i64 []), (.int .i64 [])]), (.int .i64 [([], (Int.ofNat (nat_lit 1)))])]))
  (.test (.le [([], (Int.ofNat (nat_lit 268435457))), ([(.var (nat_lit 2))], (Int.ofNat (nat_lit 1)))])
  (.leaf (.tuple [(.agg [(.int .i64 []), (.int .i64 [])]), (.int .i64 [([], (Int.ofNat (nat_lit 1)))])]))
  (.test (.le [([], (Int.ofNat (nat_lit 268435457))), ([(.var (nat_lit 2))], (Int.negSucc (nat_lit 0)))])
  (.leaf (.tuple [(.agg [(.int .i64 []), (.int .i64 [])]), (.int .i64 [([], (Int.ofNat (nat_lit 1)))])]))
  (.test (.le [([], (Int.ofNat (nat_lit 268435457))), ([(.var (nat_lit 3))], (Int.ofNat (nat_lit 1)))])
  (.leaf (.tuple [(.agg [(.int .i64 []), (.int .i64 [])]), (.int .i64 [([], (Int.ofNat (nat_lit 1)))])]))
  (.test (.le [([], (Int.ofNat (nat_lit 268435457))), ([(.var (nat_lit 3))], (Int.negSucc (nat_lit 0)))])
  (.leaf (.tuple [(.agg [(.int .i64 []), (.int .i64 [])]), (.int .i64 [([], (Int.ofNat (nat_lit 1)))])]))
  (.leaf (.tuple [(.agg [(.int .i64 [([(.var (nat_lit 0)), (.var (nat_lit 2))], (Int.ofNat (nat_lit 1))), ([(.var (nat_lit 1)), (.var (nat_lit 3))], (Int.ofNat (nat_lit 3)))]), (.int .i64 [([(.var (nat_lit 0)), (.var (nat_lit 3))], (Int.ofNat (nat_lit 1))), ([(.var (nat_lit 1)), (.var (nat_lit 2))], (Int.ofNat (nat_lit 1)))])]), (.int .i64 [])]))))))))))
theorem f13C0 : checkT Tryd.prog (xWith (xOf symX) f13R) (gxOf symG) (sumsOf sums20) 10000 13 f13A f13T0 (facts0 f13K) = true := by kernel_rfl
def f13M : Summ := ⟨f13A, f13K, f13T0, f13R, []⟩
theorem f13Ok : SumOk Tryd.prog (xOf symX) (gxOf symG) 13 f13M := sumOk_of symMixed symClosed sums20Ok f13C0
def sums13 : List (Nat × Summ) := (13, f13M) :: sums20
theorem sums13Ok : ∀ g, ∀ m ∈ sumsOf sums13 g, SumOk Tryd.prog (xOf symX) (gxOf symG) g m := sumsOf_ok f13Ok sums20Ok
def f15A : List SV := [(.agg [(.int .i64 [([(.var (nat_lit 0))], (Int.ofNat (nat_lit 1)))]), (.int .i64 [([(.var (nat_lit 1))], (Int.ofNat (nat_lit 1)))])])]
def f15K : List Iv := [ivT .i64, ivT .i64]
def f15R : List (List SV) := []
def f15T0 : STree := (.test (.le [([], (Int.ofNat (nat_lit 268435457))), ([(.var (nat_lit 0))], (Int.ofNat (nat_lit 1)))])
  (.leaf (.tuple [(.int .i64 []), (.int .i64 [([], (Int.ofNat (nat_lit 1)))])]))
  (.test (.le [([], (Int.ofNat (nat_lit 268435457))), ([(.var (nat_lit 0))], (Int.negSucc (nat_lit 0)))])
  (.leaf (.tuple [(.int .i64 []), (.int .i64 [([], (Int.ofNat (nat_lit 1)))])]))
  (.test (.le [([], (Int.ofNat (nat_lit 268435457))), ([(.var (nat_lit 1))], (Int.ofNat (nat_lit 1)))])
  (.leaf (.tuple [(.int .i64 []), (.int .i64 [([], (Int.ofNat (nat_lit 1)))])]))
  (.test (.le [([], (Int.ofNat (nat_lit 268435457))), ([(.var (nat_lit 1))], (Int.negSucc (nat_lit 0)))])
  (.leaf (.tuple [(.int .i64 []), (.int .i64 [([], (Int.ofNat (nat_lit 1)))])]))
  (.leaf (.tuple [(.int .i64 [([(.var (nat_lit 0)), (.var (nat_lit 0))], (Int.ofNat (nat_lit 1))), ([(.var (nat_lit 1)), (.var (nat_lit 1))], (Int.negSucc (nat_lit 2)))]), (.int .i64 [])]))))))
theorem f15C0 : checkT Tryd.prog (xWith (xOf symX) f15R) (gxOf symG) (sumsOf sums13) 10000 15 f15A f15T0 (facts0 f15K) = true := by kernel_rfl
def f15M : Summ := ⟨f15A, f15K, f15T0, f15R, []⟩
theorem f15Ok : SumOk Tryd.prog (xOf symX) (gxOf symG) 15 f15M := sumOk_of symMixed symClosed sums13Ok f15C0
def sums15 : List (Nat × Summ) := (15, f15M) :: sums13
theorem sums15Ok : ∀ g, ∀ m ∈ sumsOf sums15 g, SumOk Tryd.prog (xOf symX) (gxOf symG) g m := sumsOf_ok f15Ok sums13Ok
def f10A : List SV := []
def f10K : List Iv := []
def f10R : List (List SV) := []
def f10T0 : STree := (.leaf (.bool true))
theorem f10C0 : checkT Tryd.prog (xWith (xOf symX) f10R) (gxOf symG) (sumsOf sums15) 10000 10 f10A f10T0 (facts0 f10K) = true := by kernel_rfl
def f10M : Summ := ⟨f10A, f10K, f10T0, f10R, []⟩
theorem f10Ok : SumOk Tryd.prog (xOf symX) (gxOf symG) 10 f10M := sumOk_of symMixed symClosed sums15Ok f10C0
def sums10 : List (Nat × Summ) := (10, f10M) :: sums15
theorem sums10Ok : ∀ g, ∀ m ∈ sumsOf sums10 g, SumOk Tryd.prog (xOf symX) (gxOf symG) g m := sumsOf_ok f10Ok sums15Ok
end Go.Proofs.YtjghifocfjbmcabDoor
