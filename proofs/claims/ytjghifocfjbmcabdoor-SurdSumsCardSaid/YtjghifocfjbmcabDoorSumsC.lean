/- Further summaries of functions that the laws call, each proved by the kernel along its tree of tests. -/
import Derived.Test.YtjghifocfjbmcabDoorSums
import Derived.KernelRfl
namespace Go.Proofs.YtjghifocfjbmcabDoor
open Go.Sym

def f51A : List SV := [(.int .i64 [([(.var (nat_lit 0))], (Int.ofNat (nat_lit 1)))])]
def f51K : List Iv := [ivT .i64]
def f51R : List (List SV) := []
def f51T0 : STree := (.test (.le [([], (Int.ofNat (nat_lit 1))), ([(.var (nat_lit 0))], (Int.ofNat (nat_lit 1)))])
  (.test (.le [([], (Int.negSucc (nat_lit 4294967294))), ([(.var (nat_lit 0))], (Int.negSucc (nat_lit 0)))])
  (.leafM (.agg [(.bool true), (.oslice (nat_lit 6) (nat_lit 1))]) [((nat_lit 6), ⟨[(.int .u32 [([(.var (nat_lit 0))], (Int.negSucc (nat_lit 0)))])], (nat_lit 380932)⟩)])
  (.leafM (.agg [(.bool true), (.oslice (nat_lit 6) (nat_lit 2))]) [((nat_lit 6), ⟨[(.int .u32 [([(.var (nat_lit 0))], (Int.negSucc (nat_lit 0))), ([(.fdiv (.mul (.lit (Int.negSucc (nat_lit 0))) (.var (nat_lit 0))) (.lit (Int.ofNat (nat_lit 4294967296))))], (Int.negSucc (nat_lit 4294967295)))]), (.int .u32 [([(.fdiv (.mul (.lit (Int.negSucc (nat_lit 0))) (.var (nat_lit 0))) (.lit (Int.ofNat (nat_lit 4294967296))))], (Int.ofNat (nat_lit 1)))])], (nat_lit 380932)⟩)]))
  (.test (.le [([], (Int.negSucc (nat_lit 4294967294))), ([(.var (nat_lit 0))], (Int.ofNat (nat_lit 1)))])
  (.test (.eq [([(.var (nat_lit 0))], (Int.ofNat (nat_lit 1)))])
  (.leafM (.agg [(.bool false), (.slice (nat_lit 4) (nat_lit 0) (nat_lit 0) (nat_lit 0) false)]) [((nat_lit 4), ⟨[], (nat_lit 0)⟩)])
  (.leafM (.agg [(.bool false), (.oslice (nat_lit 6) (nat_lit 1))]) [((nat_lit 6), ⟨[(.int .u32 [([(.var (nat_lit 0))], (Int.ofNat (nat_lit 1)))])], (nat_lit 380932)⟩)]))
  (.leafM (.agg [(.bool false), (.oslice (nat_lit 6) (nat_lit 2))]) [((nat_lit 6), ⟨[(.int .u32 [([(.var (nat_lit 0))], (Int.ofNat (nat_lit 1))), ([(.fdiv (.var (nat_lit 0)) (.lit (Int.ofNat (nat_lit 4294967296))))], (Int.negSucc (nat_lit 4294967295)))]), (.int .u32 [([(.fdiv (.var (nat_lit 0)) (.lit (Int.ofNat (nat_lit 4294967296))))], (Int.ofNat (nat_lit 1)))])], (nat_lit 380932)⟩)])))
theorem f51C0 : checkT Tryd.prog (xWith (xOf symX) f51R) (gxOf symG) (sumsOf sums10) 10000 51 f51A f51T0 (factsN f51K) = true := by kernel_rfl
def f51M : Summ := ⟨f51A, f51K, f51T0, f51R, []⟩
theorem f51Ok : SumOk Tryd.prog (xOf symX) (gxOf symG) 51 f51M := sumOk_ofN symMixed symClosed sums10Ok f51C0
def sums51 : List (Nat × Summ) := (51, f51M) :: sums10
theorem sums51Ok : ∀ g, ∀ m ∈ sumsOf sums51 g, SumOk Tryd.prog (xOf symX) (gxOf symG) g m := sumsOf_ok f51Ok sums10Ok
def f80_f_x1_f_x1A : List SV := [(.agg [(.bool false), (.aslice (nat_lit 1000) (nat_lit 1) (nat_lit 1))]), (.agg [(.bool false), (.aslice (nat_lit 1001) (nat_lit 1) (nat_lit 1))])]
def f80_f_x1_f_x1K : List Iv := [ivT .u32, ivT .u32]
def f80_f_x1_f_x1R : List (List SV) := [[(.int .u32 [([(.var (nat_lit 0))], (Int.ofNat (nat_lit 1)))])], [(.int .u32 [([(.var (nat_lit 1))], (Int.ofNat (nat_lit 1)))])]]
def f80_f_x1_f_x1T0 : STree := (.test (.eq [([(.var (nat_lit 0))], (Int.ofNat (nat_lit 1)))])
  (.leaf (.agg [(.bool false), (.raw (.slice none 0 0))]))
  (.test (.eq [([(.var (nat_lit 1))], (Int.ofNat (nat_lit 1)))])
  (.leaf (.agg [(.bool false), (.raw (.slice none 0 0))]))
  (.test (.le [([], (Int.negSucc (nat_lit 4294967294))), ([(.var (nat_lit 0)), (.var (nat_lit 1))], (Int.ofNat (nat_lit 1)))])
  (.leafM (.agg [(.bool false), (.oslice (nat_lit 13) (nat_lit 1))]) [((nat_lit 13), ⟨[(.int .u32 [([(.var (nat_lit 0)), (.var (nat_lit 1))], (Int.ofNat (nat_lit 1)))])], (nat_lit 380932)⟩)])
  (.leafM (.agg [(.bool false), (.oslice (nat_lit 13) (nat_lit 2))]) [((nat_lit 13), ⟨[(.int .u32 [([(.fdiv (.mul (.var (nat_lit 0)) (.var (nat_lit 1))) (.lit (Int.ofNat (nat_lit 4294967296))))], (Int.negSucc (nat_lit 4294967295))), ([(.var (nat_lit 0)), (.var (nat_lit 1))], (Int.ofNat (nat_lit 1)))]), (.int .u32 [([(.fdiv (.mul (.var (nat_lit 0)) (.var (nat_lit 1))) (.lit (Int.ofNat (nat_lit 4294967296))))], (Int.ofNat (nat_lit 1)))])], (nat_lit 380932)⟩)]))))
theorem f80_f_x1_f_x1C0 : checkT Tryd.prog (xWith (xOf symX) f80_f_x1_f_x1R) (gxOf symG) (sumsOf sums51) 10000 80 f80_f_x1_f_x1A f80_f_x1_f_x1T0 (factsN f80_f_x1_f_x1K) = true := by kernel_rfl
def f80_f_x1_f_x1M : Summ := ⟨f80_f_x1_f_x1A, f80_f_x1_f_x1K, f80_f_x1_f_x1T0, f80_f_x1_f_x1R, []⟩
theorem f80_f_x1_f_x1Ok : SumOk Tryd.prog (xOf symX) (gxOf symG) 80 f80_f_x1_f_x1M := sumOk_ofN symMixed symClosed sums51Ok f80_f_x1_f_x1C0
def sums80_f_x1_f_x1 : List (Nat × Summ) := (80, f80_f_x1_f_x1M) :: sums51
theorem sums80_f_x1_f_x1Ok : ∀ g, ∀ m ∈ sumsOf sums80_f_x1_f_x1 g, SumOk Tryd.prog (xOf symX) (gxOf symG) g m := sumsOf_ok f80_f_x1_f_x1Ok sums51Ok
def f80_f_x1_f_x2A : List SV := [(.agg [(.bool false), (.aslice (nat_lit 1000) (nat_lit 1) (nat_lit 1))]), (.agg [(.bool false), (.aslice (nat_lit 1001) (nat_lit 2) (nat_lit 2))])]
def f80_f_x1_f_x2K : List Iv := [ivT .u32, ivT .u32, ivT .u32]
def f80_f_x1_f_x2R : List (List SV) := [[(.int .u32 [([(.var (nat_lit 0))], (Int.ofNat (nat_lit 1)))])], [(.int .u32 [([(.var (nat_lit 1))], (Int.ofNat (nat_lit 1)))]), (.int .u32 [([(.var (nat_lit 2))], (Int.ofNat (nat_lit 1)))])]]
def f80_f_x1_f_x2T0 : STree := (.test (.eq [([(.var (nat_lit 0))], (Int.ofNat (nat_lit 1)))])
  (.leaf (.agg [(.bool false), (.raw (.slice none 0 0))]))
  (.test (.eq [([(.var (nat_lit 2))], (Int.ofNat (nat_lit 1)))])
  (.leaf (.agg [(.bool false), (.raw (.slice none 0 0))]))
  (.test (.le [([], (Int.negSucc (nat_lit 18446744073709551614))), ([(.var (nat_lit 0)), (.var (nat_lit 1))], (Int.ofNat (nat_lit 1))), ([(.var (nat_lit 0)), (.var (nat_lit 2))], (Int.ofNat (nat_lit 4294967296)))])
  (.leafM (.agg [(.bool false), (.oslice (nat_lit 13) (nat_lit 2))]) [((nat_lit 13), ⟨[(.int .u32 [([(.fdiv (.mul (.var (nat_lit 0)) (.var (nat_lit 1))) (.lit (Int.ofNat (nat_lit 4294967296))))], (Int.negSucc (nat_lit 4294967295))), ([(.var (nat_lit 0)), (.var (nat_lit 1))], (Int.ofNat (nat_lit 1)))]), (.int .u32 [([(.fdiv (.mul (.var (nat_lit 0)) (.var (nat_lit 1))) (.lit (Int.ofNat (nat_lit 4294967296))))], (Int.ofNat (nat_lit 1))), ([(.var (nat_lit 0)), (.var (nat_lit 2))], (Int.ofNat (nat_lit 1)))])], (nat_lit 380932)⟩)])
  (.leafM (.agg [(.bool false), (.oslice (nat_lit 13) (nat_lit 3))]) [((nat_lit 13), ⟨[(.int .u32 [([(.fdiv (.mul (.var (nat_lit 0)) (.var (nat_lit 1))) (.lit (Int.ofNat (nat_lit 4294967296))))], (Int.negSucc (nat_lit 4294967295))), ([(.var (nat_lit 0)), (.var (nat_lit 1))], (Int.ofNat (nat_lit 1)))]), (.int .u32 [([(.fdiv (.add (.mul (.var (nat_lit 0)) (.var (nat_lit 1))) (.mul (.lit (Int.ofNat (nat_lit 4294967296))) (.mul (.var (nat_lit 0)) (.var (nat_lit 2))))) (.lit (Int.ofNat (nat_lit 18446744073709551616))))], (Int.negSucc (nat_lit 4294967295))), ([(.fdiv (.mul (.var (nat_lit 0)) (.var (nat_lit 1))) (.lit (Int.ofNat (nat_lit 4294967296))))], (Int.ofNat (nat_lit 1))), ([(.var (nat_lit 0)), (.var (nat_lit 2))], (Int.ofNat (nat_lit 1)))]), (.int .u32 [([(.fdiv (.add (.mul (.var (nat_lit 0)) (.var (nat_lit 1))) (.mul (.lit (Int.ofNat (nat_lit 4294967296))) (.mul (.var (nat_lit 0)) (.var (nat_lit 2))))) (.lit (Int.ofNat (nat_lit 18446744073709551616))))], (Int.ofNat (nat_lit 1)))])], (nat_lit 380932)⟩)]))))
theorem f80_f_x1_f_x2C0 : checkT Tryd.prog (xWith (xOf symX) f80_f_x1_f_x2R) (gxOf symG) (sumsOf sums80_f_x1_f_x1) 10000 80 f80_f_x1_f_x2A f80_f_x1_f_x2T0 (factsN f80_f_x1_f_x2K) = true := by kernel_rfl
def f80_f_x1_f_x2M : Summ := ⟨f80_f_x1_f_x2A, f80_f_x1_f_x2K, f80_f_x1_f_x2T0, f80_f_x1_f_x2R, []⟩
theorem f80_f_x1_f_x2Ok : SumOk Tryd.prog (xOf symX) (gxOf symG) 80 f80_f_x1_f_x2M := sumOk_ofN symMixed symClosed sums80_f_x1_f_x1Ok f80_f_x1_f_x2C0
def sums80_f_x1_f_x2 : List (Nat × Summ) := (80, f80_f_x1_f_x2M) :: sums80_f_x1_f_x1
theorem sums80_f_x1_f_x2Ok : ∀ g, ∀ m ∈ sumsOf sums80_f_x1_f_x2 g, SumOk Tryd.prog (xOf symX) (gxOf symG) g m := sumsOf_ok f80_f_x1_f_x2Ok sums80_f_x1_f_x1Ok
def f80_f_x2_f_x1A : List SV := [(.agg [(.bool false), (.aslice (nat_lit 1000) (nat_lit 2) (nat_lit 2))]), (.agg [(.bool false), (.aslice (nat_lit 1001) (nat_lit 1) (nat_lit 1))])]
def f80_f_x2_f_x1K : List Iv := [ivT .u32, ivT .u32, ivT .u32]
def f80_f_x2_f_x1R : List (List SV) := [[(.int .u32 [([(.var (nat_lit 0))], (Int.ofNat (nat_lit 1)))]), (.int .u32 [([(.var (nat_lit 1))], (Int.ofNat (nat_lit 1)))])], [(.int .u32 [([(.var (nat_lit 2))], (Int.ofNat (nat_lit 1)))])]]
def f80_f_x2_f_x1T0 : STree := (.test (.eq [([(.var (nat_lit 1))], (Int.ofNat (nat_lit 1)))])
  (.leaf (.agg [(.bool false), (.raw (.slice none 0 0))]))
  (.test (.eq [([(.var (nat_lit 2))], (Int.ofNat (nat_lit 1)))])
  (.leaf (.agg [(.bool false), (.raw (.slice none 0 0))]))
  (.test (.le [([], (Int.negSucc (nat_lit 18446744073709551614))), ([(.var (nat_lit 0)), (.var (nat_lit 2))], (Int.ofNat (nat_lit 1))), ([(.var (nat_lit 1)), (.var (nat_lit 2))], (Int.ofNat (nat_lit 4294967296)))])
  (.leafM (.agg [(.bool false), (.oslice (nat_lit 13) (nat_lit 2))]) [((nat_lit 13), ⟨[(.int .u32 [([(.fdiv (.mul (.var (nat_lit 0)) (.var (nat_lit 2))) (.lit (Int.ofNat (nat_lit 4294967296))))], (Int.negSucc (nat_lit 4294967295))), ([(.var (nat_lit 0)), (.var (nat_lit 2))], (Int.ofNat (nat_lit 1)))]), (.int .u32 [([(.fdiv (.mul (.var (nat_lit 0)) (.var (nat_lit 2))) (.lit (Int.ofNat (nat_lit 4294967296))))], (Int.ofNat (nat_lit 1))), ([(.var (nat_lit 1)), (.var (nat_lit 2))], (Int.ofNat (nat_lit 1)))])], (nat_lit 380932)⟩)])
  (.leafM (.agg [(.bool false), (.oslice (nat_lit 13) (nat_lit 3))]) [((nat_lit 13), ⟨[(.int .u32 [([(.fdiv (.mul (.var (nat_lit 0)) (.var (nat_lit 2))) (.lit (Int.ofNat (nat_lit 4294967296))))], (Int.negSucc (nat_lit 4294967295))), ([(.var (nat_lit 0)), (.var (nat_lit 2))], (Int.ofNat (nat_lit 1)))]), (.int .u32 [([(.fdiv (.add (.mul (.var (nat_lit 0)) (.var (nat_lit 2))) (.mul (.lit (Int.ofNat (nat_lit 4294967296))) (.mul (.var (nat_lit 1)) (.var (nat_lit 2))))) (.lit (Int.ofNat (nat_lit 18446744073709551616))))], (Int.negSucc (nat_lit 4294967295))), ([(.fdiv (.mul (.var (nat_lit 0)) (.var (nat_lit 2))) (.lit (Int.ofNat (nat_lit 4294967296))))], (Int.ofNat (nat_lit 1))), ([(.var (nat_lit 1)), (.var (nat_lit 2))], (Int.ofNat (nat_lit 1)))]), (.int .u32 [([(.fdiv (.add (.mul (.var (nat_lit 0)) (.var (nat_lit 2))) (.mul (.lit (Int.ofNat (nat_lit 4294967296))) (.mul (.var (nat_lit 1)) (.var (nat_lit 2))))) (.lit (Int.ofNat (nat_lit 18446744073709551616))))], (Int.ofNat (nat_lit 1)))])], (nat_lit 380932)⟩)]))))
theorem f80_f_x2_f_x1C0 : checkT Tryd.prog (xWith (xOf symX) f80_f_x2_f_x1R) (gxOf symG) (sumsOf sums80_f_x1_f_x2) 10000 80 f80_f_x2_f_x1A f80_f_x2_f_x1T0 (factsN f80_f_x2_f_x1K) = true := by kernel_rfl
def f80_f_x2_f_x1M : Summ := ⟨f80_f_x2_f_x1A, f80_f_x2_f_x1K, f80_f_x2_f_x1T0, f80_f_x2_f_x1R, []⟩
theorem f80_f_x2_f_x1Ok : SumOk Tryd.prog (xOf symX) (gxOf symG) 80 f80_f_x2_f_x1M := sumOk_ofN symMixed symClosed sums80_f_x1_f_x2Ok f80_f_x2_f_x1C0
def sums80_f_x2_f_x1 : List (Nat × Summ) := (80, f80_f_x2_f_x1M) :: sums80_f_x1_f_x2
theorem sums80_f_x2_f_x1Ok : ∀ g, ∀ m ∈ sumsOf sums80_f_x2_f_x1 g, SumOk Tryd.prog (xOf symX) (gxOf symG) g m := sumsOf_ok f80_f_x2_f_x1Ok sums80_f_x1_f_x2Ok
def f80_f_x2_f_x2A : List SV := [(.agg [(.bool false), (.aslice (nat_lit 1000) (nat_lit 2) (nat_lit 2))]), (.agg [(.bool false), (.aslice (nat_lit 1001) (nat_lit 2) (nat_lit 2))])]
def f80_f_x2_f_x2K : List Iv := [ivT .u32, ivT .u32, ivT .u32, ivT .u32]
def f80_f_x2_f_x2R : List (List SV) := [[(.int .u32 [([(.var (nat_lit 0))], (Int.ofNat (nat_lit 1)))]), (.int .u32 [([(.var (nat_lit 1))], (Int.ofNat (nat_lit 1)))])], [(.int .u32 [([(.var (nat_lit 2))], (Int.ofNat (nat_lit 1)))]), (.int .u32 [([(.var (nat_lit 3))], (Int.ofNat (nat_lit 1)))])]]
def f80_f_x2_f_x2T0 : STree := (.test (.eq [([(.var (nat_lit 1))], (Int.ofNat (nat_lit 1)))])
  (.leaf (.agg [(.bool false), (.raw (.slice none 0 0))]))
  (.test (.eq [([(.var (nat_lit 3))], (Int.ofNat (nat_lit 1)))])
  (.leaf (.agg [(.bool false), (.raw (.slice none 0 0))]))
  (.test (.le [([], (Int.negSucc (nat_lit 79228162514264337593543950334))), ([(.var (nat_lit 0)), (.var (nat_lit 2))], (Int.ofNat (nat_lit 1))), ([(.var (nat_lit 0)), (.var (nat_lit 3))], (Int.ofNat (nat_lit 4294967296))), ([(.var (nat_lit 1)), (.var (nat_lit 2))], (Int.ofNat (nat_lit 4294967296))), ([(.var (nat_lit 1)), (.var (nat_lit 3))], (Int.ofNat (nat_lit 18446744073709551616)))])
  (.leafM (.agg [(.bool false), (.oslice (nat_lit 13) (nat_lit 3))]) [((nat_lit 13), ⟨[(.int .u32 [([(.fdiv (.mul (.var (nat_lit 0)) (.var (nat_lit 2))) (.lit (Int.ofNat (nat_lit 4294967296))))], (Int.negSucc (nat_lit 4294967295))), ([(.var (nat_lit 0)), (.var (nat_lit 2))], (Int.ofNat (nat_lit 1)))]), (.int .u32 [([(.fdiv (.add (.mul (.var (nat_lit 0)) (.var (nat_lit 2))) (.add (.mul (.lit (Int.ofNat (nat_lit 4294967296))) (.mul (.var (nat_lit 0)) (.var (nat_lit 3)))) (.mul (.lit (Int.ofNat (nat_lit 4294967296))) (.mul (.var (nat_lit 1)) (.var (nat_lit 2)))))) (.lit (Int.ofNat (nat_lit 18446744073709551616))))], (Int.negSucc (nat_lit 4294967295))), ([(.fdiv (.mul (.var (nat_lit 0)) (.var (nat_lit 2))) (.lit (Int.ofNat (nat_lit 4294967296))))], (Int.ofNat (nat_lit 1))), ([(.var (nat_lit 0)), (.var (nat_lit 3))], (Int.ofNat (nat_lit 1))), ([(.var (nat_lit 1)), (.var (nat_lit 2))], (Int.ofNat (nat_lit 1)))]), (.int .u32 [([(.fdiv (.add (.mul (.var (nat_lit 0)) (.var (nat_lit 2))) (.add (.mul (.lit (Int.ofNat (nat_lit 4294967296))) (.mul (.var (nat_lit 0)) (.var (nat_lit 3)))) (.mul (.lit (Int.ofNat (nat_lit 4294967296))) (.mul (.var (nat_lit 1)) (.var (nat_lit 2)))))) (.lit (Int.ofNat (nat_lit 18446744073709551616))))], (Int.ofNat (nat_lit 1))), ([(.var (nat_lit 1)), (.var (nat_lit 3))], (Int.ofNat (nat_lit 1)))])], (nat_lit 380932)⟩)])
  (.leafM (.agg [(.bool false), (.oslice (nat_lit 13) (nat_lit 4))]) [((nat_lit 13), ⟨[(.int .u32 [([(.fdiv (.mul (.var (nat_lit 0)) (.var (nat_lit 2))) (.lit (Int.ofNat (nat_lit 4294967296))))], (Int.negSucc (nat_lit 4294967295))), ([(.var (nat_lit 0)), (.var (nat_lit 2))], (Int.ofNat (nat_lit 1)))]), (.int .u32 [([(.fdiv (.add (.mul (.var (nat_lit 0)) (.var (nat_lit 2))) (.add (.mul (.lit (Int.ofNat (nat_lit 4294967296))) (.mul (.var (nat_lit 0)) (.var (nat_lit 3)))) (.mul (.lit (Int.ofNat (nat_lit 4294967296))) (.mul (.var (nat_lit 1)) (.var (nat_lit 2)))))) (.lit (Int.ofNat (nat_lit 18446744073709551616))))], (Int.negSucc (nat_lit 4294967295))), ([(.fdiv (.mul (.var (nat_lit 0)) (.var (nat_lit 2))) (.lit (Int.ofNat (nat_lit 4294967296))))], (Int.ofNat (nat_lit 1))), ([(.var (nat_lit 0)), (.var (nat_lit 3))], (Int.ofNat (nat_lit 1))), ([(.var (nat_lit 1)), (.var (nat_lit 2))], (Int.ofNat (nat_lit 1)))]), (.int .u32 [([(.fdiv (.add (.mul (.var (nat_lit 0)) (.var (nat_lit 2))) (.add (.mul (.lit (Int.ofNat (nat_lit 4294967296))) (.mul (.var (nat_lit 0)) (.var (nat_lit 3)))) (.add (.mul (.lit (Int.ofNat (nat_lit 4294967296))) (.mul (.var (nat_lit 1)) (.var (nat_lit 2)))) (.mul (.lit (Int.ofNat (nat_lit 18446744073709551616))) (.mul (.var (nat_lit 1)) (.var (nat_lit 3))))))) (.lit (Int.ofNat (nat_lit 79228162514264337593543950336))))], (Int.negSucc (nat_lit 4294967295))), ([(.fdiv (.add (.mul (.var (nat_lit 0)) (.var (nat_lit 2))) (.add (.mul (.lit (Int.ofNat (nat_lit 4294967296))) (.mul (.var (nat_lit 0)) (.var (nat_lit 3)))) (.mul (.lit (Int.ofNat (nat_lit 4294967296))) (.mul (.var (nat_lit 1)) (.var (nat_lit 2)))))) (.lit (Int.ofNat (nat_lit 18446744073709551616))))], (Int.ofNat (nat_lit 1))), ([(.var (nat_lit 1)), (.var (nat_lit 3))], (Int.ofNat (nat_lit 1)))]), (.int .u32 [([(.fdiv (.add (.mul (.var (nat_lit 0)) (.var (nat_lit 2))) (.add (.mul (.lit (Int.ofNat (nat_lit 4294967296))) (.mul (.var (nat_lit 0)) (.var (nat_lit 3)))) (.add (.mul (.lit (Int.ofNat (nat_lit 4294967296))) (.mul (.var (nat_lit 1)) (.var (nat_lit 2)))) (.mul (.lit (Int.ofNat (nat_lit 18446744073709551616))) (.mul (.var (nat_lit 1)) (.var (nat_lit 3))))))) (.lit (Int.ofNat (nat_lit 79228162514264337593543950336))))], (Int.ofNat (nat_lit 1)))])], (nat_lit 380932)⟩)]))))
theorem f80_f_x2_f_x2C0 : checkT Tryd.prog (xWith (xOf symX) f80_f_x2_f_x2R) (gxOf symG) (sumsOf sums80_f_x2_f_x1) 10000 80 f80_f_x2_f_x2A f80_f_x2_f_x2T0 (factsN f80_f_x2_f_x2K) = true := by kernel_rfl
def f80_f_x2_f_x2M : Summ := ⟨f80_f_x2_f_x2A, f80_f_x2_f_x2K, f80_f_x2_f_x2T0, f80_f_x2_f_x2R, []⟩
theorem f80_f_x2_f_x2Ok : SumOk Tryd.prog (xOf symX) (gxOf symG) 80 f80_f_x2_f_x2M := sumOk_ofN symMixed symClosed sums80_f_x2_f_x1Ok f80_f_x2_f_x2C0
def sums80_f_x2_f_x2 : List (Nat × Summ) := (80, f80_f_x2_f_x2M) :: sums80_f_x2_f_x1
theorem sums80_f_x2_f_x2Ok : ∀ g, ∀ m ∈ sumsOf sums80_f_x2_f_x2 g, SumOk Tryd.prog (xOf symX) (gxOf symG) g m := sumsOf_ok f80_f_x2_f_x2Ok sums80_f_x2_f_x1Ok
def f80_f_x1_t_x1A : List SV := [(.agg [(.bool false), (.aslice (nat_lit 1000) (nat_lit 1) (nat_lit 1))]), (.agg [(.bool true), (.aslice (nat_lit 1001) (nat_lit 1) (nat_lit 1))])]
def f80_f_x1_t_x1K : List Iv := [ivT .u32, ivT .u32]
def f80_f_x1_t_x1R : List (List SV) := [[(.int .u32 [([(.var (nat_lit 0))], (Int.ofNat (nat_lit 1)))])], [(.int .u32 [([(.var (nat_lit 1))], (Int.ofNat (nat_lit 1)))])]]
def f80_f_x1_t_x1T0 : STree := (.test (.eq [([(.var (nat_lit 0))], (Int.ofNat (nat_lit 1)))])
  (.leaf (.agg [(.bool false), (.raw (.slice none 0 0))]))
  (.test (.eq [([(.var (nat_lit 1))], (Int.ofNat (nat_lit 1)))])
  (.leaf (.agg [(.bool false), (.raw (.slice none 0 0))]))
  (.test (.le [([], (Int.negSucc (nat_lit 4294967294))), ([(.var (nat_lit 0)), (.var (nat_lit 1))], (Int.ofNat (nat_lit 1)))])
  (.leafM (.agg [(.bool true), (.oslice (nat_lit 13) (nat_lit 1))]) [((nat_lit 13), ⟨[(.int .u32 [([(.var (nat_lit 0)), (.var (nat_lit 1))], (Int.ofNat (nat_lit 1)))])], (nat_lit 380932)⟩)])
  (.leafM (.agg [(.bool true), (.oslice (nat_lit 13) (nat_lit 2))]) [((nat_lit 13), ⟨[(.int .u32 [([(.fdiv (.mul (.var (nat_lit 0)) (.var (nat_lit 1))) (.lit (Int.ofNat (nat_lit 4294967296))))], (Int.negSucc (nat_lit 4294967295))), ([(.var (nat_lit 0)), (.var (nat_lit 1))], (Int.ofNat (nat_lit 1)))]), (.int .u32 [([(.fdiv (.mul (.var (nat_lit 0)) (.var (nat_lit 1))) (.lit (Int.ofNat (nat_lit 4294967296))))], (Int.ofNat (nat_lit 1)))])], (nat_lit 380932)⟩)]))))
theorem f80_f_x1_t_x1C0 : checkT Tryd.prog (xWith (xOf symX) f80_f_x1_t_x1R) (gxOf symG) (sumsOf sums80_f_x2_f_x2) 10000 80 f80_f_x1_t_x1A f80_f_x1_t_x1T0 (factsN f80_f_x1_t_x1K) = true := by kernel_rfl
def f80_f_x1_t_x1M : Summ := ⟨f80_f_x1_t_x1A, f80_f_x1_t_x1K, f80_f_x1_t_x1T0, f80_f_x1_t_x1R, []⟩
theorem f80_f_x1_t_x1Ok : SumOk Tryd.prog (xOf symX) (gxOf symG) 80 f80_f_x1_t_x1M := sumOk_ofN symMixed symClosed sums80_f_x2_f_x2Ok f80_f_x1_t_x1C0
def sums80_f_x1_t_x1 : List (Nat × Summ) := (80, f80_f_x1_t_x1M) :: sums80_f_x2_f_x2
theorem sums80_f_x1_t_x1Ok : ∀ g, ∀ m ∈ sumsOf sums80_f_x1_t_x1 g, SumOk Tryd.prog (xOf symX) (gxOf symG) g m := sumsOf_ok f80_f_x1_t_x1Ok sums80_f_x2_f_x2Ok
def f80_f_x1_t_x2A : List SV := [(.agg [(.bool false), (.aslice (nat_lit 1000) (nat_lit 1) (nat_lit 1))]), (.agg [(.bool true), (.aslice (nat_lit 1001) (nat_lit 2) (nat_lit 2))])]
def f80_f_x1_t_x2K : List Iv := [ivT .u32, ivT .u32, ivT .u32]
def f80_f_x1_t_x2R : List (List SV) := [[(.int .u32 [([(.var (nat_lit 0))], (Int.ofNat (nat_lit 1)))])], [(.int .u32 [([(.var (nat_lit 1))], (Int.ofNat (nat_lit 1)))]), (.int .u32 [([(.var (nat_lit 2))], (Int.ofNat (nat_lit 1)))])]]
def f80_f_x1_t_x2T0 : STree := (.test (.eq [([(.var (nat_lit 0))], (Int.ofNat (nat_lit 1)))])
  (.leaf (.agg [(.bool false), (.raw (.slice none 0 0))]))
  (.test (.eq [([(.var (nat_lit 2))], (Int.ofNat (nat_lit 1)))])
  (.leaf (.agg [(.bool false), (.raw (.slice none 0 0))]))
  (.test (.le [([], (Int.negSucc (nat_lit 18446744073709551614))), ([(.var (nat_lit 0)), (.var (nat_lit 1))], (Int.ofNat (nat_lit 1))), ([(.var (nat_lit 0)), (.var (nat_lit 2))], (Int.ofNat (nat_lit 4294967296)))])
  (.leafM (.agg [(.bool true), (.oslice (nat_lit 13) (nat_lit 2))]) [((nat_lit 13), ⟨[(.int .u32 [([(.fdiv (.mul (.var (nat_lit 0)) (.var (nat_lit 1))) (.lit (Int.ofNat (nat_lit 4294967296))))], (Int.negSucc (nat_lit 4294967295))), ([(.var (nat_lit 0)), (.var (nat_lit 1))], (Int.ofNat (nat_lit 1)))]), (.int .u32 [([(.fdiv (.mul (.var (nat_lit 0)) (.var (nat_lit 1))) (.lit (Int.ofNat (nat_lit 4294967296))))], (Int.ofNat (nat_lit 1))), ([(.var (nat_lit 0)), (.var (nat_lit 2))], (Int.ofNat (nat_lit 1)))])], (nat_lit 380932)⟩)])
  (.leafM (.agg [(.bool true), (.oslice (nat_lit 13) (nat_lit 3))]) [((nat_lit 13), ⟨[(.int .u32 [([(.fdiv (.mul (.var (nat_lit 0)) (.var (nat_lit 1))) (.lit (Int.ofNat (nat_lit 4294967296))))], (Int.negSucc (nat_lit 4294967295))), ([(.var (nat_lit 0)), (.var (nat_lit 1))], (Int.ofNat (nat_lit 1)))]), (.int .u32 [([(.fdiv (.add (.mul (.var (nat_lit 0)) (.var (nat_lit 1))) (.mul (.lit (Int.ofNat (nat_lit 4294967296))) (.mul (.var (nat_lit 0)) (.var (nat_lit 2))))) (.lit (Int.ofNat (nat_lit 18446744073709551616))))], (Int.negSucc (nat_lit 4294967295))), ([(.fdiv (.mul (.var (nat_lit 0)) (.var (nat_lit 1))) (.lit (Int.ofNat (nat_lit 4294967296))))], (Int.ofNat (nat_lit 1))), ([(.var (nat_lit 0)), (.var (nat_lit 2))], (Int.ofNat (nat_lit 1)))]), (.int .u32 [([(.fdiv (.add (.mul (.var (nat_lit 0)) (.var (nat_lit 1))) (.mul (.lit (Int.ofNat (nat_lit 4294967296))) (.mul (.var (nat_lit 0)) (.var (nat_lit 2))))) (.lit (Int.ofNat (nat_lit 18446744073709551616))))], (Int.ofNat (nat_lit 1)))])], (nat_lit 380932)⟩)]))))
theorem f80_f_x1_t_x2C0 : checkT Tryd.prog (xWith (xOf symX) f80_f_x1_t_x2R) (gxOf symG) (sumsOf sums80_f_x1_t_x1) 10000 80 f80_f_x1_t_x2A f80_f_x1_t_x2T0 (factsN f80_f_x1_t_x2K) = true := by kernel_rfl
def f80_f_x1_t_x2M : Summ := ⟨f80_f_x1_t_x2A, f80_f_x1_t_x2K, f80_f_x1_t_x2T0, f80_f_x1_t_x2R, []⟩
theorem f80_f_x1_t_x2Ok : SumOk Tryd.prog (xOf symX) (gxOf symG) 80 f80_f_x1_t_x2M := sumOk_ofN symMixed symClosed sums80_f_x1_t_x1Ok f80_f_x1_t_x2C0
def sums80_f_x1_t_x2 : List (Nat × Summ) := (80, f80_f_x1_t_x2M) :: sums80_f_x1_t_x1
theorem sums80_f_x1_t_x2Ok : ∀ g, ∀ m ∈ sumsOf sums80_f_x1_t_x2 g, SumOk Tryd.prog (xOf symX) (gxOf symG) g m := sumsOf_ok f80_f_x1_t_x2Ok sums80_f_x1_t_x1Ok
def f80_f_x2_t_x1A : List SV := [(.agg [(.bool false), (.aslice (nat_lit 1000) (nat_lit 2) (nat_lit 2))]), (.agg [(.bool true), (.aslice (nat_lit 1001) (nat_lit 1) (nat_lit 1))])]
def f80_f_x2_t_x1K : List Iv := [ivT .u32, ivT .u32, ivT .u32]
def f80_f_x2_t_x1R : List (List SV) := [[(.int .u32 [([(.var (nat_lit 0))], (Int.ofNat (nat_lit 1)))]), (.int .u32 [([(.var (nat_lit 1))], (Int.ofNat (nat_lit 1)))])], [(.int .u32 [([(.var (nat_lit 2))], (Int.ofNat (nat_lit 1)))])]]
def f80_f_x2_t_x1T0 : STree := (.test (.eq [([(.var (nat_lit 1))], (Int.ofNat (nat_lit 1)))])
  (.leaf (.agg [(.bool false), (.raw (.slice none 0 0))]))
  (.test (.eq [([(.var (nat_lit 2))], (Int.ofNat (nat_lit 1)))])
  (.leaf (.agg [(.bool false), (.raw (.slice none 0 0))]))
  (.test (.le [([], (Int.negSucc (nat_lit 18446744073709551614))), ([(.var (nat_lit 0)), (.var (nat_lit 2))], (Int.ofNat (nat_lit 1))), ([(.var (nat_lit 1)), (.var (nat_lit 2))], (Int.ofNat (nat_lit 4294967296)))])
  (.leafM (.agg [(.bool true), (.oslice (nat_lit 13) (nat_lit 2))]) [((nat_lit 13), ⟨[(.int .u32 [([(.fdiv (.mul (.var (nat_lit 0)) (.var (nat_lit 2))) (.lit (Int.ofNat (nat_lit 4294967296))))], (Int.negSucc (nat_lit 4294967295))), ([(.var (nat_lit 0)), (.var (nat_lit 2))], (Int.ofNat (nat_lit 1)))]), (.int .u32 [([(.fdiv (.mul (.var (nat_lit 0)) (.var (nat_lit 2))) (.lit (Int.ofNat (nat_lit 4294967296))))], (Int.ofNat (nat_lit 1))), ([(.var (nat_lit 1)), (.var (nat_lit 2))], (Int.ofNat (nat_lit 1)))])], (nat_lit 380932)⟩)])
  (.leafM (.agg [(.bool true), (.oslice (nat_lit 13) (nat_lit 3))]) [((nat_lit 13), ⟨[(.int .u32 [([(.fdiv (.mul (.var (nat_lit 0)) (.var (nat_lit 2))) (.lit (Int.ofNat (nat_lit 4294967296))))], (Int.negSucc (nat_lit 4294967295))), ([(.var (nat_lit 0)), (.var (nat_lit 2))], (Int.ofNat (nat_lit 1)))]), (.int .u32 [([(.fdiv (.add (.mul (.var (nat_lit 0)) (.var (nat_lit 2))) (.mul (.lit (Int.ofNat (nat_lit 4294967296))) (.mul (.var (nat_lit 1)) (.var (nat_lit 2))))) (.lit (Int.ofNat (nat_lit 18446744073709551616))))], (Int.negSucc (nat_lit 4294967295))), ([(.fdiv (.mul (.var (nat_lit 0)) (.var (nat_lit 2))) (.lit (Int.ofNat (nat_lit 4294967296))))], (Int.ofNat (nat_lit 1))), ([(.var (nat_lit 1)), (.var (nat_lit 2))], (Int.ofNat (nat_lit 1)))]), (.int .u32 [([(.fdiv (.add (.mul (.var (nat_lit 0)) (.var (nat_lit 2))) (.mul (.lit (Int.ofNat (nat_lit 4294967296))) (.mul (.var (nat_lit 1)) (.var (nat_lit 2))))) (.lit (Int.ofNat (nat_lit 18446744073709551616))))], (Int.ofNat (nat_lit 1)))])], (nat_lit 380932)⟩)]))))
theorem f80_f_x2_t_x1C0 : checkT Tryd.prog (xWith (xOf symX) f80_f_x2_t_x1R) (gxOf symG) (sumsOf sums80_f_x1_t_x2) 10000 80 f80_f_x2_t_x1A f80_f_x2_t_x1T0 (factsN f80_f_x2_t_x1K) = true := by kernel_rfl
def f80_f_x2_t_x1M : Summ := ⟨f80_f_x2_t_x1A, f80_f_x2_t_x1K, f80_f_x2_t_x1T0, f80_f_x2_t_x1R, []⟩
theorem f80_f_x2_t_x1Ok : SumOk Tryd.prog (xOf symX) (gxOf symG) 80 f80_f_x2_t_x1M := sumOk_ofN symMixed symClosed sums80_f_x1_t_x2Ok f80_f_x2_t_x1C0
def sums80_f_x2_t_x1 : List (Nat × Summ) := (80, f80_f_x2_t_x1M) :: sums80_f_x1_t_x2
theorem sums80_f_x2_t_x1Ok : ∀ g, ∀ m ∈ sumsOf sums80_f_x2_t_x1 g, SumOk Tryd.prog (xOf symX) (gxOf symG) g m := sumsOf_ok f80_f_x2_t_x1Ok sums80_f_x1_t_x2Ok
def f80_f_x2_t_x2A : List SV := [(.agg [(.bool false), (.aslice (nat_lit 1000) (nat_lit 2) (nat_lit 2))]), (.agg [(.bool true), (.aslice (nat_lit 1001) (nat_lit 2) (nat_lit 2))])]
def f80_f_x2_t_x2K : List Iv := [ivT .u32, ivT .u32, ivT .u32, ivT .u32]
def f80_f_x2_t_x2R : List (List SV) := [[(.int .u32 [([(.var (nat_lit 0))], (Int.ofNat (nat_lit 1)))]), (.int .u32 [([(.var (nat_lit 1))], (Int.ofNat (nat_lit 1)))])], [(.int .u32 [([(.var (nat_lit 2))], (Int.ofNat (nat_lit 1)))]), (.int .u32 [([(.var (nat_lit 3))], (Int.ofNat (nat_lit 1)))])]]
def f80_f_x2_t_x2T0 : STree := (.test (.eq [([(.var (nat_lit 1))], (Int.ofNat (nat_lit 1)))])
  (.leaf (.agg [(.bool false), (.raw (.slice none 0 0))]))
  (.test (.eq [([(.var (nat_lit 3))], (Int.ofNat (nat_lit 1)))])
  (.leaf (.agg [(.bool false), (.raw (.slice none 0 0))]))
  (.test (.le [([], (Int.negSucc (nat_lit 79228162514264337593543950334))), ([(.var (nat_lit 0)), (.var (nat_lit 2))], (Int.ofNat (nat_lit 1))), ([(.var (nat_lit 0)), (.var (nat_lit 3))], (Int.ofNat (nat_lit 4294967296))), ([(.var (nat_lit 1)), (.var (nat_lit 2))], (Int.ofNat (nat_lit 4294967296))), ([(.var (nat_lit 1)), (.var (nat_lit 3))], (Int.ofNat (nat_lit 18446744073709551616)))])
  (.leafM (.agg [(.bool true), (.oslice (nat_lit 13) (nat_lit 3))]) [((nat_lit 13), ⟨[(.int .u32 [([(.fdiv (.mul (.var (nat_lit 0)) (.var (nat_lit 2))) (.lit (Int.ofNat (nat_lit 4294967296))))], (Int.negSucc (nat_lit 4294967295))), ([(.var (nat_lit 0)), (.var (nat_lit 2))], (Int.ofNat (nat_lit 1)))]), (.int .u32 [([(.fdiv (.add (.mul (.var (nat_lit 0)) (.var (nat_lit 2))) (.add (.mul (.lit (Int.ofNat (nat_lit 4294967296))) (.mul (.var (nat_lit 0)) (.var (nat_lit 3)))) (.mul (.lit (Int.ofNat (nat_lit 4294967296))) (.mul (.var (nat_lit 1)) (.var (nat_lit 2)))))) (.lit (Int.ofNat (nat_lit 18446744073709551616))))], (Int.negSucc (nat_lit 4294967295))), ([(.fdiv (.mul (.var (nat_lit 0)) (.var (nat_lit 2))) (.lit (Int.ofNat (nat_lit 4294967296))))], (Int.ofNat (nat_lit 1))), ([(.var (nat_lit 0)), (.var (nat_lit 3))], (Int.ofNat (nat_lit 1))), ([(.var (nat_lit 1)), (.var (nat_lit 2))], (Int.ofNat (nat_lit 1)))]), (.int .u32 [([(.fdiv (.add (.mul (.var (nat_lit 0)) (.var (nat_lit 2))) (.add (.mul (.lit (Int.ofNat (nat_lit 4294967296))) (.mul (.var (nat_lit 0)) (.var (nat_lit 3)))) (.mul (.lit (Int.ofNat (nat_lit 4294967296))) (.mul (.var (nat_lit 1)) (.var (nat_lit 2)))))) (.lit (Int.ofNat (nat_lit 18446744073709551616))))], (Int.ofNat (nat_lit 1))), ([(.var (nat_lit 1)), (.var (nat_lit 3))], (Int.ofNat (nat_lit 1)))])], (nat_lit 380932)⟩)])
  (.leafM (.agg [(.bool true), (.oslice (nat_lit 13) (nat_lit 4))]) [((nat_lit 13), ⟨[(.int .u32 [([(.fdiv (.mul (.var (nat_lit 0)) (.var (nat_lit 2))) (.lit (Int.ofNat (nat_lit 4294967296))))], (Int.negSucc (nat_lit 4294967295))), ([(.var (nat_lit 0)), (.var (nat_lit 2))], (Int.ofNat (nat_lit 1)))]), (.int .u32 [([(.fdiv (.add (.mul (.var (nat_lit 0)) (.var (nat_lit 2))) (.add (.mul (.lit (Int.ofNat (nat_lit 4294967296))) (.mul (.var (nat_lit 0)) (.var (nat_lit 3)))) (.mul (.lit (Int.ofNat (nat_lit 4294967296))) (.mul (.var (nat_lit 1)) (.var (nat_lit 2)))))) (.lit (Int.ofNat (nat_lit 18446744073709551616))))], (Int.negSucc (nat_lit 4294967295))), ([(.fdiv (.mul (.var (nat_lit 0)) (.var (nat_lit 2))) (.lit (Int.ofNat (nat_lit 4294967296))))], (Int.ofNat (nat_lit 1))), ([(.var (nat_lit 0)), (.var (nat_lit 3))], (Int.ofNat (nat_lit 1))), ([(.var (nat_lit 1)), (.var (nat_lit 2))], (Int.ofNat (nat_lit 1)))]), (.int .u32 [([(.fdiv (.add (.mul (.var (nat_lit 0)) (.var (nat_lit 2))) (.add (.mul (.lit (Int.ofNat (nat_lit 4294967296))) (.mul (.var (nat_lit 0)) (.var (nat_lit 3)))) (.add (.mul (.lit (Int.ofNat (nat_lit 4294967296))) (.mul (.var (nat_lit 1)) (.var (nat_lit 2)))) (.mul (.lit (Int.ofNat (nat_lit 18446744073709551616))) (.mul (.var (nat_lit 1)) (.var (nat_lit 3))))))) (.lit (Int.ofNat (nat_lit 79228162514264337593543950336))))], (Int.negSucc (nat_lit 4294967295))), ([(.fdiv (.add (.mul (.var (nat_lit 0)) (.var (nat_lit 2))) (.add (.mul (.lit (Int.ofNat (nat_lit 4294967296))) (.mul (.var (nat_lit 0)) (.var (nat_lit 3)))) (.mul (.lit (Int.ofNat (nat_lit 4294967296))) (.mul (.var (nat_lit 1)) (.var (nat_lit 2)))))) (.lit (Int.ofNat (nat_lit 18446744073709551616))))], (Int.ofNat (nat_lit 1))), ([(.var (nat_lit 1)), (.var (nat_lit 3))], (Int.ofNat (nat_lit 1)))]), (.int .u32 [([(.fdiv (.add (.mul (.var (nat_lit 0)) (.var (nat_lit 2))) (.add (.mul (.lit (Int.ofNat (nat_lit 4294967296))) (.mul (.var (nat_lit 0)) (.var (nat_lit 3)))) (.add (.mul (.lit (Int.ofNat (nat_lit 4294967296))) (.mul (.var (nat_lit 1)) (.var (nat_lit 2)))) (.mul (.lit (Int.ofNat (nat_lit 18446744073709551616))) (.mul (.var (nat_lit 1)) (.var (nat_lit 3))))))) (.lit (Int.ofNat (nat_lit 79228162514264337593543950336))))], (Int.ofNat (nat_lit 1)))])], (nat_lit 380932)⟩)]))))
theorem f80_f_x2_t_x2C0 : checkT Tryd.prog (xWith (xOf symX) f80_f_x2_t_x2R) (gxOf symG) (sumsOf sums80_f_x2_t_x1) 10000 80 f80_f_x2_t_x2A f80_f_x2_t_x2T0 (factsN f80_f_x2_t_x2K) = true := by kernel_rfl
def f80_f_x2_t_x2M : Summ := ⟨f80_f_x2_t_x2A, f80_f_x2_t_x2K, f80_f_x2_t_x2T0, f80_f_x2_t_x2R, []⟩
theorem f80_f_x2_t_x2Ok : SumOk Tryd.prog (xOf symX) (gxOf symG) 80 f80_f_x2_t_x2M := sumOk_ofN symMixed symClosed sums80_f_x2_t_x1Ok f80_f_x2_t_x2C0
def sums80_f_x2_t_x2 : List (Nat × Summ) := (80, f80_f_x2_t_x2M) :: sums80_f_x2_t_x1
theorem sums80_f_x2_t_x2Ok : ∀ g, ∀ m ∈ sumsOf sums80_f_x2_t_x2 g, SumOk Tryd.prog (xOf symX) (gxOf symG) g m := sumsOf_ok f80_f_x2_t_x2Ok sums80_f_x2_t_x1Ok
def f80_t_x1_f_x1A : List SV := [(.agg [(.bool true), (.aslice (nat_lit 1000) (nat_lit 1) (nat_lit 1))]), (.agg [(.bool false), (.aslice (nat_lit 1001) (nat_lit 1) (nat_lit 1))])]
def f80_t_x1_f_x1K : List Iv := [ivT .u32, ivT .u32]
def f80_t_x1_f_x1R : List (List SV) := [[(.int .u32 [([(.var (nat_lit 0))], (Int.ofNat (nat_lit 1)))])], [(.int .u32 [([(.var (nat_lit 1))], (Int.ofNat (nat_lit 1)))])]]
def f80_t_x1_f_x1T0 : STree := (.test (.eq [([(.var (nat_lit 0))], (Int.ofNat (nat_lit 1)))])
  (.leaf (.agg [(.bool false), (.raw (.slice none 0 0))]))
  (.test (.eq [([(.var (nat_lit 1))], (Int.ofNat (nat_lit 1)))])
  (.leaf (.agg [(.bool false), (.raw (.slice none 0 0))]))
  (.test (.le [([], (Int.negSucc (nat_lit 4294967294))), ([(.var (nat_lit 0)), (.var (nat_lit 1))], (Int.ofNat (nat_lit 1)))])
  (.leafM (.agg [(.bool true), (.oslice (nat_lit 13) (nat_lit 1))]) [((nat_lit 13), ⟨[(.int .u32 [([(.var (nat_lit 0)), (.var (nat_lit 1))], (Int.ofNat (nat_lit 1)))])], (nat_lit 380932)⟩)])
  (.leafM (.agg [(.bool true), (.oslice (nat_lit 13) (nat_lit 2))]) [((nat_lit 13), ⟨[(.int .u32 [([(.fdiv (.mul (.var (nat_lit 0)) (.var (nat_lit 1))) (.lit (Int.ofNat (nat_lit 4294967296))))], (Int.negSucc (nat_lit 4294967295))), ([(.var (nat_lit 0)), (.var (nat_lit 1))], (Int.ofNat (nat_lit 1)))]), (.int .u32 [([(.fdiv (.mul (.var (nat_lit 0)) (.var (nat_lit 1))) (.lit (Int.ofNat (nat_lit 4294967296))))], (Int.ofNat (nat_lit 1)))])], (nat_lit 380932)⟩)]))))
theorem f80_t_x1_f_x1C0 : checkT Tryd.prog (xWith (xOf symX) f80_t_x1_f_x1R) (gxOf symG) (sumsOf sums80_f_x2_t_x2) 10000 80 f80_t_x1_f_x1A f80_t_x1_f_x1T0 (factsN f80_t_x1_f_x1K) = true := by kernel_rfl
def f80_t_x1_f_x1M : Summ := ⟨f80_t_x1_f_x1A, f80_t_x1_f_x1K, f80_t_x1_f_x1T0, f80_t_x1_f_x1R, []⟩
theorem f80_t_x1_f_x1Ok : SumOk Tryd.prog (xOf symX) (gxOf symG) 80 f80_t_x1_f_x1M := sumOk_ofN symMixed symClosed sums80_f_x2_t_x2Ok f80_t_x1_f_x1C0
def sums80_t_x1_f_x1 : List (Nat × Summ) := (80, f80_t_x1_f_x1M) :: sums80_f_x2_t_x2
theorem sums80_t_x1_f_x1Ok : ∀ g, ∀ m ∈ sumsOf sums80_t_x1_f_x1 g, SumOk Tryd.prog (xOf symX) (gxOf symG) g m := sumsOf_ok f80_t_x1_f_x1Ok sums80_f_x2_t_x2Ok
def f80_t_x1_f_x2A : List SV := [(.agg [(.bool true), (.aslice (nat_lit 1000) (nat_lit 1) (nat_lit 1))]), (.agg [(.bool false), (.aslice (nat_lit 1001) (nat_lit 2) (nat_lit 2))])]
def f80_t_x1_f_x2K : List Iv := [ivT .u32, ivT .u32, ivT .u32]
def f80_t_x1_f_x2R : List (List SV) := [[(.int .u32 [([(.var (nat_lit 0))], (Int.ofNat (nat_lit 1)))])], [(.int .u32 [([(.var (nat_lit 1))], (Int.ofNat (nat_lit 1)))]), (.int .u32 [([(.var (nat_lit 2))], (Int.ofNat (nat_lit 1)))])]]
def f80_t_x1_f_x2T0 : STree := (.test (.eq [([(.var (nat_lit 0))], (Int.ofNat (nat_lit 1)))])
  (.leaf (.agg [(.bool false), (.raw (.slice none 0 0))]))
  (.test (.eq [([(.var (nat_lit 2))], (Int.ofNat (nat_lit 1)))])
  (.leaf (.agg [(.bool false), (.raw (.slice none 0 0))]))
  (.test (.le [([], (Int.negSucc (nat_lit 18446744073709551614))), ([(.var (nat_lit 0)), (.var (nat_lit 1))], (Int.ofNat (nat_lit 1))), ([(.var (nat_lit 0)), (.var (nat_lit 2))], (Int.ofNat (nat_lit 4294967296)))])
  (.leafM (.agg [(.bool true), (.oslice (nat_lit 13) (nat_lit 2))]) [((nat_lit 13), ⟨[(.int .u32 [([(.fdiv (.mul (.var (nat_lit 0)) (.var (nat_lit 1))) (.lit (Int.ofNat (nat_lit 4294967296))))], (Int.negSucc (nat_lit 4294967295))), ([(.var (nat_lit 0)), (.var (nat_lit 1))], (Int.ofNat (nat_lit 1)))]), (.int .u32 [([(.fdiv (.mul (.var (nat_lit 0)) (.var (nat_lit 1))) (.lit (Int.ofNat (nat_lit 4294967296))))], (Int.ofNat (nat_lit 1))), ([(.var (nat_lit 0)), (.var (nat_lit 2))], (Int.ofNat (nat_lit 1)))])], (nat_lit 380932)⟩)])
  (.leafM (.agg [(.bool true), (.oslice (nat_lit 13) (nat_lit 3))]) [((nat_lit 13), ⟨[(.int .u32 [([(.fdiv (.mul (.var (nat_lit 0)) (.var (nat_lit 1))) (.lit (Int.ofNat (nat_lit 4294967296))))], (Int.negSucc (nat_lit 4294967295))), ([(.var (nat_lit 0)), (.var (nat_lit 1))], (Int.ofNat (nat_lit 1)))]), (.int .u32 [([(.fdiv (.add (.mul (.var (nat_lit 0)) (.var (nat_lit 1))) (.mul (.lit (Int.ofNat (nat_lit 4294967296))) (.mul (.var (nat_lit 0)) (.var (nat_lit 2))))) (.lit (Int.ofNat (nat_lit 18446744073709551616))))], (Int.negSucc (nat_lit 4294967295))), ([(.fdiv (.mul (.var (nat_lit 0)) (.var (nat_lit 1))) (.lit (Int.ofNat (nat_lit 4294967296))))], (Int.ofNat (nat_lit 1))), ([(.var (nat_lit 0)), (.var (nat_lit 2))], (Int.ofNat (nat_lit 1)))]), (.int .u32 [([(.fdiv (.add (.mul (.var (nat_lit 0)) (.var (nat_lit 1))) (.mul (.lit (Int.ofNat (nat_lit 4294967296))) (.mul (.var (nat_lit 0)) (.var (nat_lit 2))))) (.lit (Int.ofNat (nat_lit 18446744073709551616))))], (Int.ofNat (nat_lit 1)))])], (nat_lit 380932)⟩)]))))
theorem f80_t_x1_f_x2C0 : checkT Tryd.prog (xWith (xOf symX) f80_t_x1_f_x2R) (gxOf symG) (sumsOf sums80_t_x1_f_x1) 10000 80 f80_t_x1_f_x2A f80_t_x1_f_x2T0 (factsN f80_t_x1_f_x2K) = true := by kernel_rfl
def f80_t_x1_f_x2M : Summ := ⟨f80_t_x1_f_x2A, f80_t_x1_f_x2K, f80_t_x1_f_x2T0, f80_t_x1_f_x2R, []⟩
theorem f80_t_x1_f_x2Ok : SumOk Tryd.prog (xOf symX) (gxOf symG) 80 f80_t_x1_f_x2M := sumOk_ofN symMixed symClosed sums80_t_x1_f_x1Ok f80_t_x1_f_x2C0
def sums80_t_x1_f_x2 : List (Nat × Summ) := (80, f80_t_x1_f_x2M) :: sums80_t_x1_f_x1
theorem sums80_t_x1_f_x2Ok : ∀ g, ∀ m ∈ sumsOf sums80_t_x1_f_x2 g, SumOk Tryd.prog (xOf symX) (gxOf symG) g m := sumsOf_ok f80_t_x1_f_x2Ok sums80_t_x1_f_x1Ok
def f80_t_x2_f_x1A : List SV := [(.agg [(.bool true), (.aslice (nat_lit 1000) (nat_lit 2) (nat_lit 2))]), (.agg [(.bool false), (.aslice (nat_lit 1001) (nat_lit 1) (nat_lit 1))])]
def f80_t_x2_f_x1K : List Iv := [ivT .u32, ivT .u32, ivT .u32]
def f80_t_x2_f_x1R : List (List SV) := [[(.int .u32 [([(.var (nat_lit 0))], (Int.ofNat (nat_lit 1)))]), (.int .u32 [([(.var (nat_lit 1))], (Int.ofNat (nat_lit 1)))])], [(.int .u32 [([(.var (nat_lit 2))], (Int.ofNat (nat_lit 1)))])]]
def f80_t_x2_f_x1T0 : STree := (.test (.eq [([(.var (nat_lit 1))], (Int.ofNat (nat_lit 1)))])
  (.leaf (.agg [(.bool false), (.raw (.slice none 0 0))]))
  (.test (.eq [([(.var (nat_lit 2))], (Int.ofNat (nat_lit 1)))])
  (.leaf (.agg [(.bool false), (.raw (.slice none 0 0))]))
  (.test (.le [([], (Int.negSucc (nat_lit 18446744073709551614))), ([(.var (nat_lit 0)), (.var (nat_lit 2))], (Int.ofNat (nat_lit 1))), ([(.var (nat_lit 1)), (.var (nat_lit 2))], (Int.ofNat (nat_lit 4294967296)))])
  (.leafM (.agg [(.bool true), (.oslice (nat_lit 13) (nat_lit 2))]) [((nat_lit 13), ⟨[(.int .u32 [([(.fdiv (.mul (.var (nat_lit 0)) (.var (nat_lit 2))) (.lit (Int.ofNat (nat_lit 4294967296))))], (Int.negSucc (nat_lit 4294967295))), ([(.var (nat_lit 0)), (.var (nat_lit 2))], (Int.ofNat (nat_lit 1)))]), (.int .u32 [([(.fdiv (.mul (.var (nat_lit 0)) (.var (nat_lit 2))) (.lit (Int.ofNat (nat_lit 4294967296))))], (Int.ofNat (nat_lit 1))), ([(.var (nat_lit 1)), (.var (nat_lit 2))], (Int.ofNat (nat_lit 1)))])], (nat_lit 380932)⟩)])
  (.leafM (.agg [(.bool true), (.oslice (nat_lit 13) (nat_lit 3))]) [((nat_lit 13), ⟨[(.int .u32 [([(.fdiv (.mul (.var (nat_lit 0)) (.var (nat_lit 2))) (.lit (Int.ofNat (nat_lit 4294967296))))], (Int.negSucc (nat_lit 4294967295))), ([(.var (nat_lit 0)), (.var (nat_lit 2))], (Int.ofNat (nat_lit 1)))]), (.int .u32 [([(.fdiv (.add (.mul (.var (nat_lit 0)) (.var (nat_lit 2))) (.mul (.lit (Int.ofNat (nat_lit 4294967296))) (.mul (.var (nat_lit 1)) (.var (nat_lit 2))))) (.lit (Int.ofNat (nat_lit 18446744073709551616))))], (Int.negSucc (nat_lit 4294967295))), ([(.fdiv (.mul (.var (nat_lit 0)) (.var (nat_lit 2))) (.lit (Int.ofNat (nat_lit 4294967296))))], (Int.ofNat (nat_lit 1))), ([(.var (nat_lit 1)), (.var (nat_lit 2))], (Int.ofNat (nat_lit 1)))]), (.int .u32 [([(.fdiv (.add (.mul (.var (nat_lit 0)) (.var (nat_lit 2))) (.mul (.lit (Int.ofNat (nat_lit 4294967296))) (.mul (.var (nat_lit 1)) (.var (nat_lit 2))))) (.lit (Int.ofNat (nat_lit 18446744073709551616))))], (Int.ofNat (nat_lit 1)))])], (nat_lit 380932)⟩)]))))
theorem f80_t_x2_f_x1C0 : checkT Tryd.prog (xWith (xOf symX) f80_t_x2_f_x1R) (gxOf symG) (sumsOf sums80_t_x1_f_x2) 10000 80 f80_t_x2_f_x1A f80_t_x2_f_x1T0 (factsN f80_t_x2_f_x1K) = true := by kernel_rfl
def f80_t_x2_f_x1M : Summ := ⟨f80_t_x2_f_x1A, f80_t_x2_f_x1K, f80_t_x2_f_x1T0, f80_t_x2_f_x1R, []⟩
theorem f80_t_x2_f_x1Ok : SumOk Tryd.prog (xOf symX) (gxOf symG) 80 f80_t_x2_f_x1M := sumOk_ofN symMixed symClosed sums80_t_x1_f_x2Ok f80_t_x2_f_x1C0
def sums80_t_x2_f_x1 : List (Nat × Summ) := (80, f80_t_x2_f_x1M) :: sums80_t_x1_f_x2
theorem sums80_t_x2_f_x1Ok : ∀ g, ∀ m ∈ sumsOf sums80_t_x2_f_x1 g, SumOk Tryd.prog (xOf symX) (gxOf symG) g m := sumsOf_ok f80_t_x2_f_x1Ok sums80_t_x1_f_x2Ok
def f80_t_x2_f_x2A : List SV := [(.agg [(.bool true), (.aslice (nat_lit 1000) (nat_lit 2) (nat_lit 2))]), (.agg [(.bool false), (.aslice (nat_lit 1001) (nat_lit 2) (nat_lit 2))])]
def f80_t_x2_f_x2K : List Iv := [ivT .u32, ivT .u32, ivT .u32, ivT .u32]
def f80_t_x2_f_x2R : List (List SV) := [[(.int .u32 [([(.var (nat_lit 0))], (Int.ofNat (nat_lit 1)))]), (.int .u32 [([(.var (nat_lit 1))], (Int.ofNat (nat_lit 1)))])], [(.int .u32 [([(.var (nat_lit 2))], (Int.ofNat (nat_lit 1)))]), (.int .u32 [([(.var (nat_lit 3))], (Int.ofNat (nat_lit 1)))])]]
def f80_t_x2_f_x2T0 : STree := (.test (.eq [([(.var (nat_lit 1))], (Int.ofNat (nat_lit 1)))])
  (.leaf (.agg [(.bool false), (.raw (.slice none 0 0))]))
  (.test (.eq [([(.var (nat_lit 3))], (Int.ofNat (nat_lit 1)))])
  (.leaf (.agg [(.bool false), (.raw (.slice none 0 0))]))
  (.test (.le [([], (Int.negSucc (nat_lit 79228162514264337593543950334))), ([(.var (nat_lit 0)), (.var (nat_lit 2))], (Int.ofNat (nat_lit 1))), ([(.var (nat_lit 0)), (.var (nat_lit 3))], (Int.ofNat (nat_lit 4294967296))), ([(.var (nat_lit 1)), (.var (nat_lit 2))], (Int.ofNat (nat_lit 4294967296))), ([(.var (nat_lit 1)), (.var (nat_lit 3))], (Int.ofNat (nat_lit 18446744073709551616)))])
  (.leafM (.agg [(.bool true), (.oslice (nat_lit 13) (nat_lit 3))]) [((nat_lit 13), ⟨[(.int .u32 [([(.fdiv (.mul (.var (nat_lit 0)) (.var (nat_lit 2))) (.lit (Int.ofNat (nat_lit 4294967296))))], (Int.negSucc (nat_lit 4294967295))), ([(.var (nat_lit 0)), (.var (nat_lit 2))], (Int.ofNat (nat_lit 1)))]), (.int .u32 [([(.fdiv (.add (.mul (.var (nat_lit 0)) (.var (nat_lit 2))) (.add (.mul (.lit (Int.ofNat (nat_lit 4294967296))) (.mul (.var (nat_lit 0)) (.var (nat_lit 3)))) (.mul (.lit (Int.ofNat (nat_lit 4294967296))) (.mul (.var (nat_lit 1)) (.var (nat_lit 2)))))) (.lit (Int.ofNat (nat_lit 18446744073709551616))))], (Int.negSucc (nat_lit 4294967295))), ([(.fdiv (.mul (.var (nat_lit 0)) (.var (nat_lit 2))) (.lit (Int.ofNat (nat_lit 4294967296))))], (Int.ofNat (nat_lit 1))), ([(.var (nat_lit 0)), (.var (nat_lit 3))], (Int.ofNat (nat_lit 1))), ([(.var (nat_lit 1)), (.var (nat_lit 2))], (Int.ofNat (nat_lit 1)))]), (.int .u32 [([(.fdiv (.add (.mul (.var (nat_lit 0)) (.var (nat_lit 2))) (.add (.mul (.lit (Int.ofNat (nat_lit 4294967296))) (.mul (.var (nat_lit 0)) (.var (nat_lit 3)))) (.mul (.lit (Int.ofNat (nat_lit 4294967296))) (.mul (.var (nat_lit 1)) (.var (nat_lit 2)))))) (.lit (Int.ofNat (nat_lit 18446744073709551616))))], (Int.ofNat (nat_lit 1))), ([(.var (nat_lit 1)), (.var (nat_lit 3))], (Int.ofNat (nat_lit 1)))])], (nat_lit 380932)⟩)])
  (.leafM (.agg [(.bool true), (.oslice (nat_lit 13) (nat_lit 4))]) [((nat_lit 13), ⟨[(.int .u32 [([(.fdiv (.mul (.var (nat_lit 0)) (.var (nat_lit 2))) (.lit (Int.ofNat (nat_lit 4294967296))))], (Int.negSucc (nat_lit 4294967295))), ([(.var (nat_lit 0)), (.var (nat_lit 2))], (Int.ofNat (nat_lit 1)))]), (.int .u32 [([(.fdiv (.add (.mul (.var (nat_lit 0)) (.var (nat_lit 2))) (.add (.mul (.lit (Int.ofNat (nat_lit 4294967296))) (.mul (.var (nat_lit 0)) (.var (nat_lit 3)))) (.mul (.lit (Int.ofNat (nat_lit 4294967296))) (.mul (.var (nat_lit 1)) (.var (nat_lit 2)))))) (.lit (Int.ofNat (nat_lit 18446744073709551616))))], (Int.negSucc (nat_lit 4294967295))), ([(.fdiv (.mul (.var (nat_lit 0)) (.var (nat_lit 2))) (.lit (Int.ofNat (nat_lit 4294967296))))], (Int.ofNat (nat_lit 1))), ([(.var (nat_lit 0)), (.var (nat_lit 3))], (Int.ofNat (nat_lit 1))), ([(.var (nat_lit 1)), (.var (nat_lit 2))], (Int.ofNat (nat_lit 1)))]), (.int .u32 [([(.fdiv (.add (.mul (.var (nat_lit 0)) (.var (nat_lit 2))) (.add (.mul (.lit (Int.ofNat (nat_lit 4294967296))) (.mul (.var (nat_lit 0)) (.var (nat_lit 3)))) (.add (.mul (.lit (Int.ofNat (nat_lit 4294967296))) (.mul (.var (nat_lit 1)) (.var (nat_lit 2)))) (.mul (.lit (Int.ofNat (nat_lit 18446744073709551616))) (.mul (.var (nat_lit 1)) (.var (nat_lit 3))))))) (.lit (Int.ofNat (nat_lit 79228162514264337593543950336))))], (Int.negSucc (nat_lit 4294967295))), ([(.fdiv (.add (.mul (.var (nat_lit 0)) (.var (nat_lit 2))) (.add (.mul (.lit (Int.ofNat (nat_lit 4294967296))) (.mul (.var (nat_lit 0)) (.var (nat_lit 3)))) (.mul (.lit (Int.ofNat (nat_lit 4294967296))) (.mul (.var (nat_lit 1)) (.var (nat_lit 2)))))) (.lit (Int.ofNat (nat_lit 18446744073709551616))))], (Int.ofNat (nat_lit 1))), ([(.var (nat_lit 1)), (.var (nat_lit 3))], (Int.ofNat (nat_lit 1)))]), (.int .u32 [([(.fdiv (.add (.mul (.var (nat_lit 0)) (.var (nat_lit 2))) (.add (.mul (.lit (Int.ofNat (nat_lit 4294967296))) (.mul (.var (nat_lit 0)) (.var (nat_lit 3)))) (.add (.mul (.lit (Int.ofNat (nat_lit 4294967296))) (.mul (.var (nat_lit 1)) (.var (nat_lit 2)))) (.mul (.lit (Int.ofNat (nat_lit 18446744073709551616))) (.mul (.var (nat_lit 1)) (.var (nat_lit 3))))))) (.lit (Int.ofNat (nat_lit 79228162514264337593543950336))))], (Int.ofNat (nat_lit 1)))])], (nat_lit 380932)⟩)]))))
theorem f80_t_x2_f_x2C0 : checkT Tryd.prog (xWith (xOf symX) f80_t_x2_f_x2R) (gxOf symG) (sumsOf sums80_t_x2_f_x1) 10000 80 f80_t_x2_f_x2A f80_t_x2_f_x2T0 (factsN f80_t_x2_f_x2K) = true := by kernel_rfl
def f80_t_x2_f_x2M : Summ := ⟨f80_t_x2_f_x2A, f80_t_x2_f_x2K, f80_t_x2_f_x2T0, f80_t_x2_f_x2R, []⟩
theorem f80_t_x2_f_x2Ok : SumOk Tryd.prog (xOf symX) (gxOf symG) 80 f80_t_x2_f_x2M := sumOk_ofN symMixed symClosed sums80_t_x2_f_x1Ok f80_t_x2_f_x2C0
def sums80_t_x2_f_x2 : List (Nat × Summ) := (80, f80_t_x2_f_x2M) :: sums80_t_x2_f_x1
theorem sums80_t_x2_f_x2Ok : ∀ g, ∀ m ∈ sumsOf sums80_t_x2_f_x2 g, SumOk Tryd.prog (xOf symX) (gxOf symG) g m := sumsOf_ok f80_t_x2_f_x2Ok sums80_t_x2_f_x1Ok
def f80_t_x1_t_x1A : List SV := [(.agg [(.bool true), (.aslice (nat_lit 1000) (nat_lit 1) (nat_lit 1))]), (.agg [(.bool true), (.aslice (nat_lit 1001) (nat_lit 1) (nat_lit 1))])]
def f80_t_x1_t_x1K : List Iv := [ivT .u32, ivT .u32]
def f80_t_x1_t_x1R : List (List SV) := [[(.int .u32 [([(.var (nat_lit 0))], (Int.ofNat (nat_lit 1)))])], [(.int .u32 [([(.var (nat_lit 1))], (Int.ofNat (nat_lit 1)))])]]
def f80_t_x1_t_x1T0 : STree := (.test (.eq [([(.var (nat_lit 0))], (Int.ofNat (nat_lit 1)))])
  (.leaf (.agg [(.bool false), (.raw (.slice none 0 0))]))
  (.test (.eq [([(.var (nat_lit 1))], (Int.ofNat (nat_lit 1)))])
  (.leaf (.agg [(.bool false), (.raw (.slice none 0 0))]))
  (.test (.le [([], (Int.negSucc (nat_lit 4294967294))), ([(.var (nat_lit 0)), (.var (nat_lit 1))], (Int.ofNat (nat_lit 1)))])
  (.leafM (.agg [(.bool false), (.oslice (nat_lit 13) (nat_lit 1))]) [((nat_lit 13), ⟨[(.int .u32 [([(.var (nat_lit 0)), (.var (nat_lit 1))], (Int.ofNat (nat_lit 1)))])], (nat_lit 380932)⟩)])
  (.leafM (.agg [(.bool false), (.oslice (nat_lit 13) (nat_lit 2))]) [((nat_lit 13), ⟨[(.int .u32 [([(.fdiv (.mul (.var (nat_lit 0)) (.var (nat_lit 1))) (.lit (Int.ofNat (nat_lit 4294967296))))], (Int.negSucc (nat_lit 4294967295))), ([(.var (nat_lit 0)), (.var (nat_lit 1))], (Int.ofNat (nat_lit 1)))]), (.int .u32 [([(.fdiv (.mul (.var (nat_lit 0)) (.var (nat_lit 1))) (.lit (Int.ofNat (nat_lit 4294967296))))], (Int.ofNat (nat_lit 1)))])], (nat_lit 380932)⟩)]))))
theorem f80_t_x1_t_x1C0 : checkT Tryd.prog (xWith (xOf symX) f80_t_x1_t_x1R) (gxOf symG) (sumsOf sums80_t_x2_f_x2) 10000 80 f80_t_x1_t_x1A f80_t_x1_t_x1T0 (factsN f80_t_x1_t_x1K) = true := by kernel_rfl
def f80_t_x1_t_x1M : Summ := ⟨f80_t_x1_t_x1A, f80_t_x1_t_x1K, f80_t_x1_t_x1T0, f80_t_x1_t_x1R, []⟩
theorem f80_t_x1_t_x1Ok : SumOk Tryd.prog (xOf symX) (gxOf symG) 80 f80_t_x1_t_x1M := sumOk_ofN symMixed symClosed sums80_t_x2_f_x2Ok f80_t_x1_t_x1C0
def sums80_t_x1_t_x1 : List (Nat × Summ) := (80, f80_t_x1_t_x1M) :: sums80_t_x2_f_x2
theorem sums80_t_x1_t_x1Ok : ∀ g, ∀ m ∈ sumsOf sums80_t_x1_t_x1 g, SumOk Tryd.prog (xOf symX) (gxOf symG) g m := sumsOf_ok f80_t_x1_t_x1Ok sums80_t_x2_f_x2Ok
def f80_t_x1_t_x2A : List SV := [(.agg [(.bool true), (.aslice (nat_lit 1000) (nat_lit 1) (nat_lit 1))]), (.agg [(.bool true), (.aslice (nat_lit 1001) (nat_lit 2) (nat_lit 2))])]
def f80_t_x1_t_x2K : List Iv := [ivT .u32, ivT .u32, ivT .u32]
def f80_t_x1_t_x2R : List (List SV) := [[(.int .u32 [([(.var (nat_lit 0))], (Int.ofNat (nat_lit 1)))])], [(.int .u32 [([(.var (nat_lit 1))], (Int.ofNat (nat_lit 1)))]), (.int .u32 [([(.var (nat_lit 2))], (Int.ofNat (nat_lit 1)))])]]
def f80_t_x1_t_x2T0 : STree := (.test (.eq [([(.var (nat_lit 0))], (Int.ofNat (nat_lit 1)))])
  (.leaf (.agg [(.bool false), (.raw (.slice none 0 0))]))
  (.test (.eq [([(.var (nat_lit 2))], (Int.ofNat (nat_lit 1)))])
  (.leaf (.agg [(.bool false), (.raw (.slice none 0 0))]))
  (.test (.le [([], (Int.negSucc (nat_lit 18446744073709551614))), ([(.var (nat_lit 0)), (.var (nat_lit 1))], (Int.ofNat (nat_lit 1))), ([(.var (nat_lit 0)), (.var (nat_lit 2))], (Int.ofNat (nat_lit 4294967296)))])
  (.leafM (.agg [(.bool false), (.oslice (nat_lit 13) (nat_lit 2))]) [((nat_lit 13), ⟨[(.int .u32 [([(.fdiv (.mul (.var (nat_lit 0)) (.var (nat_lit 1))) (.lit (Int.ofNat (nat_lit 4294967296))))], (Int.negSucc (nat_lit 4294967295))), ([(.var (nat_lit 0)), (.var (nat_lit 1))], (Int.ofNat (nat_lit 1)))]), (.int .u32 [([(.fdiv (.mul (.var (nat_lit 0)) (.var (nat_lit 1))) (.lit (Int.ofNat (nat_lit 4294967296))))], (Int.ofNat (nat_lit 1))), ([(.var (nat_lit 0)), (.var (nat_lit 2))], (Int.ofNat (nat_lit 1)))])], (nat_lit 380932)⟩)])
  (.leafM (.agg [(.bool false), (.oslice (nat_lit 13) (nat_lit 3))]) [((nat_lit 13), ⟨[(.int .u32 [([(.fdiv (.mul (.var (nat_lit 0)) (.var (nat_lit 1))) (.lit (Int.ofNat (nat_lit 4294967296))))], (Int.negSucc (nat_lit 4294967295))), ([(.var (nat_lit 0)), (.var (nat_lit 1))], (Int.ofNat (nat_lit 1)))]), (.int .u32 [([(.fdiv (.add (.mul (.var (nat_lit 0)) (.var (nat_lit 1))) (.mul (.lit (Int.ofNat (nat_lit 4294967296))) (.mul (.var (nat_lit 0)) (.var (nat_lit 2))))) (.lit (Int.ofNat (nat_lit 18446744073709551616))))], (Int.negSucc (nat_lit 4294967295))), ([(.fdiv (.mul (.var (nat_lit 0)) (.var (nat_lit 1))) (.lit (Int.ofNat (nat_lit 4294967296))))], (Int.ofNat (nat_lit 1))), ([(.var (nat_lit 0)), (.var (nat_lit 2))], (Int.ofNat (nat_lit 1)))]), (.int .u32 [([(.fdiv (.add (.mul (.var (nat_lit 0)) (.var (nat_lit 1))) (.mul (.lit (Int.ofNat (nat_lit 4294967296))) (.mul (.var (nat_lit 0)) (.var (nat_lit 2))))) (.lit (Int.ofNat (nat_lit 18446744073709551616))))], (Int.ofNat (nat_lit 1)))])], (nat_lit 380932)⟩)]))))
theorem f80_t_x1_t_x2C0 : checkT Tryd.prog (xWith (xOf symX) f80_t_x1_t_x2R) (gxOf symG) (sumsOf sums80_t_x1_t_x1) 10000 80 f80_t_x1_t_x2A f80_t_x1_t_x2T0 (factsN f80_t_x1_t_x2K) = true := by kernel_rfl
def f80_t_x1_t_x2M : Summ := ⟨f80_t_x1_t_x2A, f80_t_x1_t_x2K, f80_t_x1_t_x2T0, f80_t_x1_t_x2R, []⟩
theorem f80_t_x1_t_x2Ok : SumOk Tryd.prog (xOf symX) (gxOf symG) 80 f80_t_x1_t_x2M := sumOk_ofN symMixed symClosed sums80_t_x1_t_x1Ok f80_t_x1_t_x2C0
def sums80_t_x1_t_x2 : List (Nat × Summ) := (80, f80_t_x1_t_x2M) :: sums80_t_x1_t_x1
theorem sums80_t_x1_t_x2Ok : ∀ g, ∀ m ∈ sumsOf sums80_t_x1_t_x2 g, SumOk Tryd.prog (xOf symX) (gxOf symG) g m := sumsOf_ok f80_t_x1_t_x2Ok sums80_t_x1_t_x1Ok
def f80_t_x2_t_x1A : List SV := [(.agg [(.bool true), (.aslice (nat_lit 1000) (nat_lit 2) (nat_lit 2))]), (.agg [(.bool true), (.aslice (nat_lit 1001) (nat_lit 1) (nat_lit 1))])]
def f80_t_x2_t_x1K : List Iv := [ivT .u32, ivT .u32, ivT .u32]
def f80_t_x2_t_x1R : List (List SV) := [[(.int .u32 [([(.var (nat_lit 0))], (Int.ofNat (nat_lit 1)))]), (.int .u32 [([(.var (nat_lit 1))], (Int.ofNat (nat_lit 1)))])], [(.int .u32 [([(.var (nat_lit 2))], (Int.ofNat (nat_lit 1)))])]]
def f80_t_x2_t_x1T0 : STree := (.test (.eq [([(.var (nat_lit 1))], (Int.ofNat (nat_lit 1)))])
  (.leaf (.agg [(.bool false), (.raw (.slice none 0 0))]))
  (.test (.eq [([(.var (nat_lit 2))], (Int.ofNat (nat_lit 1)))])
  (.leaf (.agg [(.bool false), (.raw (.slice none 0 0))]))
  (.test (.le [([], (Int.negSucc (nat_lit 18446744073709551614))), ([(.var (nat_lit 0)), (.var (nat_lit 2))], (Int.ofNat (nat_lit 1))), ([(.var (nat_lit 1)), (.var (nat_lit 2))], (Int.ofNat (nat_lit 4294967296)))])
  (.leafM (.agg [(.bool false), (.oslice (nat_lit 13) (nat_lit 2))]) [((nat_lit 13), ⟨[(.int .u32 [([(.fdiv (.mul (.var (nat_lit 0)) (.var (nat_lit 2))) (.lit (Int.ofNat (nat_lit 4294967296))))], (Int.negSucc (nat_lit 4294967295))), ([(.var (nat_lit 0)), (.var (nat_lit 2))], (Int.ofNat (nat_lit 1)))]), (.int .u32 [([(.fdiv (.mul (.var (nat_lit 0)) (.var (nat_lit 2))) (.lit (Int.ofNat (nat_lit 4294967296))))], (Int.ofNat (nat_lit 1))), ([(.var (nat_lit 1)), (.var (nat_lit 2))], (Int.ofNat (nat_lit 1)))])], (nat_lit 380932)⟩)])
  (.leafM (.agg [(.bool false), (.oslice (nat_lit 13) (nat_lit 3))]) [((nat_lit 13), ⟨[(.int .u32 [([(.fdiv (.mul (.var (nat_lit 0)) (.var (nat_lit 2))) (.lit (Int.ofNat (nat_lit 4294967296))))], (Int.negSucc (nat_lit 4294967295))), ([(.var (nat_lit 0)), (.var (nat_lit 2))], (Int.ofNat (nat_lit 1)))]), (.int .u32 [([(.fdiv (.add (.mul (.var (nat_lit 0)) (.var (nat_lit 2))) (.mul (.lit (Int.ofNat (nat_lit 4294967296))) (.mul (.var (nat_lit 1)) (.var (nat_lit 2))))) (.lit (Int.ofNat (nat_lit 18446744073709551616))))], (Int.negSucc (nat_lit 4294967295))), ([(.fdiv (.mul (.var (nat_lit 0)) (.var (nat_lit 2))) (.lit (Int.ofNat (nat_lit 4294967296))))], (Int.ofNat (nat_lit 1))), ([(.var (nat_lit 1)), (.var (nat_lit 2))], (Int.ofNat (nat_lit 1)))]), (.int .u32 [([(.fdiv (.add (.mul (.var (nat_lit 0)) (.var (nat_lit 2))) (.mul (.lit (Int.ofNat (nat_lit 4294967296))) (.mul (.var (nat_lit 1)) (.var (nat_lit 2))))) (.lit (Int.ofNat (nat_lit 18446744073709551616))))], (Int.ofNat (nat_lit 1)))])], (nat_lit 380932)⟩)]))))
theorem f80_t_x2_t_x1C0 : checkT Tryd.prog (xWith (xOf symX) f80_t_x2_t_x1R) (gxOf symG) (sumsOf sums80_t_x1_t_x2) 10000 80 f80_t_x2_t_x1A f80_t_x2_t_x1T0 (factsN f80_t_x2_t_x1K) = true := by kernel_rfl
def f80_t_x2_t_x1M : Summ := ⟨f80_t_x2_t_x1A, f80_t_x2_t_x1K, f80_t_x2_t_x1T0, f80_t_x2_t_x1R, []⟩
theorem f80_t_x2_t_x1Ok : SumOk Tryd.prog (xOf symX) (gxOf symG) 80 f80_t_x2_t_x1M := sumOk_ofN symMixed symClosed sums80_t_x1_t_x2Ok f80_t_x2_t_x1C0
def sums80_t_x2_t_x1 : List (Nat × Summ) := (80, f80_t_x2_t_x1M) :: sums80_t_x1_t_x2
theorem sums80_t_x2_t_x1Ok : ∀ g, ∀ m ∈ sumsOf sums80_t_x2_t_x1 g, SumOk Tryd.prog (xOf symX) (gxOf symG) g m := sumsOf_ok f80_t_x2_t_x1Ok sums80_t_x1_t_x2Ok
def f80_t_x2_t_x2A : List SV := [(.agg [(.bool true), (.aslice (nat_lit 1000) (nat_lit 2) (nat_lit 2))]), (.agg [(.bool true), (.aslice (nat_lit 1001) (nat_lit 2) (nat_lit 2))])]
def f80_t_x2_t_x2K : List Iv := [ivT .u32, ivT .u32, ivT .u32, ivT .u32]
def f80_t_x2_t_x2R : List (List SV) := [[(.int .u32 [([(.var (nat_lit 0))], (Int.ofNat (nat_lit 1)))]), (.int .u32 [([(.var (nat_lit 1))], (Int.ofNat (nat_lit 1)))])], [(.int .u32 [([(.var (nat_lit 2))], (Int.ofNat (nat_lit 1)))]), (.int .u32 [([(.var (nat_lit 3))], (Int.ofNat (nat_lit 1)))])]]
def f80_t_x2_t_x2T0 : STree := (.test (.eq [([(.var (nat_lit 1))], (Int.ofNat (nat_lit 1)))])
  (.leaf (.agg [(.bool false), (.raw (.slice none 0 0))]))
  (.test (.eq [([(.var (nat_lit 3))], (Int.ofNat (nat_lit 1)))])
  (.leaf (.agg [(.bool false), (.raw (.slice none 0 0))]))
  (.test (.le [([], (Int.negSucc (nat_lit 79228162514264337593543950334))), ([(.var (nat_lit 0)), (.var (nat_lit 2))], (Int.ofNat (nat_lit 1))), ([(.var (nat_lit 0)), (.var (nat_lit 3))], (Int.ofNat (nat_lit 4294967296))), ([(.var (nat_lit 1)), (.var (nat_lit 2))], (Int.ofNat (nat_lit 4294967296))), ([(.var (nat_lit 1)), (.var (nat_lit 3))], (Int.ofNat (nat_lit 18446744073709551616)))])
  (.leafM (.agg [(.bool false), (.oslice (nat_lit 13) (nat_lit 3))]) [((nat_lit 13), ⟨[(.int .u32 [([(.fdiv (.mul (.var (nat_lit 0)) (.var (nat_lit 2))) (.lit (Int.ofNat (nat_lit 4294967296))))], (Int.negSucc (nat_lit 4294967295))), ([(.var (nat_lit 0)), (.var (nat_lit 2))], (Int.ofNat (nat_lit 1)))]), (.int .u32 [([(.fdiv (.add (.mul (.var (nat_lit 0)) (.var (nat_lit 2))) (.add (.mul (.lit (Int.ofNat (nat_lit 4294967296))) (.mul (.var (nat_lit 0)) (.var (nat_lit 3)))) (.mul (.lit (Int.ofNat (nat_lit 4294967296))) (.mul (.var (nat_lit 1)) (.var (nat_lit 2)))))) (.lit (Int.ofNat (nat_lit 18446744073709551616))))], (Int.negSucc (nat_lit 4294967295))), ([(.fdiv (.mul (.var (nat_lit 0)) (.var (nat_lit 2))) (.lit (Int.ofNat (nat_lit 4294967296))))], (Int.ofNat (nat_lit 1))), ([(.var (nat_lit 0)), (.var (nat_lit 3))], (Int.ofNat (nat_lit 1))), ([(.var (nat_lit 1)), (.var (nat_lit 2))], (Int.ofNat (nat_lit 1)))]), (.int .u32 [([(.fdiv (.add (.mul (.var (nat_lit 0)) (.var (nat_lit 2))) (.add (.mul (.lit (Int.ofNat (nat_lit 4294967296))) (.mul (.var (nat_lit 0)) (.var (nat_lit 3)))) (.mul (.lit (Int.ofNat (nat_lit 4294967296))) (.mul (.var (nat_lit 1)) (.var (nat_lit 2)))))) (.lit (Int.ofNat (nat_lit 18446744073709551616))))], (Int.ofNat (nat_lit 1))), ([(.var (nat_lit 1)), (.var (nat_lit 3))], (Int.ofNat (nat_lit 1)))])], (nat_lit 380932)⟩)])
  (.leafM (.agg [(.bool false), (.oslice (nat_lit 13) (nat_lit 4))]) [((nat_lit 13), ⟨[(.int .u32 [([(.fdiv (.mul (.var (nat_lit 0)) (.var (nat_lit 2))) (.lit (Int.ofNat (nat_lit 4294967296))))], (Int.negSucc (nat_lit 4294967295))), ([(.var (nat_lit 0)), (.var (nat_lit 2))], (Int.ofNat (nat_lit 1)))]), (.int .u32 [([(.fdiv (.add (.mul (.var (nat_lit 0)) (.var (nat_lit 2))) (.add (.mul (.lit (Int.ofNat (nat_lit 4294967296))) (.mul (.var (nat_lit 0)) (.var (nat_lit 3)))) (.mul (.lit (Int.ofNat (nat_lit 4294967296))) (.mul (.var (nat_lit 1)) (.var (nat_lit 2)))))) (.lit (Int.ofNat (nat_lit 18446744073709551616))))], (Int.negSucc (nat_lit 4294967295))), ([(.fdiv (.mul (.var (nat_lit 0)) (.var (nat_lit 2))) (.lit (Int.ofNat (nat_lit 4294967296))))], (Int.ofNat (nat_lit 1))), ([(.var (nat_lit 0)), (.var (nat_lit 3))], (Int.ofNat (nat_lit 1))), ([(.var (nat_lit 1)), (.var (nat_lit 2))], (Int.ofNat (nat_lit 1)))]), (.int .u32 [([(.fdiv (.add (.mul (.var (nat_lit 0)) (.var (nat_lit 2))) (.add (.mul (.lit (Int.ofNat (nat_lit 4294967296))) (.mul (.var (nat_lit 0)) (.var (nat_lit 3)))) (.add (.mul (.lit (Int.ofNat (nat_lit 4294967296))) (.mul (.var (nat_lit 1)) (.var (nat_lit 2)))) (.mul (.lit (Int.ofNat (nat_lit 18446744073709551616))) (.mul (.var (nat_lit 1)) (.var (nat_lit 3))))))) (.lit (Int.ofNat (nat_lit 79228162514264337593543950336))))], (Int.negSucc (nat_lit 4294967295))), ([(.fdiv (.add (.mul (.var (nat_lit 0)) (.var (nat_lit 2))) (.add (.mul (.lit (Int.ofNat (nat_lit 4294967296))) (.mul (.var (nat_lit 0)) (.var (nat_lit 3)))) (.mul (.lit (Int.ofNat (nat_lit 4294967296))) (.mul (.var (nat_lit 1)) (.var (nat_lit 2)))))) (.lit (Int.ofNat (nat_lit 18446744073709551616))))], (Int.ofNat (nat_lit 1))), ([(.var (nat_lit 1)), (.var (nat_lit 3))], (Int.ofNat (nat_lit 1)))]), (.int .u32 [([(.fdiv (.add (.mul (.var (nat_lit 0)) (.var (nat_lit 2))) (.add (.mul (.lit (Int.ofNat (nat_lit 4294967296))) (.mul (.var (nat_lit 0)) (.var (nat_lit 3)))) (.add (.mul (.lit (Int.ofNat (nat_lit 4294967296))) (.mul (.var (nat_lit 1)) (.var (nat_lit 2)))) (.mul (.lit (Int.ofNat (nat_lit 18446744073709551616))) (.mul (.var (nat_lit 1)) (.var (nat_lit 3))))))) (.lit (Int.ofNat (nat_lit 79228162514264337593543950336))))], (Int.ofNat (nat_lit 1)))])], (nat_lit 380932)⟩)]))))
theorem f80_t_x2_t_x2C0 : checkT Tryd.prog (xWith (xOf symX) f80_t_x2_t_x2R) (gxOf symG) (sumsOf sums80_t_x2_t_x1) 10000 80 f80_t_x2_t_x2A f80_t_x2_t_x2T0 (factsN f80_t_x2_t_x2K) = true := by kernel_rfl
def f80_t_x2_t_x2M : Summ := ⟨f80_t_x2_t_x2A, f80_t_x2_t_x2K, f80_t_x2_t_x2T0, f80_t_x2_t_x2R, []⟩
theorem f80_t_x2_t_x2Ok : SumOk Tryd.prog (xOf symX) (gxOf symG) 80 f80_t_x2_t_x2M := sumOk_ofN symMixed symClosed sums80_t_x2_t_x1Ok f80_t_x2_t_x2C0
def sums80_t_x2_t_x2 : List (Nat × Summ) := (80, f80_t_x2_t_x2M) :: sums80_t_x2_t_x1
theorem sums80_t_x2_t_x2Ok : ∀ g, ∀ m ∈ sumsOf sums80_t_x2_t_x2 g, SumOk Tryd.prog (xOf symX) (gxOf symG) g m := sumsOf_ok f80_t_x2_t_x2Ok sums80_t_x2_t_x1Ok
def f83_f_nilA : List SV := [(.agg [(.bool false), (.raw (.slice none 0 0))])]
def f83_f_nilK : List Iv := []
def f83_f_nilR : List (List SV) := []
def f83_f_nilT0 : STree := (.leaf (.tuple [(.int .i64 []), (.bool true)]))
theorem f83_f_nilC0 : checkT Tryd.prog (xWith (xOf symX) f83_f_nilR) (gxOf symG) (sumsOf sums80_t_x2_t_x2) 10000 83 f83_f_nilA f83_f_nilT0 (factsN f83_f_nilK) = true := by kernel_rfl
def f83_f_nilM : Summ := ⟨f83_f_nilA, f83_f_nilK, f83_f_nilT0, f83_f_nilR, []⟩
theorem f83_f_nilOk : SumOk Tryd.prog (xOf symX) (gxOf symG) 83 f83_f_nilM := sumOk_ofN symMixed symClosed sums80_t_x2_t_x2Ok f83_f_nilC0
def sums83_f_nil : List (Nat × Summ) := (83, f83_f_nilM) :: sums80_t_x2_t_x2
theorem sums83_f_nilOk : ∀ g, ∀ m ∈ sumsOf sums83_f_nil g, SumOk Tryd.prog (xOf symX) (gxOf symG) g m := sumsOf_ok f83_f_nilOk sums80_t_x2_t_x2Ok
def f83_f_x1A : List SV := [(.agg [(.bool false), (.aslice (nat_lit 1000) (nat_lit 1) (nat_lit 1))])]
def f83_f_x1K : List Iv := [ivT .u32]
def f83_f_x1R : List (List SV) := [[(.int .u32 [([(.var (nat_lit 0))], (Int.ofNat (nat_lit 1)))])]]
def f83_f_x1T0 : STree := (.test (.eq [([(.var (nat_lit 0))], (Int.ofNat (nat_lit 1)))])
  (.leaf (.tuple [(.int .i64 []), (.bool false)]))
  (.leaf (.tuple [(.int .i64 [([(.var (nat_lit 0))], (Int.ofNat (nat_lit 1)))]), (.bool true)])))
theorem f83_f_x1C0 : checkT Tryd.prog (xWith (xOf symX) f83_f_x1R) (gxOf symG) (sumsOf sums83_f_nil) 10000 83 f83_f_x1A f83_f_x1T0 (factsN f83_f_x1K) = true := by kernel_rfl
def f83_f_x1M : Summ := ⟨f83_f_x1A, f83_f_x1K, f83_f_x1T0, f83_f_x1R, []⟩
theorem f83_f_x1Ok : SumOk Tryd.prog (xOf symX) (gxOf symG) 83 f83_f_x1M := sumOk_ofN symMixed symClosed sums83_f_nilOk f83_f_x1C0
def sums83_f_x1 : List (Nat × Summ) := (83, f83_f_x1M) :: sums83_f_nil
theorem sums83_f_x1Ok : ∀ g, ∀ m ∈ sumsOf sums83_f_x1 g, SumOk Tryd.prog (xOf symX) (gxOf symG) g m := sumsOf_ok f83_f_x1Ok sums83_f_nilOk
def f83_t_x1A : List SV := [(.agg [(.bool true), (.aslice (nat_lit 1000) (nat_lit 1) (nat_lit 1))])]
def f83_t_x1K : List Iv := [ivT .u32]
def f83_t_x1R : List (List SV) := [[(.int .u32 [([(.var (nat_lit 0))], (Int.ofNat (nat_lit 1)))])]]
def f83_t_x1T0 : STree := (.test (.eq [([(.var (nat_lit 0))], (Int.ofNat (nat_lit 1)))])
  (.leaf (.tuple [(.int .i64 []), (.bool false)]))
  (.leaf (.tuple [(.int .i64 [([(.wrap .i64 (.add (.lit (Int.ofNat (nat_lit 18446744073709551616))) (.mul (.lit (Int.negSucc (nat_lit 0))) (.var (nat_lit 0)))))], (Int.ofNat (nat_lit 1)))]), (.bool true)])))
theorem f83_t_x1C0 : checkT Tryd.prog (xWith (xOf symX) f83_t_x1R) (gxOf symG) (sumsOf sums83_f_x1) 10000 83 f83_t_x1A f83_t_x1T0 (factsN f83_t_x1K) = true := by kernel_rfl
def f83_t_x1M : Summ := ⟨f83_t_x1A, f83_t_x1K, f83_t_x1T0, f83_t_x1R, []⟩
theorem f83_t_x1Ok : SumOk Tryd.prog (xOf symX) (gxOf symG) 83 f83_t_x1M := sumOk_ofN symMixed symClosed sums83_f_x1Ok f83_t_x1C0
def sums83_t_x1 : List (Nat × Summ) := (83, f83_t_x1M) :: sums83_f_x1
theorem sums83_t_x1Ok : ∀ g, ∀ m ∈ sumsOf sums83_t_x1 g, SumOk Tryd.prog (xOf symX) (gxOf symG) g m := sumsOf_ok f83_t_x1Ok sums83_f_x1Ok
def f83_f_x2A : List SV := [(.agg [(.bool false), (.aslice (nat_lit 1000) (nat_lit 2) (nat_lit 2))])]
def f83_f_x2K : List Iv := [ivT .u32, ivT .u32]
def f83_f_x2R : List (List SV) := [[(.int .u32 [([(.var (nat_lit 0))], (Int.ofNat (nat_lit 1)))]), (.int .u32 [([(.var (nat_lit 1))], (Int.ofNat (nat_lit 1)))])]]
def f83_f_x2T0 : STree := (.test (.eq [([(.var (nat_lit 1))], (Int.ofNat (nat_lit 1)))])
  (.leaf (.tuple [(.int .i64 []), (.bool false)]))
  (.test (.le [([], (Int.ofNat (nat_lit 9223372036854775808))), ([(.var (nat_lit 0))], (Int.negSucc (nat_lit 0))), ([(.var (nat_lit 1))], (Int.negSucc (nat_lit 4294967295)))])
  (.leaf (.tuple [(.int .i64 []), (.bool false)]))
  (.leaf (.tuple [(.int .i64 [([(.var (nat_lit 0))], (Int.ofNat (nat_lit 1))), ([(.var (nat_lit 1))], (Int.ofNat (nat_lit 4294967296)))]), (.bool true)]))))
theorem f83_f_x2C0 : checkT Tryd.prog (xWith (xOf symX) f83_f_x2R) (gxOf symG) (sumsOf sums83_t_x1) 10000 83 f83_f_x2A f83_f_x2T0 (factsN f83_f_x2K) = true := by kernel_rfl
def f83_f_x2M : Summ := ⟨f83_f_x2A, f83_f_x2K, f83_f_x2T0, f83_f_x2R, []⟩
theorem f83_f_x2Ok : SumOk Tryd.prog (xOf symX) (gxOf symG) 83 f83_f_x2M := sumOk_ofN symMixed symClosed sums83_t_x1Ok f83_f_x2C0
def sums83_f_x2 : List (Nat × Summ) := (83, f83_f_x2M) :: sums83_t_x1
theorem sums83_f_x2Ok : ∀ g, ∀ m ∈ sumsOf sums83_f_x2 g, SumOk Tryd.prog (xOf symX) (gxOf symG) g m := sumsOf_ok f83_f_x2Ok sums83_t_x1Ok
def f83_t_x2A : List SV := [(.agg [(.bool true), (.aslice (nat_lit 1000) (nat_lit 2) (nat_lit 2))])]
def f83_t_x2K : List Iv := [ivT .u32, ivT .u32]
def f83_t_x2R : List (List SV) := [[(.int .u32 [([(.var (nat_lit 0))], (Int.ofNat (nat_lit 1)))]), (.int .u32 [([(.var (nat_lit 1))], (Int.ofNat (nat_lit 1)))])]]
def f83_t_x2T0 : STree := (.test (.eq [([(.var (nat_lit 1))], (Int.ofNat (nat_lit 1)))])
  (.leaf (.tuple [(.int .i64 []), (.bool false)]))
  (.test (.le [([], (Int.ofNat (nat_lit 9223372036854775809))), ([(.var (nat_lit 0))], (Int.negSucc (nat_lit 0))), ([(.var (nat_lit 1))], (Int.negSucc (nat_lit 4294967295)))])
  (.leaf (.tuple [(.int .i64 []), (.bool false)]))
  (.leaf (.tuple [(.int .i64 [([(.wrap .i64 (.add (.lit (Int.ofNat (nat_lit 18446744073709551616))) (.add (.mul (.lit (Int.negSucc (nat_lit 0))) (.var (nat_lit 0))) (.mul (.lit (Int.negSucc (nat_lit 4294967295))) (.var (nat_lit 1))))))], (Int.ofNat (nat_lit 1)))]), (.bool true)]))))
theorem f83_t_x2C0 : checkT Tryd.prog (xWith (xOf symX) f83_t_x2R) (gxOf symG) (sumsOf sums83_f_x2) 10000 83 f83_t_x2A f83_t_x2T0 (factsN f83_t_x2K) = true := by kernel_rfl
def f83_t_x2M : Summ := ⟨f83_t_x2A, f83_t_x2K, f83_t_x2T0, f83_t_x2R, []⟩
theorem f83_t_x2Ok : SumOk Tryd.prog (xOf symX) (gxOf symG) 83 f83_t_x2M := sumOk_ofN symMixed symClosed sums83_f_x2Ok f83_t_x2C0
def sums83_t_x2 : List (Nat × Summ) := (83, f83_t_x2M) :: sums83_f_x2
theorem sums83_t_x2Ok : ∀ g, ∀ m ∈ sumsOf sums83_t_x2 g, SumOk Tryd.prog (xOf symX) (gxOf symG) g m := sumsOf_ok f83_t_x2Ok sums83_f_x2Ok
def f83_f_x3A : List SV := [(.agg [(.bool false), (.aslice (nat_lit 1000) (nat_lit 3) (nat_lit 3))])]
def f83_f_x3K : List Iv := [ivT .u32, ivT .u32, ivT .u32]
def f83_f_x3R : List (List SV) := [[(.int .u32 [([(.var (nat_lit 0))], (Int.ofNat (nat_lit 1)))]), (.int .u32 [([(.var (nat_lit 1))], (Int.ofNat (nat_lit 1)))]), (.int .u32 [([(.var (nat_lit 2))], (Int.ofNat (nat_lit 1)))])]]
def f83_f_x3T0 : STree := (.test (.eq [([(.var (nat_lit 2))], (Int.ofNat (nat_lit 1)))])
  (.leaf (.tuple [(.int .i64 []), (.bool false)]))
  (.leaf (.tuple [(.int .i64 []), (.bool false)])))
theorem f83_f_x3C0 : checkT Tryd.prog (xWith (xOf symX) f83_f_x3R) (gxOf symG) (sumsOf sums83_t_x2) 10000 83 f83_f_x3A f83_f_x3T0 (factsN f83_f_x3K) = true := by kernel_rfl
def f83_f_x3M : Summ := ⟨f83_f_x3A, f83_f_x3K, f83_f_x3T0, f83_f_x3R, []⟩
theorem f83_f_x3Ok : SumOk Tryd.prog (xOf symX) (gxOf symG) 83 f83_f_x3M := sumOk_ofN symMixed symClosed sums83_t_x2Ok f83_f_x3C0
def sums83_f_x3 : List (Nat × Summ) := (83, f83_f_x3M) :: sums83_t_x2
theorem sums83_f_x3Ok : ∀ g, ∀ m ∈ sumsOf sums83_f_x3 g, SumOk Tryd.prog (xOf symX) (gxOf symG) g m := sumsOf_ok f83_f_x3Ok sums83_t_x2Ok
def f83_t_x3A : List SV := [(.agg [(.bool true), (.aslice (nat_lit 1000) (nat_lit 3) (nat_lit 3))])]
def f83_t_x3K : List Iv := [ivT .u32, ivT .u32, ivT .u32]
def f83_t_x3R : List (List SV) := [[(.int .u32 [([(.var (nat_lit 0))], (Int.ofNat (nat_lit 1)))]), (.int .u32 [([(.var (nat_lit 1))], (Int.ofNat (nat_lit 1)))]), (.int .u32 [([(.var (nat_lit 2))], (Int.ofNat (nat_lit 1)))])]]
def f83_t_x3T0 : STree := (.test (.eq [([(.var (nat_lit 2))], (Int.ofNat (nat_lit 1)))])
  (.leaf (.tuple [(.int .i64 []), (.bool false)]))
  (.leaf (.tuple [(.int .i64 []), (.bool false)])))
theorem f83_t_x3C0 : checkT Tryd.prog (xWith (xOf symX) f83_t_x3R) (gxOf symG) (sumsOf sums83_f_x3) 10000 83 f83_t_x3A f83_t_x3T0 (factsN f83_t_x3K) = true := by kernel_rfl
def f83_t_x3M : Summ := ⟨f83_t_x3A, f83_t_x3K, f83_t_x3T0, f83_t_x3R, []⟩
theorem f83_t_x3Ok : SumOk Tryd.prog (xOf symX) (gxOf symG) 83 f83_t_x3M := sumOk_ofN symMixed symClosed sums83_f_x3Ok f83_t_x3C0
def sums83_t_x3 : List (Nat × Summ) := (83, f83_t_x3M) :: sums83_f_x3
theorem sums83_t_x3Ok : ∀ g, ∀ m ∈ sumsOf sums83_t_x3 g, SumOk Tryd.prog (xOf symX) (gxOf symG) g m := sumsOf_ok f83_t_x3Ok sums83_f_x3Ok
def f83_f_x4A : List SV := [(.agg [(.bool false), (.aslice (nat_lit 1000) (nat_lit 4) (nat_lit 4))])]
def f83_f_x4K : List Iv := [ivT .u32, ivT .u32, ivT .u32, ivT .u32]
def f83_f_x4R : List (List SV) := [[(.int .u32 [([(.var (nat_lit 0))], (Int.ofNat (nat_lit 1)))]), (.int .u32 [([(.var (nat_lit 1))], (Int.ofNat (nat_lit 1)))]), (.int .u32 [([(.var (nat_lit 2))], (Int.ofNat (nat_lit 1)))]), (.int .u32 [([(.var (nat_lit 3))], (Int.ofNat (nat_lit 1)))])]]
def f83_f_x4T0 : STree := (.test (.eq [([(.var (nat_lit 3))], (Int.ofNat (nat_lit 1)))])
  (.leaf (.tuple [(.int .i64 []), (.bool false)]))
  (.leaf (.tuple [(.int .i64 []), (.bool false)])))
theorem f83_f_x4C0 : checkT Tryd.prog (xWith (xOf symX) f83_f_x4R) (gxOf symG) (sumsOf sums83_t_x3) 10000 83 f83_f_x4A f83_f_x4T0 (factsN f83_f_x4K) = true := by kernel_rfl
def f83_f_x4M : Summ := ⟨f83_f_x4A, f83_f_x4K, f83_f_x4T0, f83_f_x4R, []⟩
theorem f83_f_x4Ok : SumOk Tryd.prog (xOf symX) (gxOf symG) 83 f83_f_x4M := sumOk_ofN symMixed symClosed sums83_t_x3Ok f83_f_x4C0
def sums83_f_x4 : List (Nat × Summ) := (83, f83_f_x4M) :: sums83_t_x3
theorem sums83_f_x4Ok : ∀ g, ∀ m ∈ sumsOf sums83_f_x4 g, SumOk Tryd.prog (xOf symX) (gxOf symG) g m := sumsOf_ok f83_f_x4Ok sums83_t_x3Ok
def f83_t_x4A : List SV := [(.agg [(.bool true), (.aslice (nat_lit 1000) (nat_lit 4) (nat_lit 4))])]
def f83_t_x4K : List Iv := [ivT .u32, ivT .u32, ivT .u32, ivT .u32]
def f83_t_x4R : List (List SV) := [[(.int .u32 [([(.var (nat_lit 0))], (Int.ofNat (nat_lit 1)))]), (.int .u32 [([(.var (nat_lit 1))], (Int.ofNat (nat_lit 1)))]), (.int .u32 [([(.var (nat_lit 2))], (Int.ofNat (nat_lit 1)))]), (.int .u32 [([(.var (nat_lit 3))], (Int.ofNat (nat_lit 1)))])]]
def f83_t_x4T0 : STree := (.test (.eq [([(.var (nat_lit 3))], (Int.ofNat (nat_lit 1)))])
  (.leaf (.tuple [(.int .i64 []), (.bool false)]))
  (.leaf (.tuple [(.int .i64 []), (.bool false)])))
theorem f83_t_x4C0 : checkT Tryd.prog (xWith (xOf symX) f83_t_x4R) (gxOf symG) (sumsOf sums83_f_x4) 10000 83 f83_t_x4A f83_t_x4T0 (factsN f83_t_x4K) = true := by kernel_rfl
def f83_t_x4M : Summ := ⟨f83_t_x4A, f83_t_x4K, f83_t_x4T0, f83_t_x4R, []⟩
theorem f83_t_x4Ok : SumOk Tryd.prog (xOf symX) (gxOf symG) 83 f83_t_x4M := sumOk_ofN symMixed symClosed sums83_f_x4Ok f83_t_x4C0
def sums83_t_x4 : List (Nat × Summ) := (83, f83_t_x4M) :: sums83_f_x4
theorem sums83_t_x4Ok : ∀ g, ∀ m ∈ sumsOf sums83_t_x4 g, SumOk Tryd.prog (xOf symX) (gxOf symG) g m := sumsOf_ok f83_t_x4Ok sums83_f_x4Ok
def f59_sc60A : List SV := [(.int .i64 [([(.var (nat_lit 0))], (Int.ofNat (nat_lit 1)))]), (.int .i64 [([(.var (nat_lit 1))], (Int.ofNat (nat_lit 1)))])]
def f59_sc60K : List Iv := [ivT .i64, ivT .i64]
def f59_sc60R : List (List SV) := []
def f59_sc60Q0 : Quest := (.le [([], (Int.ofNat (nat_lit 1))), ([(.var (nat_lit 0))], (Int.ofNat (nat_lit 1)))])
def f59_sc60Q1 : Quest := (.le [([], (Int.negSucc (nat_lit 4294967294))), ([(.var (nat_lit 0))], (Int.negSucc (nat_lit 0)))])
def f59_sc60Q2 : Quest := (.le [([], (Int.ofNat (nat_lit 1))), ([(.var (nat_lit 1))], (Int.ofNat (nat_lit 1)))])
def f59_sc60T3 : STree := (.test (.le [([], (Int.negSucc (nat_lit 4294967294))), ([(.var (nat_lit 1))], (Int.negSucc (nat_lit 0)))])
  (.test (.le [([], (Int.negSucc (nat_lit 4294967294))), ([(.var (nat_lit 0)), (.var (nat_lit 1))], (Int.ofNat (nat_lit 1)))])
  (.leaf (.int .i64 [([(.var (nat_lit 0)), (.var (nat_lit 1))], (Int.ofNat (nat_lit 1)))]))
  (.test (.le [([], (Int.ofNat (nat_lit 9223372036854775808))), ([(.var (nat_lit 0)), (.var (nat_lit 1))], (Int.negSucc (nat_lit 0)))])
  (.leaf (.int .i64 [([], (Int.ofNat (nat_lit 1152921504606846977)))]))
  (.test (.le [([], (Int.negSucc (nat_lit 1152921504606846975))), ([(.var (nat_lit 0)), (.var (nat_lit 1))], (Int.ofNat (nat_lit 1)))])
  (.leaf (.int .i64 [([(.var (nat_lit 0)), (.var (nat_lit 1))], (Int.ofNat (nat_lit 1)))]))
  (.leaf (.int .i64 [([], (Int.ofNat (nat_lit 1152921504606846977)))])))))
  (.test (.le [([], (Int.negSucc (nat_lit 18446744073709551614))), ([(.var (nat_lit 0)), (.var (nat_lit 1))], (Int.ofNat (nat_lit 1)))])
  (.test (.le [([], (Int.ofNat (nat_lit 9223372036854775808))), ([(.var (nat_lit 0)), (.var (nat_lit 1))], (Int.negSucc (nat_lit 0)))])
  (.leaf (.int .i64 [([], (Int.ofNat (nat_lit 1152921504606846977)))]))
  (.test (.le [([], (Int.negSucc (nat_lit 1152921504606846975))), ([(.var (nat_lit 0)), (.var (nat_lit 1))], (Int.ofNat (nat_lit 1)))])
  (.leaf (.int .i64 [([(.var (nat_lit 0)), (.var (nat_lit 1))], (Int.ofNat (nat_lit 1)))]))
  (.leaf (.int .i64 [([], (Int.ofNat (nat_lit 1152921504606846977)))]))))
  (.leaf (.int .i64 [([], (Int.ofNat (nat_lit 1152921504606846977)))]))))
theorem f59_sc60C3 : checkT Tryd.prog (xWith (xOf symX) f59_sc60R) (gxOf symG) (sumsOf sums83_t_x4) 10000 59 f59_sc60A f59_sc60T3 ((((factsN f59_sc60K).yes f59_sc60Q0).yes f59_sc60Q1).yes f59_sc60Q2) = true := by kernel_rfl
def f59_sc60T4 : STree := (.test (.le [([], (Int.negSucc (nat_lit 4294967294))), ([(.var (nat_lit 1))], (Int.ofNat (nat_lit 1)))])
  (.test (.eq [([(.var (nat_lit 1))], (Int.ofNat (nat_lit 1)))])
  (.leaf (.int .i64 []))
  (.test (.le [([], (Int.negSucc (nat_lit 4294967294))), ([(.var (nat_lit 0)), (.var (nat_lit 1))], (Int.negSucc (nat_lit 0)))])
  (.test (.le [([], (Int.negSucc (nat_lit 1152921504606846975))), ([(.wrap .i64 (.add (.lit (Int.ofNat (nat_lit 18446744073709551616))) (.mul (.var (nat_lit 0)) (.var (nat_lit 1)))))], (Int.negSucc (nat_lit 0)))])
  (.test (.le [([], (Int.negSucc (nat_lit 1152921504606846975))), ([(.wrap .i64 (.add (.lit (Int.ofNat (nat_lit 18446744073709551616))) (.mul (.var (nat_lit 0)) (.var (nat_lit 1)))))], (Int.ofNat (nat_lit 1)))])
  (.leaf (.int .i64 [([(.wrap .i64 (.add (.lit (Int.ofNat (nat_lit 18446744073709551616))) (.mul (.var (nat_lit 0)) (.var (nat_lit 1)))))], (Int.ofNat (nat_lit 1)))]))
  (.leaf (.int .i64 [([], (Int.ofNat (nat_lit 1152921504606846977)))])))
  (.leaf (.int .i64 [([], (Int.ofNat (nat_lit 1152921504606846977)))])))
  (.test (.le [([], (Int.ofNat (nat_lit 9223372036854775809))), ([(.var (nat_lit 0)), (.var (nat_lit 1))], (Int.ofNat (nat_lit 1)))])
  (.leaf (.int .i64 [([], (Int.ofNat (nat_lit 1152921504606846977)))]))
  (.test (.le [([], (Int.negSucc (nat_lit 1152921504606846975))), ([(.wrap .i64 (.add (.lit (Int.ofNat (nat_lit 18446744073709551616))) (.mul (.var (nat_lit 0)) (.var (nat_lit 1)))))], (Int.negSucc (nat_lit 0)))])
  (.test (.le [([], (Int.negSucc (nat_lit 1152921504606846975))), ([(.wrap .i64 (.add (.lit (Int.ofNat (nat_lit 18446744073709551616))) (.mul (.var (nat_lit 0)) (.var (nat_lit 1)))))], (Int.ofNat (nat_lit 1)))])
  (.leaf (.int .i64 [([(.wrap .i64 (.add (.lit (Int.ofNat (nat_lit 18446744073709551616))) (.mul (.var (nat_lit 0)) (.var (nat_lit 1)))))], (Int.ofNat (nat_lit 1)))]))
  (.leaf (.int .i64 [([], (Int.ofNat (nat_lit 1152921504606846977)))])))
  (.leaf (.int .i64 [([], (Int.ofNat (nat_lit 1152921504606846977)))]))))))
  (.test (.le [([], (Int.negSucc (nat_lit 18446744073709551614))), ([(.var (nat_lit 0)), (.var (nat_lit 1))], (Int.negSucc (nat_lit 0)))])
  (.test (.le [([], (Int.ofNat (nat_lit 9223372036854775809))), ([(.var (nat_lit 0)), (.var (nat_lit 1))], (Int.ofNat (nat_lit 1)))])
  (.leaf (.int .i64 [([], (Int.ofNat (nat_lit 1152921504606846977)))]))
  (.test (.le [([], (Int.negSucc (nat_lit 1152921504606846975))), ([(.wrap .i64 (.add (.lit (Int.ofNat (nat_lit 18446744073709551616))) (.mul (.var (nat_lit 0)) (.var (nat_lit 1)))))], (Int.negSucc (nat_lit 0)))])
  (.test (.le [([], (Int.negSucc (nat_lit 1152921504606846975))), ([(.wrap .i64 (.add (.lit (Int.ofNat (nat_lit 18446744073709551616))) (.mul (.var (nat_lit 0)) (.var (nat_lit 1)))))], (Int.ofNat (nat_lit 1)))])
  (.leaf (.int .i64 [([(.wrap .i64 (.add (.lit (Int.ofNat (nat_lit 18446744073709551616))) (.mul (.var (nat_lit 0)) (.var (nat_lit 1)))))], (Int.ofNat (nat_lit 1)))]))
  (.leaf (.int .i64 [([], (Int.ofNat (nat_lit 1152921504606846977)))])))
  (.leaf (.int .i64 [([], (Int.ofNat (nat_lit 1152921504606846977)))]))))
  (.leaf (.int .i64 [([], (Int.ofNat (nat_lit 1152921504606846977)))]))))
theorem f59_sc60C4 : checkT Tryd.prog (xWith (xOf symX) f59_sc60R) (gxOf symG) (sumsOf sums83_t_x4) 10000 59 f59_sc60A f59_sc60T4 ((((factsN f59_sc60K).yes f59_sc60Q0).yes f59_sc60Q1).no f59_sc60Q2) = true := by kernel_rfl
def f59_sc60T5 : STree := .test f59_sc60Q2 f59_sc60T3 f59_sc60T4
theorem f59_sc60C5 : checkT Tryd.prog (xWith (xOf symX) f59_sc60R) (gxOf symG) (sumsOf sums83_t_x4) 10000 59 f59_sc60A f59_sc60T5 (((factsN f59_sc60K).yes f59_sc60Q0).yes f59_sc60Q1) = true := checkT_test f59_sc60C3 f59_sc60C4
def f59_sc60T6 : STree := (.test (.le [([], (Int.ofNat (nat_lit 1))), ([(.var (nat_lit 1))], (Int.ofNat (nat_lit 1)))])
  (.test (.le [([], (Int.negSucc (nat_lit 4294967294))), ([(.var (nat_lit 1))], (Int.negSucc (nat_lit 0)))])
  (.test (.le [([], (Int.negSucc (nat_lit 18446744073709551614))), ([(.var (nat_lit 0)), (.var (nat_lit 1))], (Int.ofNat (nat_lit 1)))])
  (.test (.le [([], (Int.ofNat (nat_lit 9223372036854775808))), ([(.var (nat_lit 0)), (.var (nat_lit 1))], (Int.negSucc (nat_lit 0)))])
  (.leaf (.int .i64 [([], (Int.ofNat (nat_lit 1152921504606846977)))]))
  (.test (.le [([], (Int.negSucc (nat_lit 1152921504606846975))), ([(.var (nat_lit 0)), (.var (nat_lit 1))], (Int.ofNat (nat_lit 1)))])
  (.leaf (.int .i64 [([(.var (nat_lit 0)), (.var (nat_lit 1))], (Int.ofNat (nat_lit 1)))]))
  (.leaf (.int .i64 [([], (Int.ofNat (nat_lit 1152921504606846977)))]))))
  (.leaf (.int .i64 [([], (Int.ofNat (nat_lit 1152921504606846977)))])))
  (.test (.le [([], (Int.negSucc (nat_lit 79228162514264337593543950334))), ([(.var (nat_lit 0)), (.var (nat_lit 1))], (Int.ofNat (nat_lit 1)))])
  (.leaf (.int .i64 [([], (Int.ofNat (nat_lit 1152921504606846977)))]))
  (.leaf (.int .i64 [([], (Int.ofNat (nat_lit 1152921504606846977)))]))))
  (.test (.le [([], (Int.negSucc (nat_lit 4294967294))), ([(.var (nat_lit 1))], (Int.ofNat (nat_lit 1)))])
  (.test (.eq [([(.var (nat_lit 1))], (Int.ofNat (nat_lit 1)))])
  (.leaf (.int .i64 []))
  (.test (.le [([], (Int.negSucc (nat_lit 18446744073709551614))), ([(.var (nat_lit 0)), (.var (nat_lit 1))], (Int.negSucc (nat_lit 0)))])
  (.test (.le [([], (Int.ofNat (nat_lit 9223372036854775809))), ([(.var (nat_lit 0)), (.var (nat_lit 1))], (Int.ofNat (nat_lit 1)))])
  (.leaf (.int .i64 [([], (Int.ofNat (nat_lit 1152921504606846977)))]))
  (.test (.le [([], (Int.negSucc (nat_lit 1152921504606846975))), ([(.wrap .i64 (.add (.lit (Int.ofNat (nat_lit 18446744073709551616))) (.mul (.var (nat_lit 0)) (.var (nat_lit 1)))))], (Int.negSucc (nat_lit 0)))])
  (.test (.le [([], (Int.negSucc (nat_lit 1152921504606846975))), ([(.wrap .i64 (.add (.lit (Int.ofNat (nat_lit 18446744073709551616))) (.mul (.var (nat_lit 0)) (.var (nat_lit 1)))))], (Int.ofNat (nat_lit 1)))])
  (.leaf (.int .i64 [([(.wrap .i64 (.add (.lit (Int.ofNat (nat_lit 18446744073709551616))) (.mul (.var (nat_lit 0)) (.var (nat_lit 1)))))], (Int.ofNat (nat_lit 1)))]))
  (.leaf (.int .i64 [([], (Int.ofNat (nat_lit 1152921504606846977)))])))
  (.leaf (.int .i64 [([], (Int.ofNat (nat_lit 1152921504606846977)))]))))
  (.leaf (.int .i64 [([], (Int.ofNat (nat_lit 1152921504606846977)))]))))
  (.test (.le [([], (Int.negSucc (nat_lit 79228162514264337593543950334))), ([(.var (nat_lit 0)), (.var (nat_lit 1))], (Int.negSucc (nat_lit 0)))])
  (.leaf (.int .i64 [([], (Int.ofNat (nat_lit 1152921504606846977)))]))
  (.leaf (.int .i64 [([], (Int.ofNat (nat_lit 1152921504606846977)))])))))
theorem f59_sc60C6 : checkT Tryd.prog (xWith (xOf symX) f59_sc60R) (gxOf symG) (sumsOf sums83_t_x4) 10000 59 f59_sc60A f59_sc60T6 (((factsN f59_sc60K).yes f59_sc60Q0).no f59_sc60Q1) = true := by kernel_rfl
def f59_sc60T7 : STree := .test f59_sc60Q1 f59_sc60T5 f59_sc60T6
theorem f59_sc60C7 : checkT Tryd.prog (xWith (xOf symX) f59_sc60R) (gxOf symG) (sumsOf sums83_t_x4) 10000 59 f59_sc60A f59_sc60T7 ((factsN f59_sc60K).yes f59_sc60Q0) = true := checkT_test f59_sc60C5 f59_sc60C6
def f59_sc60Q8 : Quest := (.le [([], (Int.negSucc (nat_lit 4294967294))), ([(.var (nat_lit 0))], (Int.ofNat (nat_lit 1)))])
def f59_sc60Q9 : Quest := (.eq [([(.var (nat_lit 0))], (Int.ofNat (nat_lit 1)))])
def f59_sc60T10 : STree := (.test (.le [([], (Int.ofNat (nat_lit 1))), ([(.var (nat_lit 1))], (Int.ofNat (nat_lit 1)))])
  (.test (.le [([], (Int.negSucc (nat_lit 4294967294))), ([(.var (nat_lit 1))], (Int.negSucc (nat_lit 0)))])
  (.leaf (.int .i64 []))
  (.leaf (.int .i64 [])))
  (.test (.le [([], (Int.negSucc (nat_lit 4294967294))), ([(.var (nat_lit 1))], (Int.ofNat (nat_lit 1)))])
  (.test (.eq [([(.var (nat_lit 1))], (Int.ofNat (nat_lit 1)))])
  (.leaf (.int .i64 []))
  (.leaf (.int .i64 [])))
  (.leaf (.int .i64 []))))
theorem f59_sc60C10 : checkT Tryd.prog (xWith (xOf symX) f59_sc60R) (gxOf symG) (sumsOf sums83_t_x4) 10000 59 f59_sc60A f59_sc60T10 ((((factsN f59_sc60K).no f59_sc60Q0).yes f59_sc60Q8).yes f59_sc60Q9) = true := by kernel_rfl
def f59_sc60Q11 : Quest := (.le [([], (Int.ofNat (nat_lit 1))), ([(.var (nat_lit 1))], (Int.ofNat (nat_lit 1)))])
def f59_sc60T12 : STree := (.test (.le [([], (Int.negSucc (nat_lit 4294967294))), ([(.var (nat_lit 1))], (Int.negSucc (nat_lit 0)))])
  (.test (.le [([], (Int.negSucc (nat_lit 4294967294))), ([(.var (nat_lit 0)), (.var (nat_lit 1))], (Int.negSucc (nat_lit 0)))])
  (.test (.le [([], (Int.negSucc (nat_lit 1152921504606846975))), ([(.wrap .i64 (.add (.lit (Int.ofNat (nat_lit 18446744073709551616))) (.mul (.var (nat_lit 0)) (.var (nat_lit 1)))))], (Int.negSucc (nat_lit 0)))])
  (.test (.le [([], (Int.negSucc (nat_lit 1152921504606846975))), ([(.wrap .i64 (.add (.lit (Int.ofNat (nat_lit 18446744073709551616))) (.mul (.var (nat_lit 0)) (.var (nat_lit 1)))))], (Int.ofNat (nat_lit 1)))])
  (.leaf (.int .i64 [([(.wrap .i64 (.add (.lit (Int.ofNat (nat_lit 18446744073709551616))) (.mul (.var (nat_lit 0)) (.var (nat_lit 1)))))], (Int.ofNat (nat_lit 1)))]))
  (.leaf (.int .i64 [([], (Int.ofNat (nat_lit 1152921504606846977)))])))
  (.leaf (.int .i64 [([], (Int.ofNat (nat_lit 1152921504606846977)))])))
  (.test (.le [([], (Int.ofNat (nat_lit 9223372036854775809))), ([(.var (nat_lit 0)), (.var (nat_lit 1))], (Int.ofNat (nat_lit 1)))])
  (.leaf (.int .i64 [([], (Int.ofNat (nat_lit 1152921504606846977)))]))
  (.test (.le [([], (Int.negSucc (nat_lit 1152921504606846975))), ([(.wrap .i64 (.add (.lit (Int.ofNat (nat_lit 18446744073709551616))) (.mul (.var (nat_lit 0)) (.var (nat_lit 1)))))], (Int.negSucc (nat_lit 0)))])
  (.test (.le [([], (Int.negSucc (nat_lit 1152921504606846975))), ([(.wrap .i64 (.add (.lit (Int.ofNat (nat_lit 18446744073709551616))) (.mul (.var (nat_lit 0)) (.var (nat_lit 1)))))], (Int.ofNat (nat_lit 1)))])
  (.leaf (.int .i64 [([(.wrap .i64 (.add (.lit (Int.ofNat (nat_lit 18446744073709551616))) (.mul (.var (nat_lit 0)) (.var (nat_lit 1)))))], (Int.ofNat (nat_lit 1)))]))
  (.leaf (.int .i64 [([], (Int.ofNat (nat_lit 1152921504606846977)))])))
  (.leaf (.int .i64 [([], (Int.ofNat (nat_lit 1152921504606846977)))])))))
  (.test (.le [([], (Int.negSucc (nat_lit 18446744073709551614))), ([(.var (nat_lit 0)), (.var (nat_lit 1))], (Int.negSucc (nat_lit 0)))])
  (.test (.le [([], (Int.ofNat (nat_lit 9223372036854775809))), ([(.var (nat_lit 0)), (.var (nat_lit 1))], (Int.ofNat (nat_lit 1)))])
  (.leaf (.int .i64 [([], (Int.ofNat (nat_lit 1152921504606846977)))]))
  (.test (.le [([], (Int.negSucc (nat_lit 1152921504606846975))), ([(.wrap .i64 (.add (.lit (Int.ofNat (nat_lit 18446744073709551616))) (.mul (.var (nat_lit 0)) (.var (nat_lit 1)))))], (Int.negSucc (nat_lit 0)))])
  (.test (.le [([], (Int.negSucc (nat_lit 1152921504606846975))), ([(.wrap .i64 (.add (.lit (Int.ofNat (nat_lit 18446744073709551616))) (.mul (.var (nat_lit 0)) (.var (nat_lit 1)))))], (Int.ofNat (nat_lit 1)))])
  (.leaf (.int .i64 [([(.wrap .i64 (.add (.lit (Int.ofNat (nat_lit 18446744073709551616))) (.mul (.var (nat_lit 0)) (.var (nat_lit 1)))))], (Int.ofNat (nat_lit 1)))]))
  (.leaf (.int .i64 [([], (Int.ofNat (nat_lit 1152921504606846977)))])))
  (.leaf (.int .i64 [([], (Int.ofNat (nat_lit 1152921504606846977)))]))))
  (.leaf (.int .i64 [([], (Int.ofNat (nat_lit 1152921504606846977)))]))))
theorem f59_sc60C12 : checkT Tryd.prog (xWith (xOf symX) f59_sc60R) (gxOf symG) (sumsOf sums83_t_x4) 10000 59 f59_sc60A f59_sc60T12 (((((factsN f59_sc60K).no f59_sc60Q0).yes f59_sc60Q8).no f59_sc60Q9).yes f59_sc60Q11) = true := by kernel_rfl
def f59_sc60T13 : STree := (.test (.le [([], (Int.negSucc (nat_lit 4294967294))), ([(.var (nat_lit 1))], (Int.ofNat (nat_lit 1)))])
  (.test (.eq [([(.var (nat_lit 1))], (Int.ofNat (nat_lit 1)))])
  (.leaf (.int .i64 []))
  (.test (.le [([], (Int.negSucc (nat_lit 4294967294))), ([(.var (nat_lit 0)), (.var (nat_lit 1))], (Int.ofNat (nat_lit 1)))])
  (.leaf (.int .i64 [([(.var (nat_lit 0)), (.var (nat_lit 1))], (Int.ofNat (nat_lit 1)))]))
  (.test (.le [([], (Int.ofNat (nat_lit 9223372036854775808))), ([(.var (nat_lit 0)), (.var (nat_lit 1))], (Int.negSucc (nat_lit 0)))])
  (.leaf (.int .i64 [([], (Int.ofNat (nat_lit 1152921504606846977)))]))
  (.test (.le [([], (Int.negSucc (nat_lit 1152921504606846975))), ([(.var (nat_lit 0)), (.var (nat_lit 1))], (Int.ofNat (nat_lit 1)))])
  (.leaf (.int .i64 [([(.var (nat_lit 0)), (.var (nat_lit 1))], (Int.ofNat (nat_lit 1)))]))
  (.leaf (.int .i64 [([], (Int.ofNat (nat_lit 1152921504606846977)))]))))))
  (.test (.le [([], (Int.negSucc (nat_lit 18446744073709551614))), ([(.var (nat_lit 0)), (.var (nat_lit 1))], (Int.ofNat (nat_lit 1)))])
  (.test (.le [([], (Int.ofNat (nat_lit 9223372036854775808))), ([(.var (nat_lit 0)), (.var (nat_lit 1))], (Int.negSucc (nat_lit 0)))])
  (.leaf (.int .i64 [([], (Int.ofNat (nat_lit 1152921504606846977)))]))
  (.test (.le [([], (Int.negSucc (nat_lit 1152921504606846975))), ([(.var (nat_lit 0)), (.var (nat_lit 1))], (Int.ofNat (nat_lit 1)))])
  (.leaf (.int .i64 [([(.var (nat_lit 0)), (.var (nat_lit 1))], (Int.ofNat (nat_lit 1)))]))
  (.leaf (.int .i64 [([], (Int.ofNat (nat_lit 1152921504606846977)))]))))
  (.leaf (.int .i64 [([], (Int.ofNat (nat_lit 1152921504606846977)))]))))
theorem f59_sc60C13 : checkT Tryd.prog (xWith (xOf symX) f59_sc60R) (gxOf symG) (sumsOf sums83_t_x4) 10000 59 f59_sc60A f59_sc60T13 (((((factsN f59_sc60K).no f59_sc60Q0).yes f59_sc60Q8).no f59_sc60Q9).no f59_sc60Q11) = true := by kernel_rfl
def f59_sc60T14 : STree := .test f59_sc60Q11 f59_sc60T12 f59_sc60T13
theorem f59_sc60C14 : checkT Tryd.prog (xWith (xOf symX) f59_sc60R) (gxOf symG) (sumsOf sums83_t_x4) 10000 59 f59_sc60A f59_sc60T14 ((((factsN f59_sc60K).no f59_sc60Q0).yes f59_sc60Q8).no f59_sc60Q9) = true := checkT_test f59_sc60C12 f59_sc60C13
def f59_sc60T15 : STree := .test f59_sc60Q9 f59_sc60T10 f59_sc60T14
theorem f59_sc60C15 : checkT Tryd.prog (xWith (xOf symX) f59_sc60R) (gxOf symG) (sumsOf sums83_t_x4) 10000 59 f59_sc60A f59_sc60T15 (((factsN f59_sc60K).no f59_sc60Q0).yes f59_sc60Q8) = true := checkT_test f59_sc60C10 f59_sc60C14
def f59_sc60T16 : STree := (.test (.le [([], (Int.ofNat (nat_lit 1))), ([(.var (nat_lit 1))], (Int.ofNat (nat_lit 1)))])
  (.test (.le [([], (Int.negSucc (nat_lit 4294967294))), ([(.var (nat_lit 1))], (Int.negSucc (nat_lit 0)))])
  (.test (.le [([], (Int.negSucc (nat_lit 18446744073709551614))), ([(.var (nat_lit 0)), (.var (nat_lit 1))], (Int.negSucc (nat_lit 0)))])
  (.test (.le [([], (Int.ofNat (nat_lit 9223372036854775809))), ([(.var (nat_lit 0)), (.var (nat_lit 1))], (Int.ofNat (nat_lit 1)))])
  (.leaf (.int .i64 [([], (Int.ofNat (nat_lit 1152921504606846977)))]))
  (.test (.le [([], (Int.negSucc (nat_lit 1152921504606846975))), ([(.wrap .i64 (.add (.lit (Int.ofNat (nat_lit 18446744073709551616))) (.mul (.var (nat_lit 0)) (.var (nat_lit 1)))))], (Int.negSucc (nat_lit 0)))])
  (.test (.le [([], (Int.negSucc (nat_lit 1152921504606846975))), ([(.wrap .i64 (.add (.lit (Int.ofNat (nat_lit 18446744073709551616))) (.mul (.var (nat_lit 0)) (.var (nat_lit 1)))))], (Int.ofNat (nat_lit 1)))])
  (.leaf (.int .i64 [([(.wrap .i64 (.add (.lit (Int.ofNat (nat_lit 18446744073709551616))) (.mul (.var (nat_lit 0)) (.var (nat_lit 1)))))], (Int.ofNat (nat_lit 1)))]))
  (.leaf (.int .i64 [([], (Int.ofNat (nat_lit 1152921504606846977)))])))
  (.leaf (.int .i64 [([], (Int.ofNat (nat_lit 1152921504606846977)))]))))
  (.leaf (.int .i64 [([], (Int.ofNat (nat_lit 1152921504606846977)))])))
  (.test (.le [([], (Int.negSucc (nat_lit 79228162514264337593543950334))), ([(.var (nat_lit 0)), (.var (nat_lit 1))], (Int.negSucc (nat_lit 0)))])
  (.leaf (.int .i64 [([], (Int.ofNat (nat_lit 1152921504606846977)))]))
  (.leaf (.int .i64 [([], (Int.ofNat (nat_lit 1152921504606846977)))]))))
  (.test (.le [([], (Int.negSucc (nat_lit 4294967294))), ([(.var (nat_lit 1))], (Int.ofNat (nat_lit 1)))])
  (.test (.eq [([(.var (nat_lit 1))], (Int.ofNat (nat_lit 1)))])
  (.leaf (.int .i64 []))
  (.test (.le [([], (Int.negSucc (nat_lit 18446744073709551614))), ([(.var (nat_lit 0)), (.var (nat_lit 1))], (Int.ofNat (nat_lit 1)))])
  (.test (.le [([], (Int.ofNat (nat_lit 9223372036854775808))), ([(.var (nat_lit 0)), (.var (nat_lit 1))], (Int.negSucc (nat_lit 0)))])
  (.leaf (.int .i64 [([], (Int.ofNat (nat_lit 1152921504606846977)))]))
  (.test (.le [([], (Int.negSucc (nat_lit 1152921504606846975))), ([(.var (nat_lit 0)), (.var (nat_lit 1))], (Int.ofNat (nat_lit 1)))])
  (.leaf (.int .i64 [([(.var (nat_lit 0)), (.var (nat_lit 1))], (Int.ofNat (nat_lit 1)))]))
  (.leaf (.int .i64 [([], (Int.ofNat (nat_lit 1152921504606846977)))]))))
  (.leaf (.int .i64 [([], (Int.ofNat (nat_lit 1152921504606846977)))]))))
  (.test (.le [([], (Int.negSucc (nat_lit 79228162514264337593543950334))), ([(.var (nat_lit 0)), (.var (nat_lit 1))], (Int.ofNat (nat_lit 1)))])
  (.leaf (.int .i64 [([], (Int.ofNat (nat_lit 1152921504606846977)))]))
  (.leaf (.int .i64 [([], (Int.ofNat (nat_lit 1152921504606846977)))])))))
theorem f59_sc60C16 : checkT Tryd.prog (xWith (xOf symX) f59_sc60R) (gxOf symG) (sumsOf sums83_t_x4) 10000 59 f59_sc60A f59_sc60T16 (((factsN f59_sc60K).no f59_sc60Q0).no f59_sc60Q8) = true := by kernel_rfl
def f59_sc60T17 : STree := .test f59_sc60Q8 f59_sc60T15 f59_sc60T16
theorem f59_sc60C17 : checkT Tryd.prog (xWith (xOf symX) f59_sc60R) (gxOf symG) (sumsOf sums83_t_x4) 10000 59 f59_sc60A f59_sc60T17 ((factsN f59_sc60K).no f59_sc60Q0) = true := checkT_test f59_sc60C15 f59_sc60C16
def f59_sc60T18 : STree := .test f59_sc60Q0 f59_sc60T7 f59_sc60T17
theorem f59_sc60C18 : checkT Tryd.prog (xWith (xOf symX) f59_sc60R) (gxOf symG) (sumsOf sums83_t_x4) 10000 59 f59_sc60A f59_sc60T18 (factsN f59_sc60K) = true := checkT_test f59_sc60C7 f59_sc60C17
def f59_sc60M : Summ := sc60S
theorem f59_sc60Ok : SumOk Tryd.prog (xOf symX) (gxOf symG) 59 f59_sc60M := Exch.ok (sumOk_ofN (m := ⟨f59_sc60A, f59_sc60K, f59_sc60T18, f59_sc60R, []⟩) symMixed symClosed sums83_t_x4Ok f59_sc60C18) (sc60S_exch)
def sums59_sc60 : List (Nat × Summ) := (59, f59_sc60M) :: sums83_t_x4
theorem sums59_sc60Ok : ∀ g, ∀ m ∈ sumsOf sums59_sc60 g, SumOk Tryd.prog (xOf symX) (gxOf symG) g m := sumsOf_ok f59_sc60Ok sums83_t_x4Ok
def f21A : List SV := [(.agg [(.int .i64 [([(.var (nat_lit 0))], (Int.ofNat (nat_lit 1)))]), (.int .i64 [([(.var (nat_lit 1))], (Int.ofNat (nat_lit 1)))])]), (.agg [(.int .i64 [([(.var (nat_lit 2))], (Int.ofNat (nat_lit 1)))]), (.int .i64 [([(.var (nat_lit 3))], (Int.ofNat (nat_lit 1)))])])]
def f21K : List Iv := [ivT .i64, ivT .i64, ivT .i64, ivT .i64]
def f21R : List (List SV) := []
def f21T0 : STree := (.test (.le [([], (Int.negSucc (nat_lit 1152921504606846975))), ([(.var (nat_lit 0))], (Int.negSucc (nat_lit 0)))])
  (.test (.le [([], (Int.negSucc (nat_lit 1152921504606846975))), ([(.var (nat_lit 0))], (Int.ofNat (nat_lit 1)))])
  (.test (.le [([], (Int.negSucc (nat_lit 1152921504606846975))), ([(.var (nat_lit 1))], (Int.negSucc (nat_lit 0)))])
  (.test (.le [([], (Int.negSucc (nat_lit 1152921504606846975))), ([(.var (nat_lit 1))], (Int.ofNat (nat_lit 1)))])
  (.test (.le [([], (Int.negSucc (nat_lit 1152921504606846975))), ([(.var (nat_lit 2))], (Int.negSucc (nat_lit 0)))])
  (.test (.le [([], (Int.negSucc (nat_lit 1152921504606846975))), ([(.var (nat_lit 2))], (Int.ofNat (nat_lit 1)))])
  (.test (.le [([], (Int.negSucc (nat_lit 1152921504606846975))), ([(.var (nat_lit 3))], (Int.negSucc (nat_lit 0)))])
  (.test (.le [([], (Int.negSucc (nat_lit 1152921504606846975))), ([(.var (nat_lit 3))], (Int.ofNat (nat_lit 1)))])
  (.test (.le [([], (Int.negSucc (nat_lit 1152921504606846975))), ([(.var (nat_lit 0))], (Int.negSucc (nat_lit 0))), ([(.var (nat_lit 2))], (Int.negSucc (nat_lit 0)))])
  (.test (.le [([], (Int.negSucc (nat_lit 1152921504606846975))), ([(.var (nat_lit 0))], (Int.ofNat (nat_lit 1))), ([(.var (nat_lit 2))], (Int.ofNat (nat_lit 1)))])
  (.test (.le [([], (Int.negSucc (nat_lit 1152921504606846975))), ([(.var (nat_lit 1))], (Int.negSucc (nat_lit 0))), ([(.var (nat_lit 3))], (Int.negSucc (nat_lit 0)))])
  (.test (.le [([], (Int.negSucc (nat_lit 1152921504606846975))), ([(.var (nat_lit 1))], (Int.ofNat (nat_lit 1))), ([(.var (nat_lit 3))], (Int.ofNat (nat_lit 1)))])
  (.leaf (.tuple [(.agg [(.int .i64 [([(.var (nat_lit 0))], (Int.ofNat (nat_lit 1))), ([(.var (nat_lit 2))], (Int.ofNat (nat_lit 1)))]), (.int .i64 [([(.var (nat_lit 1))], (Int.ofNat (nat_lit 1))), ([(.var (nat_lit 3))], (Int.ofNat (nat_lit 1)))])]), (.int .i64 [])]))
  (.leaf (.tuple [(.agg [(.int .i64 []), (.int .i64 [])]), (.int .i64 [([], (Int.ofNat (nat_lit 2)))])])))
  (.leaf (.tuple [(.agg [(.int .i64 []), (.int .i64 [])]), (.int .i64 [([], (Int.ofNat (nat_lit 2)))])])))
  (.leaf (.tuple [(.agg [(.int .i64 []), (.int .i64 [])]), (.int .i64 [([], (Int.ofNat (nat_lit 2)))])])))
  (.leaf (.tuple [(.agg [(.int .i64 []), (.int .i64 [])]), (.int .i64 [([], (Int.ofNat (nat_lit 2)))])])))
  (.leaf (.tuple [(.agg [(.int .i64 []), (.int .i64 [])]), (.int .i64 [([], (Int.ofNat (nat_lit 1)))])])))
  (.leaf (.tuple [(.agg [(.int .i64 []), (.int .i64 [])]), (.int .i64 [([], (Int.ofNat (nat_lit 1)))])])))
  (.leaf (.tuple [(.agg [(.int .i64 []), (.int .i64 [])]), (.int .i64 [([], (Int.ofNat (nat_lit 1)))])])))
  (.leaf (.tuple [(.agg [(.int .i64 []), (.int .i64 [])]), (.int .i64 [([], (Int.ofNat (nat_lit 1)))])])))
  (.leaf (.tuple [(.agg [(.int .i64 []), (.int .i64 [])]), (.int .i64 [([], (Int.ofNat (nat_lit 1)))])])))
  (.leaf (.tuple [(.agg [(.int .i64 []), (.int .i64 [])]), (.int .i64 [([], (Int.ofNat (nat_lit 1)))])])))
  (.leaf (.tuple [(.agg [(.int .i64 []), (.int .i64 [])]), (.int .i64 [([], (Int.ofNat (nat_lit 1)))])])))
  (.leaf (.tuple [(.agg [(.int .i64 []), (.int .i64 [])]), (.int .i64 [([], (Int.ofNat (nat_lit 1)))])])))
theorem f21C0 : checkT Tryd.prog (xWith (xOf symX) f21R) (gxOf symG) (sumsOf sums59_sc60) 10000 21 f21A f21T0 (facts0 f21K) = true := by kernel_rfl
def f21M : Summ := ⟨f21A, f21K, f21T0, f21R, []⟩
theorem f21Ok : SumOk Tryd.prog (xOf symX) (gxOf symG) 21 f21M := sumOk_of symMixed symClosed sums59_sc60Ok f21C0
def sums21 : List (Nat × Summ) := (21, f21M) :: sums59_sc60
theorem sums21Ok : ∀ g, ∀ m ∈ sumsOf sums21 g, SumOk Tryd.prog (xOf symX) (gxOf symG) g m := sumsOf_ok f21Ok sums59_sc60Ok
def f23A : List SV := [(.agg [(.int .i64 [([(.var (nat_lit 0))], (Int.ofNat (nat_lit 1)))]), (.int .i64 [([(.var (nat_lit 1))], (Int.ofNat (nat_lit 1)))])]), (.agg [(.int .i64 [([(.var (nat_lit 2))], (Int.ofNat (nat_lit 1)))]), (.int .i64 [([(.var (nat_lit 3))], (Int.ofNat (nat_lit 1)))])])]
def f23K : List Iv := [ivT .i64, ivT .i64, ivT .i64, ivT .i64]
def f23R : List (List SV) := []
def f23T0 : STree := (.test (.le [([], (Int.negSucc (nat_lit 1152921504606846975))), ([(.var (nat_lit 0))], (Int.negSucc (nat_lit 0)))])
  (.test (.le [([], (Int.negSucc (nat_lit 1152921504606846975))), ([(.var (nat_lit 0))], (Int.ofNat (nat_lit 1)))])
  (.test (.le [([], (Int.negSucc (nat_lit 1152921504606846975))), ([(.var (nat_lit 1))], (Int.negSucc (nat_lit 0)))])
  (.test (.le [([], (Int.negSucc (nat_lit 1152921504606846975))), ([(.var (nat_lit 1))], (Int.ofNat (nat_lit 1)))])
  (.test (.le [([], (Int.negSucc (nat_lit 1152921504606846975))), ([(.var (nat_lit 2))], (Int.negSucc (nat_lit 0)))])
  (.test (.le [([], (Int.negSucc (nat_lit 1152921504606846975))), ([(.var (nat_lit 2))], (Int.ofNat (nat_lit 1)))])
  (.test (.le [([], (Int.negSucc (nat_lit 1152921504606846975))), ([(.var (nat_lit 3))], (Int.negSucc (nat_lit 0)))])
  (.test (.le [([], (Int.negSucc (nat_lit 1152921504606846975))), ([(.var (nat_lit 3))], (Int.ofNat (nat_lit 1)))])
  (.test (.le [([], (Int.negSucc (nat_lit 1152921504606846975))), ([(.var (nat_lit 0))], (Int.negSucc (nat_lit 0))), ([(.var (nat_lit 2))], (Int.ofNat (nat_lit 1)))])
  (.test (.le [([], (Int.negSucc (nat_lit 1152921504606846975))), ([(.var (nat_lit 0))], (Int.ofNat (nat_lit 1))), ([(.var (nat_lit 2))], (Int.negSucc (nat_lit 0)))])
  (.test (.le [([], (Int.negSucc (nat_lit 1152921504606846975))), ([(.var (nat_lit 1))], (Int.negSucc (nat_lit 0))), ([(.var (nat_lit 3))], (Int.ofNat (nat_lit 1)))])
  (.test (.le [([], (Int.negSucc (nat_lit 1152921504606846975))), ([(.var (nat_lit 1))], (Int.ofNat (nat_lit 1))), ([(.var (nat_lit 3))], (Int.negSucc (nat_lit 0)))])
  (.leaf (.tuple [(.agg [(.int .i64 [([(.var (nat_lit 0))], (Int.ofNat (nat_lit 1))), ([(.var (nat_lit 2))], (Int.negSucc (nat_lit 0)))]), (.int .i64 [([(.var (nat_lit 1))], (Int.ofNat (nat_lit 1))), ([(.var (nat_lit 3))], (Int.negSucc (nat_lit 0)))])]), (.int .i64 [])]))
  (.leaf (.tuple [(.agg [(.int .i64 []), (.int .i64 [])]), (.int .i64 [([], (Int.ofNat (nat_lit 2)))])])))
  (.leaf (.tuple [(.agg [(.int .i64 []), (.int .i64 [])]), (.int .i64 [([], (Int.ofNat (nat_lit 2)))])])))
  (.leaf (.tuple [(.agg [(.int .i64 []), (.int .i64 [])]), (.int .i64 [([], (Int.ofNat (nat_lit 2)))])])))
  (.leaf (.tuple [(.agg [(.int .i64 []), (.int .i64 [])]), (.int .i64 [([], (Int.ofNat (nat_lit 2)))])])))
  (.leaf (.tuple [(.agg [(.int .i64 []), (.int .i64 [])]), (.int .i64 [([], (Int.ofNat (nat_lit 1)))])])))
  (.leaf (.tuple [(.agg [(.int .i64 []), (.int .i64 [])]), (.int .i64 [([], (Int.ofNat (nat_lit 1)))])])))
  (.leaf (.tuple [(.agg [(.int .i64 []), (.int .i64 [])]), (.int .i64 [([], (Int.ofNat (nat_lit 1)))])])))
  (.leaf (.tuple [(.agg [(.int .i64 []), (.int .i64 [])]), (.int .i64 [([], (Int.ofNat (nat_lit 1)))])])))
  (.leaf (.tuple [(.agg [(.int .i64 []), (.int .i64 [])]), (.int .i64 [([], (Int.ofNat (nat_lit 1)))])])))
  (.leaf (.tuple [(.agg [(.int .i64 []), (.int .i64 [])]), (.int .i64 [([], (Int.ofNat (nat_lit 1)))])])))
  (.leaf (.tuple [(.agg [(.int .i64 []), (.int .i64 [])]), (.int .i64 [([], (Int.ofNat (nat_lit 1)))])])))
  (.leaf (.tuple [(.agg [(.int .i64 []), (.int .i64 [])]), (.int .i64 [([], (Int.ofNat (nat_lit 1)))])])))
theorem f23C0 : checkT Tryd.prog (xWith (xOf symX) f23R) (gxOf symG) (sumsOf sums21) 10000 23 f23A f23T0 (facts0 f23K) = true := by kernel_rfl
def f23M : Summ := ⟨f23A, f23K, f23T0, f23R, []⟩
theorem f23Ok : SumOk Tryd.prog (xOf symX) (gxOf symG) 23 f23M := sumOk_of symMixed symClosed sums21Ok f23C0
def sums23 : List (Nat × Summ) := (23, f23M) :: sums21
theorem sums23Ok : ∀ g, ∀ m ∈ sumsOf sums23 g, SumOk Tryd.prog (xOf symX) (gxOf symG) g m := sumsOf_ok f23Ok sums21Ok
def f25A : List SV := [(.agg [(.int .i64 [([(.var (nat_lit 0))], (Int.ofNat (nat_lit 1)))]), (.int .i64 [([(.var (nat_lit 1))], (Int.ofNat (nat_lit 1)))])]), (.int .i64 [([(.var (nat_lit 2))], (Int.ofNat (nat_lit 1)))])]
def f25K : List Iv := [ivT .i64, ivT .i64, ivT .i64]
def f25R : List (List SV) := []
def f25T0 : STree := (.test (.le [([], (Int.negSucc (nat_lit 1152921504606846975))), ([(.var (nat_lit 0))], (Int.negSucc (nat_lit 0)))])
  (.test (.le [([], (Int.negSucc (nat_lit 1152921504606846975))), ([(.var (nat_lit 0))], (Int.ofNat (nat_lit 1)))])
  (.test (.le [([], (Int.negSucc (nat_lit 1152921504606846975))), ([(.var (nat_lit 1))], (Int.negSucc (nat_lit 0)))])
  (.test (.le [([], (Int.negSucc (nat_lit 1152921504606846975))), ([(.var (nat_lit 1))], (Int.ofNat (nat_lit 1)))])
  (.test (.le [([], (Int.negSucc (nat_lit 1152921504606846975))), ([(.var (nat_lit 2))], (Int.negSucc (nat_lit 0)))])
  (.test (.le [([], (Int.negSucc (nat_lit 1152921504606846975))), ([(.var (nat_lit 2))], (Int.ofNat (nat_lit 1)))])
  (.test (.le [([], (Int.negSucc (nat_lit 1152921504606846975))), ([(.var (nat_lit 0)), (.var (nat_lit 2))], (Int.ofNat (nat_lit 1)))])
  (.test (.le [([], (Int.negSucc (nat_lit 1152921504606846975))), ([(.var (nat_lit 0)), (.var (nat_lit 2))], (Int.negSucc (nat_lit 0)))])
  (.test (.le [([], (Int.negSucc (nat_lit 1152921504606846975))), ([(.var (nat_lit 1)), (.var (nat_lit 2))], (Int.ofNat (nat_lit 1)))])
  (.test (.le [([], (Int.negSucc (nat_lit 1152921504606846975))), ([(.var (nat_lit 1)), (.var (nat_lit 2))], (Int.negSucc (nat_lit 0)))])
  (.leaf (.tuple [(.agg [(.int .i64 [([(.var (nat_lit 0)), (.var (nat_lit 2))], (Int.ofNat (nat_lit 1)))]), (.int .i64 [([(.var (nat_lit 1)), (.var (nat_lit 2))], (Int.ofNat (nat_lit 1)))])]), (.int .i64 [])]))
  (.leaf (.tuple [(.agg [(.int .i64 []), (.int .i64 [])]), (.int .i64 [([], (Int.ofNat (nat_lit 2)))])])))
  (.leaf (.tuple [(.agg [(.int .i64 []), (.int .i64 [])]), (.int .i64 [([], (Int.ofNat (nat_lit 2)))])])))
  (.test (.le [([], (Int.negSucc (nat_lit 1152921504606846975))), ([(.var (nat_lit 1)), (.var (nat_lit 2))], (Int.ofNat (nat_lit 1)))])
  (.test (.le [([], (Int.negSucc (nat_lit 1152921504606846975))), ([(.var (nat_lit 1)), (.var (nat_lit 2))], (Int.negSucc (nat_lit 0)))])
  (.leaf (.tuple [(.agg [(.int .i64 []), (.int .i64 [])]), (.int .i64 [([], (Int.ofNat (nat_lit 2)))])]))
  (.leaf (.tuple [(.agg [(.int .i64 []), (.int .i64 [])]), (.int .i64 [([], (Int.ofNat (nat_lit 2)))])])))
  (.leaf (.tuple [(.agg [(.int .i64 []), (.int .i64 [])]), (.int .i64 [([], (Int.ofNat (nat_lit 2)))])]))))
  (.test (.le [([], (Int.negSucc (nat_lit 1152921504606846975))), ([(.var (nat_lit 1)), (.var (nat_lit 2))], (Int.ofNat (nat_lit 1)))])
  (.test (.le [([], (Int.negSucc (nat_lit 1152921504606846975))), ([(.var (nat_lit 1)), (.var (nat_lit 2))], (Int.negSucc (nat_lit 0)))])
  (.leaf (.tuple [(.agg [(.int .i64 []), (.int .i64 [])]), (.int .i64 [([], (Int.ofNat (nat_lit 2)))])]))
  (.leaf (.tuple [(.agg [(.int .i64 []), (.int .i64 [])]), (.int .i64 [([], (Int.ofNat (nat_lit 2)))])])))
  (.leaf (.tuple [(.agg [(.int .i64 []), (.int .i64 [])]), (.int .i64 [([], (Int.ofNat (nat_lit 2)))])]))))
  (.leaf (.tuple [(.agg [(.int .i64 []), (.int .i64 [])]), (.int .i64 [([], (Int.ofNat (nat_lit 1)))])])))
  (.leaf (.tuple [(.agg [(.int .i64 []), (.int .i64 [])]), (.int .i64 [([], (Int.ofNat (nat_lit 1)))])])))
  (.leaf (.tuple [(.agg [(.int .i64 []), (.int .i64 [])]), (.int .i64 [([], (Int.ofNat (nat_lit 1)))])])))
  (.leaf (.tuple [(.agg [(.int .i64 []), (.int .i64 [])]), (.int .i64 [([], (Int.ofNat (nat_lit 1)))])])))
  (.leaf (.tuple [(.agg [(.int .i64 []), (.int .i64 [])]), (.int .i64 [([], (Int.ofNat (nat_lit 1)))])])))
  (.leaf (.tuple [(.agg [(.int .i64 []), (.int .i64 [])]), (.int .i64 [([], (Int.ofNat (nat_lit 1)))])])))
theorem f25C0 : checkT Tryd.prog (xWith (xOf symX) f25R) (gxOf symG) (sumsOf sums23) 10000 25 f25A f25T0 (facts0 f25K) = true := by kernel_rfl
def f25M : Summ := ⟨f25A, f25K, f25T0, f25R, []⟩
theorem f25Ok : SumOk Tryd.prog (xOf symX) (gxOf symG) 25 f25M := sumOk_of symMixed symClosed sums23Ok f25C0
def sums25 : List (Nat × Summ) := (25, f25M) :: sums23
theorem sums25Ok : ∀ g, ∀ m ∈ sumsOf sums25 g, SumOk Tryd.prog (xOf symX) (gxOf symG) g m := sumsOf_ok f25Ok sums23Ok
def f26A : List SV := [(.agg [(.int .i64 [([(.var (nat_lit 0))], (Int.ofNat (nat_lit 1)))]), (.int .i64 [([(.var (nat_lit 1))], (Int.ofNat (nat_lit 1)))])])]
def f26K : List Iv := [ivT .i64, ivT .i64]
def f26R : List (List SV) := []
def f26T0 : STree := (.test (.le [([], (Int.negSucc (nat_lit 1152921504606846975))), ([(.var (nat_lit 0))], (Int.negSucc (nat_lit 0)))])
  (.test (.le [([], (Int.negSucc (nat_lit 1152921504606846975))), ([(.var (nat_lit 0))], (Int.ofNat (nat_lit 1)))])
  (.test (.le [([], (Int.negSucc (nat_lit 1152921504606846975))), ([(.var (nat_lit 1))], (Int.negSucc (nat_lit 0)))])
  (.test (.le [([], (Int.negSucc (nat_lit 1152921504606846975))), ([(.var (nat_lit 1))], (Int.ofNat (nat_lit 1)))])
  (.leaf (.tuple [(.agg [(.int .i64 [([(.var (nat_lit 0))], (Int.ofNat (nat_lit 1)))]), (.int .i64 [([(.var (nat_lit 1))], (Int.negSucc (nat_lit 0)))])]), (.int .i64 [])]))
  (.leaf (.tuple [(.agg [(.int .i64 []), (.int .i64 [])]), (.int .i64 [([], (Int.ofNat (nat_lit 1)))])])))
  (.leaf (.tuple [(.agg [(.int .i64 []), (.int .i64 [])]), (.int .i64 [([], (Int.ofNat (nat_lit 1)))])])))
  (.leaf (.tuple [(.agg [(.int .i64 []), (.int .i64 [])]), (.int .i64 [([], (Int.ofNat (nat_lit 1)))])])))
  (.leaf (.tuple [(.agg [(.int .i64 []), (.int .i64 [])]), (.int .i64 [([], (Int.ofNat (nat_lit 1)))])])))
theorem f26C0 : checkT Tryd.prog (xWith (xOf symX) f26R) (gxOf symG) (sumsOf sums25) 10000 26 f26A f26T0 (facts0 f26K) = true := by kernel_rfl
def f26M : Summ := ⟨f26A, f26K, f26T0, f26R, []⟩
theorem f26Ok : SumOk Tryd.prog (xOf symX) (gxOf symG) 26 f26M := sumOk_of symMixed symClosed sums25Ok f26C0
def sums26 : List (Nat × Summ) := (26, f26M) :: sums25
theorem sums26Ok : ∀ g, ∀ m ∈ sumsOf sums26 g, SumOk Tryd.prog (xOf symX) (gxOf symG) g m := sumsOf_ok f26Ok sums25Ok
end Go.Proofs.YtjghifocfjbmcabDoor
