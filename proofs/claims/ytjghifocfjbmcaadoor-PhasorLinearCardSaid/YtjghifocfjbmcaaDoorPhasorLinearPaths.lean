/- The paths of PhasorLinear, each checked by the kernel. -/
import Derived.Test.YtjghifocfjbmcaaDoorSums
import Derived.KernelRfl
namespace Go.Proofs.YtjghifocfjbmcaaDoor
open Go.Sym

def f6A : List SV := [(.agg [(.int .i64 [([(.var (nat_lit 0))], (Int.ofNat (nat_lit 1)))]), (.int .i64 [([(.var (nat_lit 1))], (Int.ofNat (nat_lit 1)))]), (.int .i64 [([(.var (nat_lit 2))], (Int.ofNat (nat_lit 1)))]), (.int .i64 [([(.var (nat_lit 3))], (Int.ofNat (nat_lit 1)))]), (.int .i64 [([(.var (nat_lit 4))], (Int.ofNat (nat_lit 1)))]), (.int .i64 [([(.var (nat_lit 5))], (Int.ofNat (nat_lit 1)))]), (.int .i64 [([(.var (nat_lit 6))], (Int.ofNat (nat_lit 1)))]), (.int .i64 [([(.var (nat_lit 7))], (Int.ofNat (nat_lit 1)))]), (.int .i64 [([(.var (nat_lit 8))], (Int.ofNat (nat_lit 1)))]), (.int .i64 [([(.var (nat_lit 9))], (Int.ofNat (nat_lit 1)))]), (.int .i64 [([(.var (nat_lit 10))], (Int.ofNat (nat_lit 1)))]), (.int .i64 [([(.var (nat_lit 11))], (Int.ofNat (nat_lit 1)))])]), (.agg [(.int .i64 [([(.var (nat_lit 12))], (Int.ofNat (nat_lit 1)))]), (.int .i64 [([(.var (nat_lit 13))], (Int.ofNat (nat_lit 1)))]), (.int .i64 [([(.var (nat_lit 14))], (Int.ofNat (nat_lit 1)))]), (.int .i64 [([(.var (nat_lit 15))], (Int.ofNat (nat_lit 1)))]), (.int .i64 [([(.var (nat_lit 16))], (Int.ofNat (nat_lit 1)))]), (.int .i64 [([(.var (nat_lit 17))], (Int.ofNat (nat_lit 1)))]), (.int .i64 [([(.var (nat_lit 18))], (Int.ofNat (nat_lit 1)))]), (.int .i64 [([(.var (nat_lit 19))], (Int.ofNat (nat_lit 1)))]), (.int .i64 [([(.var (nat_lit 20))], (Int.ofNat (nat_lit 1)))]), (.int .i64 [([(.var (nat_lit 21))], (Int.ofNat (nat_lit 1)))]), (.int .i64 [([(.var (nat_lit 22))], (Int.ofNat (nat_lit 1)))]), (.int .i64 [([(.var (nat_lit 23))], (Int.ofNat (nat_lit 1)))])]), (.int .i64 [([(.var (nat_lit 24))], (Int.ofNat (nat_lit 1)))])]
def f6K : List Iv := [ivT .i64, ivT .i64, ivT .i64, ivT .i64, ivT .i64, ivT .i64, ivT .i64, ivT .i64, ivT .i64, ivT .i64, ivT .i64, ivT .i64, ivT .i64, ivT .i64, ivT .i64, ivT .i64, ivT .i64, ivT .i64, ivT .i64, ivT .i64, ivT .i64, ivT .i64, ivT .i64, ivT .i64, ivT .i64]
def f6R : List (List SV) := []
def f6Q0 : Quest := (.le [([], (Int.negSucc (nat_lit 4))), ([(.emod (nat_lit 12) (.var (nat_lit 24)))], (Int.ofNat (nat_lit 1)))])
def f6Q1 : Quest := (.le [([], (Int.negSucc (nat_lit 1))), ([(.emod (nat_lit 12) (.var (nat_lit 24)))], (Int.ofNat (nat_lit 1)))])
def f6Q2 : Quest := (.le [([], (Int.negSucc (nat_lit 0))), ([(.emod (nat_lit 12) (.var (nat_lit 24)))], (Int.ofNat (nat_lit 1)))])
def f6T3 : STree := (.test (.le [([(.emod (nat_lit 12) (.var (nat_lit 24)))], (Int.ofNat (nat_lit 1)))])
  (.leaf (.bool true))
  (.leaf (.bool true)))
theorem f6C3 : checkT Tryd.prog (xWith (xOf symX) f6R) (gxOf symG) (sumsOf sums13_x12im16383to16383) 10000 6 f6A f6T3 ((((facts0 f6K).yes f6Q0).yes f6Q1).yes f6Q2) = true := by kernel_rfl
def f6T4 : STree := (.leaf (.bool true))
theorem f6C4 : checkT Tryd.prog (xWith (xOf symX) f6R) (gxOf symG) (sumsOf sums13_x12im16383to16383) 10000 6 f6A f6T4 ((((facts0 f6K).yes f6Q0).yes f6Q1).no f6Q2) = true := by kernel_rfl
def f6T5 : STree := .test f6Q2 f6T3 f6T4
theorem f6C5 : checkT Tryd.prog (xWith (xOf symX) f6R) (gxOf symG) (sumsOf sums13_x12im16383to16383) 10000 6 f6A f6T5 (((facts0 f6K).yes f6Q0).yes f6Q1) = true := checkT_test f6C3 f6C4
def f6Q6 : Quest := (.le [([], (Int.negSucc (nat_lit 3))), ([(.emod (nat_lit 12) (.var (nat_lit 24)))], (Int.ofNat (nat_lit 1)))])
def f6T7 : STree := (.test (.le [([], (Int.negSucc (nat_lit 2))), ([(.emod (nat_lit 12) (.var (nat_lit 24)))], (Int.ofNat (nat_lit 1)))])
  (.leaf (.bool true))
  (.leaf (.bool true)))
theorem f6C7 : checkT Tryd.prog (xWith (xOf symX) f6R) (gxOf symG) (sumsOf sums13_x12im16383to16383) 10000 6 f6A f6T7 ((((facts0 f6K).yes f6Q0).no f6Q1).yes f6Q6) = true := by kernel_rfl
def f6T8 : STree := (.leaf (.bool true))
theorem f6C8 : checkT Tryd.prog (xWith (xOf symX) f6R) (gxOf symG) (sumsOf sums13_x12im16383to16383) 10000 6 f6A f6T8 ((((facts0 f6K).yes f6Q0).no f6Q1).no f6Q6) = true := by kernel_rfl
def f6T9 : STree := .test f6Q6 f6T7 f6T8
theorem f6C9 : checkT Tryd.prog (xWith (xOf symX) f6R) (gxOf symG) (sumsOf sums13_x12im16383to16383) 10000 6 f6A f6T9 (((facts0 f6K).yes f6Q0).no f6Q1) = true := checkT_test f6C7 f6C8
def f6T10 : STree := .test f6Q1 f6T5 f6T9
theorem f6C10 : checkT Tryd.prog (xWith (xOf symX) f6R) (gxOf symG) (sumsOf sums13_x12im16383to16383) 10000 6 f6A f6T10 ((facts0 f6K).yes f6Q0) = true := checkT_test f6C5 f6C9
def f6Q11 : Quest := (.le [([], (Int.negSucc (nat_lit 7))), ([(.emod (nat_lit 12) (.var (nat_lit 24)))], (Int.ofNat (nat_lit 1)))])
def f6Q12 : Quest := (.le [([], (Int.negSucc (nat_lit 6))), ([(.emod (nat_lit 12) (.var (nat_lit 24)))], (Int.ofNat (nat_lit 1)))])
def f6T13 : STree := (.test (.le [([], (Int.negSucc (nat_lit 5))), ([(.emod (nat_lit 12) (.var (nat_lit 24)))], (Int.ofNat (nat_lit 1)))])
  (.leaf (.bool true))
  (.leaf (.bool true)))
theorem f6C13 : checkT Tryd.prog (xWith (xOf symX) f6R) (gxOf symG) (sumsOf sums13_x12im16383to16383) 10000 6 f6A f6T13 ((((facts0 f6K).no f6Q0).yes f6Q11).yes f6Q12) = true := by kernel_rfl
def f6T14 : STree := (.leaf (.bool true))
theorem f6C14 : checkT Tryd.prog (xWith (xOf symX) f6R) (gxOf symG) (sumsOf sums13_x12im16383to16383) 10000 6 f6A f6T14 ((((facts0 f6K).no f6Q0).yes f6Q11).no f6Q12) = true := by kernel_rfl
def f6T15 : STree := .test f6Q12 f6T13 f6T14
theorem f6C15 : checkT Tryd.prog (xWith (xOf symX) f6R) (gxOf symG) (sumsOf sums13_x12im16383to16383) 10000 6 f6A f6T15 (((facts0 f6K).no f6Q0).yes f6Q11) = true := checkT_test f6C13 f6C14
def f6Q16 : Quest := (.le [([], (Int.negSucc (nat_lit 9))), ([(.emod (nat_lit 12) (.var (nat_lit 24)))], (Int.ofNat (nat_lit 1)))])
def f6T17 : STree := (.test (.le [([], (Int.negSucc (nat_lit 8))), ([(.emod (nat_lit 12) (.var (nat_lit 24)))], (Int.ofNat (nat_lit 1)))])
  (.leaf (.bool true))
  (.leaf (.bool true)))
theorem f6C17 : checkT Tryd.prog (xWith (xOf symX) f6R) (gxOf symG) (sumsOf sums13_x12im16383to16383) 10000 6 f6A f6T17 ((((facts0 f6K).no f6Q0).no f6Q11).yes f6Q16) = true := by kernel_rfl
def f6T18 : STree := (.leaf (.bool true))
theorem f6C18 : checkT Tryd.prog (xWith (xOf symX) f6R) (gxOf symG) (sumsOf sums13_x12im16383to16383) 10000 6 f6A f6T18 ((((facts0 f6K).no f6Q0).no f6Q11).no f6Q16) = true := by kernel_rfl
def f6T19 : STree := .test f6Q16 f6T17 f6T18
theorem f6C19 : checkT Tryd.prog (xWith (xOf symX) f6R) (gxOf symG) (sumsOf sums13_x12im16383to16383) 10000 6 f6A f6T19 (((facts0 f6K).no f6Q0).no f6Q11) = true := checkT_test f6C17 f6C18
def f6T20 : STree := .test f6Q11 f6T15 f6T19
theorem f6C20 : checkT Tryd.prog (xWith (xOf symX) f6R) (gxOf symG) (sumsOf sums13_x12im16383to16383) 10000 6 f6A f6T20 ((facts0 f6K).no f6Q0) = true := checkT_test f6C15 f6C19
def f6T21 : STree := .test f6Q0 f6T10 f6T20
theorem f6C21 : checkT Tryd.prog (xWith (xOf symX) f6R) (gxOf symG) (sumsOf sums13_x12im16383to16383) 10000 6 f6A f6T21 (facts0 f6K) = true := checkT_test f6C10 f6C20
def f6M : Summ := ⟨f6A, f6K, f6T21, f6R, []⟩
theorem f6Ok : SumOk Tryd.prog (xOf symX) (gxOf symG) 6 f6M := sumOk_of symMixed symClosed sums13_x12im16383to16383Ok f6C21
end Go.Proofs.YtjghifocfjbmcaaDoor
