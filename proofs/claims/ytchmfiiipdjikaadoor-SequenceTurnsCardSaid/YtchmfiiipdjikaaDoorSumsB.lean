/- Further summaries of functions that the laws call, each proved by the kernel along its tree of tests. -/
import Derived.Test.YtchmfiiipdjikaaDoorSums
import Derived.KernelRfl
namespace Go.Proofs.YtchmfiiipdjikaaDoor
open Go.Sym

def f72A : List SV := [(.agg [(.int .i64 [([(.var (nat_lit 0))], (Int.ofNat (nat_lit 1)))]), (.int .i64 [([(.var (nat_lit 1))], (Int.ofNat (nat_lit 1)))]), (.int .i64 [([(.var (nat_lit 2))], (Int.ofNat (nat_lit 1)))]), (.int .i64 [([(.var (nat_lit 3))], (Int.ofNat (nat_lit 1)))]), (.int .i64 [([(.var (nat_lit 4))], (Int.ofNat (nat_lit 1)))]), (.int .i64 [([(.var (nat_lit 5))], (Int.ofNat (nat_lit 1)))]), (.int .i64 [([(.var (nat_lit 6))], (Int.ofNat (nat_lit 1)))]), (.int .i64 [([(.var (nat_lit 7))], (Int.ofNat (nat_lit 1)))]), (.int .i64 [([(.var (nat_lit 8))], (Int.ofNat (nat_lit 1)))]), (.int .i64 [([(.var (nat_lit 9))], (Int.ofNat (nat_lit 1)))]), (.int .i64 [([(.var (nat_lit 10))], (Int.ofNat (nat_lit 1)))]), (.int .i64 [([(.var (nat_lit 11))], (Int.ofNat (nat_lit 1)))])])]
def f72K : List IntKind := [.i64, .i64, .i64, .i64, .i64, .i64, .i64, .i64, .i64, .i64, .i64, .i64]
def f72T0 : STree := (.test (.le [([], (Int.ofNat (nat_lit 1125899906842625))), ([(.var (nat_lit 0))], (Int.ofNat (nat_lit 1)))])
  (.leaf (.bool false))
  (.test (.le [([], (Int.ofNat (nat_lit 1125899906842625))), ([(.var (nat_lit 0))], (Int.negSucc (nat_lit 0)))])
  (.leaf (.bool false))
  (.test (.le [([], (Int.ofNat (nat_lit 1125899906842625))), ([(.var (nat_lit 1))], (Int.ofNat (nat_lit 1)))])
  (.leaf (.bool false))
  (.test (.le [([], (Int.ofNat (nat_lit 1125899906842625))), ([(.var (nat_lit 1))], (Int.negSucc (nat_lit 0)))])
  (.leaf (.bool false))
  (.test (.le [([], (Int.ofNat (nat_lit 1125899906842625))), ([(.var (nat_lit 2))], (Int.ofNat (nat_lit 1)))])
  (.leaf (.bool false))
  (.test (.le [([], (Int.ofNat (nat_lit 1125899906842625))), ([(.var (nat_lit 2))], (Int.negSucc (nat_lit 0)))])
  (.leaf (.bool false))
  (.test (.le [([], (Int.ofNat (nat_lit 1125899906842625))), ([(.var (nat_lit 3))], (Int.ofNat (nat_lit 1)))])
  (.leaf (.bool false))
  (.test (.le [([], (Int.ofNat (nat_lit 1125899906842625))), ([(.var (nat_lit 3))], (Int.negSucc (nat_lit 0)))])
  (.leaf (.bool false))
  (.test (.le [([], (Int.ofNat (nat_lit 1125899906842625))), ([(.var (nat_lit 4))], (Int.ofNat (nat_lit 1)))])
  (.leaf (.bool false))
  (.test (.le [([], (Int.ofNat (nat_lit 1125899906842625))), ([(.var (nat_lit 4))], (Int.negSucc (nat_lit 0)))])
  (.leaf (.bool false))
  (.test (.le [([], (Int.ofNat (nat_lit 1125899906842625))), ([(.var (nat_lit 5))], (Int.ofNat (nat_lit 1)))])
  (.leaf (.bool false))
  (.test (.le [([], (Int.ofNat (nat_lit 1125899906842625))), ([(.var (nat_lit 5))], (Int.negSucc (nat_lit 0)))])
  (.leaf (.bool false))
  (.test (.le [([], (Int.ofNat (nat_lit 1125899906842625))), ([(.var (nat_lit 6))], (Int.ofNat (nat_lit 1)))])
  (.leaf (.bool false))
  (.test (.le [([], (Int.ofNat (nat_lit 1125899906842625))), ([(.var (nat_lit 6))], (Int.negSucc (nat_lit 0)))])
  (.leaf (.bool false))
  (.test (.le [([], (Int.ofNat (nat_lit 1125899906842625))), ([(.var (nat_lit 7))], (Int.ofNat (nat_lit 1)))])
  (.leaf (.bool false))
  (.test (.le [([], (Int.ofNat (nat_lit 1125899906842625))), ([(.var (nat_lit 7))], (Int.negSucc (nat_lit 0)))])
  (.leaf (.bool false))
  (.test (.le [([], (Int.ofNat (nat_lit 1125899906842625))), ([(.var (nat_lit 8))], (Int.ofNat (nat_lit 1)))])
  (.leaf (.bool false))
  (.test (.le [([], (Int.ofNat (nat_lit 1125899906842625))), ([(.var (nat_lit 8))], (Int.negSucc (nat_lit 0)))])
  (.leaf (.bool false))
  (.test (.le [([], (Int.ofNat (nat_lit 1125899906842625))), ([(.var (nat_lit 9))], (Int.ofNat (nat_lit 1)))])
  (.leaf (.bool false))
  (.test (.le [([], (Int.ofNat (nat_lit 1125899906842625))), ([(.var (nat_lit 9))], (Int.negSucc (nat_lit 0)))])
  (.leaf (.bool false))
  (.test (.le [([], (Int.ofNat (nat_lit 1125899906842625))), ([(.var (nat_lit 10))], (Int.ofNat (nat_lit 1)))])
  (.leaf (.bool false))
  (.test (.le [([], (Int.ofNat (nat_lit 1125899906842625))), ([(.var (nat_lit 10))], (Int.negSucc (nat_lit 0)))])
  (.leaf (.bool false))
  (.test (.le [([], (Int.ofNat (nat_lit 1125899906842625))), ([(.var (nat_lit 11))], (Int.ofNat (nat_lit 1)))])
  (.leaf (.bool false))
  (.test (.le [([], (Int.ofNat (nat_lit 1125899906842625))), ([(.var (nat_lit 11))], (Int.negSucc (nat_lit 0)))])
  (.leaf (.bool false))
  (.leaf (.bool true))))))))))))))))))))))))))
theorem f72C0 : checkT Tryd.prog (xOf symX) (gxOf symG) (sumsOf sums24) 10000 72 f72A f72T0 (facts0 f72K) = true := by kernel_rfl
def f72M : Summ := ⟨f72A, f72K, f72T0⟩
theorem f72Ok : SumOk Tryd.prog (xOf symX) (gxOf symG) 72 f72M := sumOk_of symMixed symClosed sums24Ok f72C0
def sums72 : List (Nat × Summ) := (72, f72M) :: sums24
theorem sums72Ok : ∀ g m, sumsOf sums72 g = some m → SumOk Tryd.prog (xOf symX) (gxOf symG) g m := sumsOf_ok f72Ok sums24Ok
def f47A : List SV := [(.agg [(.int .i64 [([(.var (nat_lit 0))], (Int.ofNat (nat_lit 1)))]), (.int .i64 [([(.var (nat_lit 1))], (Int.ofNat (nat_lit 1)))]), (.int .i64 [([(.var (nat_lit 2))], (Int.ofNat (nat_lit 1)))]), (.int .i64 [([(.var (nat_lit 3))], (Int.ofNat (nat_lit 1)))])]), (.int .i64 [([(.var (nat_lit 4))], (Int.ofNat (nat_lit 1)))])]
def f47K : List IntKind := [.i64, .i64, .i64, .i64, .i64]
def f47Q0 : Quest := (.le [([], (Int.ofNat (nat_lit 576460752303423489))), ([(.var (nat_lit 0))], (Int.ofNat (nat_lit 1)))])
def f47T1 : STree := (.leaf (.agg [(.int .i64 []), (.int .i64 []), (.int .i64 []), (.int .i64 [])]))
theorem f47C1 : checkT Tryd.prog (xOf symX) (gxOf symG) (sumsOf sums72) 10000 47 f47A f47T1 ((facts0 f47K).yes f47Q0) = true := by kernel_rfl
def f47Q2 : Quest := (.le [([], (Int.ofNat (nat_lit 576460752303423489))), ([(.var (nat_lit 0))], (Int.negSucc (nat_lit 0)))])
def f47T3 : STree := (.leaf (.agg [(.int .i64 []), (.int .i64 []), (.int .i64 []), (.int .i64 [])]))
theorem f47C3 : checkT Tryd.prog (xOf symX) (gxOf symG) (sumsOf sums72) 10000 47 f47A f47T3 (((facts0 f47K).no f47Q0).yes f47Q2) = true := by kernel_rfl
def f47Q4 : Quest := (.le [([], (Int.ofNat (nat_lit 576460752303423489))), ([(.var (nat_lit 1))], (Int.ofNat (nat_lit 1)))])
def f47T5 : STree := (.leaf (.agg [(.int .i64 []), (.int .i64 []), (.int .i64 []), (.int .i64 [])]))
theorem f47C5 : checkT Tryd.prog (xOf symX) (gxOf symG) (sumsOf sums72) 10000 47 f47A f47T5 ((((facts0 f47K).no f47Q0).no f47Q2).yes f47Q4) = true := by kernel_rfl
def f47Q6 : Quest := (.le [([], (Int.ofNat (nat_lit 576460752303423489))), ([(.var (nat_lit 1))], (Int.negSucc (nat_lit 0)))])
def f47T7 : STree := (.leaf (.agg [(.int .i64 []), (.int .i64 []), (.int .i64 []), (.int .i64 [])]))
theorem f47C7 : checkT Tryd.prog (xOf symX) (gxOf symG) (sumsOf sums72) 10000 47 f47A f47T7 (((((facts0 f47K).no f47Q0).no f47Q2).no f47Q4).yes f47Q6) = true := by kernel_rfl
def f47Q8 : Quest := (.le [([], (Int.ofNat (nat_lit 576460752303423489))), ([(.var (nat_lit 2))], (Int.ofNat (nat_lit 1)))])
def f47T9 : STree := (.leaf (.agg [(.int .i64 []), (.int .i64 []), (.int .i64 []), (.int .i64 [])]))
theorem f47C9 : checkT Tryd.prog (xOf symX) (gxOf symG) (sumsOf sums72) 10000 47 f47A f47T9 ((((((facts0 f47K).no f47Q0).no f47Q2).no f47Q4).no f47Q6).yes f47Q8) = true := by kernel_rfl
def f47Q10 : Quest := (.le [([], (Int.ofNat (nat_lit 576460752303423489))), ([(.var (nat_lit 2))], (Int.negSucc (nat_lit 0)))])
def f47T11 : STree := (.leaf (.agg [(.int .i64 []), (.int .i64 []), (.int .i64 []), (.int .i64 [])]))
theorem f47C11 : checkT Tryd.prog (xOf symX) (gxOf symG) (sumsOf sums72) 10000 47 f47A f47T11 (((((((facts0 f47K).no f47Q0).no f47Q2).no f47Q4).no f47Q6).no f47Q8).yes f47Q10) = true := by kernel_rfl
def f47Q12 : Quest := (.le [([], (Int.ofNat (nat_lit 576460752303423489))), ([(.var (nat_lit 3))], (Int.ofNat (nat_lit 1)))])
def f47T13 : STree := (.leaf (.agg [(.int .i64 []), (.int .i64 []), (.int .i64 []), (.int .i64 [])]))
theorem f47C13 : checkT Tryd.prog (xOf symX) (gxOf symG) (sumsOf sums72) 10000 47 f47A f47T13 ((((((((facts0 f47K).no f47Q0).no f47Q2).no f47Q4).no f47Q6).no f47Q8).no f47Q10).yes f47Q12) = true := by kernel_rfl
def f47Q14 : Quest := (.le [([], (Int.ofNat (nat_lit 576460752303423489))), ([(.var (nat_lit 3))], (Int.negSucc (nat_lit 0)))])
def f47T15 : STree := (.leaf (.agg [(.int .i64 []), (.int .i64 []), (.int .i64 []), (.int .i64 [])]))
theorem f47C15 : checkT Tryd.prog (xOf symX) (gxOf symG) (sumsOf sums72) 10000 47 f47A f47T15 (((((((((facts0 f47K).no f47Q0).no f47Q2).no f47Q4).no f47Q6).no f47Q8).no f47Q10).no f47Q12).yes f47Q14) = true := by kernel_rfl
def f47Q16 : Quest := (.le [([], (Int.ofNat (nat_lit 6))), ([(.emod (nat_lit 12) (.var (nat_lit 4)))], (Int.negSucc (nat_lit 0)))])
def f47Q17 : Quest := (.le [([], (Int.negSucc (nat_lit 7))), ([(.emod (nat_lit 12) (.var (nat_lit 4)))], (Int.ofNat (nat_lit 1)))])
def f47Q18 : Quest := (.le [([], (Int.negSucc (nat_lit 6))), ([(.emod (nat_lit 12) (.var (nat_lit 4)))], (Int.ofNat (nat_lit 1)))])
def f47T19 : STree := (.test (.le [([], (Int.negSucc (nat_lit 5))), ([(.emod (nat_lit 12) (.var (nat_lit 4)))], (Int.ofNat (nat_lit 1)))])
  (.leaf (.agg [(.int .i64 [([(.var (nat_lit 0))], (Int.negSucc (nat_lit 0)))]), (.int .i64 [([(.var (nat_lit 1))], (Int.negSucc (nat_lit 0)))]), (.int .i64 [([(.var (nat_lit 2))], (Int.negSucc (nat_lit 0)))]), (.int .i64 [([(.var (nat_lit 3))], (Int.negSucc (nat_lit 0)))])]))
  (.test (.le [([], (Int.ofNat (nat_lit 576460752303423489))), ([(.var (nat_lit 1))], (Int.negSucc (nat_lit 0))), ([(.var (nat_lit 3))], (Int.negSucc (nat_lit 0)))])
  (.leaf (.agg [(.int .i64 []), (.int .i64 []), (.int .i64 []), (.int .i64 [])]))
  (.test (.le [([], (Int.ofNat (nat_lit 576460752303423489))), ([(.var (nat_lit 1))], (Int.ofNat (nat_lit 1))), ([(.var (nat_lit 3))], (Int.ofNat (nat_lit 1)))])
  (.leaf (.agg [(.int .i64 []), (.int .i64 []), (.int .i64 []), (.int .i64 [])]))
  (.leaf (.agg [(.int .i64 [([(.var (nat_lit 3))], (Int.ofNat (nat_lit 1)))]), (.int .i64 [([(.var (nat_lit 0))], (Int.negSucc (nat_lit 0)))]), (.int .i64 [([(.var (nat_lit 1))], (Int.negSucc (nat_lit 0))), ([(.var (nat_lit 3))], (Int.negSucc (nat_lit 0)))]), (.int .i64 [([(.var (nat_lit 2))], (Int.negSucc (nat_lit 0)))])])))))
theorem f47C19 : checkT Tryd.prog (xOf symX) (gxOf symG) (sumsOf sums72) 10000 47 f47A f47T19 ((((((((((((facts0 f47K).no f47Q0).no f47Q2).no f47Q4).no f47Q6).no f47Q8).no f47Q10).no f47Q12).no f47Q14).yes f47Q16).yes f47Q17).yes f47Q18) = true := by kernel_rfl
def f47T20 : STree := (.test (.le [([], (Int.ofNat (nat_lit 576460752303423489))), ([(.var (nat_lit 0))], (Int.negSucc (nat_lit 0))), ([(.var (nat_lit 2))], (Int.negSucc (nat_lit 0)))])
  (.leaf (.agg [(.int .i64 []), (.int .i64 []), (.int .i64 []), (.int .i64 [])]))
  (.test (.le [([], (Int.ofNat (nat_lit 576460752303423489))), ([(.var (nat_lit 0))], (Int.ofNat (nat_lit 1))), ([(.var (nat_lit 2))], (Int.ofNat (nat_lit 1)))])
  (.leaf (.agg [(.int .i64 []), (.int .i64 []), (.int .i64 []), (.int .i64 [])]))
  (.test (.le [([], (Int.ofNat (nat_lit 576460752303423489))), ([(.var (nat_lit 1))], (Int.negSucc (nat_lit 0))), ([(.var (nat_lit 3))], (Int.negSucc (nat_lit 0)))])
  (.leaf (.agg [(.int .i64 []), (.int .i64 []), (.int .i64 []), (.int .i64 [])]))
  (.test (.le [([], (Int.ofNat (nat_lit 576460752303423489))), ([(.var (nat_lit 1))], (Int.ofNat (nat_lit 1))), ([(.var (nat_lit 3))], (Int.ofNat (nat_lit 1)))])
  (.leaf (.agg [(.int .i64 []), (.int .i64 []), (.int .i64 []), (.int .i64 [])]))
  (.leaf (.agg [(.int .i64 [([(.var (nat_lit 2))], (Int.ofNat (nat_lit 1)))]), (.int .i64 [([(.var (nat_lit 3))], (Int.ofNat (nat_lit 1)))]), (.int .i64 [([(.var (nat_lit 0))], (Int.negSucc (nat_lit 0))), ([(.var (nat_lit 2))], (Int.negSucc (nat_lit 0)))]), (.int .i64 [([(.var (nat_lit 1))], (Int.negSucc (nat_lit 0))), ([(.var (nat_lit 3))], (Int.negSucc (nat_lit 0)))])]))))))
theorem f47C20 : checkT Tryd.prog (xOf symX) (gxOf symG) (sumsOf sums72) 10000 47 f47A f47T20 ((((((((((((facts0 f47K).no f47Q0).no f47Q2).no f47Q4).no f47Q6).no f47Q8).no f47Q10).no f47Q12).no f47Q14).yes f47Q16).yes f47Q17).no f47Q18) = true := by kernel_rfl
def f47T21 : STree := .test f47Q18 f47T19 f47T20
theorem f47C21 : checkT Tryd.prog (xOf symX) (gxOf symG) (sumsOf sums72) 10000 47 f47A f47T21 (((((((((((facts0 f47K).no f47Q0).no f47Q2).no f47Q4).no f47Q6).no f47Q8).no f47Q10).no f47Q12).no f47Q14).yes f47Q16).yes f47Q17) = true := checkT_test f47C19 f47C20
def f47Q22 : Quest := (.le [([], (Int.negSucc (nat_lit 9))), ([(.emod (nat_lit 12) (.var (nat_lit 4)))], (Int.ofNat (nat_lit 1)))])
def f47Q23 : Quest := (.le [([], (Int.negSucc (nat_lit 8))), ([(.emod (nat_lit 12) (.var (nat_lit 4)))], (Int.ofNat (nat_lit 1)))])
def f47T24 : STree := (.test (.le [([], (Int.ofNat (nat_lit 576460752303423489))), ([(.var (nat_lit 1))], (Int.ofNat (nat_lit 1))), ([(.var (nat_lit 3))], (Int.ofNat (nat_lit 1)))])
  (.leaf (.agg [(.int .i64 []), (.int .i64 []), (.int .i64 []), (.int .i64 [])]))
  (.test (.le [([], (Int.ofNat (nat_lit 576460752303423489))), ([(.var (nat_lit 1))], (Int.negSucc (nat_lit 0))), ([(.var (nat_lit 3))], (Int.negSucc (nat_lit 0)))])
  (.leaf (.agg [(.int .i64 []), (.int .i64 []), (.int .i64 []), (.int .i64 [])]))
  (.test (.le [([], (Int.ofNat (nat_lit 576460752303423489))), ([(.var (nat_lit 0))], (Int.negSucc (nat_lit 0))), ([(.var (nat_lit 2))], (Int.negSucc (nat_lit 0)))])
  (.leaf (.agg [(.int .i64 []), (.int .i64 []), (.int .i64 []), (.int .i64 [])]))
  (.test (.le [([], (Int.ofNat (nat_lit 576460752303423489))), ([(.var (nat_lit 0))], (Int.ofNat (nat_lit 1))), ([(.var (nat_lit 2))], (Int.ofNat (nat_lit 1)))])
  (.leaf (.agg [(.int .i64 []), (.int .i64 []), (.int .i64 []), (.int .i64 [])]))
  (.leaf (.agg [(.int .i64 [([(.var (nat_lit 1))], (Int.ofNat (nat_lit 1))), ([(.var (nat_lit 3))], (Int.ofNat (nat_lit 1)))]), (.int .i64 [([(.var (nat_lit 2))], (Int.ofNat (nat_lit 1)))]), (.int .i64 [([(.var (nat_lit 1))], (Int.negSucc (nat_lit 0)))]), (.int .i64 [([(.var (nat_lit 0))], (Int.negSucc (nat_lit 0))), ([(.var (nat_lit 2))], (Int.negSucc (nat_lit 0)))])]))))))
theorem f47C24 : checkT Tryd.prog (xOf symX) (gxOf symG) (sumsOf sums72) 10000 47 f47A f47T24 (((((((((((((facts0 f47K).no f47Q0).no f47Q2).no f47Q4).no f47Q6).no f47Q8).no f47Q10).no f47Q12).no f47Q14).yes f47Q16).no f47Q17).yes f47Q22).yes f47Q23) = true := by kernel_rfl
def f47T25 : STree := (.test (.le [([], (Int.ofNat (nat_lit 576460752303423489))), ([(.var (nat_lit 0))], (Int.ofNat (nat_lit 1))), ([(.var (nat_lit 2))], (Int.ofNat (nat_lit 1)))])
  (.leaf (.agg [(.int .i64 []), (.int .i64 []), (.int .i64 []), (.int .i64 [])]))
  (.test (.le [([], (Int.ofNat (nat_lit 576460752303423489))), ([(.var (nat_lit 0))], (Int.negSucc (nat_lit 0))), ([(.var (nat_lit 2))], (Int.negSucc (nat_lit 0)))])
  (.leaf (.agg [(.int .i64 []), (.int .i64 []), (.int .i64 []), (.int .i64 [])]))
  (.test (.le [([], (Int.ofNat (nat_lit 576460752303423489))), ([(.var (nat_lit 1))], (Int.ofNat (nat_lit 1))), ([(.var (nat_lit 3))], (Int.ofNat (nat_lit 1)))])
  (.leaf (.agg [(.int .i64 []), (.int .i64 []), (.int .i64 []), (.int .i64 [])]))
  (.test (.le [([], (Int.ofNat (nat_lit 576460752303423489))), ([(.var (nat_lit 1))], (Int.negSucc (nat_lit 0))), ([(.var (nat_lit 3))], (Int.negSucc (nat_lit 0)))])
  (.leaf (.agg [(.int .i64 []), (.int .i64 []), (.int .i64 []), (.int .i64 [])]))
  (.leaf (.agg [(.int .i64 [([(.var (nat_lit 0))], (Int.ofNat (nat_lit 1))), ([(.var (nat_lit 2))], (Int.ofNat (nat_lit 1)))]), (.int .i64 [([(.var (nat_lit 1))], (Int.ofNat (nat_lit 1))), ([(.var (nat_lit 3))], (Int.ofNat (nat_lit 1)))]), (.int .i64 [([(.var (nat_lit 0))], (Int.negSucc (nat_lit 0)))]), (.int .i64 [([(.var (nat_lit 1))], (Int.negSucc (nat_lit 0)))])]))))))
theorem f47C25 : checkT Tryd.prog (xOf symX) (gxOf symG) (sumsOf sums72) 10000 47 f47A f47T25 (((((((((((((facts0 f47K).no f47Q0).no f47Q2).no f47Q4).no f47Q6).no f47Q8).no f47Q10).no f47Q12).no f47Q14).yes f47Q16).no f47Q17).yes f47Q22).no f47Q23) = true := by kernel_rfl
def f47T26 : STree := .test f47Q23 f47T24 f47T25
theorem f47C26 : checkT Tryd.prog (xOf symX) (gxOf symG) (sumsOf sums72) 10000 47 f47A f47T26 ((((((((((((facts0 f47K).no f47Q0).no f47Q2).no f47Q4).no f47Q6).no f47Q8).no f47Q10).no f47Q12).no f47Q14).yes f47Q16).no f47Q17).yes f47Q22) = true := checkT_test f47C24 f47C25
def f47T27 : STree := (.test (.le [([], (Int.ofNat (nat_lit 576460752303423489))), ([(.var (nat_lit 0))], (Int.ofNat (nat_lit 1))), ([(.var (nat_lit 2))], (Int.ofNat (nat_lit 1)))])
  (.leaf (.agg [(.int .i64 []), (.int .i64 []), (.int .i64 []), (.int .i64 [])]))
  (.test (.le [([], (Int.ofNat (nat_lit 576460752303423489))), ([(.var (nat_lit 0))], (Int.negSucc (nat_lit 0))), ([(.var (nat_lit 2))], (Int.negSucc (nat_lit 0)))])
  (.leaf (.agg [(.int .i64 []), (.int .i64 []), (.int .i64 []), (.int .i64 [])]))
  (.leaf (.agg [(.int .i64 [([(.var (nat_lit 1))], (Int.ofNat (nat_lit 1)))]), (.int .i64 [([(.var (nat_lit 0))], (Int.ofNat (nat_lit 1))), ([(.var (nat_lit 2))], (Int.ofNat (nat_lit 1)))]), (.int .i64 [([(.var (nat_lit 3))], (Int.ofNat (nat_lit 1)))]), (.int .i64 [([(.var (nat_lit 0))], (Int.negSucc (nat_lit 0)))])]))))
theorem f47C27 : checkT Tryd.prog (xOf symX) (gxOf symG) (sumsOf sums72) 10000 47 f47A f47T27 ((((((((((((facts0 f47K).no f47Q0).no f47Q2).no f47Q4).no f47Q6).no f47Q8).no f47Q10).no f47Q12).no f47Q14).yes f47Q16).no f47Q17).no f47Q22) = true := by kernel_rfl
def f47T28 : STree := .test f47Q22 f47T26 f47T27
theorem f47C28 : checkT Tryd.prog (xOf symX) (gxOf symG) (sumsOf sums72) 10000 47 f47A f47T28 (((((((((((facts0 f47K).no f47Q0).no f47Q2).no f47Q4).no f47Q6).no f47Q8).no f47Q10).no f47Q12).no f47Q14).yes f47Q16).no f47Q17) = true := checkT_test f47C26 f47C27
def f47T29 : STree := .test f47Q17 f47T21 f47T28
theorem f47C29 : checkT Tryd.prog (xOf symX) (gxOf symG) (sumsOf sums72) 10000 47 f47A f47T29 ((((((((((facts0 f47K).no f47Q0).no f47Q2).no f47Q4).no f47Q6).no f47Q8).no f47Q10).no f47Q12).no f47Q14).yes f47Q16) = true := checkT_test f47C21 f47C28
def f47Q30 : Quest := (.le [([], (Int.negSucc (nat_lit 1))), ([(.emod (nat_lit 12) (.var (nat_lit 4)))], (Int.ofNat (nat_lit 1)))])
def f47Q31 : Quest := (.le [([], (Int.negSucc (nat_lit 0))), ([(.emod (nat_lit 12) (.var (nat_lit 4)))], (Int.ofNat (nat_lit 1)))])
def f47T32 : STree := (.test (.le [([(.emod (nat_lit 12) (.var (nat_lit 4)))], (Int.ofNat (nat_lit 1)))])
  (.leaf (.agg [(.int .i64 [([(.var (nat_lit 0))], (Int.ofNat (nat_lit 1)))]), (.int .i64 [([(.var (nat_lit 1))], (Int.ofNat (nat_lit 1)))]), (.int .i64 [([(.var (nat_lit 2))], (Int.ofNat (nat_lit 1)))]), (.int .i64 [([(.var (nat_lit 3))], (Int.ofNat (nat_lit 1)))])]))
  (.test (.le [([], (Int.ofNat (nat_lit 576460752303423489))), ([(.var (nat_lit 1))], (Int.ofNat (nat_lit 1))), ([(.var (nat_lit 3))], (Int.ofNat (nat_lit 1)))])
  (.leaf (.agg [(.int .i64 []), (.int .i64 []), (.int .i64 []), (.int .i64 [])]))
  (.test (.le [([], (Int.ofNat (nat_lit 576460752303423489))), ([(.var (nat_lit 1))], (Int.negSucc (nat_lit 0))), ([(.var (nat_lit 3))], (Int.negSucc (nat_lit 0)))])
  (.leaf (.agg [(.int .i64 []), (.int .i64 []), (.int .i64 []), (.int .i64 [])]))
  (.leaf (.agg [(.int .i64 [([(.var (nat_lit 3))], (Int.negSucc (nat_lit 0)))]), (.int .i64 [([(.var (nat_lit 0))], (Int.ofNat (nat_lit 1)))]), (.int .i64 [([(.var (nat_lit 1))], (Int.ofNat (nat_lit 1))), ([(.var (nat_lit 3))], (Int.ofNat (nat_lit 1)))]), (.int .i64 [([(.var (nat_lit 2))], (Int.ofNat (nat_lit 1)))])])))))
theorem f47C32 : checkT Tryd.prog (xOf symX) (gxOf symG) (sumsOf sums72) 10000 47 f47A f47T32 ((((((((((((facts0 f47K).no f47Q0).no f47Q2).no f47Q4).no f47Q6).no f47Q8).no f47Q10).no f47Q12).no f47Q14).no f47Q16).yes f47Q30).yes f47Q31) = true := by kernel_rfl
def f47T33 : STree := (.test (.le [([], (Int.ofNat (nat_lit 576460752303423489))), ([(.var (nat_lit 0))], (Int.ofNat (nat_lit 1))), ([(.var (nat_lit 2))], (Int.ofNat (nat_lit 1)))])
  (.leaf (.agg [(.int .i64 []), (.int .i64 []), (.int .i64 []), (.int .i64 [])]))
  (.test (.le [([], (Int.ofNat (nat_lit 576460752303423489))), ([(.var (nat_lit 0))], (Int.negSucc (nat_lit 0))), ([(.var (nat_lit 2))], (Int.negSucc (nat_lit 0)))])
  (.leaf (.agg [(.int .i64 []), (.int .i64 []), (.int .i64 []), (.int .i64 [])]))
  (.test (.le [([], (Int.ofNat (nat_lit 576460752303423489))), ([(.var (nat_lit 1))], (Int.ofNat (nat_lit 1))), ([(.var (nat_lit 3))], (Int.ofNat (nat_lit 1)))])
  (.leaf (.agg [(.int .i64 []), (.int .i64 []), (.int .i64 []), (.int .i64 [])]))
  (.test (.le [([], (Int.ofNat (nat_lit 576460752303423489))), ([(.var (nat_lit 1))], (Int.negSucc (nat_lit 0))), ([(.var (nat_lit 3))], (Int.negSucc (nat_lit 0)))])
  (.leaf (.agg [(.int .i64 []), (.int .i64 []), (.int .i64 []), (.int .i64 [])]))
  (.leaf (.agg [(.int .i64 [([(.var (nat_lit 2))], (Int.negSucc (nat_lit 0)))]), (.int .i64 [([(.var (nat_lit 3))], (Int.negSucc (nat_lit 0)))]), (.int .i64 [([(.var (nat_lit 0))], (Int.ofNat (nat_lit 1))), ([(.var (nat_lit 2))], (Int.ofNat (nat_lit 1)))]), (.int .i64 [([(.var (nat_lit 1))], (Int.ofNat (nat_lit 1))), ([(.var (nat_lit 3))], (Int.ofNat (nat_lit 1)))])]))))))
theorem f47C33 : checkT Tryd.prog (xOf symX) (gxOf symG) (sumsOf sums72) 10000 47 f47A f47T33 ((((((((((((facts0 f47K).no f47Q0).no f47Q2).no f47Q4).no f47Q6).no f47Q8).no f47Q10).no f47Q12).no f47Q14).no f47Q16).yes f47Q30).no f47Q31) = true := by kernel_rfl
def f47T34 : STree := .test f47Q31 f47T32 f47T33
theorem f47C34 : checkT Tryd.prog (xOf symX) (gxOf symG) (sumsOf sums72) 10000 47 f47A f47T34 (((((((((((facts0 f47K).no f47Q0).no f47Q2).no f47Q4).no f47Q6).no f47Q8).no f47Q10).no f47Q12).no f47Q14).no f47Q16).yes f47Q30) = true := checkT_test f47C32 f47C33
def f47Q35 : Quest := (.le [([], (Int.negSucc (nat_lit 3))), ([(.emod (nat_lit 12) (.var (nat_lit 4)))], (Int.ofNat (nat_lit 1)))])
def f47Q36 : Quest := (.le [([], (Int.negSucc (nat_lit 2))), ([(.emod (nat_lit 12) (.var (nat_lit 4)))], (Int.ofNat (nat_lit 1)))])
def f47T37 : STree := (.test (.le [([], (Int.ofNat (nat_lit 576460752303423489))), ([(.var (nat_lit 1))], (Int.negSucc (nat_lit 0))), ([(.var (nat_lit 3))], (Int.negSucc (nat_lit 0)))])
  (.leaf (.agg [(.int .i64 []), (.int .i64 []), (.int .i64 []), (.int .i64 [])]))
  (.test (.le [([], (Int.ofNat (nat_lit 576460752303423489))), ([(.var (nat_lit 1))], (Int.ofNat (nat_lit 1))), ([(.var (nat_lit 3))], (Int.ofNat (nat_lit 1)))])
  (.leaf (.agg [(.int .i64 []), (.int .i64 []), (.int .i64 []), (.int .i64 [])]))
  (.test (.le [([], (Int.ofNat (nat_lit 576460752303423489))), ([(.var (nat_lit 0))], (Int.ofNat (nat_lit 1))), ([(.var (nat_lit 2))], (Int.ofNat (nat_lit 1)))])
  (.leaf (.agg [(.int .i64 []), (.int .i64 []), (.int .i64 []), (.int .i64 [])]))
  (.test (.le [([], (Int.ofNat (nat_lit 576460752303423489))), ([(.var (nat_lit 0))], (Int.negSucc (nat_lit 0))), ([(.var (nat_lit 2))], (Int.negSucc (nat_lit 0)))])
  (.leaf (.agg [(.int .i64 []), (.int .i64 []), (.int .i64 []), (.int .i64 [])]))
  (.leaf (.agg [(.int .i64 [([(.var (nat_lit 1))], (Int.negSucc (nat_lit 0))), ([(.var (nat_lit 3))], (Int.negSucc (nat_lit 0)))]), (.int .i64 [([(.var (nat_lit 2))], (Int.negSucc (nat_lit 0)))]), (.int .i64 [([(.var (nat_lit 1))], (Int.ofNat (nat_lit 1)))]), (.int .i64 [([(.var (nat_lit 0))], (Int.ofNat (nat_lit 1))), ([(.var (nat_lit 2))], (Int.ofNat (nat_lit 1)))])]))))))
theorem f47C37 : checkT Tryd.prog (xOf symX) (gxOf symG) (sumsOf sums72) 10000 47 f47A f47T37 (((((((((((((facts0 f47K).no f47Q0).no f47Q2).no f47Q4).no f47Q6).no f47Q8).no f47Q10).no f47Q12).no f47Q14).no f47Q16).no f47Q30).yes f47Q35).yes f47Q36) = true := by kernel_rfl
def f47T38 : STree := (.test (.le [([], (Int.ofNat (nat_lit 576460752303423489))), ([(.var (nat_lit 0))], (Int.negSucc (nat_lit 0))), ([(.var (nat_lit 2))], (Int.negSucc (nat_lit 0)))])
  (.leaf (.agg [(.int .i64 []), (.int .i64 []), (.int .i64 []), (.int .i64 [])]))
  (.test (.le [([], (Int.ofNat (nat_lit 576460752303423489))), ([(.var (nat_lit 0))], (Int.ofNat (nat_lit 1))), ([(.var (nat_lit 2))], (Int.ofNat (nat_lit 1)))])
  (.leaf (.agg [(.int .i64 []), (.int .i64 []), (.int .i64 []), (.int .i64 [])]))
  (.test (.le [([], (Int.ofNat (nat_lit 576460752303423489))), ([(.var (nat_lit 1))], (Int.negSucc (nat_lit 0))), ([(.var (nat_lit 3))], (Int.negSucc (nat_lit 0)))])
  (.leaf (.agg [(.int .i64 []), (.int .i64 []), (.int .i64 []), (.int .i64 [])]))
  (.test (.le [([], (Int.ofNat (nat_lit 576460752303423489))), ([(.var (nat_lit 1))], (Int.ofNat (nat_lit 1))), ([(.var (nat_lit 3))], (Int.ofNat (nat_lit 1)))])
  (.leaf (.agg [(.int .i64 []), (.int .i64 []), (.int .i64 []), (.int .i64 [])]))
  (.leaf (.agg [(.int .i64 [([(.var (nat_lit 0))], (Int.negSucc (nat_lit 0))), ([(.var (nat_lit 2))], (Int.negSucc (nat_lit 0)))]), (.int .i64 [([(.var (nat_lit 1))], (Int.negSucc (nat_lit 0))), ([(.var (nat_lit 3))], (Int.negSucc (nat_lit 0)))]), (.int .i64 [([(.var (nat_lit 0))], (Int.ofNat (nat_lit 1)))]), (.int .i64 [([(.var (nat_lit 1))], (Int.ofNat (nat_lit 1)))])]))))))
theorem f47C38 : checkT Tryd.prog (xOf symX) (gxOf symG) (sumsOf sums72) 10000 47 f47A f47T38 (((((((((((((facts0 f47K).no f47Q0).no f47Q2).no f47Q4).no f47Q6).no f47Q8).no f47Q10).no f47Q12).no f47Q14).no f47Q16).no f47Q30).yes f47Q35).no f47Q36) = true := by kernel_rfl
def f47T39 : STree := .test f47Q36 f47T37 f47T38
theorem f47C39 : checkT Tryd.prog (xOf symX) (gxOf symG) (sumsOf sums72) 10000 47 f47A f47T39 ((((((((((((facts0 f47K).no f47Q0).no f47Q2).no f47Q4).no f47Q6).no f47Q8).no f47Q10).no f47Q12).no f47Q14).no f47Q16).no f47Q30).yes f47Q35) = true := checkT_test f47C37 f47C38
def f47T40 : STree := (.test (.le [([], (Int.ofNat (nat_lit 576460752303423489))), ([(.var (nat_lit 0))], (Int.negSucc (nat_lit 0))), ([(.var (nat_lit 2))], (Int.negSucc (nat_lit 0)))])
  (.leaf (.agg [(.int .i64 []), (.int .i64 []), (.int .i64 []), (.int .i64 [])]))
  (.test (.le [([], (Int.ofNat (nat_lit 576460752303423489))), ([(.var (nat_lit 0))], (Int.ofNat (nat_lit 1))), ([(.var (nat_lit 2))], (Int.ofNat (nat_lit 1)))])
  (.leaf (.agg [(.int .i64 []), (.int .i64 []), (.int .i64 []), (.int .i64 [])]))
  (.leaf (.agg [(.int .i64 [([(.var (nat_lit 1))], (Int.negSucc (nat_lit 0)))]), (.int .i64 [([(.var (nat_lit 0))], (Int.negSucc (nat_lit 0))), ([(.var (nat_lit 2))], (Int.negSucc (nat_lit 0)))]), (.int .i64 [([(.var (nat_lit 3))], (Int.negSucc (nat_lit 0)))]), (.int .i64 [([(.var (nat_lit 0))], (Int.ofNat (nat_lit 1)))])]))))
theorem f47C40 : checkT Tryd.prog (xOf symX) (gxOf symG) (sumsOf sums72) 10000 47 f47A f47T40 ((((((((((((facts0 f47K).no f47Q0).no f47Q2).no f47Q4).no f47Q6).no f47Q8).no f47Q10).no f47Q12).no f47Q14).no f47Q16).no f47Q30).no f47Q35) = true := by kernel_rfl
def f47T41 : STree := .test f47Q35 f47T39 f47T40
theorem f47C41 : checkT Tryd.prog (xOf symX) (gxOf symG) (sumsOf sums72) 10000 47 f47A f47T41 (((((((((((facts0 f47K).no f47Q0).no f47Q2).no f47Q4).no f47Q6).no f47Q8).no f47Q10).no f47Q12).no f47Q14).no f47Q16).no f47Q30) = true := checkT_test f47C39 f47C40
def f47T42 : STree := .test f47Q30 f47T34 f47T41
theorem f47C42 : checkT Tryd.prog (xOf symX) (gxOf symG) (sumsOf sums72) 10000 47 f47A f47T42 ((((((((((facts0 f47K).no f47Q0).no f47Q2).no f47Q4).no f47Q6).no f47Q8).no f47Q10).no f47Q12).no f47Q14).no f47Q16) = true := checkT_test f47C34 f47C41
def f47T43 : STree := .test f47Q16 f47T29 f47T42
theorem f47C43 : checkT Tryd.prog (xOf symX) (gxOf symG) (sumsOf sums72) 10000 47 f47A f47T43 (((((((((facts0 f47K).no f47Q0).no f47Q2).no f47Q4).no f47Q6).no f47Q8).no f47Q10).no f47Q12).no f47Q14) = true := checkT_test f47C29 f47C42
def f47T44 : STree := .test f47Q14 f47T15 f47T43
theorem f47C44 : checkT Tryd.prog (xOf symX) (gxOf symG) (sumsOf sums72) 10000 47 f47A f47T44 ((((((((facts0 f47K).no f47Q0).no f47Q2).no f47Q4).no f47Q6).no f47Q8).no f47Q10).no f47Q12) = true := checkT_test f47C15 f47C43
def f47T45 : STree := .test f47Q12 f47T13 f47T44
theorem f47C45 : checkT Tryd.prog (xOf symX) (gxOf symG) (sumsOf sums72) 10000 47 f47A f47T45 (((((((facts0 f47K).no f47Q0).no f47Q2).no f47Q4).no f47Q6).no f47Q8).no f47Q10) = true := checkT_test f47C13 f47C44
def f47T46 : STree := .test f47Q10 f47T11 f47T45
theorem f47C46 : checkT Tryd.prog (xOf symX) (gxOf symG) (sumsOf sums72) 10000 47 f47A f47T46 ((((((facts0 f47K).no f47Q0).no f47Q2).no f47Q4).no f47Q6).no f47Q8) = true := checkT_test f47C11 f47C45
def f47T47 : STree := .test f47Q8 f47T9 f47T46
theorem f47C47 : checkT Tryd.prog (xOf symX) (gxOf symG) (sumsOf sums72) 10000 47 f47A f47T47 (((((facts0 f47K).no f47Q0).no f47Q2).no f47Q4).no f47Q6) = true := checkT_test f47C9 f47C46
def f47T48 : STree := .test f47Q6 f47T7 f47T47
theorem f47C48 : checkT Tryd.prog (xOf symX) (gxOf symG) (sumsOf sums72) 10000 47 f47A f47T48 ((((facts0 f47K).no f47Q0).no f47Q2).no f47Q4) = true := checkT_test f47C7 f47C47
def f47T49 : STree := .test f47Q4 f47T5 f47T48
theorem f47C49 : checkT Tryd.prog (xOf symX) (gxOf symG) (sumsOf sums72) 10000 47 f47A f47T49 (((facts0 f47K).no f47Q0).no f47Q2) = true := checkT_test f47C5 f47C48
def f47T50 : STree := .test f47Q2 f47T3 f47T49
theorem f47C50 : checkT Tryd.prog (xOf symX) (gxOf symG) (sumsOf sums72) 10000 47 f47A f47T50 ((facts0 f47K).no f47Q0) = true := checkT_test f47C3 f47C49
def f47T51 : STree := .test f47Q0 f47T1 f47T50
theorem f47C51 : checkT Tryd.prog (xOf symX) (gxOf symG) (sumsOf sums72) 10000 47 f47A f47T51 (facts0 f47K) = true := checkT_test f47C1 f47C50
def f47M : Summ := ⟨f47A, f47K, f47T51⟩
theorem f47Ok : SumOk Tryd.prog (xOf symX) (gxOf symG) 47 f47M := sumOk_of symMixed symClosed sums72Ok f47C51
def sums47 : List (Nat × Summ) := (47, f47M) :: sums72
theorem sums47Ok : ∀ g m, sumsOf sums47 g = some m → SumOk Tryd.prog (xOf symX) (gxOf symG) g m := sumsOf_ok f47Ok sums72Ok
def f75A : List SV := [(.agg [(.int .i64 [([(.var (nat_lit 0))], (Int.ofNat (nat_lit 1)))]), (.int .i64 [([(.var (nat_lit 1))], (Int.ofNat (nat_lit 1)))]), (.int .i64 [([(.var (nat_lit 2))], (Int.ofNat (nat_lit 1)))]), (.int .i64 [([(.var (nat_lit 3))], (Int.ofNat (nat_lit 1)))])])]
def f75K : List IntKind := [.i64, .i64, .i64, .i64]
def f75T0 : STree := (.test (.le [([], (Int.ofNat (nat_lit 268435457))), ([(.var (nat_lit 0))], (Int.ofNat (nat_lit 1)))])
  (.leaf (.agg [(.int .i64 []), (.int .i64 [])]))
  (.test (.le [([], (Int.ofNat (nat_lit 268435457))), ([(.var (nat_lit 0))], (Int.negSucc (nat_lit 0)))])
  (.leaf (.agg [(.int .i64 []), (.int .i64 [])]))
  (.test (.le [([], (Int.ofNat (nat_lit 268435457))), ([(.var (nat_lit 1))], (Int.ofNat (nat_lit 1)))])
  (.leaf (.agg [(.int .i64 []), (.int .i64 [])]))
  (.test (.le [([], (Int.ofNat (nat_lit 268435457))), ([(.var (nat_lit 1))], (Int.negSucc (nat_lit 0)))])
  (.leaf (.agg [(.int .i64 []), (.int .i64 [])]))
  (.test (.le [([], (Int.ofNat (nat_lit 268435457))), ([(.var (nat_lit 2))], (Int.ofNat (nat_lit 1)))])
  (.leaf (.agg [(.int .i64 []), (.int .i64 [])]))
  (.test (.le [([], (Int.ofNat (nat_lit 268435457))), ([(.var (nat_lit 2))], (Int.negSucc (nat_lit 0)))])
  (.leaf (.agg [(.int .i64 []), (.int .i64 [])]))
  (.test (.le [([], (Int.ofNat (nat_lit 268435457))), ([(.var (nat_lit 3))], (Int.ofNat (nat_lit 1)))])
  (.leaf (.agg [(.int .i64 []), (.int .i64 [])]))
  (.test (.le [([], (Int.ofNat (nat_lit 268435457))), ([(.var (nat_lit 3))], (Int.negSucc (nat_lit 0)))])
  (.leaf (.agg [(.int .i64 []), (.int .i64 [])]))
  (.leaf (.agg [(.int .i64 [([(.var (nat_lit 0)), (.var (nat_lit 0))], (Int.ofNat (nat_lit 1))), ([(.var (nat_lit 0)), (.var (nat_lit 2))], (Int.ofNat (nat_lit 1))), ([(.var (nat_lit 1)), (.var (nat_lit 1))], (Int.ofNat (nat_lit 1))), ([(.var (nat_lit 1)), (.var (nat_lit 3))], (Int.ofNat (nat_lit 1))), ([(.var (nat_lit 2)), (.var (nat_lit 2))], (Int.ofNat (nat_lit 1))), ([(.var (nat_lit 3)), (.var (nat_lit 3))], (Int.ofNat (nat_lit 1)))]), (.int .i64 [([(.var (nat_lit 0)), (.var (nat_lit 1))], (Int.ofNat (nat_lit 1))), ([(.var (nat_lit 1)), (.var (nat_lit 2))], (Int.ofNat (nat_lit 1))), ([(.var (nat_lit 2)), (.var (nat_lit 3))], (Int.ofNat (nat_lit 1)))])]))))))))))
theorem f75C0 : checkT Tryd.prog (xOf symX) (gxOf symG) (sumsOf sums47) 10000 75 f75A f75T0 (facts0 f75K) = true := by kernel_rfl
def f75M : Summ := ⟨f75A, f75K, f75T0⟩
theorem f75Ok : SumOk Tryd.prog (xOf symX) (gxOf symG) 75 f75M := sumOk_of symMixed symClosed sums47Ok f75C0
def sums75 : List (Nat × Summ) := (75, f75M) :: sums47
theorem sums75Ok : ∀ g m, sumsOf sums75 g = some m → SumOk Tryd.prog (xOf symX) (gxOf symG) g m := sumsOf_ok f75Ok sums47Ok
def f48A : List SV := [(.agg [(.int .i64 [([(.var (nat_lit 0))], (Int.ofNat (nat_lit 1)))]), (.int .i64 [([(.var (nat_lit 1))], (Int.ofNat (nat_lit 1)))]), (.int .i64 [([(.var (nat_lit 2))], (Int.ofNat (nat_lit 1)))]), (.int .i64 [([(.var (nat_lit 3))], (Int.ofNat (nat_lit 1)))]), (.int .i64 [([(.var (nat_lit 4))], (Int.ofNat (nat_lit 1)))]), (.int .i64 [([(.var (nat_lit 5))], (Int.ofNat (nat_lit 1)))]), (.int .i64 [([(.var (nat_lit 6))], (Int.ofNat (nat_lit 1)))]), (.int .i64 [([(.var (nat_lit 7))], (Int.ofNat (nat_lit 1)))]), (.int .i64 [([(.var (nat_lit 8))], (Int.ofNat (nat_lit 1)))]), (.int .i64 [([(.var (nat_lit 9))], (Int.ofNat (nat_lit 1)))]), (.int .i64 [([(.var (nat_lit 10))], (Int.ofNat (nat_lit 1)))]), (.int .i64 [([(.var (nat_lit 11))], (Int.ofNat (nat_lit 1)))])])]
def f48K : List IntKind := [.i64, .i64, .i64, .i64, .i64, .i64, .i64, .i64, .i64, .i64, .i64, .i64]
def f48T0 : STree := (.test (.le [([], (Int.ofNat (nat_lit 1125899906842625))), ([(.var (nat_lit 0))], (Int.ofNat (nat_lit 1)))])
  (.leaf (.tuple [(.agg [(.int .i64 []), (.int .i64 []), (.int .i64 []), (.int .i64 []), (.int .i64 []), (.int .i64 []), (.int .i64 []), (.int .i64 []), (.int .i64 []), (.int .i64 []), (.int .i64 []), (.int .i64 [])]), (.int .i64 [([], (Int.ofNat (nat_lit 1)))])]))
  (.test (.le [([], (Int.ofNat (nat_lit 1125899906842625))), ([(.var (nat_lit 0))], (Int.negSucc (nat_lit 0)))])
  (.leaf (.tuple [(.agg [(.int .i64 []), (.int .i64 []), (.int .i64 []), (.int .i64 []), (.int .i64 []), (.int .i64 []), (.int .i64 []), (.int .i64 []), (.int .i64 []), (.int .i64 []), (.int .i64 []), (.int .i64 [])]), (.int .i64 [([], (Int.ofNat (nat_lit 1)))])]))
  (.test (.le [([], (Int.ofNat (nat_lit 1125899906842625))), ([(.var (nat_lit 1))], (Int.ofNat (nat_lit 1)))])
  (.leaf (.tuple [(.agg [(.int .i64 []), (.int .i64 []), (.int .i64 []), (.int .i64 []), (.int .i64 []), (.int .i64 []), (.int .i64 []), (.int .i64 []), (.int .i64 []), (.int .i64 []), (.int .i64 []), (.int .i64 [])]), (.int .i64 [([], (Int.ofNat (nat_lit 1)))])]))
  (.test (.le [([], (Int.ofNat (nat_lit 1125899906842625))), ([(.var (nat_lit 1))], (Int.negSucc (nat_lit 0)))])
  (.leaf (.tuple [(.agg [(.int .i64 []), (.int .i64 []), (.int .i64 []), (.int .i64 []), (.int .i64 []), (.int .i64 []), (.int .i64 []), (.int .i64 []), (.int .i64 []), (.int .i64 []), (.int .i64 []), (.int .i64 [])]), (.int .i64 [([], (Int.ofNat (nat_lit 1)))])]))
  (.test (.le [([], (Int.ofNat (nat_lit 1125899906842625))), ([(.var (nat_lit 2))], (Int.ofNat (nat_lit 1)))])
  (.leaf (.tuple [(.agg [(.int .i64 []), (.int .i64 []), (.int .i64 []), (.int .i64 []), (.int .i64 []), (.int .i64 []), (.int .i64 []), (.int .i64 []), (.int .i64 []), (.int .i64 []), (.int .i64 []), (.int .i64 [])]), (.int .i64 [([], (Int.ofNat (nat_lit 1)))])]))
  (.test (.le [([], (Int.ofNat (nat_lit 1125899906842625))), ([(.var (nat_lit 2))], (Int.negSucc (nat_lit 0)))])
  (.leaf (.tuple [(.agg [(.int .i64 []), (.int .i64 []), (.int .i64 []), (.int .i64 []), (.int .i64 []), (.int .i64 []), (.int .i64 []), (.int .i64 []), (.int .i64 []), (.int .i64 []), (.int .i64 []), (.int .i64 [])]), (.int .i64 [([], (Int.ofNat (nat_lit 1)))])]))
  (.test (.le [([], (Int.ofNat (nat_lit 1125899906842625))), ([(.var (nat_lit 3))], (Int.ofNat (nat_lit 1)))])
  (.leaf (.tuple [(.agg [(.int .i64 []), (.int .i64 []), (.int .i64 []), (.int .i64 []), (.int .i64 []), (.int .i64 []), (.int .i64 []), (.int .i64 []), (.int .i64 []), (.int .i64 []), (.int .i64 []), (.int .i64 [])]), (.int .i64 [([], (Int.ofNat (nat_lit 1)))])]))
  (.test (.le [([], (Int.ofNat (nat_lit 1125899906842625))), ([(.var (nat_lit 3))], (Int.negSucc (nat_lit 0)))])
  (.leaf (.tuple [(.agg [(.int .i64 []), (.int .i64 []), (.int .i64 []), (.int .i64 []), (.int .i64 []), (.int .i64 []), (.int .i64 []), (.int .i64 []), (.int .i64 []), (.int .i64 []), (.int .i64 []), (.int .i64 [])]), (.int .i64 [([], (Int.ofNat (nat_lit 1)))])]))
  (.test (.le [([], (Int.ofNat (nat_lit 1125899906842625))), ([(.var (nat_lit 4))], (Int.ofNat (nat_lit 1)))])
  (.leaf (.tuple [(.agg [(.int .i64 []), (.int .i64 []), (.int .i64 []), (.int .i64 []), (.int .i64 []), (.int .i64 []), (.int .i64 []), (.int .i64 []), (.int .i64 []), (.int .i64 []), (.int .i64 []), (.int .i64 [])]), (.int .i64 [([], (Int.ofNat (nat_lit 1)))])]))
  (.test (.le [([], (Int.ofNat (nat_lit 1125899906842625))), ([(.var (nat_lit 4))], (Int.negSucc (nat_lit 0)))])
  (.leaf (.tuple [(.agg [(.int .i64 []), (.int .i64 []), (.int .i64 []), (.int .i64 []), (.int .i64 []), (.int .i64 []), (.int .i64 []), (.int .i64 []), (.int .i64 []), (.int .i64 []), (.int .i64 []), (.int .i64 [])]), (.int .i64 [([], (Int.ofNat (nat_lit 1)))])]))
  (.test (.le [([], (Int.ofNat (nat_lit 1125899906842625))), ([(.var (nat_lit 5))], (Int.ofNat (nat_lit 1)))])
  (.leaf (.tuple [(.agg [(.int .i64 []), (.int .i64 []), (.int .i64 []), (.int .i64 []), (.int .i64 []), (.int .i64 []), (.int .i64 []), (.int .i64 []), (.int .i64 []), (.int .i64 []), (.int .i64 []), (.int .i64 [])]), (.int .i64 [([], (Int.ofNat (nat_lit 1)))])]))
  (.test (.le [([], (Int.ofNat (nat_lit 1125899906842625))), ([(.var (nat_lit 5))], (Int.negSucc (nat_lit 0)))])
  (.leaf (.tuple [(.agg [(.int .i64 []), (.int .i64 []), (.int .i64 []), (.int .i64 []), (.int .i64 []), (.int .i64 []), (.int .i64 []), (.int .i64 []), (.int .i64 []), (.int .i64 []), (.int .i64 []), (.int .i64 [])]), (.int .i64 [([], (Int.ofNat (nat_lit 1)))])]))
  (.test (.le [([], (Int.ofNat (nat_lit 1125899906842625))), ([(.var (nat_lit 6))], (Int.ofNat (nat_lit 1)))])
  (.leaf (.tuple [(.agg [(.int .i64 []), (.int .i64 []), (.int .i64 []), (.int .i64 []), (.int .i64 []), (.int .i64 []), (.int .i64 []), (.int .i64 []), (.int .i64 []), (.int .i64 []), (.int .i64 []), (.int .i64 [])]), (.int .i64 [([], (Int.ofNat (nat_lit 1)))])]))
  (.test (.le [([], (Int.ofNat (nat_lit 1125899906842625))), ([(.var (nat_lit 6))], (Int.negSucc (nat_lit 0)))])
  (.leaf (.tuple [(.agg [(.int .i64 []), (.int .i64 []), (.int .i64 []), (.int .i64 []), (.int .i64 []), (.int .i64 []), (.int .i64 []), (.int .i64 []), (.int .i64 []), (.int .i64 []), (.int .i64 []), (.int .i64 [])]), (.int .i64 [([], (Int.ofNat (nat_lit 1)))])]))
  (.test (.le [([], (Int.ofNat (nat_lit 1125899906842625))), ([(.var (nat_lit 7))], (Int.ofNat (nat_lit 1)))])
  (.leaf (.tuple [(.agg [(.int .i64 []), (.int .i64 []), (.int .i64 []), (.int .i64 []), (.int .i64 []), (.int .i64 []), (.int .i64 []), (.int .i64 []), (.int .i64 []), (.int .i64 []), (.int .i64 []), (.int .i64 [])]), (.int .i64 [([], (Int.ofNat (nat_lit 1)))])]))
  (.test (.le [([], (Int.ofNat (nat_lit 1125899906842625))), ([(.var (nat_lit 7))], (Int.negSucc (nat_lit 0)))])
  (.leaf (.tuple [(.agg [(.int .i64 []), (.int .i64 []), (.int .i64 []), (.int .i64 []), (.int .i64 []), (.int .i64 []), (.int .i64 []), (.int .i64 []), (.int .i64 []), (.int .i64 []), (.int .i64 []), (.int .i64 [])]), (.int .i64 [([], (Int.ofNat (nat_lit 1)))])]))
  (.test (.le [([], (Int.ofNat (nat_lit 1125899906842625))), ([(.var (nat_lit 8))], (Int.ofNat (nat_lit 1)))])
  (.leaf (.tuple [(.agg [(.int .i64 []), (.int .i64 []), (.int .i64 []), (.int .i64 []), (.int .i64 []), (.int .i64 []), (.int .i64 []), (.int .i64 []), (.int .i64 []), (.int .i64 []), (.int .i64 []), (.int .i64 [])]), (.int .i64 [([], (Int.ofNat (nat_lit 1)))])]))
  (.test (.le [([], (Int.ofNat (nat_lit 1125899906842625))), ([(.var (nat_lit 8))], (Int.negSucc (nat_lit 0)))])
  (.leaf (.tuple [(.agg [(.int .i64 []), (.int .i64 []), (.int .i64 []), (.int .i64 []), (.int .i64 []), (.int .i64 []), (.int .i64 []), (.int .i64 []), (.int .i64 []), (.int .i64 []), (.int .i64 []), (.int .i64 [])]), (.int .i64 [([], (Int.ofNat (nat_lit 1)))])]))
  (.test (.le [([], (Int.ofNat (nat_lit 1125899906842625))), ([(.var (nat_lit 9))], (Int.ofNat (nat_lit 1)))])
  (.leaf (.tuple [(.agg [(.int .i64 []), (.int .i64 []), (.int .i64 []), (.int .i64 []), (.int .i64 []), (.int .i64 []), (.int .i64 []), (.int .i64 []), (.int .i64 []), (.int .i64 []), (.int .i64 []), (.int .i64 [])]), (.int .i64 [([], (Int.ofNat (nat_lit 1)))])]))
  (.test (.le [([], (Int.ofNat (nat_lit 1125899906842625))), ([(.var (nat_lit 9))], (Int.negSucc (nat_lit 0)))])
  (.leaf (.tuple [(.agg [(.int .i64 []), (.int .i64 []), (.int .i64 []), (.int .i64 []), (.int .i64 []), (.int .i64 []), (.int .i64 []), (.int .i64 []), (.int .i64 []), (.int .i64 []), (.int .i64 []), (.int .i64 [])]), (.int .i64 [([], (Int.ofNat (nat_lit 1)))])]))
  (.test (.le [([], (Int.ofNat (nat_lit 1125899906842625))), ([(.var (nat_lit 10))], (Int.ofNat (nat_lit 1)))])
  (.leaf (.tuple [(.agg [(.int .i64 []), (.int .i64 []), (.int .i64 []), (.int .i64 []), (.int .i64 []), (.int .i64 []), (.int .i64 []), (.int .i64 []), (.int .i64 []), (.int .i64 []), (.int .i64 []), (.int .i64 [])]), (.int .i64 [([], (Int.ofNat (nat_lit 1)))])]))
  (.test (.le [([], (Int.ofNat (nat_lit 1125899906842625))), ([(.var (nat_lit 10))], (Int.negSucc (nat_lit 0)))])
  (.leaf (.tuple [(.agg [(.int .i64 []), (.int .i64 []), (.int .i64 []), (.int .i64 []), (.int .i64 []), (.int .i64 []), (.int .i64 []), (.int .i64 []), (.int .i64 []), (.int .i64 []), (.int .i64 []), (.int .i64 [])]), (.int .i64 [([], (Int.ofNat (nat_lit 1)))])]))
  (.test (.le [([], (Int.ofNat (nat_lit 1125899906842625))), ([(.var (nat_lit 11))], (Int.ofNat (nat_lit 1)))])
  (.leaf (.tuple [(.agg [(.int .i64 []), (.int .i64 []), (.int .i64 []), (.int .i64 []), (.int .i64 []), (.int .i64 []), (.int .i64 []), (.int .i64 []), (.int .i64 []), (.int .i64 []), (.int .i64 []), (.int .i64 [])]), (.int .i64 [([], (Int.ofNat (nat_lit 1)))])]))
  (.test (.le [([], (Int.ofNat (nat_lit 1125899906842625))), ([(.var (nat_lit 11))], (Int.negSucc (nat_lit 0)))])
  (.leaf (.tuple [(.agg [(.int .i64 []), (.int .i64 []), (.int .i64 []), (.int .i64 []), (.int .i64 []), (.int .i64 []), (.int .i64 []), (.int .i64 []), (.int .i64 []), (.int .i64 []), (.int .i64 []), (.int .i64 [])]), (.int .i64 [([], (Int.ofNat (nat_lit 1)))])]))
  (.leaf (.tuple [(.agg [(.int .i64 [([(.var (nat_lit 0))], (Int.ofNat (nat_lit 1))), ([(.var (nat_lit 4))], (Int.ofNat (nat_lit 1))), ([(.var (nat_lit 8))], (Int.ofNat (nat_lit 1)))]), (.int .i64 [([(.var (nat_lit 1))], (Int.ofNat (nat_lit 1))), ([(.var (nat_lit 5))], (Int.ofNat (nat_lit 1))), ([(.var (nat_lit 9))], (Int.ofNat (nat_lit 1)))]), (.int .i64 [([(.var (nat_lit 2))], (Int.ofNat (nat_lit 1))), ([(.var (nat_lit 6))], (Int.ofNat (nat_lit 1))), ([(.var (nat_lit 10))], (Int.ofNat (nat_lit 1)))]), (.int .i64 [([(.var (nat_lit 3))], (Int.ofNat (nat_lit 1))), ([(.var (nat_lit 7))], (Int.ofNat (nat_lit 1))), ([(.var (nat_lit 11))], (Int.ofNat (nat_lit 1)))]), (.int .i64 [([(.var (nat_lit 0))], (Int.ofNat (nat_lit 1))), ([(.var (nat_lit 4))], (Int.negSucc (nat_lit 0))), ([(.var (nat_lit 6))], (Int.negSucc (nat_lit 0))), ([(.var (nat_lit 10))], (Int.ofNat (nat_lit 1)))]), (.int .i64 [([(.var (nat_lit 1))], (Int.ofNat (nat_lit 1))), ([(.var (nat_lit 5))], (Int.negSucc (nat_lit 0))), ([(.var (nat_lit 7))], (Int.negSucc (nat_lit 0))), ([(.var (nat_lit 11))], (Int.ofNat (nat_lit 1)))]), (.int .i64 [([(.var (nat_lit 2))], (Int.ofNat (nat_lit 1))), ([(.var (nat_lit 4))], (Int.ofNat (nat_lit 1))), ([(.var (nat_lit 8))], (Int.negSucc (nat_lit 0))), ([(.var (nat_lit 10))], (Int.negSucc (nat_lit 0)))]), (.int .i64 [([(.var (nat_lit 3))], (Int.ofNat (nat_lit 1))), ([(.var (nat_lit 5))], (Int.ofNat (nat_lit 1))), ([(.var (nat_lit 9))], (Int.negSucc (nat_lit 0))), ([(.var (nat_lit 11))], (Int.negSucc (nat_lit 0)))]), (.int .i64 [([(.var (nat_lit 0))], (Int.ofNat (nat_lit 1))), ([(.var (nat_lit 6))], (Int.ofNat (nat_lit 1))), ([(.var (nat_lit 8))], (Int.negSucc (nat_lit 0))), ([(.var (nat_lit 10))], (Int.negSucc (nat_lit 0)))]), (.int .i64 [([(.var (nat_lit 1))], (Int.ofNat (nat_lit 1))), ([(.var (nat_lit 7))], (Int.ofNat (nat_lit 1))), ([(.var (nat_lit 9))], (Int.negSucc (nat_lit 0))), ([(.var (nat_lit 11))], (Int.negSucc (nat_lit 0)))]), (.int .i64 [([(.var (nat_lit 2))], (Int.ofNat (nat_lit 1))), ([(.var (nat_lit 4))], (Int.negSucc (nat_lit 0))), ([(.var (nat_lit 6))], (Int.negSucc (nat_lit 0))), ([(.var (nat_lit 8))], (Int.ofNat (nat_lit 1)))]), (.int .i64 [([(.var (nat_lit 3))], (Int.ofNat (nat_lit 1))), ([(.var (nat_lit 5))], (Int.negSucc (nat_lit 0))), ([(.var (nat_lit 7))], (Int.negSucc (nat_lit 0))), ([(.var (nat_lit 9))], (Int.ofNat (nat_lit 1)))])]), (.int .i64 [])]))))))))))))))))))))))))))
theorem f48C0 : checkT Tryd.prog (xOf symX) (gxOf symG) (sumsOf sums75) 10000 48 f48A f48T0 (facts0 f48K) = true := by kernel_rfl
def f48M : Summ := ⟨f48A, f48K, f48T0⟩
theorem f48Ok : SumOk Tryd.prog (xOf symX) (gxOf symG) 48 f48M := sumOk_of symMixed symClosed sums75Ok f48C0
def sums48 : List (Nat × Summ) := (48, f48M) :: sums75
theorem sums48Ok : ∀ g m, sumsOf sums48 g = some m → SumOk Tryd.prog (xOf symX) (gxOf symG) g m := sumsOf_ok f48Ok sums75Ok
def f49A : List SV := [(.agg [(.int .i64 [([(.var (nat_lit 0))], (Int.ofNat (nat_lit 1)))]), (.int .i64 [([(.var (nat_lit 1))], (Int.ofNat (nat_lit 1)))]), (.int .i64 [([(.var (nat_lit 2))], (Int.ofNat (nat_lit 1)))]), (.int .i64 [([(.var (nat_lit 3))], (Int.ofNat (nat_lit 1)))]), (.int .i64 [([(.var (nat_lit 4))], (Int.ofNat (nat_lit 1)))]), (.int .i64 [([(.var (nat_lit 5))], (Int.ofNat (nat_lit 1)))]), (.int .i64 [([(.var (nat_lit 6))], (Int.ofNat (nat_lit 1)))]), (.int .i64 [([(.var (nat_lit 7))], (Int.ofNat (nat_lit 1)))]), (.int .i64 [([(.var (nat_lit 8))], (Int.ofNat (nat_lit 1)))]), (.int .i64 [([(.var (nat_lit 9))], (Int.ofNat (nat_lit 1)))]), (.int .i64 [([(.var (nat_lit 10))], (Int.ofNat (nat_lit 1)))]), (.int .i64 [([(.var (nat_lit 11))], (Int.ofNat (nat_lit 1)))])])]
def f49K : List IntKind := [.i64, .i64, .i64, .i64, .i64, .i64, .i64, .i64, .i64, .i64, .i64, .i64]
def f49T0 : STree := (.test (.le [([], (Int.ofNat (nat_lit 1125899906842625))), ([(.var (nat_lit 0))], (Int.ofNat (nat_lit 1)))])
  (.leaf (.tuple [(.agg [(.int .i64 []), (.int .i64 []), (.int .i64 []), (.int .i64 [])]), (.int .i64 [([], (Int.ofNat (nat_lit 1)))])]))
  (.test (.le [([], (Int.ofNat (nat_lit 1125899906842625))), ([(.var (nat_lit 0))], (Int.negSucc (nat_lit 0)))])
  (.leaf (.tuple [(.agg [(.int .i64 []), (.int .i64 []), (.int .i64 []), (.int .i64 [])]), (.int .i64 [([], (Int.ofNat (nat_lit 1)))])]))
  (.test (.le [([], (Int.ofNat (nat_lit 1125899906842625))), ([(.var (nat_lit 1))], (Int.ofNat (nat_lit 1)))])
  (.leaf (.tuple [(.agg [(.int .i64 []), (.int .i64 []), (.int .i64 []), (.int .i64 [])]), (.int .i64 [([], (Int.ofNat (nat_lit 1)))])]))
  (.test (.le [([], (Int.ofNat (nat_lit 1125899906842625))), ([(.var (nat_lit 1))], (Int.negSucc (nat_lit 0)))])
  (.leaf (.tuple [(.agg [(.int .i64 []), (.int .i64 []), (.int .i64 []), (.int .i64 [])]), (.int .i64 [([], (Int.ofNat (nat_lit 1)))])]))
  (.test (.le [([], (Int.ofNat (nat_lit 1125899906842625))), ([(.var (nat_lit 2))], (Int.ofNat (nat_lit 1)))])
  (.leaf (.tuple [(.agg [(.int .i64 []), (.int .i64 []), (.int .i64 []), (.int .i64 [])]), (.int .i64 [([], (Int.ofNat (nat_lit 1)))])]))
  (.test (.le [([], (Int.ofNat (nat_lit 1125899906842625))), ([(.var (nat_lit 2))], (Int.negSucc (nat_lit 0)))])
  (.leaf (.tuple [(.agg [(.int .i64 []), (.int .i64 []), (.int .i64 []), (.int .i64 [])]), (.int .i64 [([], (Int.ofNat (nat_lit 1)))])]))
  (.test (.le [([], (Int.ofNat (nat_lit 1125899906842625))), ([(.var (nat_lit 3))], (Int.ofNat (nat_lit 1)))])
  (.leaf (.tuple [(.agg [(.int .i64 []), (.int .i64 []), (.int .i64 []), (.int .i64 [])]), (.int .i64 [([], (Int.ofNat (nat_lit 1)))])]))
  (.test (.le [([], (Int.ofNat (nat_lit 1125899906842625))), ([(.var (nat_lit 3))], (Int.negSucc (nat_lit 0)))])
  (.leaf (.tuple [(.agg [(.int .i64 []), (.int .i64 []), (.int .i64 []), (.int .i64 [])]), (.int .i64 [([], (Int.ofNat (nat_lit 1)))])]))
  (.test (.le [([], (Int.ofNat (nat_lit 1125899906842625))), ([(.var (nat_lit 4))], (Int.ofNat (nat_lit 1)))])
  (.leaf (.tuple [(.agg [(.int .i64 []), (.int .i64 []), (.int .i64 []), (.int .i64 [])]), (.int .i64 [([], (Int.ofNat (nat_lit 1)))])]))
  (.test (.le [([], (Int.ofNat (nat_lit 1125899906842625))), ([(.var (nat_lit 4))], (Int.negSucc (nat_lit 0)))])
  (.leaf (.tuple [(.agg [(.int .i64 []), (.int .i64 []), (.int .i64 []), (.int .i64 [])]), (.int .i64 [([], (Int.ofNat (nat_lit 1)))])]))
  (.test (.le [([], (Int.ofNat (nat_lit 1125899906842625))), ([(.var (nat_lit 5))], (Int.ofNat (nat_lit 1)))])
  (.leaf (.tuple [(.agg [(.int .i64 []), (.int .i64 []), (.int .i64 []), (.int .i64 [])]), (.int .i64 [([], (Int.ofNat (nat_lit 1)))])]))
  (.test (.le [([], (Int.ofNat (nat_lit 1125899906842625))), ([(.var (nat_lit 5))], (Int.negSucc (nat_lit 0)))])
  (.leaf (.tuple [(.agg [(.int .i64 []), (.int .i64 []), (.int .i64 []), (.int .i64 [])]), (.int .i64 [([], (Int.ofNat (nat_lit 1)))])]))
  (.test (.le [([], (Int.ofNat (nat_lit 1125899906842625))), ([(.var (nat_lit 6))], (Int.ofNat (nat_lit 1)))])
  (.leaf (.tuple [(.agg [(.int .i64 []), (.int .i64 []), (.int .i64 []), (.int .i64 [])]), (.int .i64 [([], (Int.ofNat (nat_lit 1)))])]))
  (.test (.le [([], (Int.ofNat (nat_lit 1125899906842625))), ([(.var (nat_lit 6))], (Int.negSucc (nat_lit 0)))])
  (.leaf (.tuple [(.agg [(.int .i64 []), (.int .i64 []), (.int .i64 []), (.int .i64 [])]), (.int .i64 [([], (Int.ofNat (nat_lit 1)))])]))
  (.test (.le [([], (Int.ofNat (nat_lit 1125899906842625))), ([(.var (nat_lit 7))], (Int.ofNat (nat_lit 1)))])
  (.leaf (.tuple [(.agg [(.int .i64 []), (.int .i64 []), (.int .i64 []), (.int .i64 [])]), (.int .i64 [([], (Int.ofNat (nat_lit 1)))])]))
  (.test (.le [([], (Int.ofNat (nat_lit 1125899906842625))), ([(.var (nat_lit 7))], (Int.negSucc (nat_lit 0)))])
  (.leaf (.tuple [(.agg [(.int .i64 []), (.int .i64 []), (.int .i64 []), (.int .i64 [])]), (.int .i64 [([], (Int.ofNat (nat_lit 1)))])]))
  (.test (.le [([], (Int.ofNat (nat_lit 1125899906842625))), ([(.var (nat_lit 8))], (Int.ofNat (nat_lit 1)))])
  (.leaf (.tuple [(.agg [(.int .i64 []), (.int .i64 []), (.int .i64 []), (.int .i64 [])]), (.int .i64 [([], (Int.ofNat (nat_lit 1)))])]))
  (.test (.le [([], (Int.ofNat (nat_lit 1125899906842625))), ([(.var (nat_lit 8))], (Int.negSucc (nat_lit 0)))])
  (.leaf (.tuple [(.agg [(.int .i64 []), (.int .i64 []), (.int .i64 []), (.int .i64 [])]), (.int .i64 [([], (Int.ofNat (nat_lit 1)))])]))
  (.test (.le [([], (Int.ofNat (nat_lit 1125899906842625))), ([(.var (nat_lit 9))], (Int.ofNat (nat_lit 1)))])
  (.leaf (.tuple [(.agg [(.int .i64 []), (.int .i64 []), (.int .i64 []), (.int .i64 [])]), (.int .i64 [([], (Int.ofNat (nat_lit 1)))])]))
  (.test (.le [([], (Int.ofNat (nat_lit 1125899906842625))), ([(.var (nat_lit 9))], (Int.negSucc (nat_lit 0)))])
  (.leaf (.tuple [(.agg [(.int .i64 []), (.int .i64 []), (.int .i64 []), (.int .i64 [])]), (.int .i64 [([], (Int.ofNat (nat_lit 1)))])]))
  (.test (.le [([], (Int.ofNat (nat_lit 1125899906842625))), ([(.var (nat_lit 10))], (Int.ofNat (nat_lit 1)))])
  (.leaf (.tuple [(.agg [(.int .i64 []), (.int .i64 []), (.int .i64 []), (.int .i64 [])]), (.int .i64 [([], (Int.ofNat (nat_lit 1)))])]))
  (.test (.le [([], (Int.ofNat (nat_lit 1125899906842625))), ([(.var (nat_lit 10))], (Int.negSucc (nat_lit 0)))])
  (.leaf (.tuple [(.agg [(.int .i64 []), (.int .i64 []), (.int .i64 []), (.int .i64 [])]), (.int .i64 [([], (Int.ofNat (nat_lit 1)))])]))
  (.test (.le [([], (Int.ofNat (nat_lit 1125899906842625))), ([(.var (nat_lit 11))], (Int.ofNat (nat_lit 1)))])
  (.leaf (.tuple [(.agg [(.int .i64 []), (.int .i64 []), (.int .i64 []), (.int .i64 [])]), (.int .i64 [([], (Int.ofNat (nat_lit 1)))])]))
  (.test (.le [([], (Int.ofNat (nat_lit 1125899906842625))), ([(.var (nat_lit 11))], (Int.negSucc (nat_lit 0)))])
  (.leaf (.tuple [(.agg [(.int .i64 []), (.int .i64 []), (.int .i64 []), (.int .i64 [])]), (.int .i64 [([], (Int.ofNat (nat_lit 1)))])]))
  (.leaf (.tuple [(.agg [(.int .i64 [([(.var (nat_lit 0))], (Int.ofNat (nat_lit 1))), ([(.var (nat_lit 4))], (Int.ofNat (nat_lit 1))), ([(.var (nat_lit 8))], (Int.ofNat (nat_lit 1)))]), (.int .i64 [([(.var (nat_lit 1))], (Int.ofNat (nat_lit 1))), ([(.var (nat_lit 5))], (Int.ofNat (nat_lit 1))), ([(.var (nat_lit 9))], (Int.ofNat (nat_lit 1)))]), (.int .i64 [([(.var (nat_lit 2))], (Int.ofNat (nat_lit 1))), ([(.var (nat_lit 6))], (Int.ofNat (nat_lit 1))), ([(.var (nat_lit 10))], (Int.ofNat (nat_lit 1)))]), (.int .i64 [([(.var (nat_lit 3))], (Int.ofNat (nat_lit 1))), ([(.var (nat_lit 7))], (Int.ofNat (nat_lit 1))), ([(.var (nat_lit 11))], (Int.ofNat (nat_lit 1)))])]), (.int .i64 [])]))))))))))))))))))))))))))
theorem f49C0 : checkT Tryd.prog (xOf symX) (gxOf symG) (sumsOf sums48) 10000 49 f49A f49T0 (facts0 f49K) = true := by kernel_rfl
def f49M : Summ := ⟨f49A, f49K, f49T0⟩
theorem f49Ok : SumOk Tryd.prog (xOf symX) (gxOf symG) 49 f49M := sumOk_of symMixed symClosed sums48Ok f49C0
def sums49 : List (Nat × Summ) := (49, f49M) :: sums48
theorem sums49Ok : ∀ g m, sumsOf sums49 g = some m → SumOk Tryd.prog (xOf symX) (gxOf symG) g m := sumsOf_ok f49Ok sums48Ok
def f50A : List SV := [(.agg [(.int .i64 [([(.var (nat_lit 0))], (Int.ofNat (nat_lit 1)))]), (.int .i64 [([(.var (nat_lit 1))], (Int.ofNat (nat_lit 1)))]), (.int .i64 [([(.var (nat_lit 2))], (Int.ofNat (nat_lit 1)))]), (.int .i64 [([(.var (nat_lit 3))], (Int.ofNat (nat_lit 1)))]), (.int .i64 [([(.var (nat_lit 4))], (Int.ofNat (nat_lit 1)))]), (.int .i64 [([(.var (nat_lit 5))], (Int.ofNat (nat_lit 1)))]), (.int .i64 [([(.var (nat_lit 6))], (Int.ofNat (nat_lit 1)))]), (.int .i64 [([(.var (nat_lit 7))], (Int.ofNat (nat_lit 1)))]), (.int .i64 [([(.var (nat_lit 8))], (Int.ofNat (nat_lit 1)))]), (.int .i64 [([(.var (nat_lit 9))], (Int.ofNat (nat_lit 1)))]), (.int .i64 [([(.var (nat_lit 10))], (Int.ofNat (nat_lit 1)))]), (.int .i64 [([(.var (nat_lit 11))], (Int.ofNat (nat_lit 1)))])])]
def f50K : List IntKind := [.i64, .i64, .i64, .i64, .i64, .i64, .i64, .i64, .i64, .i64, .i64, .i64]
def f50Q0 : Quest := (.le [([], (Int.ofNat (nat_lit 1125899906842625))), ([(.var (nat_lit 0))], (Int.ofNat (nat_lit 1)))])
def f50T1 : STree := (.leaf (.tuple [(.agg [(.int .i64 []), (.int .i64 []), (.int .i64 []), (.int .i64 []), (.int .i64 []), (.int .i64 []), (.int .i64 []), (.int .i64 []), (.int .i64 []), (.int .i64 []), (.int .i64 []), (.int .i64 [])]), (.int .i64 [([], (Int.ofNat (nat_lit 1)))])]))
theorem f50C1 : checkT Tryd.prog (xOf symX) (gxOf symG) (sumsOf sums49) 10000 50 f50A f50T1 ((facts0 f50K).yes f50Q0) = true := by kernel_rfl
def f50Q2 : Quest := (.le [([], (Int.ofNat (nat_lit 1125899906842625))), ([(.var (nat_lit 0))], (Int.negSucc (nat_lit 0)))])
def f50T3 : STree := (.leaf (.tuple [(.agg [(.int .i64 []), (.int .i64 []), (.int .i64 []), (.int .i64 []), (.int .i64 []), (.int .i64 []), (.int .i64 []), (.int .i64 []), (.int .i64 []), (.int .i64 []), (.int .i64 []), (.int .i64 [])]), (.int .i64 [([], (Int.ofNat (nat_lit 1)))])]))
theorem f50C3 : checkT Tryd.prog (xOf symX) (gxOf symG) (sumsOf sums49) 10000 50 f50A f50T3 (((facts0 f50K).no f50Q0).yes f50Q2) = true := by kernel_rfl
def f50Q4 : Quest := (.le [([], (Int.ofNat (nat_lit 1125899906842625))), ([(.var (nat_lit 1))], (Int.ofNat (nat_lit 1)))])
def f50T5 : STree := (.leaf (.tuple [(.agg [(.int .i64 []), (.int .i64 []), (.int .i64 []), (.int .i64 []), (.int .i64 []), (.int .i64 []), (.int .i64 []), (.int .i64 []), (.int .i64 []), (.int .i64 []), (.int .i64 []), (.int .i64 [])]), (.int .i64 [([], (Int.ofNat (nat_lit 1)))])]))
theorem f50C5 : checkT Tryd.prog (xOf symX) (gxOf symG) (sumsOf sums49) 10000 50 f50A f50T5 ((((facts0 f50K).no f50Q0).no f50Q2).yes f50Q4) = true := by kernel_rfl
def f50Q6 : Quest := (.le [([], (Int.ofNat (nat_lit 1125899906842625))), ([(.var (nat_lit 1))], (Int.negSucc (nat_lit 0)))])
def f50T7 : STree := (.leaf (.tuple [(.agg [(.int .i64 []), (.int .i64 []), (.int .i64 []), (.int .i64 []), (.int .i64 []), (.int .i64 []), (.int .i64 []), (.int .i64 []), (.int .i64 []), (.int .i64 []), (.int .i64 []), (.int .i64 [])]), (.int .i64 [([], (Int.ofNat (nat_lit 1)))])]))
theorem f50C7 : checkT Tryd.prog (xOf symX) (gxOf symG) (sumsOf sums49) 10000 50 f50A f50T7 (((((facts0 f50K).no f50Q0).no f50Q2).no f50Q4).yes f50Q6) = true := by kernel_rfl
def f50Q8 : Quest := (.le [([], (Int.ofNat (nat_lit 1125899906842625))), ([(.var (nat_lit 2))], (Int.ofNat (nat_lit 1)))])
def f50T9 : STree := (.leaf (.tuple [(.agg [(.int .i64 []), (.int .i64 []), (.int .i64 []), (.int .i64 []), (.int .i64 []), (.int .i64 []), (.int .i64 []), (.int .i64 []), (.int .i64 []), (.int .i64 []), (.int .i64 []), (.int .i64 [])]), (.int .i64 [([], (Int.ofNat (nat_lit 1)))])]))
theorem f50C9 : checkT Tryd.prog (xOf symX) (gxOf symG) (sumsOf sums49) 10000 50 f50A f50T9 ((((((facts0 f50K).no f50Q0).no f50Q2).no f50Q4).no f50Q6).yes f50Q8) = true := by kernel_rfl
def f50Q10 : Quest := (.le [([], (Int.ofNat (nat_lit 1125899906842625))), ([(.var (nat_lit 2))], (Int.negSucc (nat_lit 0)))])
def f50T11 : STree := (.leaf (.tuple [(.agg [(.int .i64 []), (.int .i64 []), (.int .i64 []), (.int .i64 []), (.int .i64 []), (.int .i64 []), (.int .i64 []), (.int .i64 []), (.int .i64 []), (.int .i64 []), (.int .i64 []), (.int .i64 [])]), (.int .i64 [([], (Int.ofNat (nat_lit 1)))])]))
theorem f50C11 : checkT Tryd.prog (xOf symX) (gxOf symG) (sumsOf sums49) 10000 50 f50A f50T11 (((((((facts0 f50K).no f50Q0).no f50Q2).no f50Q4).no f50Q6).no f50Q8).yes f50Q10) = true := by kernel_rfl
def f50Q12 : Quest := (.le [([], (Int.ofNat (nat_lit 1125899906842625))), ([(.var (nat_lit 3))], (Int.ofNat (nat_lit 1)))])
def f50T13 : STree := (.leaf (.tuple [(.agg [(.int .i64 []), (.int .i64 []), (.int .i64 []), (.int .i64 []), (.int .i64 []), (.int .i64 []), (.int .i64 []), (.int .i64 []), (.int .i64 []), (.int .i64 []), (.int .i64 []), (.int .i64 [])]), (.int .i64 [([], (Int.ofNat (nat_lit 1)))])]))
theorem f50C13 : checkT Tryd.prog (xOf symX) (gxOf symG) (sumsOf sums49) 10000 50 f50A f50T13 ((((((((facts0 f50K).no f50Q0).no f50Q2).no f50Q4).no f50Q6).no f50Q8).no f50Q10).yes f50Q12) = true := by kernel_rfl
def f50Q14 : Quest := (.le [([], (Int.ofNat (nat_lit 1125899906842625))), ([(.var (nat_lit 3))], (Int.negSucc (nat_lit 0)))])
def f50T15 : STree := (.leaf (.tuple [(.agg [(.int .i64 []), (.int .i64 []), (.int .i64 []), (.int .i64 []), (.int .i64 []), (.int .i64 []), (.int .i64 []), (.int .i64 []), (.int .i64 []), (.int .i64 []), (.int .i64 []), (.int .i64 [])]), (.int .i64 [([], (Int.ofNat (nat_lit 1)))])]))
theorem f50C15 : checkT Tryd.prog (xOf symX) (gxOf symG) (sumsOf sums49) 10000 50 f50A f50T15 (((((((((facts0 f50K).no f50Q0).no f50Q2).no f50Q4).no f50Q6).no f50Q8).no f50Q10).no f50Q12).yes f50Q14) = true := by kernel_rfl
def f50Q16 : Quest := (.le [([], (Int.ofNat (nat_lit 1125899906842625))), ([(.var (nat_lit 4))], (Int.ofNat (nat_lit 1)))])
def f50T17 : STree := (.leaf (.tuple [(.agg [(.int .i64 []), (.int .i64 []), (.int .i64 []), (.int .i64 []), (.int .i64 []), (.int .i64 []), (.int .i64 []), (.int .i64 []), (.int .i64 []), (.int .i64 []), (.int .i64 []), (.int .i64 [])]), (.int .i64 [([], (Int.ofNat (nat_lit 1)))])]))
theorem f50C17 : checkT Tryd.prog (xOf symX) (gxOf symG) (sumsOf sums49) 10000 50 f50A f50T17 ((((((((((facts0 f50K).no f50Q0).no f50Q2).no f50Q4).no f50Q6).no f50Q8).no f50Q10).no f50Q12).no f50Q14).yes f50Q16) = true := by kernel_rfl
def f50Q18 : Quest := (.le [([], (Int.ofNat (nat_lit 1125899906842625))), ([(.var (nat_lit 4))], (Int.negSucc (nat_lit 0)))])
def f50T19 : STree := (.leaf (.tuple [(.agg [(.int .i64 []), (.int .i64 []), (.int .i64 []), (.int .i64 []), (.int .i64 []), (.int .i64 []), (.int .i64 []), (.int .i64 []), (.int .i64 []), (.int .i64 []), (.int .i64 []), (.int .i64 [])]), (.int .i64 [([], (Int.ofNat (nat_lit 1)))])]))
theorem f50C19 : checkT Tryd.prog (xOf symX) (gxOf symG) (sumsOf sums49) 10000 50 f50A f50T19 (((((((((((facts0 f50K).no f50Q0).no f50Q2).no f50Q4).no f50Q6).no f50Q8).no f50Q10).no f50Q12).no f50Q14).no f50Q16).yes f50Q18) = true := by kernel_rfl
def f50Q20 : Quest := (.le [([], (Int.ofNat (nat_lit 1125899906842625))), ([(.var (nat_lit 5))], (Int.ofNat (nat_lit 1)))])
def f50T21 : STree := (.leaf (.tuple [(.agg [(.int .i64 []), (.int .i64 []), (.int .i64 []), (.int .i64 []), (.int .i64 []), (.int .i64 []), (.int .i64 []), (.int .i64 []), (.int .i64 []), (.int .i64 []), (.int .i64 []), (.int .i64 [])]), (.int .i64 [([], (Int.ofNat (nat_lit 1)))])]))
theorem f50C21 : checkT Tryd.prog (xOf symX) (gxOf symG) (sumsOf sums49) 10000 50 f50A f50T21 ((((((((((((facts0 f50K).no f50Q0).no f50Q2).no f50Q4).no f50Q6).no f50Q8).no f50Q10).no f50Q12).no f50Q14).no f50Q16).no f50Q18).yes f50Q20) = true := by kernel_rfl
def f50Q22 : Quest := (.le [([], (Int.ofNat (nat_lit 1125899906842625))), ([(.var (nat_lit 5))], (Int.negSucc (nat_lit 0)))])
def f50T23 : STree := (.leaf (.tuple [(.agg [(.int .i64 []), (.int .i64 []), (.int .i64 []), (.int .i64 []), (.int .i64 []), (.int .i64 []), (.int .i64 []), (.int .i64 []), (.int .i64 []), (.int .i64 []), (.int .i64 []), (.int .i64 [])]), (.int .i64 [([], (Int.ofNat (nat_lit 1)))])]))
theorem f50C23 : checkT Tryd.prog (xOf symX) (gxOf symG) (sumsOf sums49) 10000 50 f50A f50T23 (((((((((((((facts0 f50K).no f50Q0).no f50Q2).no f50Q4).no f50Q6).no f50Q8).no f50Q10).no f50Q12).no f50Q14).no f50Q16).no f50Q18).no f50Q20).yes f50Q22) = true := by kernel_rfl
def f50Q24 : Quest := (.le [([], (Int.ofNat (nat_lit 1125899906842625))), ([(.var (nat_lit 6))], (Int.ofNat (nat_lit 1)))])
def f50T25 : STree := (.leaf (.tuple [(.agg [(.int .i64 []), (.int .i64 []), (.int .i64 []), (.int .i64 []), (.int .i64 []), (.int .i64 []), (.int .i64 []), (.int .i64 []), (.int .i64 []), (.int .i64 []), (.int .i64 []), (.int .i64 [])]), (.int .i64 [([], (Int.ofNat (nat_lit 1)))])]))
theorem f50C25 : checkT Tryd.prog (xOf symX) (gxOf symG) (sumsOf sums49) 10000 50 f50A f50T25 ((((((((((((((facts0 f50K).no f50Q0).no f50Q2).no f50Q4).no f50Q6).no f50Q8).no f50Q10).no f50Q12).no f50Q14).no f50Q16).no f50Q18).no f50Q20).no f50Q22).yes f50Q24) = true := by kernel_rfl
def f50Q26 : Quest := (.le [([], (Int.ofNat (nat_lit 1125899906842625))), ([(.var (nat_lit 6))], (Int.negSucc (nat_lit 0)))])
def f50T27 : STree := (.leaf (.tuple [(.agg [(.int .i64 []), (.int .i64 []), (.int .i64 []), (.int .i64 []), (.int .i64 []), (.int .i64 []), (.int .i64 []), (.int .i64 []), (.int .i64 []), (.int .i64 []), (.int .i64 []), (.int .i64 [])]), (.int .i64 [([], (Int.ofNat (nat_lit 1)))])]))
theorem f50C27 : checkT Tryd.prog (xOf symX) (gxOf symG) (sumsOf sums49) 10000 50 f50A f50T27 (((((((((((((((facts0 f50K).no f50Q0).no f50Q2).no f50Q4).no f50Q6).no f50Q8).no f50Q10).no f50Q12).no f50Q14).no f50Q16).no f50Q18).no f50Q20).no f50Q22).no f50Q24).yes f50Q26) = true := by kernel_rfl
def f50Q28 : Quest := (.le [([], (Int.ofNat (nat_lit 1125899906842625))), ([(.var (nat_lit 7))], (Int.ofNat (nat_lit 1)))])
def f50T29 : STree := (.leaf (.tuple [(.agg [(.int .i64 []), (.int .i64 []), (.int .i64 []), (.int .i64 []), (.int .i64 []), (.int .i64 []), (.int .i64 []), (.int .i64 []), (.int .i64 []), (.int .i64 []), (.int .i64 []), (.int .i64 [])]), (.int .i64 [([], (Int.ofNat (nat_lit 1)))])]))
theorem f50C29 : checkT Tryd.prog (xOf symX) (gxOf symG) (sumsOf sums49) 10000 50 f50A f50T29 ((((((((((((((((facts0 f50K).no f50Q0).no f50Q2).no f50Q4).no f50Q6).no f50Q8).no f50Q10).no f50Q12).no f50Q14).no f50Q16).no f50Q18).no f50Q20).no f50Q22).no f50Q24).no f50Q26).yes f50Q28) = true := by kernel_rfl
def f50Q30 : Quest := (.le [([], (Int.ofNat (nat_lit 1125899906842625))), ([(.var (nat_lit 7))], (Int.negSucc (nat_lit 0)))])
def f50T31 : STree := (.leaf (.tuple [(.agg [(.int .i64 []), (.int .i64 []), (.int .i64 []), (.int .i64 []), (.int .i64 []), (.int .i64 []), (.int .i64 []), (.int .i64 []), (.int .i64 []), (.int .i64 []), (.int .i64 []), (.int .i64 [])]), (.int .i64 [([], (Int.ofNat (nat_lit 1)))])]))
theorem f50C31 : checkT Tryd.prog (xOf symX) (gxOf symG) (sumsOf sums49) 10000 50 f50A f50T31 (((((((((((((((((facts0 f50K).no f50Q0).no f50Q2).no f50Q4).no f50Q6).no f50Q8).no f50Q10).no f50Q12).no f50Q14).no f50Q16).no f50Q18).no f50Q20).no f50Q22).no f50Q24).no f50Q26).no f50Q28).yes f50Q30) = true := by kernel_rfl
def f50Q32 : Quest := (.le [([], (Int.ofNat (nat_lit 1125899906842625))), ([(.var (nat_lit 8))], (Int.ofNat (nat_lit 1)))])
def f50T33 : STree := (.leaf (.tuple [(.agg [(.int .i64 []), (.int .i64 []), (.int .i64 []), (.int .i64 []), (.int .i64 []), (.int .i64 []), (.int .i64 []), (.int .i64 []), (.int .i64 []), (.int .i64 []), (.int .i64 []), (.int .i64 [])]), (.int .i64 [([], (Int.ofNat (nat_lit 1)))])]))
theorem f50C33 : checkT Tryd.prog (xOf symX) (gxOf symG) (sumsOf sums49) 10000 50 f50A f50T33 ((((((((((((((((((facts0 f50K).no f50Q0).no f50Q2).no f50Q4).no f50Q6).no f50Q8).no f50Q10).no f50Q12).no f50Q14).no f50Q16).no f50Q18).no f50Q20).no f50Q22).no f50Q24).no f50Q26).no f50Q28).no f50Q30).yes f50Q32) = true := by kernel_rfl
def f50Q34 : Quest := (.le [([], (Int.ofNat (nat_lit 1125899906842625))), ([(.var (nat_lit 8))], (Int.negSucc (nat_lit 0)))])
def f50T35 : STree := (.leaf (.tuple [(.agg [(.int .i64 []), (.int .i64 []), (.int .i64 []), (.int .i64 []), (.int .i64 []), (.int .i64 []), (.int .i64 []), (.int .i64 []), (.int .i64 []), (.int .i64 []), (.int .i64 []), (.int .i64 [])]), (.int .i64 [([], (Int.ofNat (nat_lit 1)))])]))
theorem f50C35 : checkT Tryd.prog (xOf symX) (gxOf symG) (sumsOf sums49) 10000 50 f50A f50T35 (((((((((((((((((((facts0 f50K).no f50Q0).no f50Q2).no f50Q4).no f50Q6).no f50Q8).no f50Q10).no f50Q12).no f50Q14).no f50Q16).no f50Q18).no f50Q20).no f50Q22).no f50Q24).no f50Q26).no f50Q28).no f50Q30).no f50Q32).yes f50Q34) = true := by kernel_rfl
def f50Q36 : Quest := (.le [([], (Int.ofNat (nat_lit 1125899906842625))), ([(.var (nat_lit 9))], (Int.ofNat (nat_lit 1)))])
def f50T37 : STree := (.leaf (.tuple [(.agg [(.int .i64 []), (.int .i64 []), (.int .i64 []), (.int .i64 []), (.int .i64 []), (.int .i64 []), (.int .i64 []), (.int .i64 []), (.int .i64 []), (.int .i64 []), (.int .i64 []), (.int .i64 [])]), (.int .i64 [([], (Int.ofNat (nat_lit 1)))])]))
theorem f50C37 : checkT Tryd.prog (xOf symX) (gxOf symG) (sumsOf sums49) 10000 50 f50A f50T37 ((((((((((((((((((((facts0 f50K).no f50Q0).no f50Q2).no f50Q4).no f50Q6).no f50Q8).no f50Q10).no f50Q12).no f50Q14).no f50Q16).no f50Q18).no f50Q20).no f50Q22).no f50Q24).no f50Q26).no f50Q28).no f50Q30).no f50Q32).no f50Q34).yes f50Q36) = true := by kernel_rfl
def f50Q38 : Quest := (.le [([], (Int.ofNat (nat_lit 1125899906842625))), ([(.var (nat_lit 9))], (Int.negSucc (nat_lit 0)))])
def f50T39 : STree := (.leaf (.tuple [(.agg [(.int .i64 []), (.int .i64 []), (.int .i64 []), (.int .i64 []), (.int .i64 []), (.int .i64 []), (.int .i64 []), (.int .i64 []), (.int .i64 []), (.int .i64 []), (.int .i64 []), (.int .i64 [])]), (.int .i64 [([], (Int.ofNat (nat_lit 1)))])]))
theorem f50C39 : checkT Tryd.prog (xOf symX) (gxOf symG) (sumsOf sums49) 10000 50 f50A f50T39 (((((((((((((((((((((facts0 f50K).no f50Q0).no f50Q2).no f50Q4).no f50Q6).no f50Q8).no f50Q10).no f50Q12).no f50Q14).no f50Q16).no f50Q18).no f50Q20).no f50Q22).no f50Q24).no f50Q26).no f50Q28).no f50Q30).no f50Q32).no f50Q34).no f50Q36).yes f50Q38) = true := by kernel_rfl
def f50Q40 : Quest := (.le [([], (Int.ofNat (nat_lit 1125899906842625))), ([(.var (nat_lit 10))], (Int.ofNat (nat_lit 1)))])
def f50T41 : STree := (.leaf (.tuple [(.agg [(.int .i64 []), (.int .i64 []), (.int .i64 []), (.int .i64 []), (.int .i64 []), (.int .i64 []), (.int .i64 []), (.int .i64 []), (.int .i64 []), (.int .i64 []), (.int .i64 []), (.int .i64 [])]), (.int .i64 [([], (Int.ofNat (nat_lit 1)))])]))
theorem f50C41 : checkT Tryd.prog (xOf symX) (gxOf symG) (sumsOf sums49) 10000 50 f50A f50T41 ((((((((((((((((((((((facts0 f50K).no f50Q0).no f50Q2).no f50Q4).no f50Q6).no f50Q8).no f50Q10).no f50Q12).no f50Q14).no f50Q16).no f50Q18).no f50Q20).no f50Q22).no f50Q24).no f50Q26).no f50Q28).no f50Q30).no f50Q32).no f50Q34).no f50Q36).no f50Q38).yes f50Q40) = true := by kernel_rfl
def f50Q42 : Quest := (.le [([], (Int.ofNat (nat_lit 1125899906842625))), ([(.var (nat_lit 10))], (Int.negSucc (nat_lit 0)))])
def f50T43 : STree := (.leaf (.tuple [(.agg [(.int .i64 []), (.int .i64 []), (.int .i64 []), (.int .i64 []), (.int .i64 []), (.int .i64 []), (.int .i64 []), (.int .i64 []), (.int .i64 []), (.int .i64 []), (.int .i64 []), (.int .i64 [])]), (.int .i64 [([], (Int.ofNat (nat_lit 1)))])]))
theorem f50C43 : checkT Tryd.prog (xOf symX) (gxOf symG) (sumsOf sums49) 10000 50 f50A f50T43 (((((((((((((((((((((((facts0 f50K).no f50Q0).no f50Q2).no f50Q4).no f50Q6).no f50Q8).no f50Q10).no f50Q12).no f50Q14).no f50Q16).no f50Q18).no f50Q20).no f50Q22).no f50Q24).no f50Q26).no f50Q28).no f50Q30).no f50Q32).no f50Q34).no f50Q36).no f50Q38).no f50Q40).yes f50Q42) = true := by kernel_rfl
def f50Q44 : Quest := (.le [([], (Int.ofNat (nat_lit 1125899906842625))), ([(.var (nat_lit 11))], (Int.ofNat (nat_lit 1)))])
def f50T45 : STree := (.leaf (.tuple [(.agg [(.int .i64 []), (.int .i64 []), (.int .i64 []), (.int .i64 []), (.int .i64 []), (.int .i64 []), (.int .i64 []), (.int .i64 []), (.int .i64 []), (.int .i64 []), (.int .i64 []), (.int .i64 [])]), (.int .i64 [([], (Int.ofNat (nat_lit 1)))])]))
theorem f50C45 : checkT Tryd.prog (xOf symX) (gxOf symG) (sumsOf sums49) 10000 50 f50A f50T45 ((((((((((((((((((((((((facts0 f50K).no f50Q0).no f50Q2).no f50Q4).no f50Q6).no f50Q8).no f50Q10).no f50Q12).no f50Q14).no f50Q16).no f50Q18).no f50Q20).no f50Q22).no f50Q24).no f50Q26).no f50Q28).no f50Q30).no f50Q32).no f50Q34).no f50Q36).no f50Q38).no f50Q40).no f50Q42).yes f50Q44) = true := by kernel_rfl
def f50Q46 : Quest := (.le [([], (Int.ofNat (nat_lit 1125899906842625))), ([(.var (nat_lit 11))], (Int.negSucc (nat_lit 0)))])
def f50T47 : STree := (.leaf (.tuple [(.agg [(.int .i64 []), (.int .i64 []), (.int .i64 []), (.int .i64 []), (.int .i64 []), (.int .i64 []), (.int .i64 []), (.int .i64 []), (.int .i64 []), (.int .i64 []), (.int .i64 []), (.int .i64 [])]), (.int .i64 [([], (Int.ofNat (nat_lit 1)))])]))
theorem f50C47 : checkT Tryd.prog (xOf symX) (gxOf symG) (sumsOf sums49) 10000 50 f50A f50T47 (((((((((((((((((((((((((facts0 f50K).no f50Q0).no f50Q2).no f50Q4).no f50Q6).no f50Q8).no f50Q10).no f50Q12).no f50Q14).no f50Q16).no f50Q18).no f50Q20).no f50Q22).no f50Q24).no f50Q26).no f50Q28).no f50Q30).no f50Q32).no f50Q34).no f50Q36).no f50Q38).no f50Q40).no f50Q42).no f50Q44).yes f50Q46) = true := by kernel_rfl
def f50Q48 : Quest := (.eq [([(.rem (.add (.var (nat_lit 0)) (.add (.var (nat_lit 4)) (.var (nat_lit 8)))) (.lit (Int.ofNat (nat_lit 3))))], (Int.ofNat (nat_lit 1)))])
def f50Q49 : Quest := (.eq [([(.rem (.add (.var (nat_lit 1)) (.add (.var (nat_lit 5)) (.var (nat_lit 9)))) (.lit (Int.ofNat (nat_lit 3))))], (Int.ofNat (nat_lit 1)))])
def f50Q50 : Quest := (.eq [([(.rem (.add (.var (nat_lit 2)) (.add (.var (nat_lit 6)) (.var (nat_lit 10)))) (.lit (Int.ofNat (nat_lit 3))))], (Int.ofNat (nat_lit 1)))])
def f50Q51 : Quest := (.eq [([(.rem (.add (.var (nat_lit 3)) (.add (.var (nat_lit 7)) (.var (nat_lit 11)))) (.lit (Int.ofNat (nat_lit 3))))], (Int.ofNat (nat_lit 1)))])
def f50Q52 : Quest := (.eq [([(.rem (.add (.var (nat_lit 0)) (.add (.var (nat_lit 6)) (.add (.mul (.lit (Int.negSucc (nat_lit 0))) (.var (nat_lit 8))) (.mul (.lit (Int.negSucc (nat_lit 0))) (.var (nat_lit 10)))))) (.lit (Int.ofNat (nat_lit 3))))], (Int.ofNat (nat_lit 1)))])
def f50T53 : STree := (.test (.eq [([(.rem (.add (.var (nat_lit 1)) (.add (.var (nat_lit 7)) (.add (.mul (.lit (Int.negSucc (nat_lit 0))) (.var (nat_lit 9))) (.mul (.lit (Int.negSucc (nat_lit 0))) (.var (nat_lit 11)))))) (.lit (Int.ofNat (nat_lit 3))))], (Int.ofNat (nat_lit 1)))])
  (.test (.eq [([(.rem (.add (.var (nat_lit 2)) (.add (.mul (.lit (Int.negSucc (nat_lit 0))) (.var (nat_lit 4))) (.add (.mul (.lit (Int.negSucc (nat_lit 0))) (.var (nat_lit 6))) (.var (nat_lit 8))))) (.lit (Int.ofNat (nat_lit 3))))], (Int.ofNat (nat_lit 1)))])
  (.test (.eq [([(.rem (.add (.var (nat_lit 3)) (.add (.mul (.lit (Int.negSucc (nat_lit 0))) (.var (nat_lit 5))) (.add (.mul (.lit (Int.negSucc (nat_lit 0))) (.var (nat_lit 7))) (.var (nat_lit 9))))) (.lit (Int.ofNat (nat_lit 3))))], (Int.ofNat (nat_lit 1)))])
  (.test (.eq [([(.rem (.add (.var (nat_lit 0)) (.add (.mul (.lit (Int.negSucc (nat_lit 0))) (.var (nat_lit 4))) (.add (.mul (.lit (Int.negSucc (nat_lit 0))) (.var (nat_lit 6))) (.var (nat_lit 10))))) (.lit (Int.ofNat (nat_lit 3))))], (Int.ofNat (nat_lit 1)))])
  (.test (.eq [([(.rem (.add (.var (nat_lit 1)) (.add (.mul (.lit (Int.negSucc (nat_lit 0))) (.var (nat_lit 5))) (.add (.mul (.lit (Int.negSucc (nat_lit 0))) (.var (nat_lit 7))) (.var (nat_lit 11))))) (.lit (Int.ofNat (nat_lit 3))))], (Int.ofNat (nat_lit 1)))])
  (.test (.eq [([(.rem (.add (.var (nat_lit 2)) (.add (.var (nat_lit 4)) (.add (.mul (.lit (Int.negSucc (nat_lit 0))) (.var (nat_lit 8))) (.mul (.lit (Int.negSucc (nat_lit 0))) (.var (nat_lit 10)))))) (.lit (Int.ofNat (nat_lit 3))))], (Int.ofNat (nat_lit 1)))])
  (.test (.eq [([(.rem (.add (.var (nat_lit 3)) (.add (.var (nat_lit 5)) (.add (.mul (.lit (Int.negSucc (nat_lit 0))) (.var (nat_lit 9))) (.mul (.lit (Int.negSucc (nat_lit 0))) (.var (nat_lit 11)))))) (.lit (Int.ofNat (nat_lit 3))))], (Int.ofNat (nat_lit 1)))])
  (.leaf (.tuple [(.agg [(.int .i64 [([(.quo (.add (.var (nat_lit 0)) (.add (.var (nat_lit 4)) (.var (nat_lit 8)))) (.lit (Int.ofNat (nat_lit 3))))], (Int.ofNat (nat_lit 1)))]), (.int .i64 [([(.quo (.add (.var (nat_lit 1)) (.add (.var (nat_lit 5)) (.var (nat_lit 9)))) (.lit (Int.ofNat (nat_lit 3))))], (Int.ofNat (nat_lit 1)))]), (.int .i64 [([(.quo (.add (.var (nat_lit 2)) (.add (.var (nat_lit 6)) (.var (nat_lit 10)))) (.lit (Int.ofNat (nat_lit 3))))], (Int.ofNat (nat_lit 1)))]), (.int .i64 [([(.quo (.add (.var (nat_lit 3)) (.add (.var (nat_lit 7)) (.var (nat_lit 11)))) (.lit (Int.ofNat (nat_lit 3))))], (Int.ofNat (nat_lit 1)))]), (.int .i64 [([(.quo (.add (.var (nat_lit 0)) (.add (.var (nat_lit 6)) (.add (.mul (.lit (Int.negSucc (nat_lit 0))) (.var (nat_lit 8))) (.mul (.lit (Int.negSucc (nat_lit 0))) (.var (nat_lit 10)))))) (.lit (Int.ofNat (nat_lit 3))))], (Int.ofNat (nat_lit 1)))]), (.int .i64 [([(.quo (.add (.var (nat_lit 1)) (.add (.var (nat_lit 7)) (.add (.mul (.lit (Int.negSucc (nat_lit 0))) (.var (nat_lit 9))) (.mul (.lit (Int.negSucc (nat_lit 0))) (.var (nat_lit 11)))))) (.lit (Int.ofNat (nat_lit 3))))], (Int.ofNat (nat_lit 1)))]), (.int .i64 [([(.quo (.add (.var (nat_lit 2)) (.add (.mul (.lit (Int.negSucc (nat_lit 0))) (.var (nat_lit 4))) (.add (.mul (.lit (Int.negSucc (nat_lit 0))) (.var (nat_lit 6))) (.var (nat_lit 8))))) (.lit (Int.ofNat (nat_lit 3))))], (Int.ofNat (nat_lit 1)))]), (.int .i64 [([(.quo (.add (.var (nat_lit 3)) (.add (.mul (.lit (Int.negSucc (nat_lit 0))) (.var (nat_lit 5))) (.add (.mul (.lit (Int.negSucc (nat_lit 0))) (.var (nat_lit 7))) (.var (nat_lit 9))))) (.lit (Int.ofNat (nat_lit 3))))], (Int.ofNat (nat_lit 1)))]), (.int .i64 [([(.quo (.add (.var (nat_lit 0)) (.add (.mul (.lit (Int.negSucc (nat_lit 0))) (.var (nat_lit 4))) (.add (.mul (.lit (Int.negSucc (nat_lit 0))) (.var (nat_lit 6))) (.var (nat_lit 10))))) (.lit (Int.ofNat (nat_lit 3))))], (Int.ofNat (nat_lit 1)))]), (.int .i64 [([(.quo (.add (.var (nat_lit 1)) (.add (.mul (.lit (Int.negSucc (nat_lit 0))) (.var (nat_lit 5))) (.add (.mul (.lit (Int.negSucc (nat_lit 0))) (.var (nat_lit 7))) (.var (nat_lit 11))))) (.lit (Int.ofNat (nat_lit 3))))], (Int.ofNat (nat_lit 1)))]), (.int .i64 [([(.quo (.add (.var (nat_lit 2)) (.add (.var (nat_lit 4)) (.add (.mul (.lit (Int.negSucc (nat_lit 0))) (.var (nat_lit 8))) (.mul (.lit (Int.negSucc (nat_lit 0))) (.var (nat_lit 10)))))) (.lit (Int.ofNat (nat_lit 3))))], (Int.ofNat (nat_lit 1)))]), (.int .i64 [([(.quo (.add (.var (nat_lit 3)) (.add (.var (nat_lit 5)) (.add (.mul (.lit (Int.negSucc (nat_lit 0))) (.var (nat_lit 9))) (.mul (.lit (Int.negSucc (nat_lit 0))) (.var (nat_lit 11)))))) (.lit (Int.ofNat (nat_lit 3))))], (Int.ofNat (nat_lit 1)))])]), (.int .i64 [])]))
  (.leaf (.tuple [(.agg [(.int .i64 []), (.int .i64 []), (.int .i64 []), (.int .i64 []), (.int .i64 []), (.int .i64 []), (.int .i64 []), (.int .i64 []), (.int .i64 []), (.int .i64 []), (.int .i64 []), (.int .i64 [])]), (.int .i64 [([], (Int.ofNat (nat_lit 16)))])])))
  (.leaf (.tuple [(.agg [(.int .i64 []), (.int .i64 []), (.int .i64 []), (.int .i64 []), (.int .i64 []), (.int .i64 []), (.int .i64 []), (.int .i64 []), (.int .i64 []), (.int .i64 []), (.int .i64 []), (.int .i64 [])]), (.int .i64 [([], (Int.ofNat (nat_lit 16)))])])))
  (.leaf (.tuple [(.agg [(.int .i64 []), (.int .i64 []), (.int .i64 []), (.int .i64 []), (.int .i64 []), (.int .i64 []), (.int .i64 []), (.int .i64 []), (.int .i64 []), (.int .i64 []), (.int .i64 []), (.int .i64 [])]), (.int .i64 [([], (Int.ofNat (nat_lit 16)))])])))
  (.leaf (.tuple [(.agg [(.int .i64 []), (.int .i64 []), (.int .i64 []), (.int .i64 []), (.int .i64 []), (.int .i64 []), (.int .i64 []), (.int .i64 []), (.int .i64 []), (.int .i64 []), (.int .i64 []), (.int .i64 [])]), (.int .i64 [([], (Int.ofNat (nat_lit 16)))])])))
  (.leaf (.tuple [(.agg [(.int .i64 []), (.int .i64 []), (.int .i64 []), (.int .i64 []), (.int .i64 []), (.int .i64 []), (.int .i64 []), (.int .i64 []), (.int .i64 []), (.int .i64 []), (.int .i64 []), (.int .i64 [])]), (.int .i64 [([], (Int.ofNat (nat_lit 16)))])])))
  (.leaf (.tuple [(.agg [(.int .i64 []), (.int .i64 []), (.int .i64 []), (.int .i64 []), (.int .i64 []), (.int .i64 []), (.int .i64 []), (.int .i64 []), (.int .i64 []), (.int .i64 []), (.int .i64 []), (.int .i64 [])]), (.int .i64 [([], (Int.ofNat (nat_lit 16)))])])))
  (.leaf (.tuple [(.agg [(.int .i64 []), (.int .i64 []), (.int .i64 []), (.int .i64 []), (.int .i64 []), (.int .i64 []), (.int .i64 []), (.int .i64 []), (.int .i64 []), (.int .i64 []), (.int .i64 []), (.int .i64 [])]), (.int .i64 [([], (Int.ofNat (nat_lit 16)))])])))
theorem f50C53 : checkT Tryd.prog (xOf symX) (gxOf symG) (sumsOf sums49) 10000 50 f50A f50T53 ((((((((((((((((((((((((((((((facts0 f50K).no f50Q0).no f50Q2).no f50Q4).no f50Q6).no f50Q8).no f50Q10).no f50Q12).no f50Q14).no f50Q16).no f50Q18).no f50Q20).no f50Q22).no f50Q24).no f50Q26).no f50Q28).no f50Q30).no f50Q32).no f50Q34).no f50Q36).no f50Q38).no f50Q40).no f50Q42).no f50Q44).no f50Q46).yes f50Q48).yes f50Q49).yes f50Q50).yes f50Q51).yes f50Q52) = true := by kernel_rfl
def f50T54 : STree := (.leaf (.tuple [(.agg [(.int .i64 []), (.int .i64 []), (.int .i64 []), (.int .i64 []), (.int .i64 []), (.int .i64 []), (.int .i64 []), (.int .i64 []), (.int .i64 []), (.int .i64 []), (.int .i64 []), (.int .i64 [])]), (.int .i64 [([], (Int.ofNat (nat_lit 16)))])]))
theorem f50C54 : checkT Tryd.prog (xOf symX) (gxOf symG) (sumsOf sums49) 10000 50 f50A f50T54 ((((((((((((((((((((((((((((((facts0 f50K).no f50Q0).no f50Q2).no f50Q4).no f50Q6).no f50Q8).no f50Q10).no f50Q12).no f50Q14).no f50Q16).no f50Q18).no f50Q20).no f50Q22).no f50Q24).no f50Q26).no f50Q28).no f50Q30).no f50Q32).no f50Q34).no f50Q36).no f50Q38).no f50Q40).no f50Q42).no f50Q44).no f50Q46).yes f50Q48).yes f50Q49).yes f50Q50).yes f50Q51).no f50Q52) = true := by kernel_rfl
def f50T55 : STree := .test f50Q52 f50T53 f50T54
theorem f50C55 : checkT Tryd.prog (xOf symX) (gxOf symG) (sumsOf sums49) 10000 50 f50A f50T55 (((((((((((((((((((((((((((((facts0 f50K).no f50Q0).no f50Q2).no f50Q4).no f50Q6).no f50Q8).no f50Q10).no f50Q12).no f50Q14).no f50Q16).no f50Q18).no f50Q20).no f50Q22).no f50Q24).no f50Q26).no f50Q28).no f50Q30).no f50Q32).no f50Q34).no f50Q36).no f50Q38).no f50Q40).no f50Q42).no f50Q44).no f50Q46).yes f50Q48).yes f50Q49).yes f50Q50).yes f50Q51) = true := checkT_test f50C53 f50C54
def f50T56 : STree := (.leaf (.tuple [(.agg [(.int .i64 []), (.int .i64 []), (.int .i64 []), (.int .i64 []), (.int .i64 []), (.int .i64 []), (.int .i64 []), (.int .i64 []), (.int .i64 []), (.int .i64 []), (.int .i64 []), (.int .i64 [])]), (.int .i64 [([], (Int.ofNat (nat_lit 16)))])]))
theorem f50C56 : checkT Tryd.prog (xOf symX) (gxOf symG) (sumsOf sums49) 10000 50 f50A f50T56 (((((((((((((((((((((((((((((facts0 f50K).no f50Q0).no f50Q2).no f50Q4).no f50Q6).no f50Q8).no f50Q10).no f50Q12).no f50Q14).no f50Q16).no f50Q18).no f50Q20).no f50Q22).no f50Q24).no f50Q26).no f50Q28).no f50Q30).no f50Q32).no f50Q34).no f50Q36).no f50Q38).no f50Q40).no f50Q42).no f50Q44).no f50Q46).yes f50Q48).yes f50Q49).yes f50Q50).no f50Q51) = true := by kernel_rfl
def f50T57 : STree := .test f50Q51 f50T55 f50T56
theorem f50C57 : checkT Tryd.prog (xOf symX) (gxOf symG) (sumsOf sums49) 10000 50 f50A f50T57 ((((((((((((((((((((((((((((facts0 f50K).no f50Q0).no f50Q2).no f50Q4).no f50Q6).no f50Q8).no f50Q10).no f50Q12).no f50Q14).no f50Q16).no f50Q18).no f50Q20).no f50Q22).no f50Q24).no f50Q26).no f50Q28).no f50Q30).no f50Q32).no f50Q34).no f50Q36).no f50Q38).no f50Q40).no f50Q42).no f50Q44).no f50Q46).yes f50Q48).yes f50Q49).yes f50Q50) = true := checkT_test f50C55 f50C56
def f50T58 : STree := (.leaf (.tuple [(.agg [(.int .i64 []), (.int .i64 []), (.int .i64 []), (.int .i64 []), (.int .i64 []), (.int .i64 []), (.int .i64 []), (.int .i64 []), (.int .i64 []), (.int .i64 []), (.int .i64 []), (.int .i64 [])]), (.int .i64 [([], (Int.ofNat (nat_lit 16)))])]))
theorem f50C58 : checkT Tryd.prog (xOf symX) (gxOf symG) (sumsOf sums49) 10000 50 f50A f50T58 ((((((((((((((((((((((((((((facts0 f50K).no f50Q0).no f50Q2).no f50Q4).no f50Q6).no f50Q8).no f50Q10).no f50Q12).no f50Q14).no f50Q16).no f50Q18).no f50Q20).no f50Q22).no f50Q24).no f50Q26).no f50Q28).no f50Q30).no f50Q32).no f50Q34).no f50Q36).no f50Q38).no f50Q40).no f50Q42).no f50Q44).no f50Q46).yes f50Q48).yes f50Q49).no f50Q50) = true := by kernel_rfl
def f50T59 : STree := .test f50Q50 f50T57 f50T58
theorem f50C59 : checkT Tryd.prog (xOf symX) (gxOf symG) (sumsOf sums49) 10000 50 f50A f50T59 (((((((((((((((((((((((((((facts0 f50K).no f50Q0).no f50Q2).no f50Q4).no f50Q6).no f50Q8).no f50Q10).no f50Q12).no f50Q14).no f50Q16).no f50Q18).no f50Q20).no f50Q22).no f50Q24).no f50Q26).no f50Q28).no f50Q30).no f50Q32).no f50Q34).no f50Q36).no f50Q38).no f50Q40).no f50Q42).no f50Q44).no f50Q46).yes f50Q48).yes f50Q49) = true := checkT_test f50C57 f50C58
def f50T60 : STree := (.leaf (.tuple [(.agg [(.int .i64 []), (.int .i64 []), (.int .i64 []), (.int .i64 []), (.int .i64 []), (.int .i64 []), (.int .i64 []), (.int .i64 []), (.int .i64 []), (.int .i64 []), (.int .i64 []), (.int .i64 [])]), (.int .i64 [([], (Int.ofNat (nat_lit 16)))])]))
theorem f50C60 : checkT Tryd.prog (xOf symX) (gxOf symG) (sumsOf sums49) 10000 50 f50A f50T60 (((((((((((((((((((((((((((facts0 f50K).no f50Q0).no f50Q2).no f50Q4).no f50Q6).no f50Q8).no f50Q10).no f50Q12).no f50Q14).no f50Q16).no f50Q18).no f50Q20).no f50Q22).no f50Q24).no f50Q26).no f50Q28).no f50Q30).no f50Q32).no f50Q34).no f50Q36).no f50Q38).no f50Q40).no f50Q42).no f50Q44).no f50Q46).yes f50Q48).no f50Q49) = true := by kernel_rfl
def f50T61 : STree := .test f50Q49 f50T59 f50T60
theorem f50C61 : checkT Tryd.prog (xOf symX) (gxOf symG) (sumsOf sums49) 10000 50 f50A f50T61 ((((((((((((((((((((((((((facts0 f50K).no f50Q0).no f50Q2).no f50Q4).no f50Q6).no f50Q8).no f50Q10).no f50Q12).no f50Q14).no f50Q16).no f50Q18).no f50Q20).no f50Q22).no f50Q24).no f50Q26).no f50Q28).no f50Q30).no f50Q32).no f50Q34).no f50Q36).no f50Q38).no f50Q40).no f50Q42).no f50Q44).no f50Q46).yes f50Q48) = true := checkT_test f50C59 f50C60
def f50T62 : STree := (.leaf (.tuple [(.agg [(.int .i64 []), (.int .i64 []), (.int .i64 []), (.int .i64 []), (.int .i64 []), (.int .i64 []), (.int .i64 []), (.int .i64 []), (.int .i64 []), (.int .i64 []), (.int .i64 []), (.int .i64 [])]), (.int .i64 [([], (Int.ofNat (nat_lit 16)))])]))
theorem f50C62 : checkT Tryd.prog (xOf symX) (gxOf symG) (sumsOf sums49) 10000 50 f50A f50T62 ((((((((((((((((((((((((((facts0 f50K).no f50Q0).no f50Q2).no f50Q4).no f50Q6).no f50Q8).no f50Q10).no f50Q12).no f50Q14).no f50Q16).no f50Q18).no f50Q20).no f50Q22).no f50Q24).no f50Q26).no f50Q28).no f50Q30).no f50Q32).no f50Q34).no f50Q36).no f50Q38).no f50Q40).no f50Q42).no f50Q44).no f50Q46).no f50Q48) = true := by kernel_rfl
def f50T63 : STree := .test f50Q48 f50T61 f50T62
theorem f50C63 : checkT Tryd.prog (xOf symX) (gxOf symG) (sumsOf sums49) 10000 50 f50A f50T63 (((((((((((((((((((((((((facts0 f50K).no f50Q0).no f50Q2).no f50Q4).no f50Q6).no f50Q8).no f50Q10).no f50Q12).no f50Q14).no f50Q16).no f50Q18).no f50Q20).no f50Q22).no f50Q24).no f50Q26).no f50Q28).no f50Q30).no f50Q32).no f50Q34).no f50Q36).no f50Q38).no f50Q40).no f50Q42).no f50Q44).no f50Q46) = true := checkT_test f50C61 f50C62
def f50T64 : STree := .test f50Q46 f50T47 f50T63
theorem f50C64 : checkT Tryd.prog (xOf symX) (gxOf symG) (sumsOf sums49) 10000 50 f50A f50T64 ((((((((((((((((((((((((facts0 f50K).no f50Q0).no f50Q2).no f50Q4).no f50Q6).no f50Q8).no f50Q10).no f50Q12).no f50Q14).no f50Q16).no f50Q18).no f50Q20).no f50Q22).no f50Q24).no f50Q26).no f50Q28).no f50Q30).no f50Q32).no f50Q34).no f50Q36).no f50Q38).no f50Q40).no f50Q42).no f50Q44) = true := checkT_test f50C47 f50C63
def f50T65 : STree := .test f50Q44 f50T45 f50T64
theorem f50C65 : checkT Tryd.prog (xOf symX) (gxOf symG) (sumsOf sums49) 10000 50 f50A f50T65 (((((((((((((((((((((((facts0 f50K).no f50Q0).no f50Q2).no f50Q4).no f50Q6).no f50Q8).no f50Q10).no f50Q12).no f50Q14).no f50Q16).no f50Q18).no f50Q20).no f50Q22).no f50Q24).no f50Q26).no f50Q28).no f50Q30).no f50Q32).no f50Q34).no f50Q36).no f50Q38).no f50Q40).no f50Q42) = true := checkT_test f50C45 f50C64
def f50T66 : STree := .test f50Q42 f50T43 f50T65
theorem f50C66 : checkT Tryd.prog (xOf symX) (gxOf symG) (sumsOf sums49) 10000 50 f50A f50T66 ((((((((((((((((((((((facts0 f50K).no f50Q0).no f50Q2).no f50Q4).no f50Q6).no f50Q8).no f50Q10).no f50Q12).no f50Q14).no f50Q16).no f50Q18).no f50Q20).no f50Q22).no f50Q24).no f50Q26).no f50Q28).no f50Q30).no f50Q32).no f50Q34).no f50Q36).no f50Q38).no f50Q40) = true := checkT_test f50C43 f50C65
def f50T67 : STree := .test f50Q40 f50T41 f50T66
theorem f50C67 : checkT Tryd.prog (xOf symX) (gxOf symG) (sumsOf sums49) 10000 50 f50A f50T67 (((((((((((((((((((((facts0 f50K).no f50Q0).no f50Q2).no f50Q4).no f50Q6).no f50Q8).no f50Q10).no f50Q12).no f50Q14).no f50Q16).no f50Q18).no f50Q20).no f50Q22).no f50Q24).no f50Q26).no f50Q28).no f50Q30).no f50Q32).no f50Q34).no f50Q36).no f50Q38) = true := checkT_test f50C41 f50C66
def f50T68 : STree := .test f50Q38 f50T39 f50T67
theorem f50C68 : checkT Tryd.prog (xOf symX) (gxOf symG) (sumsOf sums49) 10000 50 f50A f50T68 ((((((((((((((((((((facts0 f50K).no f50Q0).no f50Q2).no f50Q4).no f50Q6).no f50Q8).no f50Q10).no f50Q12).no f50Q14).no f50Q16).no f50Q18).no f50Q20).no f50Q22).no f50Q24).no f50Q26).no f50Q28).no f50Q30).no f50Q32).no f50Q34).no f50Q36) = true := checkT_test f50C39 f50C67
def f50T69 : STree := .test f50Q36 f50T37 f50T68
theorem f50C69 : checkT Tryd.prog (xOf symX) (gxOf symG) (sumsOf sums49) 10000 50 f50A f50T69 (((((((((((((((((((facts0 f50K).no f50Q0).no f50Q2).no f50Q4).no f50Q6).no f50Q8).no f50Q10).no f50Q12).no f50Q14).no f50Q16).no f50Q18).no f50Q20).no f50Q22).no f50Q24).no f50Q26).no f50Q28).no f50Q30).no f50Q32).no f50Q34) = true := checkT_test f50C37 f50C68
def f50T70 : STree := .test f50Q34 f50T35 f50T69
theorem f50C70 : checkT Tryd.prog (xOf symX) (gxOf symG) (sumsOf sums49) 10000 50 f50A f50T70 ((((((((((((((((((facts0 f50K).no f50Q0).no f50Q2).no f50Q4).no f50Q6).no f50Q8).no f50Q10).no f50Q12).no f50Q14).no f50Q16).no f50Q18).no f50Q20).no f50Q22).no f50Q24).no f50Q26).no f50Q28).no f50Q30).no f50Q32) = true := checkT_test f50C35 f50C69
def f50T71 : STree := .test f50Q32 f50T33 f50T70
theorem f50C71 : checkT Tryd.prog (xOf symX) (gxOf symG) (sumsOf sums49) 10000 50 f50A f50T71 (((((((((((((((((facts0 f50K).no f50Q0).no f50Q2).no f50Q4).no f50Q6).no f50Q8).no f50Q10).no f50Q12).no f50Q14).no f50Q16).no f50Q18).no f50Q20).no f50Q22).no f50Q24).no f50Q26).no f50Q28).no f50Q30) = true := checkT_test f50C33 f50C70
def f50T72 : STree := .test f50Q30 f50T31 f50T71
theorem f50C72 : checkT Tryd.prog (xOf symX) (gxOf symG) (sumsOf sums49) 10000 50 f50A f50T72 ((((((((((((((((facts0 f50K).no f50Q0).no f50Q2).no f50Q4).no f50Q6).no f50Q8).no f50Q10).no f50Q12).no f50Q14).no f50Q16).no f50Q18).no f50Q20).no f50Q22).no f50Q24).no f50Q26).no f50Q28) = true := checkT_test f50C31 f50C71
def f50T73 : STree := .test f50Q28 f50T29 f50T72
theorem f50C73 : checkT Tryd.prog (xOf symX) (gxOf symG) (sumsOf sums49) 10000 50 f50A f50T73 (((((((((((((((facts0 f50K).no f50Q0).no f50Q2).no f50Q4).no f50Q6).no f50Q8).no f50Q10).no f50Q12).no f50Q14).no f50Q16).no f50Q18).no f50Q20).no f50Q22).no f50Q24).no f50Q26) = true := checkT_test f50C29 f50C72
def f50T74 : STree := .test f50Q26 f50T27 f50T73
theorem f50C74 : checkT Tryd.prog (xOf symX) (gxOf symG) (sumsOf sums49) 10000 50 f50A f50T74 ((((((((((((((facts0 f50K).no f50Q0).no f50Q2).no f50Q4).no f50Q6).no f50Q8).no f50Q10).no f50Q12).no f50Q14).no f50Q16).no f50Q18).no f50Q20).no f50Q22).no f50Q24) = true := checkT_test f50C27 f50C73
def f50T75 : STree := .test f50Q24 f50T25 f50T74
theorem f50C75 : checkT Tryd.prog (xOf symX) (gxOf symG) (sumsOf sums49) 10000 50 f50A f50T75 (((((((((((((facts0 f50K).no f50Q0).no f50Q2).no f50Q4).no f50Q6).no f50Q8).no f50Q10).no f50Q12).no f50Q14).no f50Q16).no f50Q18).no f50Q20).no f50Q22) = true := checkT_test f50C25 f50C74
def f50T76 : STree := .test f50Q22 f50T23 f50T75
theorem f50C76 : checkT Tryd.prog (xOf symX) (gxOf symG) (sumsOf sums49) 10000 50 f50A f50T76 ((((((((((((facts0 f50K).no f50Q0).no f50Q2).no f50Q4).no f50Q6).no f50Q8).no f50Q10).no f50Q12).no f50Q14).no f50Q16).no f50Q18).no f50Q20) = true := checkT_test f50C23 f50C75
def f50T77 : STree := .test f50Q20 f50T21 f50T76
theorem f50C77 : checkT Tryd.prog (xOf symX) (gxOf symG) (sumsOf sums49) 10000 50 f50A f50T77 (((((((((((facts0 f50K).no f50Q0).no f50Q2).no f50Q4).no f50Q6).no f50Q8).no f50Q10).no f50Q12).no f50Q14).no f50Q16).no f50Q18) = true := checkT_test f50C21 f50C76
def f50T78 : STree := .test f50Q18 f50T19 f50T77
theorem f50C78 : checkT Tryd.prog (xOf symX) (gxOf symG) (sumsOf sums49) 10000 50 f50A f50T78 ((((((((((facts0 f50K).no f50Q0).no f50Q2).no f50Q4).no f50Q6).no f50Q8).no f50Q10).no f50Q12).no f50Q14).no f50Q16) = true := checkT_test f50C19 f50C77
def f50T79 : STree := .test f50Q16 f50T17 f50T78
theorem f50C79 : checkT Tryd.prog (xOf symX) (gxOf symG) (sumsOf sums49) 10000 50 f50A f50T79 (((((((((facts0 f50K).no f50Q0).no f50Q2).no f50Q4).no f50Q6).no f50Q8).no f50Q10).no f50Q12).no f50Q14) = true := checkT_test f50C17 f50C78
def f50T80 : STree := .test f50Q14 f50T15 f50T79
theorem f50C80 : checkT Tryd.prog (xOf symX) (gxOf symG) (sumsOf sums49) 10000 50 f50A f50T80 ((((((((facts0 f50K).no f50Q0).no f50Q2).no f50Q4).no f50Q6).no f50Q8).no f50Q10).no f50Q12) = true := checkT_test f50C15 f50C79
def f50T81 : STree := .test f50Q12 f50T13 f50T80
theorem f50C81 : checkT Tryd.prog (xOf symX) (gxOf symG) (sumsOf sums49) 10000 50 f50A f50T81 (((((((facts0 f50K).no f50Q0).no f50Q2).no f50Q4).no f50Q6).no f50Q8).no f50Q10) = true := checkT_test f50C13 f50C80
def f50T82 : STree := .test f50Q10 f50T11 f50T81
theorem f50C82 : checkT Tryd.prog (xOf symX) (gxOf symG) (sumsOf sums49) 10000 50 f50A f50T82 ((((((facts0 f50K).no f50Q0).no f50Q2).no f50Q4).no f50Q6).no f50Q8) = true := checkT_test f50C11 f50C81
def f50T83 : STree := .test f50Q8 f50T9 f50T82
theorem f50C83 : checkT Tryd.prog (xOf symX) (gxOf symG) (sumsOf sums49) 10000 50 f50A f50T83 (((((facts0 f50K).no f50Q0).no f50Q2).no f50Q4).no f50Q6) = true := checkT_test f50C9 f50C82
def f50T84 : STree := .test f50Q6 f50T7 f50T83
theorem f50C84 : checkT Tryd.prog (xOf symX) (gxOf symG) (sumsOf sums49) 10000 50 f50A f50T84 ((((facts0 f50K).no f50Q0).no f50Q2).no f50Q4) = true := checkT_test f50C7 f50C83
def f50T85 : STree := .test f50Q4 f50T5 f50T84
theorem f50C85 : checkT Tryd.prog (xOf symX) (gxOf symG) (sumsOf sums49) 10000 50 f50A f50T85 (((facts0 f50K).no f50Q0).no f50Q2) = true := checkT_test f50C5 f50C84
def f50T86 : STree := .test f50Q2 f50T3 f50T85
theorem f50C86 : checkT Tryd.prog (xOf symX) (gxOf symG) (sumsOf sums49) 10000 50 f50A f50T86 ((facts0 f50K).no f50Q0) = true := checkT_test f50C3 f50C85
def f50T87 : STree := .test f50Q0 f50T1 f50T86
theorem f50C87 : checkT Tryd.prog (xOf symX) (gxOf symG) (sumsOf sums49) 10000 50 f50A f50T87 (facts0 f50K) = true := checkT_test f50C1 f50C86
def f50M : Summ := ⟨f50A, f50K, f50T87⟩
theorem f50Ok : SumOk Tryd.prog (xOf symX) (gxOf symG) 50 f50M := sumOk_of symMixed symClosed sums49Ok f50C87
def sums50 : List (Nat × Summ) := (50, f50M) :: sums49
theorem sums50Ok : ∀ g m, sumsOf sums50 g = some m → SumOk Tryd.prog (xOf symX) (gxOf symG) g m := sumsOf_ok f50Ok sums49Ok
def f46A : List SV := [(.agg [(.int .i64 [([(.var (nat_lit 0))], (Int.ofNat (nat_lit 1)))]), (.int .i64 [([(.var (nat_lit 1))], (Int.ofNat (nat_lit 1)))]), (.int .i64 [([(.var (nat_lit 2))], (Int.ofNat (nat_lit 1)))]), (.int .i64 [([(.var (nat_lit 3))], (Int.ofNat (nat_lit 1)))]), (.int .i64 [([(.var (nat_lit 4))], (Int.ofNat (nat_lit 1)))]), (.int .i64 [([(.var (nat_lit 5))], (Int.ofNat (nat_lit 1)))]), (.int .i64 [([(.var (nat_lit 6))], (Int.ofNat (nat_lit 1)))]), (.int .i64 [([(.var (nat_lit 7))], (Int.ofNat (nat_lit 1)))]), (.int .i64 [([(.var (nat_lit 8))], (Int.ofNat (nat_lit 1)))]), (.int .i64 [([(.var (nat_lit 9))], (Int.ofNat (nat_lit 1)))]), (.int .i64 [([(.var (nat_lit 10))], (Int.ofNat (nat_lit 1)))]), (.int .i64 [([(.var (nat_lit 11))], (Int.ofNat (nat_lit 1)))])])]
def f46K : List IntKind := [.i64, .i64, .i64, .i64, .i64, .i64, .i64, .i64, .i64, .i64, .i64, .i64]
def f46Q0 : Quest := (.le [([], (Int.ofNat (nat_lit 1125899906842625))), ([(.var (nat_lit 0))], (Int.ofNat (nat_lit 1)))])
def f46T1 : STree := (.leaf (.tuple [(.bool false), (.int .i64 [([], (Int.ofNat (nat_lit 1)))])]))
theorem f46C1 : checkT Tryd.prog (xOf symX) (gxOf symG) (sumsOf sums50) 10000 46 f46A f46T1 ((facts0 f46K).yes f46Q0) = true := by kernel_rfl
def f46Q2 : Quest := (.le [([], (Int.ofNat (nat_lit 1125899906842625))), ([(.var (nat_lit 0))], (Int.negSucc (nat_lit 0)))])
def f46T3 : STree := (.leaf (.tuple [(.bool false), (.int .i64 [([], (Int.ofNat (nat_lit 1)))])]))
theorem f46C3 : checkT Tryd.prog (xOf symX) (gxOf symG) (sumsOf sums50) 10000 46 f46A f46T3 (((facts0 f46K).no f46Q0).yes f46Q2) = true := by kernel_rfl
def f46Q4 : Quest := (.le [([], (Int.ofNat (nat_lit 1125899906842625))), ([(.var (nat_lit 1))], (Int.ofNat (nat_lit 1)))])
def f46T5 : STree := (.leaf (.tuple [(.bool false), (.int .i64 [([], (Int.ofNat (nat_lit 1)))])]))
theorem f46C5 : checkT Tryd.prog (xOf symX) (gxOf symG) (sumsOf sums50) 10000 46 f46A f46T5 ((((facts0 f46K).no f46Q0).no f46Q2).yes f46Q4) = true := by kernel_rfl
def f46Q6 : Quest := (.le [([], (Int.ofNat (nat_lit 1125899906842625))), ([(.var (nat_lit 1))], (Int.negSucc (nat_lit 0)))])
def f46T7 : STree := (.leaf (.tuple [(.bool false), (.int .i64 [([], (Int.ofNat (nat_lit 1)))])]))
theorem f46C7 : checkT Tryd.prog (xOf symX) (gxOf symG) (sumsOf sums50) 10000 46 f46A f46T7 (((((facts0 f46K).no f46Q0).no f46Q2).no f46Q4).yes f46Q6) = true := by kernel_rfl
def f46Q8 : Quest := (.le [([], (Int.ofNat (nat_lit 1125899906842625))), ([(.var (nat_lit 2))], (Int.ofNat (nat_lit 1)))])
def f46T9 : STree := (.leaf (.tuple [(.bool false), (.int .i64 [([], (Int.ofNat (nat_lit 1)))])]))
theorem f46C9 : checkT Tryd.prog (xOf symX) (gxOf symG) (sumsOf sums50) 10000 46 f46A f46T9 ((((((facts0 f46K).no f46Q0).no f46Q2).no f46Q4).no f46Q6).yes f46Q8) = true := by kernel_rfl
def f46Q10 : Quest := (.le [([], (Int.ofNat (nat_lit 1125899906842625))), ([(.var (nat_lit 2))], (Int.negSucc (nat_lit 0)))])
def f46T11 : STree := (.leaf (.tuple [(.bool false), (.int .i64 [([], (Int.ofNat (nat_lit 1)))])]))
theorem f46C11 : checkT Tryd.prog (xOf symX) (gxOf symG) (sumsOf sums50) 10000 46 f46A f46T11 (((((((facts0 f46K).no f46Q0).no f46Q2).no f46Q4).no f46Q6).no f46Q8).yes f46Q10) = true := by kernel_rfl
def f46Q12 : Quest := (.le [([], (Int.ofNat (nat_lit 1125899906842625))), ([(.var (nat_lit 3))], (Int.ofNat (nat_lit 1)))])
def f46T13 : STree := (.leaf (.tuple [(.bool false), (.int .i64 [([], (Int.ofNat (nat_lit 1)))])]))
theorem f46C13 : checkT Tryd.prog (xOf symX) (gxOf symG) (sumsOf sums50) 10000 46 f46A f46T13 ((((((((facts0 f46K).no f46Q0).no f46Q2).no f46Q4).no f46Q6).no f46Q8).no f46Q10).yes f46Q12) = true := by kernel_rfl
def f46Q14 : Quest := (.le [([], (Int.ofNat (nat_lit 1125899906842625))), ([(.var (nat_lit 3))], (Int.negSucc (nat_lit 0)))])
def f46T15 : STree := (.leaf (.tuple [(.bool false), (.int .i64 [([], (Int.ofNat (nat_lit 1)))])]))
theorem f46C15 : checkT Tryd.prog (xOf symX) (gxOf symG) (sumsOf sums50) 10000 46 f46A f46T15 (((((((((facts0 f46K).no f46Q0).no f46Q2).no f46Q4).no f46Q6).no f46Q8).no f46Q10).no f46Q12).yes f46Q14) = true := by kernel_rfl
def f46Q16 : Quest := (.le [([], (Int.ofNat (nat_lit 1125899906842625))), ([(.var (nat_lit 4))], (Int.ofNat (nat_lit 1)))])
def f46T17 : STree := (.leaf (.tuple [(.bool false), (.int .i64 [([], (Int.ofNat (nat_lit 1)))])]))
theorem f46C17 : checkT Tryd.prog (xOf symX) (gxOf symG) (sumsOf sums50) 10000 46 f46A f46T17 ((((((((((facts0 f46K).no f46Q0).no f46Q2).no f46Q4).no f46Q6).no f46Q8).no f46Q10).no f46Q12).no f46Q14).yes f46Q16) = true := by kernel_rfl
def f46Q18 : Quest := (.le [([], (Int.ofNat (nat_lit 1125899906842625))), ([(.var (nat_lit 4))], (Int.negSucc (nat_lit 0)))])
def f46T19 : STree := (.leaf (.tuple [(.bool false), (.int .i64 [([], (Int.ofNat (nat_lit 1)))])]))
theorem f46C19 : checkT Tryd.prog (xOf symX) (gxOf symG) (sumsOf sums50) 10000 46 f46A f46T19 (((((((((((facts0 f46K).no f46Q0).no f46Q2).no f46Q4).no f46Q6).no f46Q8).no f46Q10).no f46Q12).no f46Q14).no f46Q16).yes f46Q18) = true := by kernel_rfl
def f46Q20 : Quest := (.le [([], (Int.ofNat (nat_lit 1125899906842625))), ([(.var (nat_lit 5))], (Int.ofNat (nat_lit 1)))])
def f46T21 : STree := (.leaf (.tuple [(.bool false), (.int .i64 [([], (Int.ofNat (nat_lit 1)))])]))
theorem f46C21 : checkT Tryd.prog (xOf symX) (gxOf symG) (sumsOf sums50) 10000 46 f46A f46T21 ((((((((((((facts0 f46K).no f46Q0).no f46Q2).no f46Q4).no f46Q6).no f46Q8).no f46Q10).no f46Q12).no f46Q14).no f46Q16).no f46Q18).yes f46Q20) = true := by kernel_rfl
def f46Q22 : Quest := (.le [([], (Int.ofNat (nat_lit 1125899906842625))), ([(.var (nat_lit 5))], (Int.negSucc (nat_lit 0)))])
def f46T23 : STree := (.leaf (.tuple [(.bool false), (.int .i64 [([], (Int.ofNat (nat_lit 1)))])]))
theorem f46C23 : checkT Tryd.prog (xOf symX) (gxOf symG) (sumsOf sums50) 10000 46 f46A f46T23 (((((((((((((facts0 f46K).no f46Q0).no f46Q2).no f46Q4).no f46Q6).no f46Q8).no f46Q10).no f46Q12).no f46Q14).no f46Q16).no f46Q18).no f46Q20).yes f46Q22) = true := by kernel_rfl
def f46Q24 : Quest := (.le [([], (Int.ofNat (nat_lit 1125899906842625))), ([(.var (nat_lit 6))], (Int.ofNat (nat_lit 1)))])
def f46T25 : STree := (.leaf (.tuple [(.bool false), (.int .i64 [([], (Int.ofNat (nat_lit 1)))])]))
theorem f46C25 : checkT Tryd.prog (xOf symX) (gxOf symG) (sumsOf sums50) 10000 46 f46A f46T25 ((((((((((((((facts0 f46K).no f46Q0).no f46Q2).no f46Q4).no f46Q6).no f46Q8).no f46Q10).no f46Q12).no f46Q14).no f46Q16).no f46Q18).no f46Q20).no f46Q22).yes f46Q24) = true := by kernel_rfl
def f46Q26 : Quest := (.le [([], (Int.ofNat (nat_lit 1125899906842625))), ([(.var (nat_lit 6))], (Int.negSucc (nat_lit 0)))])
def f46T27 : STree := (.leaf (.tuple [(.bool false), (.int .i64 [([], (Int.ofNat (nat_lit 1)))])]))
theorem f46C27 : checkT Tryd.prog (xOf symX) (gxOf symG) (sumsOf sums50) 10000 46 f46A f46T27 (((((((((((((((facts0 f46K).no f46Q0).no f46Q2).no f46Q4).no f46Q6).no f46Q8).no f46Q10).no f46Q12).no f46Q14).no f46Q16).no f46Q18).no f46Q20).no f46Q22).no f46Q24).yes f46Q26) = true := by kernel_rfl
def f46Q28 : Quest := (.le [([], (Int.ofNat (nat_lit 1125899906842625))), ([(.var (nat_lit 7))], (Int.ofNat (nat_lit 1)))])
def f46T29 : STree := (.leaf (.tuple [(.bool false), (.int .i64 [([], (Int.ofNat (nat_lit 1)))])]))
theorem f46C29 : checkT Tryd.prog (xOf symX) (gxOf symG) (sumsOf sums50) 10000 46 f46A f46T29 ((((((((((((((((facts0 f46K).no f46Q0).no f46Q2).no f46Q4).no f46Q6).no f46Q8).no f46Q10).no f46Q12).no f46Q14).no f46Q16).no f46Q18).no f46Q20).no f46Q22).no f46Q24).no f46Q26).yes f46Q28) = true := by kernel_rfl
def f46Q30 : Quest := (.le [([], (Int.ofNat (nat_lit 1125899906842625))), ([(.var (nat_lit 7))], (Int.negSucc (nat_lit 0)))])
def f46T31 : STree := (.leaf (.tuple [(.bool false), (.int .i64 [([], (Int.ofNat (nat_lit 1)))])]))
theorem f46C31 : checkT Tryd.prog (xOf symX) (gxOf symG) (sumsOf sums50) 10000 46 f46A f46T31 (((((((((((((((((facts0 f46K).no f46Q0).no f46Q2).no f46Q4).no f46Q6).no f46Q8).no f46Q10).no f46Q12).no f46Q14).no f46Q16).no f46Q18).no f46Q20).no f46Q22).no f46Q24).no f46Q26).no f46Q28).yes f46Q30) = true := by kernel_rfl
def f46Q32 : Quest := (.le [([], (Int.ofNat (nat_lit 1125899906842625))), ([(.var (nat_lit 8))], (Int.ofNat (nat_lit 1)))])
def f46T33 : STree := (.leaf (.tuple [(.bool false), (.int .i64 [([], (Int.ofNat (nat_lit 1)))])]))
theorem f46C33 : checkT Tryd.prog (xOf symX) (gxOf symG) (sumsOf sums50) 10000 46 f46A f46T33 ((((((((((((((((((facts0 f46K).no f46Q0).no f46Q2).no f46Q4).no f46Q6).no f46Q8).no f46Q10).no f46Q12).no f46Q14).no f46Q16).no f46Q18).no f46Q20).no f46Q22).no f46Q24).no f46Q26).no f46Q28).no f46Q30).yes f46Q32) = true := by kernel_rfl
def f46Q34 : Quest := (.le [([], (Int.ofNat (nat_lit 1125899906842625))), ([(.var (nat_lit 8))], (Int.negSucc (nat_lit 0)))])
def f46T35 : STree := (.leaf (.tuple [(.bool false), (.int .i64 [([], (Int.ofNat (nat_lit 1)))])]))
theorem f46C35 : checkT Tryd.prog (xOf symX) (gxOf symG) (sumsOf sums50) 10000 46 f46A f46T35 (((((((((((((((((((facts0 f46K).no f46Q0).no f46Q2).no f46Q4).no f46Q6).no f46Q8).no f46Q10).no f46Q12).no f46Q14).no f46Q16).no f46Q18).no f46Q20).no f46Q22).no f46Q24).no f46Q26).no f46Q28).no f46Q30).no f46Q32).yes f46Q34) = true := by kernel_rfl
def f46Q36 : Quest := (.le [([], (Int.ofNat (nat_lit 1125899906842625))), ([(.var (nat_lit 9))], (Int.ofNat (nat_lit 1)))])
def f46T37 : STree := (.leaf (.tuple [(.bool false), (.int .i64 [([], (Int.ofNat (nat_lit 1)))])]))
theorem f46C37 : checkT Tryd.prog (xOf symX) (gxOf symG) (sumsOf sums50) 10000 46 f46A f46T37 ((((((((((((((((((((facts0 f46K).no f46Q0).no f46Q2).no f46Q4).no f46Q6).no f46Q8).no f46Q10).no f46Q12).no f46Q14).no f46Q16).no f46Q18).no f46Q20).no f46Q22).no f46Q24).no f46Q26).no f46Q28).no f46Q30).no f46Q32).no f46Q34).yes f46Q36) = true := by kernel_rfl
def f46Q38 : Quest := (.le [([], (Int.ofNat (nat_lit 1125899906842625))), ([(.var (nat_lit 9))], (Int.negSucc (nat_lit 0)))])
def f46T39 : STree := (.leaf (.tuple [(.bool false), (.int .i64 [([], (Int.ofNat (nat_lit 1)))])]))
theorem f46C39 : checkT Tryd.prog (xOf symX) (gxOf symG) (sumsOf sums50) 10000 46 f46A f46T39 (((((((((((((((((((((facts0 f46K).no f46Q0).no f46Q2).no f46Q4).no f46Q6).no f46Q8).no f46Q10).no f46Q12).no f46Q14).no f46Q16).no f46Q18).no f46Q20).no f46Q22).no f46Q24).no f46Q26).no f46Q28).no f46Q30).no f46Q32).no f46Q34).no f46Q36).yes f46Q38) = true := by kernel_rfl
def f46Q40 : Quest := (.le [([], (Int.ofNat (nat_lit 1125899906842625))), ([(.var (nat_lit 10))], (Int.ofNat (nat_lit 1)))])
def f46T41 : STree := (.leaf (.tuple [(.bool false), (.int .i64 [([], (Int.ofNat (nat_lit 1)))])]))
theorem f46C41 : checkT Tryd.prog (xOf symX) (gxOf symG) (sumsOf sums50) 10000 46 f46A f46T41 ((((((((((((((((((((((facts0 f46K).no f46Q0).no f46Q2).no f46Q4).no f46Q6).no f46Q8).no f46Q10).no f46Q12).no f46Q14).no f46Q16).no f46Q18).no f46Q20).no f46Q22).no f46Q24).no f46Q26).no f46Q28).no f46Q30).no f46Q32).no f46Q34).no f46Q36).no f46Q38).yes f46Q40) = true := by kernel_rfl
def f46Q42 : Quest := (.le [([], (Int.ofNat (nat_lit 1125899906842625))), ([(.var (nat_lit 10))], (Int.negSucc (nat_lit 0)))])
def f46T43 : STree := (.leaf (.tuple [(.bool false), (.int .i64 [([], (Int.ofNat (nat_lit 1)))])]))
theorem f46C43 : checkT Tryd.prog (xOf symX) (gxOf symG) (sumsOf sums50) 10000 46 f46A f46T43 (((((((((((((((((((((((facts0 f46K).no f46Q0).no f46Q2).no f46Q4).no f46Q6).no f46Q8).no f46Q10).no f46Q12).no f46Q14).no f46Q16).no f46Q18).no f46Q20).no f46Q22).no f46Q24).no f46Q26).no f46Q28).no f46Q30).no f46Q32).no f46Q34).no f46Q36).no f46Q38).no f46Q40).yes f46Q42) = true := by kernel_rfl
def f46Q44 : Quest := (.le [([], (Int.ofNat (nat_lit 1125899906842625))), ([(.var (nat_lit 11))], (Int.ofNat (nat_lit 1)))])
def f46T45 : STree := (.leaf (.tuple [(.bool false), (.int .i64 [([], (Int.ofNat (nat_lit 1)))])]))
theorem f46C45 : checkT Tryd.prog (xOf symX) (gxOf symG) (sumsOf sums50) 10000 46 f46A f46T45 ((((((((((((((((((((((((facts0 f46K).no f46Q0).no f46Q2).no f46Q4).no f46Q6).no f46Q8).no f46Q10).no f46Q12).no f46Q14).no f46Q16).no f46Q18).no f46Q20).no f46Q22).no f46Q24).no f46Q26).no f46Q28).no f46Q30).no f46Q32).no f46Q34).no f46Q36).no f46Q38).no f46Q40).no f46Q42).yes f46Q44) = true := by kernel_rfl
def f46Q46 : Quest := (.le [([], (Int.ofNat (nat_lit 1125899906842625))), ([(.var (nat_lit 11))], (Int.negSucc (nat_lit 0)))])
def f46T47 : STree := (.leaf (.tuple [(.bool false), (.int .i64 [([], (Int.ofNat (nat_lit 1)))])]))
theorem f46C47 : checkT Tryd.prog (xOf symX) (gxOf symG) (sumsOf sums50) 10000 46 f46A f46T47 (((((((((((((((((((((((((facts0 f46K).no f46Q0).no f46Q2).no f46Q4).no f46Q6).no f46Q8).no f46Q10).no f46Q12).no f46Q14).no f46Q16).no f46Q18).no f46Q20).no f46Q22).no f46Q24).no f46Q26).no f46Q28).no f46Q30).no f46Q32).no f46Q34).no f46Q36).no f46Q38).no f46Q40).no f46Q42).no f46Q44).yes f46Q46) = true := by kernel_rfl
def f46Q48 : Quest := (.eq [([(.var (nat_lit 0))], (Int.ofNat (nat_lit 1))), ([(.var (nat_lit 4))], (Int.ofNat (nat_lit 1))), ([(.var (nat_lit 8))], (Int.ofNat (nat_lit 1)))])
def f46T49 : STree := (.test (.eq [([(.var (nat_lit 1))], (Int.ofNat (nat_lit 1))), ([(.var (nat_lit 5))], (Int.ofNat (nat_lit 1))), ([(.var (nat_lit 9))], (Int.ofNat (nat_lit 1)))])
  (.test (.eq [([(.var (nat_lit 2))], (Int.ofNat (nat_lit 1))), ([(.var (nat_lit 6))], (Int.ofNat (nat_lit 1))), ([(.var (nat_lit 10))], (Int.ofNat (nat_lit 1)))])
  (.test (.eq [([(.var (nat_lit 3))], (Int.ofNat (nat_lit 1))), ([(.var (nat_lit 7))], (Int.ofNat (nat_lit 1))), ([(.var (nat_lit 11))], (Int.ofNat (nat_lit 1)))])
  (.test (.eq [([(.var (nat_lit 4))], (Int.negSucc (nat_lit 0))), ([(.var (nat_lit 6))], (Int.ofNat (nat_lit 1))), ([(.var (nat_lit 8))], (Int.negSucc (nat_lit 1))), ([(.var (nat_lit 10))], (Int.negSucc (nat_lit 0)))])
  (.test (.eq [([(.var (nat_lit 5))], (Int.negSucc (nat_lit 0))), ([(.var (nat_lit 7))], (Int.ofNat (nat_lit 1))), ([(.var (nat_lit 9))], (Int.negSucc (nat_lit 1))), ([(.var (nat_lit 11))], (Int.negSucc (nat_lit 0)))])
  (.test (.eq [([(.var (nat_lit 6))], (Int.negSucc (nat_lit 0))), ([(.var (nat_lit 8))], (Int.ofNat (nat_lit 1)))])
  (.test (.eq [([(.var (nat_lit 7))], (Int.negSucc (nat_lit 0))), ([(.var (nat_lit 9))], (Int.ofNat (nat_lit 1)))])
  (.leaf (.tuple [(.bool true), (.int .i64 [])]))
  (.leaf (.tuple [(.bool false), (.int .i64 [])])))
  (.leaf (.tuple [(.bool false), (.int .i64 [])])))
  (.leaf (.tuple [(.bool false), (.int .i64 [])])))
  (.leaf (.tuple [(.bool false), (.int .i64 [])])))
  (.leaf (.tuple [(.bool false), (.int .i64 [])])))
  (.leaf (.tuple [(.bool false), (.int .i64 [])])))
  (.leaf (.tuple [(.bool false), (.int .i64 [])])))
theorem f46C49 : checkT Tryd.prog (xOf symX) (gxOf symG) (sumsOf sums50) 10000 46 f46A f46T49 ((((((((((((((((((((((((((facts0 f46K).no f46Q0).no f46Q2).no f46Q4).no f46Q6).no f46Q8).no f46Q10).no f46Q12).no f46Q14).no f46Q16).no f46Q18).no f46Q20).no f46Q22).no f46Q24).no f46Q26).no f46Q28).no f46Q30).no f46Q32).no f46Q34).no f46Q36).no f46Q38).no f46Q40).no f46Q42).no f46Q44).no f46Q46).yes f46Q48) = true := by kernel_rfl
def f46T50 : STree := (.leaf (.tuple [(.bool false), (.int .i64 [])]))
theorem f46C50 : checkT Tryd.prog (xOf symX) (gxOf symG) (sumsOf sums50) 10000 46 f46A f46T50 ((((((((((((((((((((((((((facts0 f46K).no f46Q0).no f46Q2).no f46Q4).no f46Q6).no f46Q8).no f46Q10).no f46Q12).no f46Q14).no f46Q16).no f46Q18).no f46Q20).no f46Q22).no f46Q24).no f46Q26).no f46Q28).no f46Q30).no f46Q32).no f46Q34).no f46Q36).no f46Q38).no f46Q40).no f46Q42).no f46Q44).no f46Q46).no f46Q48) = true := by kernel_rfl
def f46T51 : STree := .test f46Q48 f46T49 f46T50
theorem f46C51 : checkT Tryd.prog (xOf symX) (gxOf symG) (sumsOf sums50) 10000 46 f46A f46T51 (((((((((((((((((((((((((facts0 f46K).no f46Q0).no f46Q2).no f46Q4).no f46Q6).no f46Q8).no f46Q10).no f46Q12).no f46Q14).no f46Q16).no f46Q18).no f46Q20).no f46Q22).no f46Q24).no f46Q26).no f46Q28).no f46Q30).no f46Q32).no f46Q34).no f46Q36).no f46Q38).no f46Q40).no f46Q42).no f46Q44).no f46Q46) = true := checkT_test f46C49 f46C50
def f46T52 : STree := .test f46Q46 f46T47 f46T51
theorem f46C52 : checkT Tryd.prog (xOf symX) (gxOf symG) (sumsOf sums50) 10000 46 f46A f46T52 ((((((((((((((((((((((((facts0 f46K).no f46Q0).no f46Q2).no f46Q4).no f46Q6).no f46Q8).no f46Q10).no f46Q12).no f46Q14).no f46Q16).no f46Q18).no f46Q20).no f46Q22).no f46Q24).no f46Q26).no f46Q28).no f46Q30).no f46Q32).no f46Q34).no f46Q36).no f46Q38).no f46Q40).no f46Q42).no f46Q44) = true := checkT_test f46C47 f46C51
def f46T53 : STree := .test f46Q44 f46T45 f46T52
theorem f46C53 : checkT Tryd.prog (xOf symX) (gxOf symG) (sumsOf sums50) 10000 46 f46A f46T53 (((((((((((((((((((((((facts0 f46K).no f46Q0).no f46Q2).no f46Q4).no f46Q6).no f46Q8).no f46Q10).no f46Q12).no f46Q14).no f46Q16).no f46Q18).no f46Q20).no f46Q22).no f46Q24).no f46Q26).no f46Q28).no f46Q30).no f46Q32).no f46Q34).no f46Q36).no f46Q38).no f46Q40).no f46Q42) = true := checkT_test f46C45 f46C52
def f46T54 : STree := .test f46Q42 f46T43 f46T53
theorem f46C54 : checkT Tryd.prog (xOf symX) (gxOf symG) (sumsOf sums50) 10000 46 f46A f46T54 ((((((((((((((((((((((facts0 f46K).no f46Q0).no f46Q2).no f46Q4).no f46Q6).no f46Q8).no f46Q10).no f46Q12).no f46Q14).no f46Q16).no f46Q18).no f46Q20).no f46Q22).no f46Q24).no f46Q26).no f46Q28).no f46Q30).no f46Q32).no f46Q34).no f46Q36).no f46Q38).no f46Q40) = true := checkT_test f46C43 f46C53
def f46T55 : STree := .test f46Q40 f46T41 f46T54
theorem f46C55 : checkT Tryd.prog (xOf symX) (gxOf symG) (sumsOf sums50) 10000 46 f46A f46T55 (((((((((((((((((((((facts0 f46K).no f46Q0).no f46Q2).no f46Q4).no f46Q6).no f46Q8).no f46Q10).no f46Q12).no f46Q14).no f46Q16).no f46Q18).no f46Q20).no f46Q22).no f46Q24).no f46Q26).no f46Q28).no f46Q30).no f46Q32).no f46Q34).no f46Q36).no f46Q38) = true := checkT_test f46C41 f46C54
def f46T56 : STree := .test f46Q38 f46T39 f46T55
theorem f46C56 : checkT Tryd.prog (xOf symX) (gxOf symG) (sumsOf sums50) 10000 46 f46A f46T56 ((((((((((((((((((((facts0 f46K).no f46Q0).no f46Q2).no f46Q4).no f46Q6).no f46Q8).no f46Q10).no f46Q12).no f46Q14).no f46Q16).no f46Q18).no f46Q20).no f46Q22).no f46Q24).no f46Q26).no f46Q28).no f46Q30).no f46Q32).no f46Q34).no f46Q36) = true := checkT_test f46C39 f46C55
def f46T57 : STree := .test f46Q36 f46T37 f46T56
theorem f46C57 : checkT Tryd.prog (xOf symX) (gxOf symG) (sumsOf sums50) 10000 46 f46A f46T57 (((((((((((((((((((facts0 f46K).no f46Q0).no f46Q2).no f46Q4).no f46Q6).no f46Q8).no f46Q10).no f46Q12).no f46Q14).no f46Q16).no f46Q18).no f46Q20).no f46Q22).no f46Q24).no f46Q26).no f46Q28).no f46Q30).no f46Q32).no f46Q34) = true := checkT_test f46C37 f46C56
def f46T58 : STree := .test f46Q34 f46T35 f46T57
theorem f46C58 : checkT Tryd.prog (xOf symX) (gxOf symG) (sumsOf sums50) 10000 46 f46A f46T58 ((((((((((((((((((facts0 f46K).no f46Q0).no f46Q2).no f46Q4).no f46Q6).no f46Q8).no f46Q10).no f46Q12).no f46Q14).no f46Q16).no f46Q18).no f46Q20).no f46Q22).no f46Q24).no f46Q26).no f46Q28).no f46Q30).no f46Q32) = true := checkT_test f46C35 f46C57
def f46T59 : STree := .test f46Q32 f46T33 f46T58
theorem f46C59 : checkT Tryd.prog (xOf symX) (gxOf symG) (sumsOf sums50) 10000 46 f46A f46T59 (((((((((((((((((facts0 f46K).no f46Q0).no f46Q2).no f46Q4).no f46Q6).no f46Q8).no f46Q10).no f46Q12).no f46Q14).no f46Q16).no f46Q18).no f46Q20).no f46Q22).no f46Q24).no f46Q26).no f46Q28).no f46Q30) = true := checkT_test f46C33 f46C58
def f46T60 : STree := .test f46Q30 f46T31 f46T59
theorem f46C60 : checkT Tryd.prog (xOf symX) (gxOf symG) (sumsOf sums50) 10000 46 f46A f46T60 ((((((((((((((((facts0 f46K).no f46Q0).no f46Q2).no f46Q4).no f46Q6).no f46Q8).no f46Q10).no f46Q12).no f46Q14).no f46Q16).no f46Q18).no f46Q20).no f46Q22).no f46Q24).no f46Q26).no f46Q28) = true := checkT_test f46C31 f46C59
def f46T61 : STree := .test f46Q28 f46T29 f46T60
theorem f46C61 : checkT Tryd.prog (xOf symX) (gxOf symG) (sumsOf sums50) 10000 46 f46A f46T61 (((((((((((((((facts0 f46K).no f46Q0).no f46Q2).no f46Q4).no f46Q6).no f46Q8).no f46Q10).no f46Q12).no f46Q14).no f46Q16).no f46Q18).no f46Q20).no f46Q22).no f46Q24).no f46Q26) = true := checkT_test f46C29 f46C60
def f46T62 : STree := .test f46Q26 f46T27 f46T61
theorem f46C62 : checkT Tryd.prog (xOf symX) (gxOf symG) (sumsOf sums50) 10000 46 f46A f46T62 ((((((((((((((facts0 f46K).no f46Q0).no f46Q2).no f46Q4).no f46Q6).no f46Q8).no f46Q10).no f46Q12).no f46Q14).no f46Q16).no f46Q18).no f46Q20).no f46Q22).no f46Q24) = true := checkT_test f46C27 f46C61
def f46T63 : STree := .test f46Q24 f46T25 f46T62
theorem f46C63 : checkT Tryd.prog (xOf symX) (gxOf symG) (sumsOf sums50) 10000 46 f46A f46T63 (((((((((((((facts0 f46K).no f46Q0).no f46Q2).no f46Q4).no f46Q6).no f46Q8).no f46Q10).no f46Q12).no f46Q14).no f46Q16).no f46Q18).no f46Q20).no f46Q22) = true := checkT_test f46C25 f46C62
def f46T64 : STree := .test f46Q22 f46T23 f46T63
theorem f46C64 : checkT Tryd.prog (xOf symX) (gxOf symG) (sumsOf sums50) 10000 46 f46A f46T64 ((((((((((((facts0 f46K).no f46Q0).no f46Q2).no f46Q4).no f46Q6).no f46Q8).no f46Q10).no f46Q12).no f46Q14).no f46Q16).no f46Q18).no f46Q20) = true := checkT_test f46C23 f46C63
def f46T65 : STree := .test f46Q20 f46T21 f46T64
theorem f46C65 : checkT Tryd.prog (xOf symX) (gxOf symG) (sumsOf sums50) 10000 46 f46A f46T65 (((((((((((facts0 f46K).no f46Q0).no f46Q2).no f46Q4).no f46Q6).no f46Q8).no f46Q10).no f46Q12).no f46Q14).no f46Q16).no f46Q18) = true := checkT_test f46C21 f46C64
def f46T66 : STree := .test f46Q18 f46T19 f46T65
theorem f46C66 : checkT Tryd.prog (xOf symX) (gxOf symG) (sumsOf sums50) 10000 46 f46A f46T66 ((((((((((facts0 f46K).no f46Q0).no f46Q2).no f46Q4).no f46Q6).no f46Q8).no f46Q10).no f46Q12).no f46Q14).no f46Q16) = true := checkT_test f46C19 f46C65
def f46T67 : STree := .test f46Q16 f46T17 f46T66
theorem f46C67 : checkT Tryd.prog (xOf symX) (gxOf symG) (sumsOf sums50) 10000 46 f46A f46T67 (((((((((facts0 f46K).no f46Q0).no f46Q2).no f46Q4).no f46Q6).no f46Q8).no f46Q10).no f46Q12).no f46Q14) = true := checkT_test f46C17 f46C66
def f46T68 : STree := .test f46Q14 f46T15 f46T67
theorem f46C68 : checkT Tryd.prog (xOf symX) (gxOf symG) (sumsOf sums50) 10000 46 f46A f46T68 ((((((((facts0 f46K).no f46Q0).no f46Q2).no f46Q4).no f46Q6).no f46Q8).no f46Q10).no f46Q12) = true := checkT_test f46C15 f46C67
def f46T69 : STree := .test f46Q12 f46T13 f46T68
theorem f46C69 : checkT Tryd.prog (xOf symX) (gxOf symG) (sumsOf sums50) 10000 46 f46A f46T69 (((((((facts0 f46K).no f46Q0).no f46Q2).no f46Q4).no f46Q6).no f46Q8).no f46Q10) = true := checkT_test f46C13 f46C68
def f46T70 : STree := .test f46Q10 f46T11 f46T69
theorem f46C70 : checkT Tryd.prog (xOf symX) (gxOf symG) (sumsOf sums50) 10000 46 f46A f46T70 ((((((facts0 f46K).no f46Q0).no f46Q2).no f46Q4).no f46Q6).no f46Q8) = true := checkT_test f46C11 f46C69
def f46T71 : STree := .test f46Q8 f46T9 f46T70
theorem f46C71 : checkT Tryd.prog (xOf symX) (gxOf symG) (sumsOf sums50) 10000 46 f46A f46T71 (((((facts0 f46K).no f46Q0).no f46Q2).no f46Q4).no f46Q6) = true := checkT_test f46C9 f46C70
def f46T72 : STree := .test f46Q6 f46T7 f46T71
theorem f46C72 : checkT Tryd.prog (xOf symX) (gxOf symG) (sumsOf sums50) 10000 46 f46A f46T72 ((((facts0 f46K).no f46Q0).no f46Q2).no f46Q4) = true := checkT_test f46C7 f46C71
def f46T73 : STree := .test f46Q4 f46T5 f46T72
theorem f46C73 : checkT Tryd.prog (xOf symX) (gxOf symG) (sumsOf sums50) 10000 46 f46A f46T73 (((facts0 f46K).no f46Q0).no f46Q2) = true := checkT_test f46C5 f46C72
def f46T74 : STree := .test f46Q2 f46T3 f46T73
theorem f46C74 : checkT Tryd.prog (xOf symX) (gxOf symG) (sumsOf sums50) 10000 46 f46A f46T74 ((facts0 f46K).no f46Q0) = true := checkT_test f46C3 f46C73
def f46T75 : STree := .test f46Q0 f46T1 f46T74
theorem f46C75 : checkT Tryd.prog (xOf symX) (gxOf symG) (sumsOf sums50) 10000 46 f46A f46T75 (facts0 f46K) = true := checkT_test f46C1 f46C74
def f46M : Summ := ⟨f46A, f46K, f46T75⟩
theorem f46Ok : SumOk Tryd.prog (xOf symX) (gxOf symG) 46 f46M := sumOk_of symMixed symClosed sums50Ok f46C75
def sums46 : List (Nat × Summ) := (46, f46M) :: sums50
theorem sums46Ok : ∀ g m, sumsOf sums46 g = some m → SumOk Tryd.prog (xOf symX) (gxOf symG) g m := sumsOf_ok f46Ok sums50Ok
end Go.Proofs.YtchmfiiipdjikaaDoor
