/- Names for places in lists. No program occurs here. -/
import Derived.Test.YtkfkiaieeiodnaaSl5
import Derived.IntWalk
namespace Go.Proofs.Ytkfkiaieeiodnaa
open Go Go.RowKit
section
variable {α : Type _}
theorem mem0 {x : α} {l : List α} : x ∈ x :: l := by simp
theorem mem1 {x a0 : α} {l : List α} : x ∈ a0 :: x :: l := by simp
theorem mem2 {x a0 a1 : α} {l : List α} : x ∈ a0 :: a1 :: x :: l := by simp
theorem mem3 {x a0 a1 a2 : α} {l : List α} : x ∈ a0 :: a1 :: a2 :: x :: l := by simp
theorem mem4 {x a0 a1 a2 a3 : α} {l : List α} : x ∈ a0 :: a1 :: a2 :: a3 :: x :: l := by simp
theorem mem5 {x a0 a1 a2 a3 a4 : α} {l : List α} : x ∈ a0 :: a1 :: a2 :: a3 :: a4 :: x :: l := by simp
theorem mem6 {x a0 a1 a2 a3 a4 a5 : α} {l : List α} : x ∈ a0 :: a1 :: a2 :: a3 :: a4 :: a5 :: x :: l := by simp
theorem mem7 {x a0 a1 a2 a3 a4 a5 a6 : α} {l : List α} : x ∈ a0 :: a1 :: a2 :: a3 :: a4 :: a5 :: a6 :: x :: l := by simp
theorem mem8 {x a0 a1 a2 a3 a4 a5 a6 a7 : α} {l : List α} : x ∈ a0 :: a1 :: a2 :: a3 :: a4 :: a5 :: a6 :: a7 :: x :: l := by simp
theorem mem9 {x a0 a1 a2 a3 a4 a5 a6 a7 a8 : α} {l : List α} : x ∈ a0 :: a1 :: a2 :: a3 :: a4 :: a5 :: a6 :: a7 :: a8 :: x :: l := by simp
theorem mem10 {x a0 a1 a2 a3 a4 a5 a6 a7 a8 a9 : α} {l : List α} : x ∈ a0 :: a1 :: a2 :: a3 :: a4 :: a5 :: a6 :: a7 :: a8 :: a9 :: x :: l := by simp
theorem mem11 {x a0 a1 a2 a3 a4 a5 a6 a7 a8 a9 a10 : α} {l : List α} : x ∈ a0 :: a1 :: a2 :: a3 :: a4 :: a5 :: a6 :: a7 :: a8 :: a9 :: a10 :: x :: l := by simp
theorem mem12 {x a0 a1 a2 a3 a4 a5 a6 a7 a8 a9 a10 a11 : α} {l : List α} : x ∈ a0 :: a1 :: a2 :: a3 :: a4 :: a5 :: a6 :: a7 :: a8 :: a9 :: a10 :: a11 :: x :: l := by simp
theorem mem13 {x a0 a1 a2 a3 a4 a5 a6 a7 a8 a9 a10 a11 a12 : α} {l : List α} : x ∈ a0 :: a1 :: a2 :: a3 :: a4 :: a5 :: a6 :: a7 :: a8 :: a9 :: a10 :: a11 :: a12 :: x :: l := by simp
theorem mem14 {x a0 a1 a2 a3 a4 a5 a6 a7 a8 a9 a10 a11 a12 a13 : α} {l : List α} : x ∈ a0 :: a1 :: a2 :: a3 :: a4 :: a5 :: a6 :: a7 :: a8 :: a9 :: a10 :: a11 :: a12 :: a13 :: x :: l := by simp
theorem mem15 {x a0 a1 a2 a3 a4 a5 a6 a7 a8 a9 a10 a11 a12 a13 a14 : α} {l : List α} : x ∈ a0 :: a1 :: a2 :: a3 :: a4 :: a5 :: a6 :: a7 :: a8 :: a9 :: a10 :: a11 :: a12 :: a13 :: a14 :: x :: l := by simp
theorem mem16 {x a0 a1 a2 a3 a4 a5 a6 a7 a8 a9 a10 a11 a12 a13 a14 a15 : α} {l : List α} : x ∈ a0 :: a1 :: a2 :: a3 :: a4 :: a5 :: a6 :: a7 :: a8 :: a9 :: a10 :: a11 :: a12 :: a13 :: a14 :: a15 :: x :: l := by simp
theorem mem17 {x a0 a1 a2 a3 a4 a5 a6 a7 a8 a9 a10 a11 a12 a13 a14 a15 a16 : α} {l : List α} : x ∈ a0 :: a1 :: a2 :: a3 :: a4 :: a5 :: a6 :: a7 :: a8 :: a9 :: a10 :: a11 :: a12 :: a13 :: a14 :: a15 :: a16 :: x :: l := by simp
theorem mem18 {x a0 a1 a2 a3 a4 a5 a6 a7 a8 a9 a10 a11 a12 a13 a14 a15 a16 a17 : α} {l : List α} : x ∈ a0 :: a1 :: a2 :: a3 :: a4 :: a5 :: a6 :: a7 :: a8 :: a9 :: a10 :: a11 :: a12 :: a13 :: a14 :: a15 :: a16 :: a17 :: x :: l := by simp
theorem mem19 {x a0 a1 a2 a3 a4 a5 a6 a7 a8 a9 a10 a11 a12 a13 a14 a15 a16 a17 a18 : α} {l : List α} : x ∈ a0 :: a1 :: a2 :: a3 :: a4 :: a5 :: a6 :: a7 :: a8 :: a9 :: a10 :: a11 :: a12 :: a13 :: a14 :: a15 :: a16 :: a17 :: a18 :: x :: l := by simp
theorem memT {x a0 a1 a2 a3 a4 a5 a6 a7 a8 a9 : α} {l : List α} (h : x ∈ l) : x ∈ a0 :: a1 :: a2 :: a3 :: a4 :: a5 :: a6 :: a7 :: a8 :: a9 :: l := by simp [h]
theorem memU {x a0 a1 a2 a3 a4 a5 a6 a7 a8 a9 a10 a11 a12 a13 a14 a15 a16 a17 a18 a19 : α} {l : List α} (h : x ∈ l) : x ∈ a0 :: a1 :: a2 :: a3 :: a4 :: a5 :: a6 :: a7 :: a8 :: a9 :: a10 :: a11 :: a12 :: a13 :: a14 :: a15 :: a16 :: a17 :: a18 :: a19 :: l := by simp [h]
theorem pick0 {x : α} {l : List α} : Pick (x :: l) x (l) := .head
theorem turn0 {x y : α} {l : List α} : Turn (x :: l) x y (y :: l) := .head
theorem pick1 {x a0 : α} {l : List α} : Pick (a0 :: x :: l) x (a0 :: l) := (.tail .head)
theorem turn1 {x y a0 : α} {l : List α} : Turn (a0 :: x :: l) x y (a0 :: y :: l) := (.tail .head)
theorem pick2 {x a0 a1 : α} {l : List α} : Pick (a0 :: a1 :: x :: l) x (a0 :: a1 :: l) := (.tail (.tail .head))
theorem turn2 {x y a0 a1 : α} {l : List α} : Turn (a0 :: a1 :: x :: l) x y (a0 :: a1 :: y :: l) := (.tail (.tail .head))
theorem pick3 {x a0 a1 a2 : α} {l : List α} : Pick (a0 :: a1 :: a2 :: x :: l) x (a0 :: a1 :: a2 :: l) := (.tail (.tail (.tail .head)))
theorem turn3 {x y a0 a1 a2 : α} {l : List α} : Turn (a0 :: a1 :: a2 :: x :: l) x y (a0 :: a1 :: a2 :: y :: l) := (.tail (.tail (.tail .head)))
theorem pick4 {x a0 a1 a2 a3 : α} {l : List α} : Pick (a0 :: a1 :: a2 :: a3 :: x :: l) x (a0 :: a1 :: a2 :: a3 :: l) := (.tail (.tail (.tail (.tail .head))))
theorem turn4 {x y a0 a1 a2 a3 : α} {l : List α} : Turn (a0 :: a1 :: a2 :: a3 :: x :: l) x y (a0 :: a1 :: a2 :: a3 :: y :: l) := (.tail (.tail (.tail (.tail .head))))
theorem pick5 {x a0 a1 a2 a3 a4 : α} {l : List α} : Pick (a0 :: a1 :: a2 :: a3 :: a4 :: x :: l) x (a0 :: a1 :: a2 :: a3 :: a4 :: l) := (.tail (.tail (.tail (.tail (.tail .head)))))
theorem turn5 {x y a0 a1 a2 a3 a4 : α} {l : List α} : Turn (a0 :: a1 :: a2 :: a3 :: a4 :: x :: l) x y (a0 :: a1 :: a2 :: a3 :: a4 :: y :: l) := (.tail (.tail (.tail (.tail (.tail .head)))))
theorem pick6 {x a0 a1 a2 a3 a4 a5 : α} {l : List α} : Pick (a0 :: a1 :: a2 :: a3 :: a4 :: a5 :: x :: l) x (a0 :: a1 :: a2 :: a3 :: a4 :: a5 :: l) := (.tail (.tail (.tail (.tail (.tail (.tail .head))))))
theorem turn6 {x y a0 a1 a2 a3 a4 a5 : α} {l : List α} : Turn (a0 :: a1 :: a2 :: a3 :: a4 :: a5 :: x :: l) x y (a0 :: a1 :: a2 :: a3 :: a4 :: a5 :: y :: l) := (.tail (.tail (.tail (.tail (.tail (.tail .head))))))
theorem pick7 {x a0 a1 a2 a3 a4 a5 a6 : α} {l : List α} : Pick (a0 :: a1 :: a2 :: a3 :: a4 :: a5 :: a6 :: x :: l) x (a0 :: a1 :: a2 :: a3 :: a4 :: a5 :: a6 :: l) := (.tail (.tail (.tail (.tail (.tail (.tail (.tail .head)))))))
theorem turn7 {x y a0 a1 a2 a3 a4 a5 a6 : α} {l : List α} : Turn (a0 :: a1 :: a2 :: a3 :: a4 :: a5 :: a6 :: x :: l) x y (a0 :: a1 :: a2 :: a3 :: a4 :: a5 :: a6 :: y :: l) := (.tail (.tail (.tail (.tail (.tail (.tail (.tail .head)))))))
theorem pick8 {x a0 a1 a2 a3 a4 a5 a6 a7 : α} {l : List α} : Pick (a0 :: a1 :: a2 :: a3 :: a4 :: a5 :: a6 :: a7 :: x :: l) x (a0 :: a1 :: a2 :: a3 :: a4 :: a5 :: a6 :: a7 :: l) := (.tail (.tail (.tail (.tail (.tail (.tail (.tail (.tail .head))))))))
theorem turn8 {x y a0 a1 a2 a3 a4 a5 a6 a7 : α} {l : List α} : Turn (a0 :: a1 :: a2 :: a3 :: a4 :: a5 :: a6 :: a7 :: x :: l) x y (a0 :: a1 :: a2 :: a3 :: a4 :: a5 :: a6 :: a7 :: y :: l) := (.tail (.tail (.tail (.tail (.tail (.tail (.tail (.tail .head))))))))
theorem pick9 {x a0 a1 a2 a3 a4 a5 a6 a7 a8 : α} {l : List α} : Pick (a0 :: a1 :: a2 :: a3 :: a4 :: a5 :: a6 :: a7 :: a8 :: x :: l) x (a0 :: a1 :: a2 :: a3 :: a4 :: a5 :: a6 :: a7 :: a8 :: l) := (.tail (.tail (.tail (.tail (.tail (.tail (.tail (.tail (.tail .head)))))))))
theorem turn9 {x y a0 a1 a2 a3 a4 a5 a6 a7 a8 : α} {l : List α} : Turn (a0 :: a1 :: a2 :: a3 :: a4 :: a5 :: a6 :: a7 :: a8 :: x :: l) x y (a0 :: a1 :: a2 :: a3 :: a4 :: a5 :: a6 :: a7 :: a8 :: y :: l) := (.tail (.tail (.tail (.tail (.tail (.tail (.tail (.tail (.tail .head)))))))))
theorem pick10 {x a0 a1 a2 a3 a4 a5 a6 a7 a8 a9 : α} {l : List α} : Pick (a0 :: a1 :: a2 :: a3 :: a4 :: a5 :: a6 :: a7 :: a8 :: a9 :: x :: l) x (a0 :: a1 :: a2 :: a3 :: a4 :: a5 :: a6 :: a7 :: a8 :: a9 :: l) := (.tail (.tail (.tail (.tail (.tail (.tail (.tail (.tail (.tail (.tail .head))))))))))
theorem turn10 {x y a0 a1 a2 a3 a4 a5 a6 a7 a8 a9 : α} {l : List α} : Turn (a0 :: a1 :: a2 :: a3 :: a4 :: a5 :: a6 :: a7 :: a8 :: a9 :: x :: l) x y (a0 :: a1 :: a2 :: a3 :: a4 :: a5 :: a6 :: a7 :: a8 :: a9 :: y :: l) := (.tail (.tail (.tail (.tail (.tail (.tail (.tail (.tail (.tail (.tail .head))))))))))
theorem pick11 {x a0 a1 a2 a3 a4 a5 a6 a7 a8 a9 a10 : α} {l : List α} : Pick (a0 :: a1 :: a2 :: a3 :: a4 :: a5 :: a6 :: a7 :: a8 :: a9 :: a10 :: x :: l) x (a0 :: a1 :: a2 :: a3 :: a4 :: a5 :: a6 :: a7 :: a8 :: a9 :: a10 :: l) := (.tail (.tail (.tail (.tail (.tail (.tail (.tail (.tail (.tail (.tail (.tail .head)))))))))))
theorem turn11 {x y a0 a1 a2 a3 a4 a5 a6 a7 a8 a9 a10 : α} {l : List α} : Turn (a0 :: a1 :: a2 :: a3 :: a4 :: a5 :: a6 :: a7 :: a8 :: a9 :: a10 :: x :: l) x y (a0 :: a1 :: a2 :: a3 :: a4 :: a5 :: a6 :: a7 :: a8 :: a9 :: a10 :: y :: l) := (.tail (.tail (.tail (.tail (.tail (.tail (.tail (.tail (.tail (.tail (.tail .head)))))))))))
theorem pick12 {x a0 a1 a2 a3 a4 a5 a6 a7 a8 a9 a10 a11 : α} {l : List α} : Pick (a0 :: a1 :: a2 :: a3 :: a4 :: a5 :: a6 :: a7 :: a8 :: a9 :: a10 :: a11 :: x :: l) x (a0 :: a1 :: a2 :: a3 :: a4 :: a5 :: a6 :: a7 :: a8 :: a9 :: a10 :: a11 :: l) := (.tail (.tail (.tail (.tail (.tail (.tail (.tail (.tail (.tail (.tail (.tail (.tail .head))))))))))))
theorem turn12 {x y a0 a1 a2 a3 a4 a5 a6 a7 a8 a9 a10 a11 : α} {l : List α} : Turn (a0 :: a1 :: a2 :: a3 :: a4 :: a5 :: a6 :: a7 :: a8 :: a9 :: a10 :: a11 :: x :: l) x y (a0 :: a1 :: a2 :: a3 :: a4 :: a5 :: a6 :: a7 :: a8 :: a9 :: a10 :: a11 :: y :: l) := (.tail (.tail (.tail (.tail (.tail (.tail (.tail (.tail (.tail (.tail (.tail (.tail .head))))))))))))
theorem pick13 {x a0 a1 a2 a3 a4 a5 a6 a7 a8 a9 a10 a11 a12 : α} {l : List α} : Pick (a0 :: a1 :: a2 :: a3 :: a4 :: a5 :: a6 :: a7 :: a8 :: a9 :: a10 :: a11 :: a12 :: x :: l) x (a0 :: a1 :: a2 :: a3 :: a4 :: a5 :: a6 :: a7 :: a8 :: a9 :: a10 :: a11 :: a12 :: l) := (.tail (.tail (.tail (.tail (.tail (.tail (.tail (.tail (.tail (.tail (.tail (.tail (.tail .head)))))))))))))
theorem turn13 {x y a0 a1 a2 a3 a4 a5 a6 a7 a8 a9 a10 a11 a12 : α} {l : List α} : Turn (a0 :: a1 :: a2 :: a3 :: a4 :: a5 :: a6 :: a7 :: a8 :: a9 :: a10 :: a11 :: a12 :: x :: l) x y (a0 :: a1 :: a2 :: a3 :: a4 :: a5 :: a6 :: a7 :: a8 :: a9 :: a10 :: a11 :: a12 :: y :: l) := (.tail (.tail (.tail (.tail (.tail (.tail (.tail (.tail (.tail (.tail (.tail (.tail (.tail .head)))))))))))))
theorem pick14 {x a0 a1 a2 a3 a4 a5 a6 a7 a8 a9 a10 a11 a12 a13 : α} {l : List α} : Pick (a0 :: a1 :: a2 :: a3 :: a4 :: a5 :: a6 :: a7 :: a8 :: a9 :: a10 :: a11 :: a12 :: a13 :: x :: l) x (a0 :: a1 :: a2 :: a3 :: a4 :: a5 :: a6 :: a7 :: a8 :: a9 :: a10 :: a11 :: a12 :: a13 :: l) := (.tail (.tail (.tail (.tail (.tail (.tail (.tail (.tail (.tail (.tail (.tail (.tail (.tail (.tail .head))))))))))))))
theorem turn14 {x y a0 a1 a2 a3 a4 a5 a6 a7 a8 a9 a10 a11 a12 a13 : α} {l : List α} : Turn (a0 :: a1 :: a2 :: a3 :: a4 :: a5 :: a6 :: a7 :: a8 :: a9 :: a10 :: a11 :: a12 :: a13 :: x :: l) x y (a0 :: a1 :: a2 :: a3 :: a4 :: a5 :: a6 :: a7 :: a8 :: a9 :: a10 :: a11 :: a12 :: a13 :: y :: l) := (.tail (.tail (.tail (.tail (.tail (.tail (.tail (.tail (.tail (.tail (.tail (.tail (.tail (.tail .head))))))))))))))
theorem pick15 {x a0 a1 a2 a3 a4 a5 a6 a7 a8 a9 a10 a11 a12 a13 a14 : α} {l : List α} : Pick (a0 :: a1 :: a2 :: a3 :: a4 :: a5 :: a6 :: a7 :: a8 :: a9 :: a10 :: a11 :: a12 :: a13 :: a14 :: x :: l) x (a0 :: a1 :: a2 :: a3 :: a4 :: a5 :: a6 :: a7 :: a8 :: a9 :: a10 :: a11 :: a12 :: a13 :: a14 :: l) := (.tail (.tail (.tail (.tail (.tail (.tail (.tail (.tail (.tail (.tail (.tail (.tail (.tail (.tail (.tail .head)))))))))))))))
theorem turn15 {x y a0 a1 a2 a3 a4 a5 a6 a7 a8 a9 a10 a11 a12 a13 a14 : α} {l : List α} : Turn (a0 :: a1 :: a2 :: a3 :: a4 :: a5 :: a6 :: a7 :: a8 :: a9 :: a10 :: a11 :: a12 :: a13 :: a14 :: x :: l) x y (a0 :: a1 :: a2 :: a3 :: a4 :: a5 :: a6 :: a7 :: a8 :: a9 :: a10 :: a11 :: a12 :: a13 :: a14 :: y :: l) := (.tail (.tail (.tail (.tail (.tail (.tail (.tail (.tail (.tail (.tail (.tail (.tail (.tail (.tail (.tail .head)))))))))))))))
theorem pick16 {x a0 a1 a2 a3 a4 a5 a6 a7 a8 a9 a10 a11 a12 a13 a14 a15 : α} {l : List α} : Pick (a0 :: a1 :: a2 :: a3 :: a4 :: a5 :: a6 :: a7 :: a8 :: a9 :: a10 :: a11 :: a12 :: a13 :: a14 :: a15 :: x :: l) x (a0 :: a1 :: a2 :: a3 :: a4 :: a5 :: a6 :: a7 :: a8 :: a9 :: a10 :: a11 :: a12 :: a13 :: a14 :: a15 :: l) := (.tail (.tail (.tail (.tail (.tail (.tail (.tail (.tail (.tail (.tail (.tail (.tail (.tail (.tail (.tail (.tail .head))))))))))))))))
theorem turn16 {x y a0 a1 a2 a3 a4 a5 a6 a7 a8 a9 a10 a11 a12 a13 a14 a15 : α} {l : List α} : Turn (a0 :: a1 :: a2 :: a3 :: a4 :: a5 :: a6 :: a7 :: a8 :: a9 :: a10 :: a11 :: a12 :: a13 :: a14 :: a15 :: x :: l) x y (a0 :: a1 :: a2 :: a3 :: a4 :: a5 :: a6 :: a7 :: a8 :: a9 :: a10 :: a11 :: a12 :: a13 :: a14 :: a15 :: y :: l) := (.tail (.tail (.tail (.tail (.tail (.tail (.tail (.tail (.tail (.tail (.tail (.tail (.tail (.tail (.tail (.tail .head))))))))))))))))
theorem pick17 {x a0 a1 a2 a3 a4 a5 a6 a7 a8 a9 a10 a11 a12 a13 a14 a15 a16 : α} {l : List α} : Pick (a0 :: a1 :: a2 :: a3 :: a4 :: a5 :: a6 :: a7 :: a8 :: a9 :: a10 :: a11 :: a12 :: a13 :: a14 :: a15 :: a16 :: x :: l) x (a0 :: a1 :: a2 :: a3 :: a4 :: a5 :: a6 :: a7 :: a8 :: a9 :: a10 :: a11 :: a12 :: a13 :: a14 :: a15 :: a16 :: l) := (.tail (.tail (.tail (.tail (.tail (.tail (.tail (.tail (.tail (.tail (.tail (.tail (.tail (.tail (.tail (.tail (.tail .head)))))))))))))))))
theorem turn17 {x y a0 a1 a2 a3 a4 a5 a6 a7 a8 a9 a10 a11 a12 a13 a14 a15 a16 : α} {l : List α} : Turn (a0 :: a1 :: a2 :: a3 :: a4 :: a5 :: a6 :: a7 :: a8 :: a9 :: a10 :: a11 :: a12 :: a13 :: a14 :: a15 :: a16 :: x :: l) x y (a0 :: a1 :: a2 :: a3 :: a4 :: a5 :: a6 :: a7 :: a8 :: a9 :: a10 :: a11 :: a12 :: a13 :: a14 :: a15 :: a16 :: y :: l) := (.tail (.tail (.tail (.tail (.tail (.tail (.tail (.tail (.tail (.tail (.tail (.tail (.tail (.tail (.tail (.tail (.tail .head)))))))))))))))))
theorem pick18 {x a0 a1 a2 a3 a4 a5 a6 a7 a8 a9 a10 a11 a12 a13 a14 a15 a16 a17 : α} {l : List α} : Pick (a0 :: a1 :: a2 :: a3 :: a4 :: a5 :: a6 :: a7 :: a8 :: a9 :: a10 :: a11 :: a12 :: a13 :: a14 :: a15 :: a16 :: a17 :: x :: l) x (a0 :: a1 :: a2 :: a3 :: a4 :: a5 :: a6 :: a7 :: a8 :: a9 :: a10 :: a11 :: a12 :: a13 :: a14 :: a15 :: a16 :: a17 :: l) := (.tail (.tail (.tail (.tail (.tail (.tail (.tail (.tail (.tail (.tail (.tail (.tail (.tail (.tail (.tail (.tail (.tail (.tail .head))))))))))))))))))
theorem turn18 {x y a0 a1 a2 a3 a4 a5 a6 a7 a8 a9 a10 a11 a12 a13 a14 a15 a16 a17 : α} {l : List α} : Turn (a0 :: a1 :: a2 :: a3 :: a4 :: a5 :: a6 :: a7 :: a8 :: a9 :: a10 :: a11 :: a12 :: a13 :: a14 :: a15 :: a16 :: a17 :: x :: l) x y (a0 :: a1 :: a2 :: a3 :: a4 :: a5 :: a6 :: a7 :: a8 :: a9 :: a10 :: a11 :: a12 :: a13 :: a14 :: a15 :: a16 :: a17 :: y :: l) := (.tail (.tail (.tail (.tail (.tail (.tail (.tail (.tail (.tail (.tail (.tail (.tail (.tail (.tail (.tail (.tail (.tail (.tail .head))))))))))))))))))
theorem pick19 {x a0 a1 a2 a3 a4 a5 a6 a7 a8 a9 a10 a11 a12 a13 a14 a15 a16 a17 a18 : α} {l : List α} : Pick (a0 :: a1 :: a2 :: a3 :: a4 :: a5 :: a6 :: a7 :: a8 :: a9 :: a10 :: a11 :: a12 :: a13 :: a14 :: a15 :: a16 :: a17 :: a18 :: x :: l) x (a0 :: a1 :: a2 :: a3 :: a4 :: a5 :: a6 :: a7 :: a8 :: a9 :: a10 :: a11 :: a12 :: a13 :: a14 :: a15 :: a16 :: a17 :: a18 :: l) := (.tail (.tail (.tail (.tail (.tail (.tail (.tail (.tail (.tail (.tail (.tail (.tail (.tail (.tail (.tail (.tail (.tail (.tail (.tail .head)))))))))))))))))))
theorem turn19 {x y a0 a1 a2 a3 a4 a5 a6 a7 a8 a9 a10 a11 a12 a13 a14 a15 a16 a17 a18 : α} {l : List α} : Turn (a0 :: a1 :: a2 :: a3 :: a4 :: a5 :: a6 :: a7 :: a8 :: a9 :: a10 :: a11 :: a12 :: a13 :: a14 :: a15 :: a16 :: a17 :: a18 :: x :: l) x y (a0 :: a1 :: a2 :: a3 :: a4 :: a5 :: a6 :: a7 :: a8 :: a9 :: a10 :: a11 :: a12 :: a13 :: a14 :: a15 :: a16 :: a17 :: a18 :: y :: l) := (.tail (.tail (.tail (.tail (.tail (.tail (.tail (.tail (.tail (.tail (.tail (.tail (.tail (.tail (.tail (.tail (.tail (.tail (.tail .head)))))))))))))))))))
theorem pickU {x a0 a1 a2 a3 a4 a5 a6 a7 a8 a9 a10 a11 a12 a13 a14 a15 a16 a17 a18 a19 : α} {l m : List α} (h : Pick l x m) : Pick (a0 :: a1 :: a2 :: a3 :: a4 :: a5 :: a6 :: a7 :: a8 :: a9 :: a10 :: a11 :: a12 :: a13 :: a14 :: a15 :: a16 :: a17 :: a18 :: a19 :: l) x (a0 :: a1 :: a2 :: a3 :: a4 :: a5 :: a6 :: a7 :: a8 :: a9 :: a10 :: a11 :: a12 :: a13 :: a14 :: a15 :: a16 :: a17 :: a18 :: a19 :: m) := (.tail (.tail (.tail (.tail (.tail (.tail (.tail (.tail (.tail (.tail (.tail (.tail (.tail (.tail (.tail (.tail (.tail (.tail (.tail (.tail h))))))))))))))))))))
theorem turnU {x y a0 a1 a2 a3 a4 a5 a6 a7 a8 a9 a10 a11 a12 a13 a14 a15 a16 a17 a18 a19 : α} {l m : List α} (h : Turn l x y m) : Turn (a0 :: a1 :: a2 :: a3 :: a4 :: a5 :: a6 :: a7 :: a8 :: a9 :: a10 :: a11 :: a12 :: a13 :: a14 :: a15 :: a16 :: a17 :: a18 :: a19 :: l) x y (a0 :: a1 :: a2 :: a3 :: a4 :: a5 :: a6 :: a7 :: a8 :: a9 :: a10 :: a11 :: a12 :: a13 :: a14 :: a15 :: a16 :: a17 :: a18 :: a19 :: m) := (.tail (.tail (.tail (.tail (.tail (.tail (.tail (.tail (.tail (.tail (.tail (.tail (.tail (.tail (.tail (.tail (.tail (.tail (.tail (.tail h))))))))))))))))))))
end

/-! ### Numbers in their bounds -/
theorem w64 {a : Int} (h1 : -9223372036854775808 ≤ a) (h2 : a ≤ 9223372036854775807) : IntKind.i64.wrap a = a := IntWalk.i64_in _ ⟨h1, h2⟩
theorem quo64 {a b : Int} (h0 : 0 ≤ a) (h1 : a ≤ 9223372036854775807) (hb : 0 < b) : IntKind.i64.wrap (a.tdiv b) = a / b := by
  rw [Int.tdiv_eq_ediv_of_nonneg h0]
  have h2 : 0 ≤ a / b := Int.ediv_nonneg h0 (by omega)
  have h3 : a / b ≤ a := Int.ediv_le_self _ h0
  exact w64 (by omega) (by omega)
theorem rem64 {a b : Int} (h0 : 0 ≤ a) : a.tmod b = a % b := Int.tmod_eq_emod_of_nonneg h0
theorem wu8 {a : Int} (h1 : 0 ≤ a) (h2 : a ≤ 255) : IntKind.u8.wrap a = a := by
  simp only [IntKind.wrap, IntKind.bits, IntKind.signed]; simp; omega
theorem wu64 {a : Int} (h1 : 0 ≤ a) (h2 : a ≤ 18446744073709551615) : IntKind.u64.wrap a = a := by
  simp only [IntKind.wrap, IntKind.bits, IntKind.signed]; simp; omega
theorem quou8 {a b : Int} (h0 : 0 ≤ a) (h1 : a ≤ 255) (hb : 0 < b) : IntKind.u8.wrap (a.tdiv b) = a / b := by
  rw [Int.tdiv_eq_ediv_of_nonneg h0]
  have h2 : 0 ≤ a / b := Int.ediv_nonneg h0 (by omega)
  have h3 : a / b ≤ a := Int.ediv_le_self _ h0
  exact wu8 (by omega) (by omega)
theorem quou64 {a b : Int} (h0 : 0 ≤ a) (h1 : a ≤ 18446744073709551615) (hb : 0 < b) : IntKind.u64.wrap (a.tdiv b) = a / b := by
  rw [Int.tdiv_eq_ediv_of_nonneg h0]
  have h2 : 0 ≤ a / b := Int.ediv_nonneg h0 (by omega)
  have h3 : a / b ≤ a := Int.ediv_le_self _ h0
  exact wu64 (by omega) (by omega)
section
variable {P : Program} {n B : Nat} {W : World} {R : RList} {L M : List SProp} {v : Value} {x : Operand} {d : Option Tmp} {ty : TypeId} {ps : String} {af : Array Edge} {g : Option (Nat × Bool)}
theorem oq_call0 {f : FuncId} {xs : List Operand} {ts : Array TypeId} {vs : List Value} (hc : callB P f = true) (hxs : EvalRs R xs vs) (h : Pure P f vs.toArray B W L v) :
    OQ P n B W ⟨d, .call ⟨.value (.func f), xs.toArray, ts⟩, ty, ps, af, g⟩ R L v := oq_call (fst := #[]) (cap := #[]) .func hc (by simpa using hxs) (by simpa using h)
theorem ot_call0 {f : FuncId} {xs : List Operand} {ts : Array TypeId} {vs : List Value} {X : Type} {v : X → Value} {N : List SProp} {N' : X → List SProp} (hc : callB P f = true) (hxs : EvalRs R xs vs)
    (h : Fn_ P f vs.toArray B W N v N') (hL : Picks L N M) : OT P n B W ⟨d, .call ⟨.value (.func f), xs.toArray, ts⟩, ty, ps, af, g⟩ R L v (fun x => N' x ++ M) := ot_call (fst := #[]) (cap := #[]) .func hc (by simpa using hxs) (by simpa using h) hL
end
end Go.Proofs.Ytkfkiaieeiodnaa
