import Derived.Test.YticddmmbphoioaaModeG
import Derived.Deep.RegionHeld3
namespace Go.Proofs.Yticddmmbphoioaa
open Go.RowKit
set_option linter.unusedVariables false
set_option linter.unusedSimpArgs false
/-! ### Deal of numbers: what comes in, what comes out -/
/-- A list of numbers that comes in. -/
structure Li where
  a : Option Addr
  n : Nat
  c : Nat
  l : List Int
def Li.v (p : Li) : Value := .slice p.a p.n p.c
def Li.In (W : World) (p : Li) : Prop := Ints W p.a p.n p.l
/-- A slice. -/
structure Sl where
  a : Option Addr
  n : Nat
  c : Nat
def Sl.v (p : Sl) : Value := .slice p.a p.n p.c
def nilS : Sl := ⟨none, 0, 0⟩
/-- Numbers of which a deal is made. -/
structure Kd where
  n0 : Int
  n1 : Int
  n2 : Int
  n3 : Int
  n4 : Int
  n5 : Int
  n6 : Int
  n7 : Int
  t0 : Int
  t1 : Int
  t2 : Int
  t3 : Int
  t4 : Int
  lo : Li
  no : Li
  ra : Li
  ri : Li
  s0 : Li
  s1 : Li
  s2 : Li
def Kd.cs (k : Kd) : Array Value := #[.int .i64 k.n0, .int .i64 k.n1, .int .i64 k.n2, .int .i64 k.n3, .int .i64 k.n4, .int .i64 k.n5, .int .i64 k.n6, .int .i64 k.n7, .int .i64 k.t0, .int .i64 k.t1, .int .i64 k.t2, .int .i64 k.t3, .int .i64 k.t4, k.lo.v, k.no.v, k.ra.v, k.ri.v, k.s0.v, k.s1.v, k.s2.v]
def bd64 (n : Int) : Prop := -9223372036854775808 ≤ n ∧ n ≤ 9223372036854775807
structure Kd.In (W : World) (k : Kd) : Prop where
  lo : k.lo.In W
  no : k.no.In W
  ra : k.ra.In W
  ri : k.ri.In W
  s0 : k.s0.In W
  s1 : k.s1.In W
  s2 : k.s2.In W
/-- The deal's cells. -/
def Kd.ds (k : Kd) (L N S0 S1 S2 : Sl) : Array Value := #[.int .i64 (within k.n0 1990 2040), .int .i64 (within k.n1 1 12), .int .i64 (within k.n2 0 2), L.v, N.v, .int .i64 (within k.n3 0 200), .int .i64 (within k.n4 0 5000), .int .i64 (within k.n5 0 500), .int .i64 (within k.n6 0 3000), .int .i64 (within k.n7 0 3),
  .int .i64 (within k.t0 0 12000), .int .i64 (within k.t1 0 15000), .int .i64 (within k.t2 0 5000), .int .i64 (within k.t3 0 5000), .int .i64 (within k.t4 0 3000), S0.v, S1.v, S2.v]
end Go.Proofs.Yticddmmbphoioaa
