/- What the Go functions that the law uses answer, as plain functions. -/
import Derived.Test.YtioegjpinjigkaaEa
set_option linter.unusedVariables false
namespace Go.Proofs.Ytioegjpinjigkaa.fnExactFeed
open Go.Ev
/-! ### loop.example/s0007/laws.szSession -/
def F.laws_szSession {R : Type} (x1 : Int) (x2 : List UInt8) (x3 : Bool) (x4 : Int) (x5 : Int) (x6 : Int) (k : Int → Option R) : Option R :=
  bif decide ((wrapK .i64 (x6 - (List.length x2 : Int))) < 0) then
    k (-1)
  else
    k (wrapK .i64 (x6 - (List.length x2 : Int)))
/-! ### loop.example/s0007/laws.toSession -/
def F.laws_toSession {R : Type} (x1 : Int) (x2 : List UInt8) (x3 : Bool) (x4 : Int) (x5 : Int) (k : Int → (List UInt8) → Bool → Int → Int → Option R) : Option R :=
  k x1 x2 x3 x4 x5
/-! ### loop.example/s0007/spec.l1Between -/
def F.spec_l1Between {R : Type} (x1 : Int) (x2 : Int) (x3 : Int) (k : Bool → Option R) : Option R :=
  bif decide (x2 ≤ x1) then
    k (decide (x1 ≤ x3))
  else
    k false
/-! ### loop.example/s0007/spec.l4SessionOK -/
def F.spec_l4SessionOK {R : Type} (x1 : Int) (x2 : List UInt8) (x3 : Bool) (x4 : Int) (x5 : Int) (k : Bool → Option R) : Option R :=
  F.spec_l1Between x1 1 4096 fun r6 =>
  bif r6 then
    bif decide ((List.length x2 : Int) ≤ x1) then
      F.spec_l1Between x5 0 (List.length x2 : Int) fun r7 =>
      bif r7 then
        F.spec_l1Between x4 0 3999 fun r8 =>
        k r8
      else
        k false
    else
      k false
  else
    k false
/-! ### loop.example/s0007/spec.Feed -/
def F.spec_Feed {R : Type} (x1 : Int) (x2 : List UInt8) (x3 : Bool) (x4 : Int) (x5 : Int) (x6 : List UInt8) (k : Int → (List UInt8) → Bool → Int → Int → Int → Option R) : Option R :=
  F.spec_l4SessionOK x1 x2 x3 x4 x5 fun r7 =>
  bif !r7 then
    k 0 [] false 0 0 1
  else
    bif x3 then
      k x1 x2 x3 x4 x5 2
    else
      bif decide ((wrapK .i64 ((List.length x2 : Int) + (List.length x6 : Int))) > x1) then
        k x1 x2 x3 x4 x5 3
      else
        bif Nat.ble (List.length x2 + List.length x6) big then
          k x1 (x2 ++ x6) x3 x4 x5 0
        else
          none
/-! ### (*loop.example/s0007/impl.Session).ok -/
def F.impl_Session_ok {R : Type} (x1 : Int) (x2 : List UInt8) (x3 : Bool) (x4 : Int) (x5 : Int) (k : Bool → Option R) : Option R :=
  bif decide (x1 ≥ 1) then
    bif decide (x1 ≤ 4096) then
      bif decide ((List.length x2 : Int) ≤ x1) then
        bif decide (x5 ≥ 0) then
          bif decide (x5 ≤ (List.length x2 : Int)) then
            bif decide (x4 ≥ 0) then
              k (decide (x4 < 4000))
            else
              k false
          else
            k false
        else
          k false
      else
        k false
    else
      k false
  else
    k false
/-! ### loop.example/s0007/impl.Feed -/
def F.impl_Feed {R : Type} (x1 : Int) (x2 : List UInt8) (x3 : Bool) (x4 : Int) (x5 : Int) (x6 : List UInt8) (k : Int → (List UInt8) → Bool → Int → Int → Int → Option R) : Option R :=
  F.impl_Session_ok x1 x2 x3 x4 x5 fun r7 =>
  bif !r7 then
    k 0 [] false 0 0 1
  else
    bif x3 then
      k x1 x2 x3 x4 x5 2
    else
      bif decide ((List.length x6 : Int) > (wrapK .i64 (x1 - (List.length x2 : Int)))) then
        k x1 x2 x3 x4 x5 3
      else
        bif Nat.ble (List.length x2 + List.length x6) big then
          k x1 (x2 ++ x6) x3 x4 x5 0
        else
          none
/-! ### loop.example/s0007/laws.eqSession -/
def F.laws_eqSession {R : Type} (x1 : Int) (x2 : List UInt8) (x3 : Bool) (x4 : Int) (x5 : Int) (x6 : Int) (x7 : List UInt8) (x8 : Bool) (x9 : Int) (x10 : Int) (k : Bool → Option R) : Option R :=
  bif x1 != x6 then
    k false
  else
    bif !(x2 == x7) then
      k false
    else
      bif !(x3 == x8) then
        k false
      else
        bif x4 != x9 then
          k false
        else
          bif x5 != x10 then
            k false
          else
            k true
/-! ### loop.example/s0007/laws.FnExactFeed -/
def F.laws_FnExactFeed {R : Type} (x1 : Int) (x2 : List UInt8) (x3 : Bool) (x4 : Int) (x5 : Int) (x6 : List UInt8) (k : Bool → Option R) : Option R :=
  bif decide ((List.length x6 : Int) > 1048576) then
    k true
  else
    F.laws_szSession x1 x2 x3 x4 x5 1048576 fun r7 =>
    bif decide (r7 < 0) then
      k true
    else
      F.laws_toSession x1 x2 x3 x4 x5 fun r8 r9 r10 r11 r12 =>
      F.spec_Feed r8 r9 r10 r11 r12 x6 fun r13 r14 r15 r16 r17 r18 =>
      F.laws_toSession x1 x2 x3 x4 x5 fun r19 r20 r21 r22 r23 =>
      F.impl_Feed r19 r20 r21 r22 r23 x6 fun r24 r25 r26 r27 r28 r29 =>
      F.laws_eqSession r24 r25 r26 r27 r28 r13 r14 r15 r16 r17 fun r30 =>
      bif !r30 then
        k false
      else
        bif r29 != r18 then
          k false
        else
          k true
end Go.Proofs.Ytioegjpinjigkaa.fnExactFeed
