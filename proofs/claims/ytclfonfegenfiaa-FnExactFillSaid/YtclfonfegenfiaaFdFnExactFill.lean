/- What the Go functions that the law uses answer, as plain functions. -/
import Derived.Test.YtclfonfegenfiaaEa
set_option linter.unusedVariables false
namespace Go.Proofs.Ytclfonfegenfiaa.fnExactFill
open Go.Ev
/-! ### loop.example/s0007/laws.szPairS -/
def F.laws_szPairS {R : Type} (x1 : List (Int × Int)) (x2 : Int) (k : Int → Option R) : Option R :=
  bif decide ((wrapK .i64 (x2 - (List.length x1 : Int))) < 0) then
    k (-1)
  else
    k (wrapK .i64 (x2 - (List.length x1 : Int)))
/-! ### loop.example/s0007/laws.toPair -/
def F.laws_toPair {R : Type} (x1 : Int) (x2 : Int) (k : Int → Int → Option R) : Option R :=
  k x1 x2
/-! ### loop.example/s0007/laws.toPairS -/
def F.laws_toPairS_l0_s {R : Type} (N : Nat) (x2 : List (Int × Int)) (x3 : Int) (x4 : List (Int × Int)) (next : (List (Int × Int)) → Int → (List (Int × Int)) → Option R) (ke0 : (List (Int × Int)) → Option R) : Option R :=
  bif decide (x3 < (List.length x2 : Int)) then
    bif inB x3 (List.length x2) then
      F.laws_toPair ((List.getD x2 (Int.toNat x3) ((0 : Int), (0 : Int))).1) ((List.getD x2 (Int.toNat x3) ((0 : Int), (0 : Int))).2) fun r5 r6 =>
      bif inB x3 (List.length x4) then
        next x2 (wrapK .i64 (x3 + 1)) (List.set x4 (Int.toNat x3) (r5, r6))
      else
        none
    else
      none
  else
    ke0 x4
def F.laws_toPairS_l0 {R : Type} (N : Nat) : Nat → (List (Int × Int)) → Int → (List (Int × Int)) → ((List (Int × Int)) → Option R) → Option R
  | 0, _, _, _, _ => none
  | n + 1, x2, x3, x4, ke0 => F.laws_toPairS_l0_s N x2 x3 x4 (fun x2 x3 x4 => F.laws_toPairS_l0 N n x2 x3 x4 ke0) ke0
def F.laws_toPairS {R : Type} (N : Nat) (x1 : List (Int × Int)) (k : (List (Int × Int)) → Option R) : Option R :=
  bif decide (0 ≤ (List.length x1 : Int)) then
    bif Nat.ble (Int.toNat (List.length x1 : Int)) (bigOf 16) then
      F.laws_toPairS_l0 N N x1 0 (List.replicate (Int.toNat (List.length x1 : Int)) ((0 : Int), (0 : Int)))
        (fun y7 =>
          k y7)
    else
      none
  else
    none
/-! ### loop.example/s0007/spec.l1At -/
def F.spec_l1At {R : Type} (x1 : List UInt8) (x2 : Int) (k : Int → Option R) : Option R :=
  bif decide (x2 < 0) then
    k (-1)
  else
    bif decide (x2 ≥ (List.length x1 : Int)) then
      k (-1)
    else
      bif inB x2 (List.length x1) then
        k (wrapK .i64 (byteAt x1 x2))
      else
        none
/-! ### loop.example/s0007/spec.l1Between -/
def F.spec_l1Between {R : Type} (x1 : Int) (x2 : Int) (x3 : Int) (k : Bool → Option R) : Option R :=
  bif decide (x2 ≤ x1) then
    k (decide (x1 ≤ x3))
  else
    k false
/-! ### loop.example/s0007/spec.Fill -/
def F.spec_Fill_l0_s {R : Type} (N : Nat) (x4 : List UInt8) (x5 : List UInt8) (x6 : List (Int × Int)) (x7 : List UInt8) (x8 : Int) (next : (List UInt8) → (List UInt8) → (List (Int × Int)) → (List UInt8) → Int → Option R) (ke0 : (List UInt8) → Option R) : Option R :=
  bif decide (x8 < (List.length x4 : Int)) then
    F.spec_l1At x4 (wrapK .i64 (x8 + 1)) fun r9 =>
    bif inB x8 (List.length x4) then
      bif (byteAt x4 x8) == 92 then
        bif r9 == 92 then
          bif Nat.ble (List.length x7 + List.length [92]) big then
            next x4 x5 x6 (x7 ++ [92]) (wrapK .i64 (x8 + 2))
          else
            none
        else
          bif inB x8 (List.length x4) then
            bif (byteAt x4 x8) == 92 then
              F.spec_l1Between r9 48 57 fun r10 =>
              bif r10 then
                bif decide ((wrapK .i64 (r9 - 48)) < (List.length x6 : Int)) then
                  bif inB (wrapK .i64 (r9 - 48)) (List.length x6) then
                    bif decide (0 ≤ ((List.getD x6 (Int.toNat (wrapK .i64 (r9 - 48))) ((0 : Int), (0 : Int))).1)) then
                      bif inB (wrapK .i64 (r9 - 48)) (List.length x6) then
                        bif inB (wrapK .i64 (r9 - 48)) (List.length x6) then
                          bif decide (((List.getD x6 (Int.toNat (wrapK .i64 (r9 - 48))) ((0 : Int), (0 : Int))).1) ≤ ((List.getD x6 (Int.toNat (wrapK .i64 (r9 - 48))) ((0 : Int), (0 : Int))).2)) then
                            bif inB (wrapK .i64 (r9 - 48)) (List.length x6) then
                              bif decide (((List.getD x6 (Int.toNat (wrapK .i64 (r9 - 48))) ((0 : Int), (0 : Int))).2) ≤ (List.length x5 : Int)) then
                                bif inB (wrapK .i64 (r9 - 48)) (List.length x6) then
                                  bif inB (wrapK .i64 (r9 - 48)) (List.length x6) then
                                    bif decide (0 ≤ ((List.getD x6 (Int.toNat (wrapK .i64 (r9 - 48))) ((0 : Int), (0 : Int))).2)) && decide (((List.getD x6 (Int.toNat (wrapK .i64 (r9 - 48))) ((0 : Int), (0 : Int))).2) ≤ (List.length x5 : Int)) then
                                      bif decide (0 ≤ ((List.getD x6 (Int.toNat (wrapK .i64 (r9 - 48))) ((0 : Int), (0 : Int))).1)) && decide (((List.getD x6 (Int.toNat (wrapK .i64 (r9 - 48))) ((0 : Int), (0 : Int))).1) ≤ ((List.getD x6 (Int.toNat (wrapK .i64 (r9 - 48))) ((0 : Int), (0 : Int))).2)) then
                                        bif Nat.ble (List.length x7 + List.length (List.drop (Int.toNat ((List.getD x6 (Int.toNat (wrapK .i64 (r9 - 48))) ((0 : Int), (0 : Int))).1)) (List.take (Int.toNat ((List.getD x6 (Int.toNat (wrapK .i64 (r9 - 48))) ((0 : Int), (0 : Int))).2)) x5))) big then
                                          next x4 x5 x6 (x7 ++ (List.drop (Int.toNat ((List.getD x6 (Int.toNat (wrapK .i64 (r9 - 48))) ((0 : Int), (0 : Int))).1)) (List.take (Int.toNat ((List.getD x6 (Int.toNat (wrapK .i64 (r9 - 48))) ((0 : Int), (0 : Int))).2)) x5))) (wrapK .i64 (x8 + 2))
                                        else
                                          none
                                      else
                                        none
                                    else
                                      none
                                  else
                                    none
                                else
                                  none
                              else
                                next x4 x5 x6 x7 (wrapK .i64 (x8 + 2))
                            else
                              none
                          else
                            next x4 x5 x6 x7 (wrapK .i64 (x8 + 2))
                        else
                          none
                      else
                        none
                    else
                      next x4 x5 x6 x7 (wrapK .i64 (x8 + 2))
                  else
                    none
                else
                  next x4 x5 x6 x7 (wrapK .i64 (x8 + 2))
              else
                bif decide (0 ≤ (wrapK .i64 (x8 + 1))) && decide ((wrapK .i64 (x8 + 1)) ≤ (List.length x4 : Int)) then
                  bif decide (0 ≤ x8) && decide (x8 ≤ (wrapK .i64 (x8 + 1))) then
                    bif Nat.ble (List.length x7 + List.length (List.drop (Int.toNat x8) (List.take (Int.toNat (wrapK .i64 (x8 + 1))) x4))) big then
                      next x4 x5 x6 (x7 ++ (List.drop (Int.toNat x8) (List.take (Int.toNat (wrapK .i64 (x8 + 1))) x4))) (wrapK .i64 (x8 + 1))
                    else
                      none
                  else
                    none
                else
                  none
            else
              bif decide (0 ≤ (wrapK .i64 (x8 + 1))) && decide ((wrapK .i64 (x8 + 1)) ≤ (List.length x4 : Int)) then
                bif decide (0 ≤ x8) && decide (x8 ≤ (wrapK .i64 (x8 + 1))) then
                  bif Nat.ble (List.length x7 + List.length (List.drop (Int.toNat x8) (List.take (Int.toNat (wrapK .i64 (x8 + 1))) x4))) big then
                    next x4 x5 x6 (x7 ++ (List.drop (Int.toNat x8) (List.take (Int.toNat (wrapK .i64 (x8 + 1))) x4))) (wrapK .i64 (x8 + 1))
                  else
                    none
                else
                  none
              else
                none
          else
            none
      else
        bif inB x8 (List.length x4) then
          bif (byteAt x4 x8) == 92 then
            F.spec_l1Between r9 48 57 fun r11 =>
            bif r11 then
              bif decide ((wrapK .i64 (r9 - 48)) < (List.length x6 : Int)) then
                bif inB (wrapK .i64 (r9 - 48)) (List.length x6) then
                  bif decide (0 ≤ ((List.getD x6 (Int.toNat (wrapK .i64 (r9 - 48))) ((0 : Int), (0 : Int))).1)) then
                    bif inB (wrapK .i64 (r9 - 48)) (List.length x6) then
                      bif inB (wrapK .i64 (r9 - 48)) (List.length x6) then
                        bif decide (((List.getD x6 (Int.toNat (wrapK .i64 (r9 - 48))) ((0 : Int), (0 : Int))).1) ≤ ((List.getD x6 (Int.toNat (wrapK .i64 (r9 - 48))) ((0 : Int), (0 : Int))).2)) then
                          bif inB (wrapK .i64 (r9 - 48)) (List.length x6) then
                            bif decide (((List.getD x6 (Int.toNat (wrapK .i64 (r9 - 48))) ((0 : Int), (0 : Int))).2) ≤ (List.length x5 : Int)) then
                              bif inB (wrapK .i64 (r9 - 48)) (List.length x6) then
                                bif inB (wrapK .i64 (r9 - 48)) (List.length x6) then
                                  bif decide (0 ≤ ((List.getD x6 (Int.toNat (wrapK .i64 (r9 - 48))) ((0 : Int), (0 : Int))).2)) && decide (((List.getD x6 (Int.toNat (wrapK .i64 (r9 - 48))) ((0 : Int), (0 : Int))).2) ≤ (List.length x5 : Int)) then
                                    bif decide (0 ≤ ((List.getD x6 (Int.toNat (wrapK .i64 (r9 - 48))) ((0 : Int), (0 : Int))).1)) && decide (((List.getD x6 (Int.toNat (wrapK .i64 (r9 - 48))) ((0 : Int), (0 : Int))).1) ≤ ((List.getD x6 (Int.toNat (wrapK .i64 (r9 - 48))) ((0 : Int), (0 : Int))).2)) then
                                      bif Nat.ble (List.length x7 + List.length (List.drop (Int.toNat ((List.getD x6 (Int.toNat (wrapK .i64 (r9 - 48))) ((0 : Int), (0 : Int))).1)) (List.take (Int.toNat ((List.getD x6 (Int.toNat (wrapK .i64 (r9 - 48))) ((0 : Int), (0 : Int))).2)) x5))) big then
                                        next x4 x5 x6 (x7 ++ (List.drop (Int.toNat ((List.getD x6 (Int.toNat (wrapK .i64 (r9 - 48))) ((0 : Int), (0 : Int))).1)) (List.take (Int.toNat ((List.getD x6 (Int.toNat (wrapK .i64 (r9 - 48))) ((0 : Int), (0 : Int))).2)) x5))) (wrapK .i64 (x8 + 2))
                                      else
                                        none
                                    else
                                      none
                                  else
                                    none
                                else
                                  none
                              else
                                none
                            else
                              next x4 x5 x6 x7 (wrapK .i64 (x8 + 2))
                          else
                            none
                        else
                          next x4 x5 x6 x7 (wrapK .i64 (x8 + 2))
                      else
                        none
                    else
                      none
                  else
                    next x4 x5 x6 x7 (wrapK .i64 (x8 + 2))
                else
                  none
              else
                next x4 x5 x6 x7 (wrapK .i64 (x8 + 2))
            else
              bif decide (0 ≤ (wrapK .i64 (x8 + 1))) && decide ((wrapK .i64 (x8 + 1)) ≤ (List.length x4 : Int)) then
                bif decide (0 ≤ x8) && decide (x8 ≤ (wrapK .i64 (x8 + 1))) then
                  bif Nat.ble (List.length x7 + List.length (List.drop (Int.toNat x8) (List.take (Int.toNat (wrapK .i64 (x8 + 1))) x4))) big then
                    next x4 x5 x6 (x7 ++ (List.drop (Int.toNat x8) (List.take (Int.toNat (wrapK .i64 (x8 + 1))) x4))) (wrapK .i64 (x8 + 1))
                  else
                    none
                else
                  none
              else
                none
          else
            bif decide (0 ≤ (wrapK .i64 (x8 + 1))) && decide ((wrapK .i64 (x8 + 1)) ≤ (List.length x4 : Int)) then
              bif decide (0 ≤ x8) && decide (x8 ≤ (wrapK .i64 (x8 + 1))) then
                bif Nat.ble (List.length x7 + List.length (List.drop (Int.toNat x8) (List.take (Int.toNat (wrapK .i64 (x8 + 1))) x4))) big then
                  next x4 x5 x6 (x7 ++ (List.drop (Int.toNat x8) (List.take (Int.toNat (wrapK .i64 (x8 + 1))) x4))) (wrapK .i64 (x8 + 1))
                else
                  none
              else
                none
            else
              none
        else
          none
    else
      none
  else
    ke0 x7
def F.spec_Fill_l0 {R : Type} (N : Nat) : Nat → (List UInt8) → (List UInt8) → (List (Int × Int)) → (List UInt8) → Int → ((List UInt8) → Option R) → Option R
  | 0, _, _, _, _, _, _ => none
  | n + 1, x4, x5, x6, x7, x8, ke0 => F.spec_Fill_l0_s N x4 x5 x6 x7 x8 (fun x4 x5 x6 x7 x8 => F.spec_Fill_l0 N n x4 x5 x6 x7 x8 ke0) ke0
def F.spec_Fill {R : Type} (N : Nat) (x1 : List UInt8) (x2 : List UInt8) (x3 : List (Int × Int)) (k : (List UInt8) → Option R) : Option R :=
  bif decide ((List.length x1 : Int) > 1000) then
    k []
  else
    bif decide ((List.length x2 : Int) > 4096) then
      k []
    else
      F.spec_Fill_l0 N N x1 x2 x3 [] 0
        (fun y12 =>
          bif decide ((List.length y12 : Int) > 1000) then
            bif decide (0 ≤ 1000) && decide (1000 ≤ (List.length y12 : Int)) then
              k (List.drop 0 (List.take (Int.toNat 1000) y12))
            else
              none
          else
            k y12)
/-! ### (*strings.Builder).WriteByte -/
def F.strings_Builder_WriteByte {R : Type} (x1 : Int) (x2 : List UInt8) (k : (List UInt8) → Option R) : Option R :=
  bif decide (0 ≤ x1) && decide (x1 < 256) && Nat.ble (List.length x2 + 1) big then
    k (x2 ++ [UInt8.ofNat (Int.toNat x1)])
  else
    none
/-! ### (*strings.Builder).WriteString -/
def F.strings_Builder_WriteString {R : Type} (x1 : List UInt8) (x2 : List UInt8) (k : Int → (List UInt8) → Option R) : Option R :=
  bif Nat.ble (List.length x2 + List.length x1) big then
    k (List.length x1 : Int) (x2 ++ x1)
  else
    none
/-! ### (*strings.Builder).String -/
def F.strings_Builder_String {R : Type} (x1 : List UInt8) (k : (List UInt8) → Option R) : Option R :=
  k x1
/-! ### loop.example/s0007/impl.Fill -/
def F.impl_Fill_l0_s {R : Type} (N : Nat) (x4 : List UInt8) (x5 : List UInt8) (x6 : List (Int × Int)) (x7 : Int) (x8 : List UInt8) (next : (List UInt8) → (List UInt8) → (List (Int × Int)) → Int → (List UInt8) → Option R) (ke0 : (List UInt8) → Option R) : Option R :=
  bif decide (x7 < (List.length x4 : Int)) then
    bif inB x7 (List.length x4) then
      bif (byteAt x4 x7) == 92 then
        bif decide ((wrapK .i64 (x7 + 1)) < (List.length x4 : Int)) then
          bif inB (wrapK .i64 (x7 + 1)) (List.length x4) then
            bif (byteAt x4 (wrapK .i64 (x7 + 1))) == 92 then
              bif inB (wrapK .i64 (x7 + 1)) (List.length x4) then
                F.strings_Builder_WriteByte (byteAt x4 (wrapK .i64 (x7 + 1))) x8 fun r9 =>
                next x4 x5 x6 (wrapK .i64 ((wrapK .i64 (x7 + 1)) + 1)) r9
              else
                none
            else
              bif decide ((byteAt x4 (wrapK .i64 (x7 + 1))) ≥ 48) then
                bif decide ((byteAt x4 (wrapK .i64 (x7 + 1))) ≤ 57) then
                  bif decide ((wrapK .i64 (wrapK .u8 ((byteAt x4 (wrapK .i64 (x7 + 1))) - 48))) < (List.length x6 : Int)) then
                    bif inB (wrapK .i64 (wrapK .u8 ((byteAt x4 (wrapK .i64 (x7 + 1))) - 48))) (List.length x6) then
                      bif decide (0 ≤ ((List.getD x6 (Int.toNat (wrapK .i64 (wrapK .u8 ((byteAt x4 (wrapK .i64 (x7 + 1))) - 48)))) ((0 : Int), (0 : Int))).1)) then
                        bif decide (((List.getD x6 (Int.toNat (wrapK .i64 (wrapK .u8 ((byteAt x4 (wrapK .i64 (x7 + 1))) - 48)))) ((0 : Int), (0 : Int))).1) ≤ ((List.getD x6 (Int.toNat (wrapK .i64 (wrapK .u8 ((byteAt x4 (wrapK .i64 (x7 + 1))) - 48)))) ((0 : Int), (0 : Int))).2)) then
                          bif decide (((List.getD x6 (Int.toNat (wrapK .i64 (wrapK .u8 ((byteAt x4 (wrapK .i64 (x7 + 1))) - 48)))) ((0 : Int), (0 : Int))).2) ≤ (List.length x5 : Int)) then
                            bif decide (0 ≤ ((List.getD x6 (Int.toNat (wrapK .i64 (wrapK .u8 ((byteAt x4 (wrapK .i64 (x7 + 1))) - 48)))) ((0 : Int), (0 : Int))).2)) && decide (((List.getD x6 (Int.toNat (wrapK .i64 (wrapK .u8 ((byteAt x4 (wrapK .i64 (x7 + 1))) - 48)))) ((0 : Int), (0 : Int))).2) ≤ (List.length x5 : Int)) then
                              bif decide (0 ≤ ((List.getD x6 (Int.toNat (wrapK .i64 (wrapK .u8 ((byteAt x4 (wrapK .i64 (x7 + 1))) - 48)))) ((0 : Int), (0 : Int))).1)) && decide (((List.getD x6 (Int.toNat (wrapK .i64 (wrapK .u8 ((byteAt x4 (wrapK .i64 (x7 + 1))) - 48)))) ((0 : Int), (0 : Int))).1) ≤ ((List.getD x6 (Int.toNat (wrapK .i64 (wrapK .u8 ((byteAt x4 (wrapK .i64 (x7 + 1))) - 48)))) ((0 : Int), (0 : Int))).2)) then
                                F.strings_Builder_WriteString (List.drop (Int.toNat ((List.getD x6 (Int.toNat (wrapK .i64 (wrapK .u8 ((byteAt x4 (wrapK .i64 (x7 + 1))) - 48)))) ((0 : Int), (0 : Int))).1)) (List.take (Int.toNat ((List.getD x6 (Int.toNat (wrapK .i64 (wrapK .u8 ((byteAt x4 (wrapK .i64 (x7 + 1))) - 48)))) ((0 : Int), (0 : Int))).2)) x5)) x8 fun r10 r11 =>
                                next x4 x5 x6 (wrapK .i64 ((wrapK .i64 (x7 + 1)) + 1)) r11
                              else
                                none
                            else
                              none
                          else
                            next x4 x5 x6 (wrapK .i64 ((wrapK .i64 (x7 + 1)) + 1)) x8
                        else
                          next x4 x5 x6 (wrapK .i64 ((wrapK .i64 (x7 + 1)) + 1)) x8
                      else
                        next x4 x5 x6 (wrapK .i64 ((wrapK .i64 (x7 + 1)) + 1)) x8
                    else
                      none
                  else
                    next x4 x5 x6 (wrapK .i64 ((wrapK .i64 (x7 + 1)) + 1)) x8
                else
                  bif inB x7 (List.length x4) then
                    F.strings_Builder_WriteByte (byteAt x4 x7) x8 fun r12 =>
                    next x4 x5 x6 (wrapK .i64 (x7 + 1)) r12
                  else
                    none
              else
                bif inB x7 (List.length x4) then
                  F.strings_Builder_WriteByte (byteAt x4 x7) x8 fun r13 =>
                  next x4 x5 x6 (wrapK .i64 (x7 + 1)) r13
                else
                  none
          else
            none
        else
          bif inB x7 (List.length x4) then
            F.strings_Builder_WriteByte (byteAt x4 x7) x8 fun r14 =>
            next x4 x5 x6 (wrapK .i64 (x7 + 1)) r14
          else
            none
      else
        bif inB x7 (List.length x4) then
          F.strings_Builder_WriteByte (byteAt x4 x7) x8 fun r15 =>
          next x4 x5 x6 (wrapK .i64 (x7 + 1)) r15
        else
          none
    else
      none
  else
    ke0 x8
def F.impl_Fill_l0 {R : Type} (N : Nat) : Nat → (List UInt8) → (List UInt8) → (List (Int × Int)) → Int → (List UInt8) → ((List UInt8) → Option R) → Option R
  | 0, _, _, _, _, _, _ => none
  | n + 1, x4, x5, x6, x7, x8, ke0 => F.impl_Fill_l0_s N x4 x5 x6 x7 x8 (fun x4 x5 x6 x7 x8 => F.impl_Fill_l0 N n x4 x5 x6 x7 x8 ke0) ke0
def F.impl_Fill {R : Type} (N : Nat) (x1 : List UInt8) (x2 : List UInt8) (x3 : List (Int × Int)) (k : (List UInt8) → Option R) : Option R :=
  bif decide ((List.length x1 : Int) > 1000) then
    k []
  else
    bif decide ((List.length x2 : Int) > 4096) then
      k []
    else
      F.impl_Fill_l0 N N x1 x2 x3 0 ([] : List UInt8)
        (fun y16 =>
          F.strings_Builder_String y16 fun r17 =>
          bif decide (0 ≤ (bif decide (1000 < (List.length r17 : Int)) then 1000 else (List.length r17 : Int))) && decide ((bif decide (1000 < (List.length r17 : Int)) then 1000 else (List.length r17 : Int)) ≤ (List.length r17 : Int)) then
            k (List.drop 0 (List.take (Int.toNat (bif decide (1000 < (List.length r17 : Int)) then 1000 else (List.length r17 : Int))) r17))
          else
            none)
/-! ### loop.example/s0007/laws.eqPair -/
def F.laws_eqPair {R : Type} (x1 : Int) (x2 : Int) (x3 : Int) (x4 : Int) (k : Bool → Option R) : Option R :=
  bif x1 != x3 then
    k false
  else
    bif x2 != x4 then
      k false
    else
      k true
/-! ### loop.example/s0007/laws.eqPairS -/
def F.laws_eqPairS_l0_s {R : Type} (N : Nat) (x3 : List (Int × Int)) (x4 : List (Int × Int)) (x5 : Int) (next : (List (Int × Int)) → (List (Int × Int)) → Int → Option R) (ke0 : Unit → Option R) (kret : Bool → Option R) : Option R :=
  bif decide (x5 < (List.length x3 : Int)) then
    bif inB x5 (List.length x3) then
      bif inB x5 (List.length x4) then
        F.laws_eqPair ((List.getD x3 (Int.toNat x5) ((0 : Int), (0 : Int))).1) ((List.getD x3 (Int.toNat x5) ((0 : Int), (0 : Int))).2) ((List.getD x4 (Int.toNat x5) ((0 : Int), (0 : Int))).1) ((List.getD x4 (Int.toNat x5) ((0 : Int), (0 : Int))).2) fun r6 =>
        bif !r6 then
          kret false
        else
          next x3 x4 (wrapK .i64 (x5 + 1))
      else
        none
    else
      none
  else
    ke0 ()
def F.laws_eqPairS_l0 {R : Type} (N : Nat) : Nat → (List (Int × Int)) → (List (Int × Int)) → Int → (Unit → Option R) → (Bool → Option R) → Option R
  | 0, _, _, _, _, _ => none
  | n + 1, x3, x4, x5, ke0, kret => F.laws_eqPairS_l0_s N x3 x4 x5 (fun x3 x4 x5 => F.laws_eqPairS_l0 N n x3 x4 x5 ke0 kret) ke0 kret
def F.laws_eqPairS {R : Type} (N : Nat) (x1 : List (Int × Int)) (x2 : List (Int × Int)) (k : Bool → Option R) : Option R :=
  bif (List.length x1 : Int) != (List.length x2 : Int) then
    k false
  else
    F.laws_eqPairS_l0 N N x1 x2 0
      (fun _ =>
        k true)
      (fun y7 =>
        k y7)
/-! ### loop.example/s0007/laws.FnExactFill -/
def F.laws_FnExactFill {R : Type} (N : Nat) (x1 : List UInt8) (x2 : List UInt8) (x3 : List (Int × Int)) (k : Bool → Option R) : Option R :=
  bif decide ((List.length x1 : Int) > 1048576) then
    k true
  else
    bif decide ((List.length x2 : Int) > 1048576) then
      k true
    else
      F.laws_szPairS x3 1048576 fun r4 =>
      bif decide (r4 < 0) then
        k true
      else
        F.laws_toPairS N x3 fun r5 =>
        F.spec_Fill N x1 x2 r5 fun r6 =>
        F.laws_toPairS N x3 fun r7 =>
        F.impl_Fill N x1 x2 r7 fun r8 =>
        bif !(r8 == r6) then
          k false
        else
          F.laws_toPairS N x3 fun r9 =>
          F.laws_eqPairS N r7 r9 fun r10 =>
          bif !r10 then
            k false
          else
            k true
end Go.Proofs.Ytclfonfegenfiaa.fnExactFill
