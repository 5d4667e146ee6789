/- What the Go functions that the law uses answer, as plain functions. -/
import Derived.Test.YtclfonfegenfiaaEa
set_option linter.unusedVariables false
namespace Go.Proofs.Ytclfonfegenfiaa.fnExactLoad
open Go.Ev
/-! ### loop.example/s0007/spec.l3Num -/
def F.spec_l3Num {R : Type} (x1 : List UInt8) (x2 : Int) (k : Int → Option R) : Option R :=
  bif inB x2 (List.length x1) then
    bif inB (wrapK .i64 (x2 + 1)) (List.length x1) then
      k (wrapK .i64 ((wrapK .i64 ((wrapK .i64 (byteAt x1 x2)) * 256)) + (wrapK .i64 (byteAt x1 (wrapK .i64 (x2 + 1))))))
    else
      none
  else
    none
/-! ### loop.example/s0007/spec.l1Between -/
def F.spec_l1Between {R : Type} (x1 : Int) (x2 : Int) (x3 : Int) (k : Bool → Option R) : Option R :=
  bif decide (x2 ≤ x1) then
    k (decide (x1 ≤ x3))
  else
    k false
/-! ### loop.example/s0007/spec.l3Sum -/
def F.spec_l3Sum_l0_s {R : Type} (N : Nat) (x2 : List Int) (x3 : Int) (x4 : Int) (next : (List Int) → Int → Int → Option R) (ke0 : Int → Option R) : Option R :=
  bif decide (x4 < (List.length x2 : Int)) then
    bif inB x4 (List.length x2) then
      bif !(65536 == 0) then
        next x2 (Int.tmod (wrapK .i64 (x3 + (wrapK .i64 (List.getD x2 (Int.toNat x4) (0 : Int))))) 65536) (wrapK .i64 (x4 + 1))
      else
        none
    else
      none
  else
    ke0 x3
def F.spec_l3Sum_l0 {R : Type} (N : Nat) : Nat → (List Int) → Int → Int → (Int → Option R) → Option R
  | 0, _, _, _, _ => none
  | n + 1, x2, x3, x4, ke0 => F.spec_l3Sum_l0_s N x2 x3 x4 (fun x2 x3 x4 => F.spec_l3Sum_l0 N n x2 x3 x4 ke0) ke0
def F.spec_l3Sum {R : Type} (N : Nat) (x1 : List Int) (k : Int → Option R) : Option R :=
  F.spec_l3Sum_l0 N N x1 0 0
    (fun y5 =>
      k y5)
/-! ### loop.example/s0007/spec.l3Opt -/
def F.spec_l3Opt {R : Type} (x1 : List UInt8) (x2 : Int) (k : Int → Option R) : Option R :=
  F.spec_l3Num x1 x2 fun r3 =>
  bif r3 == 65535 then
    k (-1)
  else
    k r3
/-! ### loop.example/s0007/spec.l2All -/
def F.spec_l2All_l0_s {R : Type} (N : Nat) (x4 : Int) (x5 : Int) (x6 : List Int) (x7 : Int) (x8 : Int) (next : Int → Int → (List Int) → Int → Int → Option R) (ke0 : Unit → Option R) (kret : Bool → Option R) : Option R :=
  bif decide (x8 < x7) then
    bif inB x8 (List.length x6) then
      F.spec_l1Between (List.getD x6 (Int.toNat x8) (0 : Int)) x4 x5 fun r9 =>
      bif !r9 then
        kret false
      else
        next x4 x5 x6 x7 (wrapK .i64 (x8 + 1))
    else
      none
  else
    ke0 ()
def F.spec_l2All_l0 {R : Type} (N : Nat) : Nat → Int → Int → (List Int) → Int → Int → (Unit → Option R) → (Bool → Option R) → Option R
  | 0, _, _, _, _, _, _, _ => none
  | n + 1, x4, x5, x6, x7, x8, ke0, kret => F.spec_l2All_l0_s N x4 x5 x6 x7 x8 (fun x4 x5 x6 x7 x8 => F.spec_l2All_l0 N n x4 x5 x6 x7 x8 ke0 kret) ke0 kret
def F.spec_l2All {R : Type} (N : Nat) (x1 : List Int) (x2 : Int) (x3 : Int) (k : Bool → Option R) : Option R :=
  F.spec_l2All_l0 N N x2 x3 x1 (List.length x1 : Int) 0
    (fun _ =>
      k true)
    (fun y10 =>
      k y10)
/-! ### loop.example/s0007/spec.TableOK -/
def F.spec_TableOK_l0_s {R : Type} (N : Nat) (x12 : Int) (x13 : List Int) (x14 : Int) (x15 : Int) (x16 : List Int) (x17 : Int) (x18 : List Int) (x19 : List Int) (x20 : List Int) (x21 : List Int) (x22 : List Int) (x23 : List Int) (next : Int → (List Int) → Int → Int → (List Int) → Int → (List Int) → (List Int) → (List Int) → (List Int) → (List Int) → (List Int) → Option R) (ke0 : Int → (List Int) → Int → (List Int) → (List Int) → (List Int) → (List Int) → (List Int) → (List Int) → Option R) (kret : Bool → Int → (List Int) → Int → (List Int) → (List Int) → (List Int) → (List Int) → (List Int) → (List Int) → Option R) : Option R :=
  bif decide (x15 < x14) then
    bif inB x15 (List.length x13) then
      bif (List.getD x13 (Int.toNat x15) (0 : Int)) == (-1) then
        bif inB x15 (List.length x22) then
          bif (List.getD x22 (Int.toNat x15) (0 : Int)) != 0 then
            kret false x12 x16 x17 x18 x19 x20 x21 x22 x23
          else
            next x12 x13 x14 (wrapK .i64 (x15 + 1)) x16 x17 x18 x19 x20 x21 x22 x23
        else
          none
      else
        next x12 x13 x14 (wrapK .i64 (x15 + 1)) x16 x17 x18 x19 x20 x21 x22 x23
    else
      none
  else
    ke0 x12 x16 x17 x18 x19 x20 x21 x22 x23
def F.spec_TableOK_l0 {R : Type} (N : Nat) : Nat → Int → (List Int) → Int → Int → (List Int) → Int → (List Int) → (List Int) → (List Int) → (List Int) → (List Int) → (List Int) → (Int → (List Int) → Int → (List Int) → (List Int) → (List Int) → (List Int) → (List Int) → (List Int) → Option R) → (Bool → Int → (List Int) → Int → (List Int) → (List Int) → (List Int) → (List Int) → (List Int) → (List Int) → Option R) → Option R
  | 0, _, _, _, _, _, _, _, _, _, _, _, _, _, _ => none
  | n + 1, x12, x13, x14, x15, x16, x17, x18, x19, x20, x21, x22, x23, ke0, kret => F.spec_TableOK_l0_s N x12 x13 x14 x15 x16 x17 x18 x19 x20 x21 x22 x23 (fun x12 x13 x14 x15 x16 x17 x18 x19 x20 x21 x22 x23 => F.spec_TableOK_l0 N n x12 x13 x14 x15 x16 x17 x18 x19 x20 x21 x22 x23 ke0 kret) ke0 kret
def F.spec_TableOK {R : Type} (N : Nat) (x1 : List Int) (x2 : Int) (x3 : List Int) (x4 : List Int) (x5 : List Int) (x6 : List Int) (x7 : List Int) (x8 : List Int) (k : Bool → Option R) : Option R :=
  bif (List.length x1 : Int) != 256 then
    k false
  else
    F.spec_l1Between x2 1 256 fun r9 =>
    bif !r9 then
      k false
    else
      F.spec_l2All N x1 0 (wrapK .i64 (x2 - 1)) fun r10 =>
      bif !r10 then
        k false
      else
        F.spec_l1Between (List.length x3 : Int) 1 4000 fun r11 =>
        bif !r11 then
          k false
        else
          bif (List.length x4 : Int) != (List.length x3 : Int) then
            k false
          else
            bif (List.length x5 : Int) != (List.length x3 : Int) then
              k false
            else
              bif (List.length x6 : Int) != (List.length x3 : Int) then
                k false
              else
                bif (List.length x7 : Int) != (List.length x8 : Int) then
                  k false
                else
                  bif decide ((List.length x7 : Int) > 60000) then
                    k false
                  else
                    F.spec_TableOK_l0 N N (List.length x3 : Int) x8 (List.length x8 : Int) 0 x1 x2 x3 x4 x5 x6 x7 x8
                      (fun y24 y25 y26 y27 y28 y29 y30 y31 y32 =>
                        F.spec_l2All N y27 0 59999 fun r33 =>
                        bif r33 then
                          F.spec_l2All N y28 0 (wrapK .i64 (y24 - 1)) fun r34 =>
                          bif r34 then
                            F.spec_l2All N y29 (-1) 99 fun r35 =>
                            bif r35 then
                              F.spec_l2All N y30 (-1) 99 fun r36 =>
                              bif r36 then
                                F.spec_l2All N y32 (-1) (wrapK .i64 (y24 - 1)) fun r37 =>
                                bif r37 then
                                  F.spec_l2All N y31 0 (wrapK .i64 (y24 - 1)) fun r38 =>
                                  k r38
                                else
                                  k false
                              else
                                k false
                            else
                              k false
                          else
                            k false
                        else
                          k false)
                      (fun y39 y40 y41 y42 y43 y44 y45 y46 y47 y48 =>
                        k y39)
/-! ### loop.example/s0007/spec.Load -/
def F.spec_Load_l0_s {R : Type} (N : Nat) (x9 : List UInt8) (x10 : Int) (x11 : Int) (x12 : Int) (x13 : Int) (x14 : Int) (x15 : List Int) (x16 : List Int) (x17 : List Int) (x18 : List Int) (x19 : List Int) (x20 : List Int) (x21 : List Int) (x22 : List Int) (x23 : List Int) (x24 : List Int) (x25 : List Int) (x26 : List Int) (x27 : List Int) (x28 : List Int) (next : (List UInt8) → Int → Int → Int → Int → Int → (List Int) → (List Int) → (List Int) → (List Int) → (List Int) → (List Int) → (List Int) → (List Int) → (List Int) → (List Int) → (List Int) → (List Int) → (List Int) → (List Int) → Option R) (ke0 : (List UInt8) → Int → Int → Int → Int → (List Int) → (List Int) → (List Int) → (List Int) → (List Int) → (List Int) → (List Int) → (List Int) → (List Int) → (List Int) → (List Int) → (List Int) → (List Int) → (List Int) → Option R) : Option R :=
  bif decide (x12 < 256) then
    bif inB (wrapK .i64 (10 + x12)) (List.length x9) then
      bif Nat.ble (List.length x22 + List.length [wrapK .i64 (byteAt x9 (wrapK .i64 (10 + x12)))]) (bigOf 8) then
        next x9 x10 x11 (wrapK .i64 (x12 + 1)) x13 x14 x15 x16 x17 x18 x19 x20 x21 (x22 ++ [wrapK .i64 (byteAt x9 (wrapK .i64 (10 + x12)))]) x23 x24 x25 x26 x27 x28
      else
        none
    else
      none
  else
    ke0 x9 x10 x11 x13 x14 x15 x16 x17 x18 x19 x20 x21 x22 x23 x24 x25 x26 x27 x28
def F.spec_Load_l0 {R : Type} (N : Nat) : Nat → (List UInt8) → Int → Int → Int → Int → Int → (List Int) → (List Int) → (List Int) → (List Int) → (List Int) → (List Int) → (List Int) → (List Int) → (List Int) → (List Int) → (List Int) → (List Int) → (List Int) → (List Int) → ((List UInt8) → Int → Int → Int → Int → (List Int) → (List Int) → (List Int) → (List Int) → (List Int) → (List Int) → (List Int) → (List Int) → (List Int) → (List Int) → (List Int) → (List Int) → (List Int) → (List Int) → Option R) → Option R
  | 0, _, _, _, _, _, _, _, _, _, _, _, _, _, _, _, _, _, _, _, _, _ => none
  | n + 1, x9, x10, x11, x12, x13, x14, x15, x16, x17, x18, x19, x20, x21, x22, x23, x24, x25, x26, x27, x28, ke0 => F.spec_Load_l0_s N x9 x10 x11 x12 x13 x14 x15 x16 x17 x18 x19 x20 x21 x22 x23 x24 x25 x26 x27 x28 (fun x9 x10 x11 x12 x13 x14 x15 x16 x17 x18 x19 x20 x21 x22 x23 x24 x25 x26 x27 x28 => F.spec_Load_l0 N n x9 x10 x11 x12 x13 x14 x15 x16 x17 x18 x19 x20 x21 x22 x23 x24 x25 x26 x27 x28 ke0) ke0
def F.spec_Load_l2_s {R : Type} (N : Nat) (x48 : List UInt8) (x49 : Int) (x50 : Int) (x51 : Int) (x52 : Int) (x53 : Int) (x54 : List Int) (x55 : List Int) (x56 : List Int) (x57 : List Int) (x58 : List Int) (x59 : List Int) (x60 : List Int) (x61 : List Int) (x62 : List Int) (x63 : List Int) (x64 : List Int) (x65 : List Int) (x66 : List Int) (x67 : List Int) (next : (List UInt8) → Int → Int → Int → Int → Int → (List Int) → (List Int) → (List Int) → (List Int) → (List Int) → (List Int) → (List Int) → (List Int) → (List Int) → (List Int) → (List Int) → (List Int) → (List Int) → (List Int) → Option R) (ke2 : (List UInt8) → Int → Int → Int → Int → (List Int) → (List Int) → (List Int) → (List Int) → (List Int) → (List Int) → (List Int) → (List Int) → (List Int) → (List Int) → (List Int) → (List Int) → (List Int) → (List Int) → Option R) : Option R :=
  bif decide (x51 < x49) then
    F.spec_l3Num x48 (wrapK .i64 (266 + (wrapK .i64 (8 * x51)))) fun r68 =>
    bif Nat.ble (List.length x62 + List.length [r68]) (bigOf 8) then
      F.spec_l3Num x48 (wrapK .i64 ((wrapK .i64 (266 + (wrapK .i64 (8 * x51)))) + 2)) fun r69 =>
      bif Nat.ble (List.length x63 + List.length [r69]) (bigOf 8) then
        F.spec_l3Opt x48 (wrapK .i64 ((wrapK .i64 (266 + (wrapK .i64 (8 * x51)))) + 4)) fun r70 =>
        bif Nat.ble (List.length x64 + List.length [r70]) (bigOf 8) then
          F.spec_l3Opt x48 (wrapK .i64 ((wrapK .i64 (266 + (wrapK .i64 (8 * x51)))) + 6)) fun r71 =>
          bif Nat.ble (List.length x65 + List.length [r71]) (bigOf 8) then
            next x48 x49 x50 (wrapK .i64 (x51 + 1)) x52 x53 x54 x55 x56 x57 x58 x59 x60 x61 (x62 ++ [r68]) (x63 ++ [r69]) (x64 ++ [r70]) (x65 ++ [r71]) x66 x67
          else
            none
        else
          none
      else
        none
    else
      none
  else
    ke2 x48 x49 x50 x52 x53 x54 x55 x56 x57 x58 x59 x60 x61 x62 x63 x64 x65 x66 x67
def F.spec_Load_l2 {R : Type} (N : Nat) : Nat → (List UInt8) → Int → Int → Int → Int → Int → (List Int) → (List Int) → (List Int) → (List Int) → (List Int) → (List Int) → (List Int) → (List Int) → (List Int) → (List Int) → (List Int) → (List Int) → (List Int) → (List Int) → ((List UInt8) → Int → Int → Int → Int → (List Int) → (List Int) → (List Int) → (List Int) → (List Int) → (List Int) → (List Int) → (List Int) → (List Int) → (List Int) → (List Int) → (List Int) → (List Int) → (List Int) → Option R) → Option R
  | 0, _, _, _, _, _, _, _, _, _, _, _, _, _, _, _, _, _, _, _, _, _ => none
  | n + 1, x48, x49, x50, x51, x52, x53, x54, x55, x56, x57, x58, x59, x60, x61, x62, x63, x64, x65, x66, x67, ke2 => F.spec_Load_l2_s N x48 x49 x50 x51 x52 x53 x54 x55 x56 x57 x58 x59 x60 x61 x62 x63 x64 x65 x66 x67 (fun x48 x49 x50 x51 x52 x53 x54 x55 x56 x57 x58 x59 x60 x61 x62 x63 x64 x65 x66 x67 => F.spec_Load_l2 N n x48 x49 x50 x51 x52 x53 x54 x55 x56 x57 x58 x59 x60 x61 x62 x63 x64 x65 x66 x67 ke2) ke2
def F.spec_Load_l4_s {R : Type} (N : Nat) (x91 : List UInt8) (x92 : Int) (x93 : Int) (x94 : Int) (x95 : Int) (x96 : Int) (x97 : List Int) (x98 : List Int) (x99 : List Int) (x100 : List Int) (x101 : List Int) (x102 : List Int) (x103 : List Int) (x104 : List Int) (x105 : List Int) (x106 : List Int) (x107 : List Int) (x108 : List Int) (x109 : List Int) (x110 : List Int) (next : (List UInt8) → Int → Int → Int → Int → Int → (List Int) → (List Int) → (List Int) → (List Int) → (List Int) → (List Int) → (List Int) → (List Int) → (List Int) → (List Int) → (List Int) → (List Int) → (List Int) → (List Int) → Option R) (ke4 : Int → Int → (List Int) → (List Int) → (List Int) → (List Int) → (List Int) → (List Int) → (List Int) → (List Int) → (List Int) → (List Int) → (List Int) → (List Int) → (List Int) → (List Int) → Option R) : Option R :=
  bif decide (x94 < x93) then
    F.spec_l3Num x91 (wrapK .i64 ((wrapK .i64 (266 + (wrapK .i64 (8 * x92)))) + (wrapK .i64 (4 * x94)))) fun r111 =>
    bif Nat.ble (List.length x109 + List.length [r111]) (bigOf 8) then
      F.spec_l3Opt x91 (wrapK .i64 ((wrapK .i64 ((wrapK .i64 (266 + (wrapK .i64 (8 * x92)))) + (wrapK .i64 (4 * x94)))) + 2)) fun r112 =>
      bif Nat.ble (List.length x110 + List.length [r112]) (bigOf 8) then
        next x91 x92 x93 (wrapK .i64 (x94 + 1)) x95 x96 x97 x98 x99 x100 x101 x102 x103 x104 x105 x106 x107 x108 (x109 ++ [r111]) (x110 ++ [r112])
      else
        none
    else
      none
  else
    ke4 x95 x96 x97 x98 x99 x100 x101 x102 x103 x104 x105 x106 x107 x108 x109 x110
def F.spec_Load_l4 {R : Type} (N : Nat) : Nat → (List UInt8) → Int → Int → Int → Int → Int → (List Int) → (List Int) → (List Int) → (List Int) → (List Int) → (List Int) → (List Int) → (List Int) → (List Int) → (List Int) → (List Int) → (List Int) → (List Int) → (List Int) → (Int → Int → (List Int) → (List Int) → (List Int) → (List Int) → (List Int) → (List Int) → (List Int) → (List Int) → (List Int) → (List Int) → (List Int) → (List Int) → (List Int) → (List Int) → Option R) → Option R
  | 0, _, _, _, _, _, _, _, _, _, _, _, _, _, _, _, _, _, _, _, _, _ => none
  | n + 1, x91, x92, x93, x94, x95, x96, x97, x98, x99, x100, x101, x102, x103, x104, x105, x106, x107, x108, x109, x110, ke4 => F.spec_Load_l4_s N x91 x92 x93 x94 x95 x96 x97 x98 x99 x100 x101 x102 x103 x104 x105 x106 x107 x108 x109 x110 (fun x91 x92 x93 x94 x95 x96 x97 x98 x99 x100 x101 x102 x103 x104 x105 x106 x107 x108 x109 x110 => F.spec_Load_l4 N n x91 x92 x93 x94 x95 x96 x97 x98 x99 x100 x101 x102 x103 x104 x105 x106 x107 x108 x109 x110 ke4) ke4
def F.spec_Load {R : Type} (N : Nat) (x1 : List UInt8) (k : Int → Int → (List Int) → (List Int) → (List Int) → (List Int) → (List Int) → (List Int) → (List Int) → Option R) : Option R :=
  bif decide ((List.length x1 : Int) < 268) then
    k 0 1 ([] : List Int) ([] : List Int) ([] : List Int) ([] : List Int) ([] : List Int) ([] : List Int) ([] : List Int)
  else
    bif decide (0 ≤ 4) && decide (4 ≤ (List.length x1 : Int)) then
      bif !((List.drop 0 (List.take (Int.toNat 4) x1)) == [88, 68, 70, 49]) then
        k 0 2 ([] : List Int) ([] : List Int) ([] : List Int) ([] : List Int) ([] : List Int) ([] : List Int) ([] : List Int)
      else
        F.spec_l3Num x1 4 fun r2 =>
        F.spec_l3Num x1 6 fun r3 =>
        F.spec_l3Num x1 8 fun r4 =>
        F.spec_l1Between r2 1 4000 fun r5 =>
        bif !r5 then
          k 0 3 ([] : List Int) ([] : List Int) ([] : List Int) ([] : List Int) ([] : List Int) ([] : List Int) ([] : List Int)
        else
          F.spec_l1Between r3 1 256 fun r6 =>
          bif !r6 then
            k 0 3 ([] : List Int) ([] : List Int) ([] : List Int) ([] : List Int) ([] : List Int) ([] : List Int) ([] : List Int)
          else
            bif decide (r4 > 60000) then
              k 0 3 ([] : List Int) ([] : List Int) ([] : List Int) ([] : List Int) ([] : List Int) ([] : List Int) ([] : List Int)
            else
              bif (List.length x1 : Int) != (wrapK .i64 ((wrapK .i64 (268 + (wrapK .i64 (8 * r2)))) + (wrapK .i64 (4 * r4)))) then
                k 0 4 ([] : List Int) ([] : List Int) ([] : List Int) ([] : List Int) ([] : List Int) ([] : List Int) ([] : List Int)
              else
                bif decide (0 ≤ (wrapK .i64 ((List.length x1 : Int) - 2))) && decide ((wrapK .i64 ((List.length x1 : Int) - 2)) ≤ (List.length x1 : Int)) then
                  bif Nat.ble (List.length (List.drop 0 (List.take (Int.toNat (wrapK .i64 ((List.length x1 : Int) - 2))) x1))) big then
                    F.spec_l3Sum N (strInts (List.drop 0 (List.take (Int.toNat (wrapK .i64 ((List.length x1 : Int) - 2))) x1))) fun r7 =>
                    F.spec_l3Num x1 (wrapK .i64 ((List.length x1 : Int) - 2)) fun r8 =>
                    bif r7 != r8 then
                      k 0 5 ([] : List Int) ([] : List Int) ([] : List Int) ([] : List Int) ([] : List Int) ([] : List Int) ([] : List Int)
                    else
                      F.spec_Load_l0 N N x1 r2 r4 0 0 r3 ([] : List Int) ([] : List Int) ([] : List Int) ([] : List Int) ([] : List Int) ([] : List Int) ([] : List Int) ([] : List Int) ([] : List Int) ([] : List Int) ([] : List Int) ([] : List Int) ([] : List Int) ([] : List Int)
                        (fun y29 y30 y31 y32 y33 y34 y35 y36 y37 y38 y39 y40 y41 y42 y43 y44 y45 y46 y47 =>
                          F.spec_Load_l2 N N y29 y30 y31 0 y32 y33 y34 y35 y36 y37 y38 y39 y40 y41 y42 y43 y44 y45 y46 y47
                            (fun y72 y73 y74 y75 y76 y77 y78 y79 y80 y81 y82 y83 y84 y85 y86 y87 y88 y89 y90 =>
                              F.spec_Load_l4 N N y72 y73 y74 0 y75 y76 y77 y78 y79 y80 y81 y82 y83 y84 y85 y86 y87 y88 y89 y90
                                (fun y113 y114 y115 y116 y117 y118 y119 y120 y121 y122 y123 y124 y125 y126 y127 y128 =>
                                  F.spec_TableOK N y122 y114 y123 y124 y125 y126 y127 y128 fun r129 =>
                                  bif !r129 then
                                    k 0 6 ([] : List Int) ([] : List Int) ([] : List Int) ([] : List Int) ([] : List Int) ([] : List Int) ([] : List Int)
                                  else
                                    k y114 0 y122 y123 y124 y125 y126 y127 y128)))
                  else
                    none
                else
                  none
    else
      none
/-! ### loop.example/s0007/impl.must -/
def F.impl_must {R : Type} (x1 : Bool) (x2 : Int) (k0 : Int → Option R) (k1 : Unit → Option R) : Option R :=
  bif !x1 then
    k0 x2
  else
    k1 ()
/-! ### (*loop.example/s0007/impl.cursor).take -/
def F.impl_cursor_take {R : Type} (x1 : Int) (x2 : List Int) (k : Int → Int → (List Int) → (List Int) → (List Int) → (List Int) → (List Int) → (List Int) → (List Int) → (List Int) → Option R) : Option R :=
  bif inB 0 (List.length x2) then
    bif decide (0 ≤ 8) then
      bif inB 1 (List.length x2) then
        bif decide (0 ≤ 2) && decide (2 ≤ (List.length x2 : Int)) then
          k (wrapK .i64 ((BitVec.ofInt 64 (wrapK .i64 ((wrapK .i64 (List.getD x2 (Int.toNat 0) (0 : Int))) * 2 ^ min (Int.toNat 8) 64)) ||| BitVec.ofInt 64 (wrapK .i64 (List.getD x2 (Int.toNat 1) (0 : Int)))).toNat : Int)) x1 (List.take ((List.length x2) - (Int.toNat 2)) (List.drop (Int.toNat 2) x2)) ([] : List Int) ([] : List Int) ([] : List Int) ([] : List Int) ([] : List Int) ([] : List Int) ([] : List Int)
        else
          none
      else
        none
    else
      none
  else
    none
/-! ### (*loop.example/s0007/impl.cursor).take -/
def F.impl_cursor_take_v1 {R : Type} (x1 : Int) (x2 : List Int) (x3 : List Int) (x4 : List Int) (x5 : List Int) (x6 : List Int) (x7 : List Int) (x8 : List Int) (x9 : List Int) (k : Int → Int → (List Int) → (List Int) → (List Int) → (List Int) → (List Int) → (List Int) → (List Int) → (List Int) → Option R) : Option R :=
  bif inB 0 (List.length x2) then
    bif decide (0 ≤ 8) then
      bif inB 1 (List.length x2) then
        bif decide (0 ≤ 2) && decide (2 ≤ (List.length x2 : Int)) then
          k (wrapK .i64 ((BitVec.ofInt 64 (wrapK .i64 ((wrapK .i64 (List.getD x2 (Int.toNat 0) (0 : Int))) * 2 ^ min (Int.toNat 8) 64)) ||| BitVec.ofInt 64 (wrapK .i64 (List.getD x2 (Int.toNat 1) (0 : Int)))).toNat : Int)) x1 x3 x4 x5 x6 x7 x8 x9 (List.take ((List.length x2) - (Int.toNat 2)) (List.drop (Int.toNat 2) x2))
        else
          none
      else
        none
    else
      none
  else
    none
/-! ### (*loop.example/s0007/impl.cursor).take -/
def F.impl_cursor_take_v2 {R : Type} (x1 : List Int) (k : Int → (List Int) → Option R) : Option R :=
  bif inB 0 (List.length x1) then
    bif decide (0 ≤ 8) then
      bif inB 1 (List.length x1) then
        bif decide (0 ≤ 2) && decide (2 ≤ (List.length x1 : Int)) then
          k (wrapK .i64 ((BitVec.ofInt 64 (wrapK .i64 ((wrapK .i64 (List.getD x1 (Int.toNat 0) (0 : Int))) * 2 ^ min (Int.toNat 8) 64)) ||| BitVec.ofInt 64 (wrapK .i64 (List.getD x1 (Int.toNat 1) (0 : Int)))).toNat : Int)) (List.take ((List.length x1) - (Int.toNat 2)) (List.drop (Int.toNat 2) x1))
        else
          none
      else
        none
    else
      none
  else
    none
/-! ### loop.example/s0007/impl.sum -/
def F.impl_sum_l0_s {R : Type} (N : Nat) (x2 : Int) (x3 : List Int) (x4 : Int) (x5 : Int) (next : Int → (List Int) → Int → Int → Option R) (ke0 : Int → Option R) : Option R :=
  bif decide (x5 < x4) then
    bif inB x5 (List.length x3) then
      next (wrapK .i64 (x2 + (wrapK .i64 (List.getD x3 (Int.toNat x5) (0 : Int))))) x3 x4 (wrapK .i64 (x5 + 1))
    else
      none
  else
    ke0 x2
def F.impl_sum_l0 {R : Type} (N : Nat) : Nat → Int → (List Int) → Int → Int → (Int → Option R) → Option R
  | 0, _, _, _, _, _ => none
  | n + 1, x2, x3, x4, x5, ke0 => F.impl_sum_l0_s N x2 x3 x4 x5 (fun x2 x3 x4 x5 => F.impl_sum_l0 N n x2 x3 x4 x5 ke0) ke0
def F.impl_sum {R : Type} (N : Nat) (x1 : List Int) (k : Int → Option R) : Option R :=
  F.impl_sum_l0 N N 0 x1 (List.length x1 : Int) 0
    (fun y6 =>
      bif !(65536 == 0) then
        k (Int.tmod y6 65536)
      else
        none)
/-! ### (*loop.example/s0007/impl.imageReader).signed -/
def F.impl_imageReader_signed {R : Type} (x1 : Int) (x2 : List Int) (x3 : List Int) (x4 : List Int) (x5 : List Int) (x6 : List Int) (x7 : List Int) (x8 : List Int) (x9 : List Int) (k : Int → Int → (List Int) → (List Int) → (List Int) → (List Int) → (List Int) → (List Int) → (List Int) → (List Int) → Option R) : Option R :=
  F.impl_cursor_take_v1 x1 x2 x3 x4 x5 x6 x7 x8 x9 fun r10 r11 r12 r13 r14 r15 r16 r17 r18 r19 =>
  bif r10 == 65535 then
    k (-1) r11 r12 r13 r14 r15 r16 r17 r18 r19
  else
    k r10 r11 r12 r13 r14 r15 r16 r17 r18 r19
/-! ### loop.example/s0007/impl.DfaOK$1$1 -/
def F.impl_DfaOK_1_1 {R : Type} (x1 : Int) (x2 : Int) (x3 : Int) (k : Bool → Option R) : Option R :=
  bif decide (x1 < x2) then
    k true
  else
    k (decide (x1 > x3))
/-! ### slices.IndexFunc[[]int,int] -/
def F.slices_IndexFunc_l0_s {R : Type} (N : Nat) (x4 : List Int) (x5 : Int) (x6 : Int) (x7 : Int) (x8 : Int) (next : (List Int) → Int → Int → Int → Int → Option R) (ke0 : Int → Int → Option R) (kret : Int → Int → Int → Option R) : Option R :=
  bif decide (x6 < x5) then
    bif inB x6 (List.length x4) then
      F.impl_DfaOK_1_1 (List.getD x4 (Int.toNat x6) (0 : Int)) x7 x8 fun r9 =>
      bif r9 then
        kret x6 x7 x8
      else
        next x4 x5 (wrapK .i64 (x6 + 1)) x7 x8
    else
      none
  else
    ke0 x7 x8
def F.slices_IndexFunc_l0 {R : Type} (N : Nat) : Nat → (List Int) → Int → Int → Int → Int → (Int → Int → Option R) → (Int → Int → Int → Option R) → Option R
  | 0, _, _, _, _, _, _, _ => none
  | n + 1, x4, x5, x6, x7, x8, ke0, kret => F.slices_IndexFunc_l0_s N x4 x5 x6 x7 x8 (fun x4 x5 x6 x7 x8 => F.slices_IndexFunc_l0 N n x4 x5 x6 x7 x8 ke0 kret) ke0 kret
def F.slices_IndexFunc {R : Type} (N : Nat) (x1 : List Int) (x2 : Int) (x3 : Int) (k : Int → Int → Int → Option R) : Option R :=
  F.slices_IndexFunc_l0 N N x1 (List.length x1 : Int) 0 x2 x3
    (fun y10 y11 =>
      k (-1) y10 y11)
    (fun y12 y13 y14 =>
      k y12 y13 y14)
/-! ### slices.ContainsFunc[[]int,int] -/
def F.slices_ContainsFunc {R : Type} (N : Nat) (x1 : List Int) (x2 : Int) (x3 : Int) (k : Bool → Int → Int → Option R) : Option R :=
  F.slices_IndexFunc N x1 x2 x3 fun r4 r5 r6 =>
  k (decide (r4 ≥ 0)) r5 r6
/-! ### loop.example/s0007/impl.DfaOK$1 -/
def F.impl_DfaOK_1 {R : Type} (N : Nat) (x1 : List Int) (x2 : Int) (x3 : Int) (k : Bool → Option R) : Option R :=
  F.slices_ContainsFunc N x1 x2 x3 fun r4 r5 r6 =>
  k (!r4)
/-! ### loop.example/s0007/impl.DfaOK -/
def F.impl_DfaOK {R : Type} (N : Nat) (x1 : List Int) (x2 : Int) (x3 : List Int) (x4 : List Int) (x5 : List Int) (k : Bool → Option R) : Option R :=
  bif (List.length x1 : Int) != 256 then
    k false
  else
    bif decide (x2 < 1) then
      k false
    else
      bif decide (x2 > 256) then
        k false
      else
        bif decide ((List.length x4 : Int) < 1) then
          k false
        else
          bif decide ((List.length x4 : Int) > 4000) then
            k false
          else
            bif (List.length x5 : Int) != (List.length x4 : Int) then
              k false
            else
              bif (List.length x3 : Int) != (wrapK .i64 ((List.length x4 : Int) * x2)) then
                k false
              else
                F.impl_DfaOK_1 N x1 0 (wrapK .i64 (x2 - 1)) fun r6 =>
                bif r6 then
                  F.impl_DfaOK_1 N x3 0 (wrapK .i64 ((List.length x4 : Int) - 1)) fun r7 =>
                  bif r7 then
                    F.impl_DfaOK_1 N x4 (-1) 99 fun r8 =>
                    bif r8 then
                      F.impl_DfaOK_1 N x5 (-1) 99 fun r9 =>
                      k r9
                    else
                      k false
                  else
                    k false
                else
                  k false
/-! ### loop.example/s0007/impl.TableOK -/
def F.impl_TableOK_l0_s {R : Type} (N : Nat) (x10 : Int) (x11 : Int) (x12 : Int) (x13 : List Int) (x14 : Int) (x15 : List Int) (x16 : List Int) (x17 : List Int) (x18 : List Int) (x19 : List Int) (x20 : List Int) (next : Int → Int → Int → (List Int) → Int → (List Int) → (List Int) → (List Int) → (List Int) → (List Int) → (List Int) → Option R) (ke0 : Int → (List Int) → Int → (List Int) → (List Int) → (List Int) → (List Int) → (List Int) → (List Int) → Option R) (kret : Bool → Int → (List Int) → Int → (List Int) → (List Int) → (List Int) → (List Int) → (List Int) → (List Int) → Option R) : Option R :=
  bif decide (x12 < x11) then
    bif inB x12 (List.length x15) then
      bif decide ((List.getD x15 (Int.toNat x12) (0 : Int)) < 0) then
        kret false x10 x13 x14 x15 x16 x17 x18 x19 x20
      else
        bif inB x12 (List.length x15) then
          bif decide ((List.getD x15 (Int.toNat x12) (0 : Int)) ≥ 60000) then
            kret false x10 x13 x14 x15 x16 x17 x18 x19 x20
          else
            bif inB x12 (List.length x16) then
              bif decide ((List.getD x16 (Int.toNat x12) (0 : Int)) < 0) then
                kret false x10 x13 x14 x15 x16 x17 x18 x19 x20
              else
                bif inB x12 (List.length x16) then
                  bif decide ((List.getD x16 (Int.toNat x12) (0 : Int)) ≥ x10) then
                    kret false x10 x13 x14 x15 x16 x17 x18 x19 x20
                  else
                    next x10 x11 (wrapK .i64 (x12 + 1)) x13 x14 x15 x16 x17 x18 x19 x20
                else
                  none
            else
              none
        else
          none
    else
      none
  else
    ke0 x10 x13 x14 x15 x16 x17 x18 x19 x20
def F.impl_TableOK_l0 {R : Type} (N : Nat) : Nat → Int → Int → Int → (List Int) → Int → (List Int) → (List Int) → (List Int) → (List Int) → (List Int) → (List Int) → (Int → (List Int) → Int → (List Int) → (List Int) → (List Int) → (List Int) → (List Int) → (List Int) → Option R) → (Bool → Int → (List Int) → Int → (List Int) → (List Int) → (List Int) → (List Int) → (List Int) → (List Int) → Option R) → Option R
  | 0, _, _, _, _, _, _, _, _, _, _, _, _, _ => none
  | n + 1, x10, x11, x12, x13, x14, x15, x16, x17, x18, x19, x20, ke0, kret => F.impl_TableOK_l0_s N x10 x11 x12 x13 x14 x15 x16 x17 x18 x19 x20 (fun x10 x11 x12 x13 x14 x15 x16 x17 x18 x19 x20 => F.impl_TableOK_l0 N n x10 x11 x12 x13 x14 x15 x16 x17 x18 x19 x20 ke0 kret) ke0 kret
def F.impl_TableOK_l2_s {R : Type} (N : Nat) (x30 : Int) (x31 : List Int) (x32 : Int) (x33 : Int) (x34 : List Int) (x35 : Int) (x36 : List Int) (x37 : List Int) (x38 : List Int) (x39 : List Int) (x40 : List Int) (x41 : List Int) (next : Int → (List Int) → Int → Int → (List Int) → Int → (List Int) → (List Int) → (List Int) → (List Int) → (List Int) → (List Int) → Option R) (ke2 : Unit → Option R) (kret : Bool → Option R) : Option R :=
  bif decide (x33 < x32) then
    bif inB x33 (List.length x31) then
      bif decide ((List.getD x31 (Int.toNat x33) (0 : Int)) < (-1)) then
        kret false
      else
        bif decide ((List.getD x31 (Int.toNat x33) (0 : Int)) ≥ x30) then
          kret false
        else
          bif inB x33 (List.length x40) then
            bif decide ((List.getD x40 (Int.toNat x33) (0 : Int)) < 0) then
              kret false
            else
              bif inB x33 (List.length x40) then
                bif decide ((List.getD x40 (Int.toNat x33) (0 : Int)) ≥ x30) then
                  kret false
                else
                  bif (List.getD x31 (Int.toNat x33) (0 : Int)) == (-1) then
                    bif inB x33 (List.length x40) then
                      bif (List.getD x40 (Int.toNat x33) (0 : Int)) != 0 then
                        kret false
                      else
                        next x30 x31 x32 (wrapK .i64 (x33 + 1)) x34 x35 x36 x37 x38 x39 x40 x41
                    else
                      none
                  else
                    next x30 x31 x32 (wrapK .i64 (x33 + 1)) x34 x35 x36 x37 x38 x39 x40 x41
              else
                none
          else
            none
    else
      none
  else
    ke2 ()
def F.impl_TableOK_l2 {R : Type} (N : Nat) : Nat → Int → (List Int) → Int → Int → (List Int) → Int → (List Int) → (List Int) → (List Int) → (List Int) → (List Int) → (List Int) → (Unit → Option R) → (Bool → Option R) → Option R
  | 0, _, _, _, _, _, _, _, _, _, _, _, _, _, _ => none
  | n + 1, x30, x31, x32, x33, x34, x35, x36, x37, x38, x39, x40, x41, ke2, kret => F.impl_TableOK_l2_s N x30 x31 x32 x33 x34 x35 x36 x37 x38 x39 x40 x41 (fun x30 x31 x32 x33 x34 x35 x36 x37 x38 x39 x40 x41 => F.impl_TableOK_l2 N n x30 x31 x32 x33 x34 x35 x36 x37 x38 x39 x40 x41 ke2 kret) ke2 kret
def F.impl_TableOK {R : Type} (N : Nat) (x1 : List Int) (x2 : Int) (x3 : List Int) (x4 : List Int) (x5 : List Int) (x6 : List Int) (x7 : List Int) (x8 : List Int) (k : Bool → Option R) : Option R :=
  bif (List.length x4 : Int) != (List.length x3 : Int) then
    k false
  else
    bif (List.length x8 : Int) != (List.length x7 : Int) then
      k false
    else
      bif decide ((List.length x7 : Int) > 60000) then
        k false
      else
        bif decide ((List.length x3 : Int) < 1) then
          k false
        else
          bif decide ((List.length x3 : Int) > 4000) then
            k false
          else
            bif decide (x2 < 1) then
              k false
            else
              bif decide (x2 > 256) then
                k false
              else
                bif (List.length x5 : Int) != (List.length x3 : Int) then
                  k false
                else
                  bif decide (0 ≤ (wrapK .i64 ((List.length x3 : Int) * x2))) then
                    bif Nat.ble (Int.toNat (wrapK .i64 ((List.length x3 : Int) * x2))) (bigOf 8) then
                      F.impl_DfaOK N x1 x2 (List.replicate (Int.toNat (wrapK .i64 ((List.length x3 : Int) * x2))) (0 : Int)) x5 x6 fun r9 =>
                      bif !r9 then
                        k false
                      else
                        F.impl_TableOK_l0 N N (List.length x3 : Int) (List.length x3 : Int) 0 x1 x2 x3 x4 x5 x6 x7 x8
                          (fun y21 y22 y23 y24 y25 y26 y27 y28 y29 =>
                            F.impl_TableOK_l2 N N y21 y29 (List.length y29 : Int) 0 y22 y23 y24 y25 y26 y27 y28 y29
                              (fun _ =>
                                k true)
                              (fun y42 =>
                                k y42))
                          (fun y43 y44 y45 y46 y47 y48 y49 y50 y51 y52 =>
                            k y43)
                    else
                      none
                  else
                    none
/-! ### (*loop.example/s0007/impl.imageReader).read -/
def F.impl_imageReader_read_l0_s {R : Type} (N : Nat) (x41 : Int) (x42 : Int) (x43 : Nat) (x44 : Nat) (x45 : Int) (x46 : Int) (x47 : Int) (x48 : List Int) (x49 : List Int) (x50 : List Int) (x51 : List Int) (x52 : List Int) (x53 : List Int) (x54 : List Int) (x55 : List Int) (next : Int → Int → Nat → Nat → Int → Int → Int → (List Int) → (List Int) → (List Int) → (List Int) → (List Int) → (List Int) → (List Int) → (List Int) → Option R) (ke0 : Int → Int → Int → (List Int) → (List Int) → (List Int) → (List Int) → (List Int) → (List Int) → (List Int) → (List Int) → Option R) : Option R :=
  bif decide (x46 < x45) then
    bif inB x46 x44 then
      bif Nat.ble (List.length x49 + List.length [wrapK .i64 (List.getD x48 (x43 + Int.toNat x46) (0 : Int))]) (bigOf 8) then
        next x41 x42 x43 x44 x45 (wrapK .i64 (x46 + 1)) x47 x48 (x49 ++ [wrapK .i64 (List.getD x48 (x43 + Int.toNat x46) (0 : Int))]) x50 x51 x52 x53 x54 x55
      else
        none
    else
      none
  else
    ke0 x41 x42 x47 x48 x49 x50 x51 x52 x53 x54 x55
def F.impl_imageReader_read_l0 {R : Type} (N : Nat) : Nat → Int → Int → Nat → Nat → Int → Int → Int → (List Int) → (List Int) → (List Int) → (List Int) → (List Int) → (List Int) → (List Int) → (List Int) → (Int → Int → Int → (List Int) → (List Int) → (List Int) → (List Int) → (List Int) → (List Int) → (List Int) → (List Int) → Option R) → Option R
  | 0, _, _, _, _, _, _, _, _, _, _, _, _, _, _, _, _ => none
  | n + 1, x41, x42, x43, x44, x45, x46, x47, x48, x49, x50, x51, x52, x53, x54, x55, ke0 => F.impl_imageReader_read_l0_s N x41 x42 x43 x44 x45 x46 x47 x48 x49 x50 x51 x52 x53 x54 x55 (fun x41 x42 x43 x44 x45 x46 x47 x48 x49 x50 x51 x52 x53 x54 x55 => F.impl_imageReader_read_l0 N n x41 x42 x43 x44 x45 x46 x47 x48 x49 x50 x51 x52 x53 x54 x55 ke0) ke0
def F.impl_imageReader_read_l2_s {R : Type} (N : Nat) (x67 : Int) (x68 : Int) (x69 : Int) (x70 : Int) (x71 : List Int) (x72 : List Int) (x73 : List Int) (x74 : List Int) (x75 : List Int) (x76 : List Int) (x77 : List Int) (x78 : List Int) (next : Int → Int → Int → Int → (List Int) → (List Int) → (List Int) → (List Int) → (List Int) → (List Int) → (List Int) → (List Int) → Option R) (ke2 : Int → Int → (List Int) → (List Int) → (List Int) → (List Int) → (List Int) → (List Int) → (List Int) → (List Int) → Option R) : Option R :=
  bif decide (x69 < x68) then
    F.impl_cursor_take_v1 x70 x71 x72 x73 x74 x75 x76 x77 x78 fun r79 r80 r81 r82 r83 r84 r85 r86 r87 r88 =>
    bif Nat.ble (List.length r82 + List.length [r79]) (bigOf 8) then
      F.impl_cursor_take_v1 r80 r88 r81 (r82 ++ [r79]) r83 r84 r85 r86 r87 fun r89 r90 r91 r92 r93 r94 r95 r96 r97 r98 =>
      bif Nat.ble (List.length r93 + List.length [r89]) (bigOf 8) then
        F.impl_imageReader_signed r90 r98 r91 r92 (r93 ++ [r89]) r94 r95 r96 r97 fun r99 r100 r101 r102 r103 r104 r105 r106 r107 r108 =>
        bif Nat.ble (List.length r104 + List.length [r99]) (bigOf 8) then
          F.impl_imageReader_signed r100 r108 r101 r102 r103 (r104 ++ [r99]) r105 r106 r107 fun r109 r110 r111 r112 r113 r114 r115 r116 r117 r118 =>
          bif Nat.ble (List.length r115 + List.length [r109]) (bigOf 8) then
            next x67 x68 (wrapK .i64 (x69 + 1)) r110 r118 r111 r112 r113 r114 (r115 ++ [r109]) r116 r117
          else
            none
        else
          none
      else
        none
    else
      none
  else
    ke2 x67 x70 x71 x72 x73 x74 x75 x76 x77 x78
def F.impl_imageReader_read_l2 {R : Type} (N : Nat) : Nat → Int → Int → Int → Int → (List Int) → (List Int) → (List Int) → (List Int) → (List Int) → (List Int) → (List Int) → (List Int) → (Int → Int → (List Int) → (List Int) → (List Int) → (List Int) → (List Int) → (List Int) → (List Int) → (List Int) → Option R) → Option R
  | 0, _, _, _, _, _, _, _, _, _, _, _, _, _ => none
  | n + 1, x67, x68, x69, x70, x71, x72, x73, x74, x75, x76, x77, x78, ke2 => F.impl_imageReader_read_l2_s N x67 x68 x69 x70 x71 x72 x73 x74 x75 x76 x77 x78 (fun x67 x68 x69 x70 x71 x72 x73 x74 x75 x76 x77 x78 => F.impl_imageReader_read_l2 N n x67 x68 x69 x70 x71 x72 x73 x74 x75 x76 x77 x78 ke2) ke2
def F.impl_imageReader_read_l4_s {R : Type} (N : Nat) (x129 : Int) (x130 : Int) (x131 : Int) (x132 : List Int) (x133 : List Int) (x134 : List Int) (x135 : List Int) (x136 : List Int) (x137 : List Int) (x138 : List Int) (x139 : List Int) (next : Int → Int → Int → (List Int) → (List Int) → (List Int) → (List Int) → (List Int) → (List Int) → (List Int) → (List Int) → Option R) (ke4 : Int → (List Int) → (List Int) → (List Int) → (List Int) → (List Int) → (List Int) → (List Int) → (List Int) → Option R) : Option R :=
  bif decide (x130 < x129) then
    F.impl_cursor_take_v1 x131 x132 x133 x134 x135 x136 x137 x138 x139 fun r140 r141 r142 r143 r144 r145 r146 r147 r148 r149 =>
    bif Nat.ble (List.length r147 + List.length [r140]) (bigOf 8) then
      F.impl_imageReader_signed r141 r149 r142 r143 r144 r145 r146 (r147 ++ [r140]) r148 fun r150 r151 r152 r153 r154 r155 r156 r157 r158 r159 =>
      bif Nat.ble (List.length r158 + List.length [r150]) (bigOf 8) then
        next x129 (wrapK .i64 (x130 + 1)) r151 r159 r152 r153 r154 r155 r156 r157 (r158 ++ [r150])
      else
        none
    else
      none
  else
    ke4 x131 x132 x133 x134 x135 x136 x137 x138 x139
def F.impl_imageReader_read_l4 {R : Type} (N : Nat) : Nat → Int → Int → Int → (List Int) → (List Int) → (List Int) → (List Int) → (List Int) → (List Int) → (List Int) → (List Int) → (Int → (List Int) → (List Int) → (List Int) → (List Int) → (List Int) → (List Int) → (List Int) → (List Int) → Option R) → Option R
  | 0, _, _, _, _, _, _, _, _, _, _, _, _ => none
  | n + 1, x129, x130, x131, x132, x133, x134, x135, x136, x137, x138, x139, ke4 => F.impl_imageReader_read_l4_s N x129 x130 x131 x132 x133 x134 x135 x136 x137 x138 x139 (fun x129 x130 x131 x132 x133 x134 x135 x136 x137 x138 x139 => F.impl_imageReader_read_l4 N n x129 x130 x131 x132 x133 x134 x135 x136 x137 x138 x139 ke4) ke4
def F.impl_imageReader_read {R : Type} (N : Nat) (x1 : List UInt8) (x2 : Int) (k0 : Int → Option R) (k1 : Int → (List Int) → (List Int) → (List Int) → (List Int) → (List Int) → (List Int) → (List Int) → (List Int) → Option R) : Option R :=
  F.impl_must (decide ((List.length x1 : Int) ≥ 268)) 1
    (fun r3 =>
      k0 r3)
    (fun _ =>
      bif decide (0 ≤ 4) && decide (4 ≤ (List.length x1 : Int)) then
        F.impl_must ((List.drop 0 (List.take (Int.toNat 4) x1)) == [88, 68, 70, 49]) 2
          (fun r4 =>
            k0 r4)
          (fun _ =>
            bif decide (0 ≤ 4) && decide (4 ≤ (List.length x1 : Int)) then
              bif Nat.ble (List.length (List.drop (Int.toNat 4) (List.take (List.length x1) x1))) big then
                F.impl_cursor_take x2 (strInts (List.drop (Int.toNat 4) (List.take (List.length x1) x1))) fun r5 r6 r7 r8 r9 r10 r11 r12 r13 r14 =>
                F.impl_cursor_take_v1 r6 r7 r8 r9 r10 r11 r12 r13 r14 fun r15 r16 r17 r18 r19 r20 r21 r22 r23 r24 =>
                F.impl_cursor_take_v1 r16 r24 r17 r18 r19 r20 r21 r22 r23 fun r25 r26 r27 r28 r29 r30 r31 r32 r33 r34 =>
                bif decide (r5 ≥ 1) then
                  bif decide (r5 ≤ 4000) then
                    bif decide (r15 ≥ 1) then
                      bif decide (r15 ≤ 256) then
                        F.impl_must (decide (r25 ≤ 60000)) 3
                          (fun r35 =>
                            k0 r35)
                          (fun _ =>
                            F.impl_must ((List.length x1 : Int) == (wrapK .i64 ((wrapK .i64 (268 + (wrapK .i64 (8 * r5)))) + (wrapK .i64 (4 * r25))))) 4
                              (fun r36 =>
                                k0 r36)
                              (fun _ =>
                                bif decide (0 ≤ (wrapK .i64 ((List.length x1 : Int) - 2))) && decide ((wrapK .i64 ((List.length x1 : Int) - 2)) ≤ (List.length x1 : Int)) then
                                  bif Nat.ble (List.length (List.drop (Int.toNat (wrapK .i64 ((List.length x1 : Int) - 2))) (List.take (List.length x1) x1))) big then
                                    F.impl_cursor_take_v2 (strInts (List.drop (Int.toNat (wrapK .i64 ((List.length x1 : Int) - 2))) (List.take (List.length x1) x1))) fun r37 r38 =>
                                    bif decide (0 ≤ (wrapK .i64 ((List.length x1 : Int) - 2))) && decide ((wrapK .i64 ((List.length x1 : Int) - 2)) ≤ (List.length x1 : Int)) then
                                      bif Nat.ble (List.length (List.drop 0 (List.take (Int.toNat (wrapK .i64 ((List.length x1 : Int) - 2))) x1))) big then
                                        F.impl_sum N (strInts (List.drop 0 (List.take (Int.toNat (wrapK .i64 ((List.length x1 : Int) - 2))) x1))) fun r39 =>
                                        F.impl_must (r37 == r39) 5
                                          (fun r40 =>
                                            k0 r40)
                                          (fun _ =>
                                            bif decide (0 ≤ 256) && decide (256 ≤ (List.length r34 : Int)) then
                                              F.impl_imageReader_read_l0 N N r5 r25 0 ((Int.toNat 256) - 0) ((Int.toNat 256) - 0 : Int) 0 r15 r34 r27 r28 r29 r30 r31 r32 r33
                                                (fun y56 y57 y58 y59 y60 y61 y62 y63 y64 y65 y66 =>
                                                  bif decide (0 ≤ 256) && decide (256 ≤ (List.length y59 : Int)) then
                                                    F.impl_imageReader_read_l2 N N y57 y56 0 y58 (List.take ((List.length y59) - (Int.toNat 256)) (List.drop (Int.toNat 256) y59)) y60 y61 y62 y63 y64 y65 y66
                                                      (fun y119 y120 y121 y122 y123 y124 y125 y126 y127 y128 =>
                                                        F.impl_imageReader_read_l4 N N y119 0 y120 y121 y122 y123 y124 y125 y126 y127 y128
                                                          (fun y160 y161 y162 y163 y164 y165 y166 y167 y168 =>
                                                            F.impl_TableOK N y162 y160 y163 y164 y165 y166 y167 y168 fun r169 =>
                                                            F.impl_must r169 6
                                                              (fun r170 =>
                                                                k0 r170)
                                                              (fun _ =>
                                                                k1 y160 y161 y162 y163 y164 y165 y166 y167 y168)))
                                                  else
                                                    none)
                                            else
                                              none)
                                      else
                                        none
                                    else
                                      none
                                  else
                                    none
                                else
                                  none))
                      else
                        F.impl_must false 3
                          (fun r171 =>
                            k0 r171)
                          (fun _ =>
                            F.impl_must ((List.length x1 : Int) == (wrapK .i64 ((wrapK .i64 (268 + (wrapK .i64 (8 * r5)))) + (wrapK .i64 (4 * r25))))) 4
                              (fun r172 =>
                                k0 r172)
                              (fun _ =>
                                bif decide (0 ≤ (wrapK .i64 ((List.length x1 : Int) - 2))) && decide ((wrapK .i64 ((List.length x1 : Int) - 2)) ≤ (List.length x1 : Int)) then
                                  bif Nat.ble (List.length (List.drop (Int.toNat (wrapK .i64 ((List.length x1 : Int) - 2))) (List.take (List.length x1) x1))) big then
                                    F.impl_cursor_take_v2 (strInts (List.drop (Int.toNat (wrapK .i64 ((List.length x1 : Int) - 2))) (List.take (List.length x1) x1))) fun r173 r174 =>
                                    bif decide (0 ≤ (wrapK .i64 ((List.length x1 : Int) - 2))) && decide ((wrapK .i64 ((List.length x1 : Int) - 2)) ≤ (List.length x1 : Int)) then
                                      bif Nat.ble (List.length (List.drop 0 (List.take (Int.toNat (wrapK .i64 ((List.length x1 : Int) - 2))) x1))) big then
                                        F.impl_sum N (strInts (List.drop 0 (List.take (Int.toNat (wrapK .i64 ((List.length x1 : Int) - 2))) x1))) fun r175 =>
                                        F.impl_must (r173 == r175) 5
                                          (fun r176 =>
                                            k0 r176)
                                          (fun _ =>
                                            bif decide (0 ≤ 256) && decide (256 ≤ (List.length r34 : Int)) then
                                              F.impl_imageReader_read_l0 N N r5 r25 0 ((Int.toNat 256) - 0) ((Int.toNat 256) - 0 : Int) 0 r15 r34 r27 r28 r29 r30 r31 r32 r33
                                                (fun y177 y178 y179 y180 y181 y182 y183 y184 y185 y186 y187 =>
                                                  bif decide (0 ≤ 256) && decide (256 ≤ (List.length y180 : Int)) then
                                                    F.impl_imageReader_read_l2 N N y178 y177 0 y179 (List.take ((List.length y180) - (Int.toNat 256)) (List.drop (Int.toNat 256) y180)) y181 y182 y183 y184 y185 y186 y187
                                                      (fun y188 y189 y190 y191 y192 y193 y194 y195 y196 y197 =>
                                                        F.impl_imageReader_read_l4 N N y188 0 y189 y190 y191 y192 y193 y194 y195 y196 y197
                                                          (fun y198 y199 y200 y201 y202 y203 y204 y205 y206 =>
                                                            F.impl_TableOK N y200 y198 y201 y202 y203 y204 y205 y206 fun r207 =>
                                                            F.impl_must r207 6
                                                              (fun r208 =>
                                                                k0 r208)
                                                              (fun _ =>
                                                                k1 y198 y199 y200 y201 y202 y203 y204 y205 y206)))
                                                  else
                                                    none)
                                            else
                                              none)
                                      else
                                        none
                                    else
                                      none
                                  else
                                    none
                                else
                                  none))
                    else
                      F.impl_must false 3
                        (fun r209 =>
                          k0 r209)
                        (fun _ =>
                          F.impl_must ((List.length x1 : Int) == (wrapK .i64 ((wrapK .i64 (268 + (wrapK .i64 (8 * r5)))) + (wrapK .i64 (4 * r25))))) 4
                            (fun r210 =>
                              k0 r210)
                            (fun _ =>
                              bif decide (0 ≤ (wrapK .i64 ((List.length x1 : Int) - 2))) && decide ((wrapK .i64 ((List.length x1 : Int) - 2)) ≤ (List.length x1 : Int)) then
                                bif Nat.ble (List.length (List.drop (Int.toNat (wrapK .i64 ((List.length x1 : Int) - 2))) (List.take (List.length x1) x1))) big then
                                  F.impl_cursor_take_v2 (strInts (List.drop (Int.toNat (wrapK .i64 ((List.length x1 : Int) - 2))) (List.take (List.length x1) x1))) fun r211 r212 =>
                                  bif decide (0 ≤ (wrapK .i64 ((List.length x1 : Int) - 2))) && decide ((wrapK .i64 ((List.length x1 : Int) - 2)) ≤ (List.length x1 : Int)) then
                                    bif Nat.ble (List.length (List.drop 0 (List.take (Int.toNat (wrapK .i64 ((List.length x1 : Int) - 2))) x1))) big then
                                      F.impl_sum N (strInts (List.drop 0 (List.take (Int.toNat (wrapK .i64 ((List.length x1 : Int) - 2))) x1))) fun r213 =>
                                      F.impl_must (r211 == r213) 5
                                        (fun r214 =>
                                          k0 r214)
                                        (fun _ =>
                                          bif decide (0 ≤ 256) && decide (256 ≤ (List.length r34 : Int)) then
                                            F.impl_imageReader_read_l0 N N r5 r25 0 ((Int.toNat 256) - 0) ((Int.toNat 256) - 0 : Int) 0 r15 r34 r27 r28 r29 r30 r31 r32 r33
                                              (fun y215 y216 y217 y218 y219 y220 y221 y222 y223 y224 y225 =>
                                                bif decide (0 ≤ 256) && decide (256 ≤ (List.length y218 : Int)) then
                                                  F.impl_imageReader_read_l2 N N y216 y215 0 y217 (List.take ((List.length y218) - (Int.toNat 256)) (List.drop (Int.toNat 256) y218)) y219 y220 y221 y222 y223 y224 y225
                                                    (fun y226 y227 y228 y229 y230 y231 y232 y233 y234 y235 =>
                                                      F.impl_imageReader_read_l4 N N y226 0 y227 y228 y229 y230 y231 y232 y233 y234 y235
                                                        (fun y236 y237 y238 y239 y240 y241 y242 y243 y244 =>
                                                          F.impl_TableOK N y238 y236 y239 y240 y241 y242 y243 y244 fun r245 =>
                                                          F.impl_must r245 6
                                                            (fun r246 =>
                                                              k0 r246)
                                                            (fun _ =>
                                                              k1 y236 y237 y238 y239 y240 y241 y242 y243 y244)))
                                                else
                                                  none)
                                          else
                                            none)
                                    else
                                      none
                                  else
                                    none
                                else
                                  none
                              else
                                none))
                  else
                    F.impl_must false 3
                      (fun r247 =>
                        k0 r247)
                      (fun _ =>
                        F.impl_must ((List.length x1 : Int) == (wrapK .i64 ((wrapK .i64 (268 + (wrapK .i64 (8 * r5)))) + (wrapK .i64 (4 * r25))))) 4
                          (fun r248 =>
                            k0 r248)
                          (fun _ =>
                            bif decide (0 ≤ (wrapK .i64 ((List.length x1 : Int) - 2))) && decide ((wrapK .i64 ((List.length x1 : Int) - 2)) ≤ (List.length x1 : Int)) then
                              bif Nat.ble (List.length (List.drop (Int.toNat (wrapK .i64 ((List.length x1 : Int) - 2))) (List.take (List.length x1) x1))) big then
                                F.impl_cursor_take_v2 (strInts (List.drop (Int.toNat (wrapK .i64 ((List.length x1 : Int) - 2))) (List.take (List.length x1) x1))) fun r249 r250 =>
                                bif decide (0 ≤ (wrapK .i64 ((List.length x1 : Int) - 2))) && decide ((wrapK .i64 ((List.length x1 : Int) - 2)) ≤ (List.length x1 : Int)) then
                                  bif Nat.ble (List.length (List.drop 0 (List.take (Int.toNat (wrapK .i64 ((List.length x1 : Int) - 2))) x1))) big then
                                    F.impl_sum N (strInts (List.drop 0 (List.take (Int.toNat (wrapK .i64 ((List.length x1 : Int) - 2))) x1))) fun r251 =>
                                    F.impl_must (r249 == r251) 5
                                      (fun r252 =>
                                        k0 r252)
                                      (fun _ =>
                                        bif decide (0 ≤ 256) && decide (256 ≤ (List.length r34 : Int)) then
                                          F.impl_imageReader_read_l0 N N r5 r25 0 ((Int.toNat 256) - 0) ((Int.toNat 256) - 0 : Int) 0 r15 r34 r27 r28 r29 r30 r31 r32 r33
                                            (fun y253 y254 y255 y256 y257 y258 y259 y260 y261 y262 y263 =>
                                              bif decide (0 ≤ 256) && decide (256 ≤ (List.length y256 : Int)) then
                                                F.impl_imageReader_read_l2 N N y254 y253 0 y255 (List.take ((List.length y256) - (Int.toNat 256)) (List.drop (Int.toNat 256) y256)) y257 y258 y259 y260 y261 y262 y263
                                                  (fun y264 y265 y266 y267 y268 y269 y270 y271 y272 y273 =>
                                                    F.impl_imageReader_read_l4 N N y264 0 y265 y266 y267 y268 y269 y270 y271 y272 y273
                                                      (fun y274 y275 y276 y277 y278 y279 y280 y281 y282 =>
                                                        F.impl_TableOK N y276 y274 y277 y278 y279 y280 y281 y282 fun r283 =>
                                                        F.impl_must r283 6
                                                          (fun r284 =>
                                                            k0 r284)
                                                          (fun _ =>
                                                            k1 y274 y275 y276 y277 y278 y279 y280 y281 y282)))
                                              else
                                                none)
                                        else
                                          none)
                                  else
                                    none
                                else
                                  none
                              else
                                none
                            else
                              none))
                else
                  F.impl_must false 3
                    (fun r285 =>
                      k0 r285)
                    (fun _ =>
                      F.impl_must ((List.length x1 : Int) == (wrapK .i64 ((wrapK .i64 (268 + (wrapK .i64 (8 * r5)))) + (wrapK .i64 (4 * r25))))) 4
                        (fun r286 =>
                          k0 r286)
                        (fun _ =>
                          bif decide (0 ≤ (wrapK .i64 ((List.length x1 : Int) - 2))) && decide ((wrapK .i64 ((List.length x1 : Int) - 2)) ≤ (List.length x1 : Int)) then
                            bif Nat.ble (List.length (List.drop (Int.toNat (wrapK .i64 ((List.length x1 : Int) - 2))) (List.take (List.length x1) x1))) big then
                              F.impl_cursor_take_v2 (strInts (List.drop (Int.toNat (wrapK .i64 ((List.length x1 : Int) - 2))) (List.take (List.length x1) x1))) fun r287 r288 =>
                              bif decide (0 ≤ (wrapK .i64 ((List.length x1 : Int) - 2))) && decide ((wrapK .i64 ((List.length x1 : Int) - 2)) ≤ (List.length x1 : Int)) then
                                bif Nat.ble (List.length (List.drop 0 (List.take (Int.toNat (wrapK .i64 ((List.length x1 : Int) - 2))) x1))) big then
                                  F.impl_sum N (strInts (List.drop 0 (List.take (Int.toNat (wrapK .i64 ((List.length x1 : Int) - 2))) x1))) fun r289 =>
                                  F.impl_must (r287 == r289) 5
                                    (fun r290 =>
                                      k0 r290)
                                    (fun _ =>
                                      bif decide (0 ≤ 256) && decide (256 ≤ (List.length r34 : Int)) then
                                        F.impl_imageReader_read_l0 N N r5 r25 0 ((Int.toNat 256) - 0) ((Int.toNat 256) - 0 : Int) 0 r15 r34 r27 r28 r29 r30 r31 r32 r33
                                          (fun y291 y292 y293 y294 y295 y296 y297 y298 y299 y300 y301 =>
                                            bif decide (0 ≤ 256) && decide (256 ≤ (List.length y294 : Int)) then
                                              F.impl_imageReader_read_l2 N N y292 y291 0 y293 (List.take ((List.length y294) - (Int.toNat 256)) (List.drop (Int.toNat 256) y294)) y295 y296 y297 y298 y299 y300 y301
                                                (fun y302 y303 y304 y305 y306 y307 y308 y309 y310 y311 =>
                                                  F.impl_imageReader_read_l4 N N y302 0 y303 y304 y305 y306 y307 y308 y309 y310 y311
                                                    (fun y312 y313 y314 y315 y316 y317 y318 y319 y320 =>
                                                      F.impl_TableOK N y314 y312 y315 y316 y317 y318 y319 y320 fun r321 =>
                                                      F.impl_must r321 6
                                                        (fun r322 =>
                                                          k0 r322)
                                                        (fun _ =>
                                                          k1 y312 y313 y314 y315 y316 y317 y318 y319 y320)))
                                            else
                                              none)
                                      else
                                        none)
                                else
                                  none
                              else
                                none
                            else
                              none
                          else
                            none))
              else
                none
            else
              none)
      else
        none)
/-! ### loop.example/s0007/impl.Load -/
def F.impl_Load {R : Type} (N : Nat) (x1 : List UInt8) (k : Int → Int → (List Int) → (List Int) → (List Int) → (List Int) → (List Int) → (List Int) → (List Int) → Option R) : Option R :=
  F.impl_imageReader_read N x1 0
    (fun r2 =>
      k 0 r2 ([] : List Int) ([] : List Int) ([] : List Int) ([] : List Int) ([] : List Int) ([] : List Int) ([] : List Int))
    (fun r3 r4 r5 r6 r7 r8 r9 r10 r11 =>
      k r3 0 r5 r6 r7 r8 r9 r10 r11)
/-! ### loop.example/s0007/laws.eqIntS -/
def F.laws_eqIntS_l0_s {R : Type} (N : Nat) (x3 : List Int) (x4 : List Int) (x5 : Int) (next : (List Int) → (List Int) → Int → Option R) (ke0 : Unit → Option R) (kret : Bool → Option R) : Option R :=
  bif decide (x5 < (List.length x3 : Int)) then
    bif inB x5 (List.length x3) then
      bif inB x5 (List.length x4) then
        bif (List.getD x3 (Int.toNat x5) (0 : Int)) != (List.getD x4 (Int.toNat x5) (0 : Int)) then
          kret false
        else
          next x3 x4 (wrapK .i64 (x5 + 1))
      else
        none
    else
      none
  else
    ke0 ()
def F.laws_eqIntS_l0 {R : Type} (N : Nat) : Nat → (List Int) → (List Int) → Int → (Unit → Option R) → (Bool → Option R) → Option R
  | 0, _, _, _, _, _ => none
  | n + 1, x3, x4, x5, ke0, kret => F.laws_eqIntS_l0_s N x3 x4 x5 (fun x3 x4 x5 => F.laws_eqIntS_l0 N n x3 x4 x5 ke0 kret) ke0 kret
def F.laws_eqIntS {R : Type} (N : Nat) (x1 : List Int) (x2 : List Int) (k : Bool → Option R) : Option R :=
  bif (List.length x1 : Int) != (List.length x2 : Int) then
    k false
  else
    F.laws_eqIntS_l0 N N x1 x2 0
      (fun _ =>
        k true)
      (fun y6 =>
        k y6)
/-! ### loop.example/s0007/laws.eqTable -/
def F.laws_eqTable {R : Type} (N : Nat) (x1 : List Int) (x2 : Int) (x3 : List Int) (x4 : List Int) (x5 : List Int) (x6 : List Int) (x7 : List Int) (x8 : List Int) (x9 : List Int) (x10 : Int) (x11 : List Int) (x12 : List Int) (x13 : List Int) (x14 : List Int) (x15 : List Int) (x16 : List Int) (k : Bool → Option R) : Option R :=
  F.laws_eqIntS N x1 x9 fun r17 =>
  bif !r17 then
    k false
  else
    bif x2 != x10 then
      k false
    else
      F.laws_eqIntS N x3 x11 fun r18 =>
      bif !r18 then
        k false
      else
        F.laws_eqIntS N x4 x12 fun r19 =>
        bif !r19 then
          k false
        else
          F.laws_eqIntS N x5 x13 fun r20 =>
          bif !r20 then
            k false
          else
            F.laws_eqIntS N x6 x14 fun r21 =>
            bif !r21 then
              k false
            else
              F.laws_eqIntS N x7 x15 fun r22 =>
              bif !r22 then
                k false
              else
                F.laws_eqIntS N x8 x16 fun r23 =>
                bif !r23 then
                  k false
                else
                  k true
/-! ### loop.example/s0007/laws.markIntS -/
def F.laws_markIntS_l0_s {R : Type} (N : Nat) (x3 : Int) (x4 : Int) (x5 : List Int) (next : Int → Int → (List Int) → Option R) (ke0 : Int → (List Int) → Option R) : Option R :=
  bif decide (x4 < (List.length x5 : Int)) then
    bif inB x4 (List.length x5) then
      next (wrapK .i64 (x3 + 1)) (wrapK .i64 (x4 + 1)) (List.set x5 (Int.toNat x4) x3)
    else
      none
  else
    ke0 x3 x5
def F.laws_markIntS_l0 {R : Type} (N : Nat) : Nat → Int → Int → (List Int) → (Int → (List Int) → Option R) → Option R
  | 0, _, _, _, _ => none
  | n + 1, x3, x4, x5, ke0 => F.laws_markIntS_l0_s N x3 x4 x5 (fun x3 x4 x5 => F.laws_markIntS_l0 N n x3 x4 x5 ke0) ke0
def F.laws_markIntS {R : Type} (N : Nat) (x1 : Int) (x2 : List Int) (k : Int → (List Int) → Option R) : Option R :=
  F.laws_markIntS_l0 N N x1 0 x2
    (fun y6 y7 =>
      k y6 y7)
/-! ### loop.example/s0007/laws.markTable -/
def F.laws_markTable {R : Type} (N : Nat) (x1 : Int) (x2 : Int) (x3 : List Int) (x4 : List Int) (x5 : List Int) (x6 : List Int) (x7 : List Int) (x8 : List Int) (x9 : List Int) (k : Int → (List Int) → (List Int) → (List Int) → (List Int) → (List Int) → (List Int) → (List Int) → Option R) : Option R :=
  F.laws_markIntS N x2 x3 fun r10 r11 =>
  F.laws_markIntS N r10 x4 fun r12 r13 =>
  F.laws_markIntS N r12 x5 fun r14 r15 =>
  F.laws_markIntS N r14 x6 fun r16 r17 =>
  F.laws_markIntS N r16 x7 fun r18 r19 =>
  F.laws_markIntS N r18 x8 fun r20 r21 =>
  F.laws_markIntS N r20 x9 fun r22 r23 =>
  k r22 r11 r13 r15 r17 r19 r21 r23
/-! ### loop.example/s0007/laws.heldIntS -/
def F.laws_heldIntS_l0_s {R : Type} (N : Nat) (x3 : List Int) (x4 : Int) (x5 : Int) (next : (List Int) → Int → Int → Option R) (ke0 : Int → Option R) (kret : Int → Int → Option R) : Option R :=
  bif decide (x5 < (List.length x3 : Int)) then
    bif inB x5 (List.length x3) then
      bif (List.getD x3 (Int.toNat x5) (0 : Int)) != x4 then
        kret x4 (-1)
      else
        next x3 (wrapK .i64 (x4 + 1)) (wrapK .i64 (x5 + 1))
    else
      none
  else
    ke0 x4
def F.laws_heldIntS_l0 {R : Type} (N : Nat) : Nat → (List Int) → Int → Int → (Int → Option R) → (Int → Int → Option R) → Option R
  | 0, _, _, _, _, _ => none
  | n + 1, x3, x4, x5, ke0, kret => F.laws_heldIntS_l0_s N x3 x4 x5 (fun x3 x4 x5 => F.laws_heldIntS_l0 N n x3 x4 x5 ke0 kret) ke0 kret
def F.laws_heldIntS {R : Type} (N : Nat) (x1 : List Int) (x2 : Int) (k : Int → Option R) : Option R :=
  F.laws_heldIntS_l0 N N x1 x2 0
    (fun y6 =>
      k y6)
    (fun y7 y8 =>
      k y8)
/-! ### loop.example/s0007/laws.heldTable -/
def F.laws_heldTable {R : Type} (N : Nat) (x1 : List Int) (x2 : Int) (x3 : List Int) (x4 : List Int) (x5 : List Int) (x6 : List Int) (x7 : List Int) (x8 : List Int) (x9 : Int) (k : Int → Option R) : Option R :=
  F.laws_heldIntS N x1 x9 fun r10 =>
  bif decide (r10 < 0) then
    k (-1)
  else
    F.laws_heldIntS N x3 r10 fun r11 =>
    bif decide (r11 < 0) then
      k (-1)
    else
      F.laws_heldIntS N x4 r11 fun r12 =>
      bif decide (r12 < 0) then
        k (-1)
      else
        F.laws_heldIntS N x5 r12 fun r13 =>
        bif decide (r13 < 0) then
          k (-1)
        else
          F.laws_heldIntS N x6 r13 fun r14 =>
          bif decide (r14 < 0) then
            k (-1)
          else
            F.laws_heldIntS N x7 r14 fun r15 =>
            bif decide (r15 < 0) then
              k (-1)
            else
              F.laws_heldIntS N x8 r15 fun r16 =>
              bif decide (r16 < 0) then
                k (-1)
              else
                k r16
/-! ### loop.example/s0007/laws.FnExactLoad -/
def F.laws_FnExactLoad {R : Type} (N : Nat) (x1 : List UInt8) (k : Bool → Option R) : Option R :=
  bif decide ((List.length x1 : Int) > 1048576) then
    k true
  else
    F.spec_Load N x1 fun r2 r3 r4 r5 r6 r7 r8 r9 r10 =>
    F.impl_Load N x1 fun r11 r12 r13 r14 r15 r16 r17 r18 r19 =>
    F.laws_eqTable N r13 r11 r14 r15 r16 r17 r18 r19 r4 r2 r5 r6 r7 r8 r9 r10 fun r20 =>
    bif !r20 then
      k false
    else
      bif r12 != r3 then
        k false
      else
        F.laws_markTable N r11 1 r13 r14 r15 r16 r17 r18 r19 fun r21 r22 r23 r24 r25 r26 r27 r28 =>
        F.laws_heldTable N r22 r11 r23 r24 r25 r26 r27 r28 1 fun r29 =>
        bif decide (r29 < 0) then
          k false
        else
          bif r29 != r21 then
            k false
          else
            F.impl_Load N x1 fun r30 r31 r32 r33 r34 r35 r36 r37 r38 =>
            F.laws_eqTable N r32 r30 r33 r34 r35 r36 r37 r38 r4 r2 r5 r6 r7 r8 r9 r10 fun r39 =>
            bif !r39 then
              k false
            else
              bif r31 != r3 then
                k false
              else
                k true
end Go.Proofs.Ytclfonfegenfiaa.fnExactLoad
