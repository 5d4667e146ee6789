/- What the Go functions that the law uses answer, as plain functions. -/
import Derived.Test.YtclfonfegenfiaaEa
set_option linter.unusedVariables false
namespace Go.Proofs.Ytclfonfegenfiaa.fnExactMinimize
open Go.Ev
/-! ### loop.example/s0007/laws.szIntS -/
def F.laws_szIntS {R : Type} (x1 : List Int) (x2 : Int) (k : Int → Option R) : Option R :=
  bif decide ((wrapK .i64 (x2 - (List.length x1 : Int))) < 0) then
    k (-1)
  else
    k (wrapK .i64 (x2 - (List.length x1 : Int)))
/-! ### loop.example/s0007/laws.szDfa -/
def F.laws_szDfa {R : Type} (x1 : List Int) (x2 : Int) (x3 : List Int) (x4 : List Int) (x5 : List Int) (x6 : Int) (k : Int → Option R) : Option R :=
  F.laws_szIntS x1 x6 fun r7 =>
  bif decide (r7 < 0) then
    k (-1)
  else
    F.laws_szIntS x3 r7 fun r8 =>
    bif decide (r8 < 0) then
      k (-1)
    else
      F.laws_szIntS x4 r8 fun r9 =>
      bif decide (r9 < 0) then
        k (-1)
      else
        F.laws_szIntS x5 r9 fun r10 =>
        bif decide (r10 < 0) then
          k (-1)
        else
          k r10
/-! ### loop.example/s0007/laws.toIntS -/
def F.laws_toIntS_l0_s {R : Type} (N : Nat) (x2 : List Int) (x3 : Int) (x4 : List Int) (next : (List Int) → Int → (List Int) → Option R) (ke0 : (List Int) → Option R) : Option R :=
  bif decide (x3 < (List.length x2 : Int)) then
    bif inB x3 (List.length x2) then
      bif inB x3 (List.length x4) then
        next x2 (wrapK .i64 (x3 + 1)) (List.set x4 (Int.toNat x3) (List.getD x2 (Int.toNat x3) (0 : Int)))
      else
        none
    else
      none
  else
    ke0 x4
def F.laws_toIntS_l0 {R : Type} (N : Nat) : Nat → (List Int) → Int → (List Int) → ((List Int) → Option R) → Option R
  | 0, _, _, _, _ => none
  | n + 1, x2, x3, x4, ke0 => F.laws_toIntS_l0_s N x2 x3 x4 (fun x2 x3 x4 => F.laws_toIntS_l0 N n x2 x3 x4 ke0) ke0
def F.laws_toIntS {R : Type} (N : Nat) (x1 : List Int) (k : (List Int) → Option R) : Option R :=
  bif decide (0 ≤ (List.length x1 : Int)) then
    bif Nat.ble (Int.toNat (List.length x1 : Int)) (bigOf 8) then
      F.laws_toIntS_l0 N N x1 0 (List.replicate (Int.toNat (List.length x1 : Int)) (0 : Int))
        (fun y5 =>
          k y5)
    else
      none
  else
    none
/-! ### loop.example/s0007/laws.toDfa -/
def F.laws_toDfa {R : Type} (N : Nat) (x1 : List Int) (x2 : Int) (x3 : List Int) (x4 : List Int) (x5 : List Int) (k : Int → (List Int) → (List Int) → (List Int) → (List Int) → Option R) : Option R :=
  F.laws_toIntS N x1 fun r6 =>
  F.laws_toIntS N x3 fun r7 =>
  F.laws_toIntS N x4 fun r8 =>
  F.laws_toIntS N x5 fun r9 =>
  k x2 r6 r7 r8 r9
/-! ### loop.example/s0007/spec.l1Between -/
def F.spec_l1Between {R : Type} (x1 : Int) (x2 : Int) (x3 : Int) (k : Bool → Option R) : Option R :=
  bif decide (x2 ≤ x1) then
    k (decide (x1 ≤ x3))
  else
    k false
/-! ### loop.example/s0007/spec.l2All -/
def F.spec_l2All_l0_s {R : Type} (N : Nat) (x4 : Int) (x5 : Int) (x6 : List Int) (x7 : Int) (x8 : Int) (next : Int → Int → (List Int) → Int → Int → Option R) (ke0 : Unit → Option R) (kret : Bool → Option R) : Option R :=
  bif decide (x8 < x7) then
    bif inB x8 (List.length x6) then
      F.spec_l1Between (List.getD x6 (Int.toNat x8) (0 : Int)) x4 x5 fun r9 =>
      bif !r9 then
        kret false
      else
        next x4 x5 x6 x7 (wrapK .i64 (x8 + 1))
    else
      none
  else
    ke0 ()
def F.spec_l2All_l0 {R : Type} (N : Nat) : Nat → Int → Int → (List Int) → Int → Int → (Unit → Option R) → (Bool → Option R) → Option R
  | 0, _, _, _, _, _, _, _ => none
  | n + 1, x4, x5, x6, x7, x8, ke0, kret => F.spec_l2All_l0_s N x4 x5 x6 x7 x8 (fun x4 x5 x6 x7 x8 => F.spec_l2All_l0 N n x4 x5 x6 x7 x8 ke0 kret) ke0 kret
def F.spec_l2All {R : Type} (N : Nat) (x1 : List Int) (x2 : Int) (x3 : Int) (k : Bool → Option R) : Option R :=
  F.spec_l2All_l0 N N x2 x3 x1 (List.length x1 : Int) 0
    (fun _ =>
      k true)
    (fun y10 =>
      k y10)
/-! ### loop.example/s0007/spec.DfaOK -/
def F.spec_DfaOK {R : Type} (N : Nat) (x1 : List Int) (x2 : Int) (x3 : List Int) (x4 : List Int) (x5 : List Int) (k : Bool → Option R) : Option R :=
  bif (List.length x1 : Int) != 256 then
    k false
  else
    F.spec_l1Between x2 1 256 fun r6 =>
    bif !r6 then
      k false
    else
      F.spec_l1Between (List.length x4 : Int) 1 4000 fun r7 =>
      bif !r7 then
        k false
      else
        bif (List.length x5 : Int) != (List.length x4 : Int) then
          k false
        else
          bif (List.length x3 : Int) != (wrapK .i64 ((List.length x4 : Int) * x2)) then
            k false
          else
            F.spec_l2All N x1 0 (wrapK .i64 (x2 - 1)) fun r8 =>
            bif r8 then
              F.spec_l2All N x3 0 (wrapK .i64 ((List.length x4 : Int) - 1)) fun r9 =>
              bif r9 then
                F.spec_l2All N x4 (-1) 99 fun r10 =>
                bif r10 then
                  F.spec_l2All N x5 (-1) 99 fun r11 =>
                  k r11
                else
                  k false
              else
                k false
            else
              k false
/-! ### loop.example/s0007/spec.l2Place -/
def F.spec_l2Place_l0_s {R : Type} (N : Nat) (x3 : Int) (x4 : List Int) (x5 : Int) (x6 : Int) (next : Int → (List Int) → Int → Int → Option R) (ke0 : Unit → Option R) (kret : Int → Option R) : Option R :=
  bif decide (x6 < x5) then
    bif inB x6 (List.length x4) then
      bif (List.getD x4 (Int.toNat x6) (0 : Int)) == x3 then
        kret x6
      else
        next x3 x4 x5 (wrapK .i64 (x6 + 1))
    else
      none
  else
    ke0 ()
def F.spec_l2Place_l0 {R : Type} (N : Nat) : Nat → Int → (List Int) → Int → Int → (Unit → Option R) → (Int → Option R) → Option R
  | 0, _, _, _, _, _, _ => none
  | n + 1, x3, x4, x5, x6, ke0, kret => F.spec_l2Place_l0_s N x3 x4 x5 x6 (fun x3 x4 x5 x6 => F.spec_l2Place_l0 N n x3 x4 x5 x6 ke0 kret) ke0 kret
def F.spec_l2Place {R : Type} (N : Nat) (x1 : List Int) (x2 : Int) (k : Int → Option R) : Option R :=
  F.spec_l2Place_l0 N N x2 x1 (List.length x1 : Int) 0
    (fun _ =>
      k (-1))
    (fun y7 =>
      k y7)
/-! ### loop.example/s0007/spec.l2Place -/
def F.spec_l2Place_v1_l0_s {R : Type} (N : Nat) (x3 : Int) (x4 : List Int) (x5 : Int) (x6 : Int) (next : Int → (List Int) → Int → Int → Option R) (ke0 : Unit → Option R) (kret : Int → Option R) : Option R :=
  bif decide (x6 < x5) then
    bif inB x6 (List.length x4) then
      bif (List.getD x4 (Int.toNat x6) (0 : Int)) == x3 then
        kret x6
      else
        next x3 x4 x5 (wrapK .i64 (x6 + 1))
    else
      none
  else
    ke0 ()
def F.spec_l2Place_v1_l0 {R : Type} (N : Nat) : Nat → Int → (List Int) → Int → Int → (Unit → Option R) → (Int → Option R) → Option R
  | 0, _, _, _, _, _, _ => none
  | n + 1, x3, x4, x5, x6, ke0, kret => F.spec_l2Place_v1_l0_s N x3 x4 x5 x6 (fun x3 x4 x5 x6 => F.spec_l2Place_v1_l0 N n x3 x4 x5 x6 ke0 kret) ke0 kret
def F.spec_l2Place_v1 {R : Type} (N : Nat) (x1 : List Int) (x2 : Int) (k : Int → Option R) : Option R :=
  F.spec_l2Place_v1_l0 N N x2 x1 (List.length x1 : Int) 0
    (fun _ =>
      k (-1))
    (fun y7 =>
      k y7)
/-! ### loop.example/s0007/spec.l2Reached -/
def F.spec_l2Reached_l2_s {R : Type} (N : Nat) (x13 : Int) (x14 : Int) (x15 : List Int) (x16 : Int) (x17 : List Int) (x18 : List Int) (x19 : List Int) (x20 : List Int) (next : Int → Int → (List Int) → Int → (List Int) → (List Int) → (List Int) → (List Int) → Option R) (ke2 : Int → (List Int) → Int → (List Int) → (List Int) → (List Int) → (List Int) → Option R) : Option R :=
  bif decide (x14 < x16) then
    F.spec_l2Place N x15 x14 fun r21 =>
    bif inB x13 (List.length x20) then
      bif inB (wrapK .i64 ((wrapK .i64 ((List.getD x20 (Int.toNat x13) (0 : Int)) * x16)) + x14)) (List.length x17) then
        bif decide (r21 ≥ 0) then
          F.spec_l2Place_v1 N x20 (List.getD x17 (Int.toNat (wrapK .i64 ((wrapK .i64 ((List.getD x20 (Int.toNat x13) (0 : Int)) * x16)) + x14))) (0 : Int)) fun r22 =>
          bif decide (r22 < 0) then
            bif Nat.ble (List.length x20 + List.length [List.getD x17 (Int.toNat (wrapK .i64 ((wrapK .i64 ((List.getD x20 (Int.toNat x13) (0 : Int)) * x16)) + x14))) (0 : Int)]) (bigOf 8) then
              next x13 (wrapK .i64 (x14 + 1)) x15 x16 x17 x18 x19 (x20 ++ [List.getD x17 (Int.toNat (wrapK .i64 ((wrapK .i64 ((List.getD x20 (Int.toNat x13) (0 : Int)) * x16)) + x14))) (0 : Int)])
            else
              none
          else
            next x13 (wrapK .i64 (x14 + 1)) x15 x16 x17 x18 x19 x20
        else
          next x13 (wrapK .i64 (x14 + 1)) x15 x16 x17 x18 x19 x20
      else
        none
    else
      none
  else
    ke2 x13 x15 x16 x17 x18 x19 x20
def F.spec_l2Reached_l2 {R : Type} (N : Nat) : Nat → Int → Int → (List Int) → Int → (List Int) → (List Int) → (List Int) → (List Int) → (Int → (List Int) → Int → (List Int) → (List Int) → (List Int) → (List Int) → Option R) → Option R
  | 0, _, _, _, _, _, _, _, _, _ => none
  | n + 1, x13, x14, x15, x16, x17, x18, x19, x20, ke2 => F.spec_l2Reached_l2_s N x13 x14 x15 x16 x17 x18 x19 x20 (fun x13 x14 x15 x16 x17 x18 x19 x20 => F.spec_l2Reached_l2 N n x13 x14 x15 x16 x17 x18 x19 x20 ke2) ke2
def F.spec_l2Reached_l0_s {R : Type} (N : Nat) (x6 : Int) (x7 : List Int) (x8 : Int) (x9 : List Int) (x10 : List Int) (x11 : List Int) (x12 : List Int) (next : Int → (List Int) → Int → (List Int) → (List Int) → (List Int) → (List Int) → Option R) (ke0 : (List Int) → Option R) : Option R :=
  bif decide (x6 < (List.length x12 : Int)) then
    F.spec_l2Reached_l2 N N x6 0 x7 x8 x9 x10 x11 x12
      (fun y23 y24 y25 y26 y27 y28 y29 =>
        next (wrapK .i64 (y23 + 1)) y24 y25 y26 y27 y28 y29)
  else
    ke0 x12
def F.spec_l2Reached_l0 {R : Type} (N : Nat) : Nat → Int → (List Int) → Int → (List Int) → (List Int) → (List Int) → (List Int) → ((List Int) → Option R) → Option R
  | 0, _, _, _, _, _, _, _, _ => none
  | n + 1, x6, x7, x8, x9, x10, x11, x12, ke0 => F.spec_l2Reached_l0_s N x6 x7 x8 x9 x10 x11 x12 (fun x6 x7 x8 x9 x10 x11 x12 => F.spec_l2Reached_l0 N n x6 x7 x8 x9 x10 x11 x12 ke0) ke0
def F.spec_l2Reached {R : Type} (N : Nat) (x1 : List Int) (x2 : Int) (x3 : List Int) (x4 : List Int) (x5 : List Int) (k : (List Int) → Option R) : Option R :=
  F.spec_l2Reached_l0 N N 0 x1 x2 x3 x4 x5 [0]
    (fun y30 =>
      k y30)
/-! ### loop.example/s0007/spec.l2Apart -/
def F.spec_l2Apart_l0_s {R : Type} (N : Nat) (x7 : List Int) (x8 : Int) (x9 : List Int) (x10 : Int) (x11 : Int) (x12 : List Int) (x13 : Int) (x14 : List Int) (x15 : List Int) (x16 : List Int) (x17 : List Int) (next : (List Int) → Int → (List Int) → Int → Int → (List Int) → Int → (List Int) → (List Int) → (List Int) → (List Int) → Option R) (ke0 : (List Int) → Int → (List Int) → Int → (List Int) → (List Int) → (List Int) → (List Int) → Option R) : Option R :=
  bif decide (x11 < x10) then
    bif inB x11 (List.length x9) then
      bif inB (List.getD x9 (Int.toNat x11) (0 : Int)) (List.length x17) then
        next x7 x8 x9 x10 (wrapK .i64 (x11 + 1)) x12 x13 x14 x15 x16 (List.set x17 (Int.toNat (List.getD x9 (Int.toNat x11) (0 : Int))) x11)
      else
        none
    else
      none
  else
    ke0 x7 x8 x12 x13 x14 x15 x16 x17
def F.spec_l2Apart_l0 {R : Type} (N : Nat) : Nat → (List Int) → Int → (List Int) → Int → Int → (List Int) → Int → (List Int) → (List Int) → (List Int) → (List Int) → ((List Int) → Int → (List Int) → Int → (List Int) → (List Int) → (List Int) → (List Int) → Option R) → Option R
  | 0, _, _, _, _, _, _, _, _, _, _, _, _ => none
  | n + 1, x7, x8, x9, x10, x11, x12, x13, x14, x15, x16, x17, ke0 => F.spec_l2Apart_l0_s N x7 x8 x9 x10 x11 x12 x13 x14 x15 x16 x17 (fun x7 x8 x9 x10 x11 x12 x13 x14 x15 x16 x17 => F.spec_l2Apart_l0 N n x7 x8 x9 x10 x11 x12 x13 x14 x15 x16 x17 ke0) ke0
def F.spec_l2Apart_l2_s {R : Type} (N : Nat) (x26 : List Int) (x27 : Int) (x28 : Int) (x29 : List Int) (x30 : Int) (x31 : List Int) (x32 : List Int) (x33 : List Int) (x34 : List Int) (x35 : List Int) (next : (List Int) → Int → Int → (List Int) → Int → (List Int) → (List Int) → (List Int) → (List Int) → (List Int) → Option R) (ke2 : (List Int) → Int → (List Int) → Int → (List Int) → (List Int) → (List Int) → (List Int) → (List Int) → Option R) : Option R :=
  bif decide (x28 < x30) then
    F.spec_l2Place N x29 x28 fun r36 =>
    bif decide (r36 ≥ 0) then
      bif Nat.ble (List.length x35 + List.length [x28]) (bigOf 8) then
        next x26 x27 (wrapK .i64 (x28 + 1)) x29 x30 x31 x32 x33 x34 (x35 ++ [x28])
      else
        none
    else
      next x26 x27 (wrapK .i64 (x28 + 1)) x29 x30 x31 x32 x33 x34 x35
  else
    ke2 x26 x27 x29 x30 x31 x32 x33 x34 x35
def F.spec_l2Apart_l2 {R : Type} (N : Nat) : Nat → (List Int) → Int → Int → (List Int) → Int → (List Int) → (List Int) → (List Int) → (List Int) → (List Int) → ((List Int) → Int → (List Int) → Int → (List Int) → (List Int) → (List Int) → (List Int) → (List Int) → Option R) → Option R
  | 0, _, _, _, _, _, _, _, _, _, _, _ => none
  | n + 1, x26, x27, x28, x29, x30, x31, x32, x33, x34, x35, ke2 => F.spec_l2Apart_l2_s N x26 x27 x28 x29 x30 x31 x32 x33 x34 x35 (fun x26 x27 x28 x29 x30 x31 x32 x33 x34 x35 => F.spec_l2Apart_l2 N n x26 x27 x28 x29 x30 x31 x32 x33 x34 x35 ke2) ke2
def F.spec_l2Apart_l6_s {R : Type} (N : Nat) (x57 : List Int) (x58 : Int) (x59 : Int) (x60 : Int) (x61 : List Int) (x62 : Int) (x63 : List Int) (x64 : List Int) (x65 : List Int) (x66 : List Int) (x67 : List Int) (x68 : List (List Bool)) (x69 : List Bool) (next : (List Int) → Int → Int → Int → (List Int) → Int → (List Int) → (List Int) → (List Int) → (List Int) → (List Int) → (List (List Bool)) → (List Bool) → Option R) (ke6 : (List Int) → Int → Int → (List Int) → Int → (List Int) → (List Int) → (List Int) → (List Int) → (List Int) → (List (List Bool)) → (List Bool) → Option R) : Option R :=
  bif decide (x60 < x58) then
    bif inB x59 (List.length x57) then
      bif inB (List.getD x57 (Int.toNat x59) (0 : Int)) (List.length x64) then
        bif inB x60 (List.length x57) then
          bif inB (List.getD x57 (Int.toNat x60) (0 : Int)) (List.length x64) then
            bif (List.getD x64 (Int.toNat (List.getD x57 (Int.toNat x59) (0 : Int))) (0 : Int)) != (List.getD x64 (Int.toNat (List.getD x57 (Int.toNat x60) (0 : Int))) (0 : Int)) then
              bif inB x60 (List.length x69) then
                next x57 x58 x59 (wrapK .i64 (x60 + 1)) x61 x62 x63 x64 x65 x66 x67 x68 (List.set x69 (Int.toNat x60) true)
              else
                none
            else
              bif inB x59 (List.length x57) then
                bif inB (List.getD x57 (Int.toNat x59) (0 : Int)) (List.length x65) then
                  bif inB x60 (List.length x57) then
                    bif inB (List.getD x57 (Int.toNat x60) (0 : Int)) (List.length x65) then
                      bif inB x60 (List.length x69) then
                        next x57 x58 x59 (wrapK .i64 (x60 + 1)) x61 x62 x63 x64 x65 x66 x67 x68 (List.set x69 (Int.toNat x60) ((List.getD x65 (Int.toNat (List.getD x57 (Int.toNat x59) (0 : Int))) (0 : Int)) != (List.getD x65 (Int.toNat (List.getD x57 (Int.toNat x60) (0 : Int))) (0 : Int))))
                      else
                        none
                    else
                      none
                  else
                    none
                else
                  none
              else
                none
          else
            none
        else
          none
      else
        none
    else
      none
  else
    ke6 x57 x58 x59 x61 x62 x63 x64 x65 x66 x67 x68 x69
def F.spec_l2Apart_l6 {R : Type} (N : Nat) : Nat → (List Int) → Int → Int → Int → (List Int) → Int → (List Int) → (List Int) → (List Int) → (List Int) → (List Int) → (List (List Bool)) → (List Bool) → ((List Int) → Int → Int → (List Int) → Int → (List Int) → (List Int) → (List Int) → (List Int) → (List Int) → (List (List Bool)) → (List Bool) → Option R) → Option R
  | 0, _, _, _, _, _, _, _, _, _, _, _, _, _, _ => none
  | n + 1, x57, x58, x59, x60, x61, x62, x63, x64, x65, x66, x67, x68, x69, ke6 => F.spec_l2Apart_l6_s N x57 x58 x59 x60 x61 x62 x63 x64 x65 x66 x67 x68 x69 (fun x57 x58 x59 x60 x61 x62 x63 x64 x65 x66 x67 x68 x69 => F.spec_l2Apart_l6 N n x57 x58 x59 x60 x61 x62 x63 x64 x65 x66 x67 x68 x69 ke6) ke6
def F.spec_l2Apart_l4_s {R : Type} (N : Nat) (x46 : List Int) (x47 : Int) (x48 : Int) (x49 : List Int) (x50 : Int) (x51 : List Int) (x52 : List Int) (x53 : List Int) (x54 : List Int) (x55 : List Int) (x56 : List (List Bool)) (next : (List Int) → Int → Int → (List Int) → Int → (List Int) → (List Int) → (List Int) → (List Int) → (List Int) → (List (List Bool)) → Option R) (ke4 : (List Int) → Int → (List Int) → Int → (List Int) → (List Int) → (List Int) → (List Int) → (List Int) → (List (List Bool)) → Option R) : Option R :=
  bif decide (x48 < x47) then
    bif decide (0 ≤ x47) then
      bif Nat.ble (Int.toNat x47) (bigOf 1) then
        F.spec_l2Apart_l6 N N x46 x47 x48 0 x49 x50 x51 x52 x53 x54 x55 x56 (List.replicate (Int.toNat x47) false)
          (fun y70 y71 y72 y73 y74 y75 y76 y77 y78 y79 y80 y81 =>
            bif Nat.ble (List.length y80 + List.length [y81]) (bigOf 24) then
              next y70 y71 (wrapK .i64 (y72 + 1)) y73 y74 y75 y76 y77 y78 y79 (y80 ++ [y81])
            else
              none)
      else
        none
    else
      none
  else
    ke4 x46 x47 x49 x50 x51 x52 x53 x54 x55 x56
def F.spec_l2Apart_l4 {R : Type} (N : Nat) : Nat → (List Int) → Int → Int → (List Int) → Int → (List Int) → (List Int) → (List Int) → (List Int) → (List Int) → (List (List Bool)) → ((List Int) → Int → (List Int) → Int → (List Int) → (List Int) → (List Int) → (List Int) → (List Int) → (List (List Bool)) → Option R) → Option R
  | 0, _, _, _, _, _, _, _, _, _, _, _, _ => none
  | n + 1, x46, x47, x48, x49, x50, x51, x52, x53, x54, x55, x56, ke4 => F.spec_l2Apart_l4_s N x46 x47 x48 x49 x50 x51 x52 x53 x54 x55 x56 (fun x46 x47 x48 x49 x50 x51 x52 x53 x54 x55 x56 => F.spec_l2Apart_l4 N n x46 x47 x48 x49 x50 x51 x52 x53 x54 x55 x56 ke4) ke4
def F.spec_l2Apart_l14_s {R : Type} (N : Nat) (x128 : List Int) (x129 : Int) (x130 : Bool) (x131 : Int) (x132 : Int) (x133 : Int) (x134 : Int) (x135 : List Int) (x136 : Int) (x137 : List Int) (x138 : List Int) (x139 : List Int) (x140 : List Int) (x141 : List Int) (x142 : List (List Bool)) (next : (List Int) → Int → Bool → Int → Int → Int → Int → (List Int) → Int → (List Int) → (List Int) → (List Int) → (List Int) → (List Int) → (List (List Bool)) → Option R) (ke14 : (List Int) → Int → Bool → Int → Int → (List Int) → Int → (List Int) → (List Int) → (List Int) → (List Int) → (List Int) → (List (List Bool)) → Option R) : Option R :=
  bif decide (x134 < x133) then
    bif inB x134 (List.length x141) then
      bif inB x131 (List.length x128) then
        bif inB (wrapK .i64 ((wrapK .i64 ((List.getD x128 (Int.toNat x131) (0 : Int)) * x136)) + (List.getD x141 (Int.toNat x134) (0 : Int)))) (List.length x137) then
          bif inB (List.getD x137 (Int.toNat (wrapK .i64 ((wrapK .i64 ((List.getD x128 (Int.toNat x131) (0 : Int)) * x136)) + (List.getD x141 (Int.toNat x134) (0 : Int))))) (0 : Int)) (List.length x140) then
            bif inB x132 (List.length x128) then
              bif inB (wrapK .i64 ((wrapK .i64 ((List.getD x128 (Int.toNat x132) (0 : Int)) * x136)) + (List.getD x141 (Int.toNat x134) (0 : Int)))) (List.length x137) then
                bif inB (List.getD x137 (Int.toNat (wrapK .i64 ((wrapK .i64 ((List.getD x128 (Int.toNat x132) (0 : Int)) * x136)) + (List.getD x141 (Int.toNat x134) (0 : Int))))) (0 : Int)) (List.length x140) then
                  bif inB (List.getD x140 (Int.toNat (List.getD x137 (Int.toNat (wrapK .i64 ((wrapK .i64 ((List.getD x128 (Int.toNat x131) (0 : Int)) * x136)) + (List.getD x141 (Int.toNat x134) (0 : Int))))) (0 : Int))) (0 : Int)) (List.length x142) then
                    bif inB (List.getD x140 (Int.toNat (List.getD x137 (Int.toNat (wrapK .i64 ((wrapK .i64 ((List.getD x128 (Int.toNat x132) (0 : Int)) * x136)) + (List.getD x141 (Int.toNat x134) (0 : Int))))) (0 : Int))) (0 : Int)) (List.length (List.getD x142 (Int.toNat (List.getD x140 (Int.toNat (List.getD x137 (Int.toNat (wrapK .i64 ((wrapK .i64 ((List.getD x128 (Int.toNat x131) (0 : Int)) * x136)) + (List.getD x141 (Int.toNat x134) (0 : Int))))) (0 : Int))) (0 : Int))) ([] : List Bool))) then
                      bif List.getD (List.getD x142 (Int.toNat (List.getD x140 (Int.toNat (List.getD x137 (Int.toNat (wrapK .i64 ((wrapK .i64 ((List.getD x128 (Int.toNat x131) (0 : Int)) * x136)) + (List.getD x141 (Int.toNat x134) (0 : Int))))) (0 : Int))) (0 : Int))) ([] : List Bool)) (Int.toNat (List.getD x140 (Int.toNat (List.getD x137 (Int.toNat (wrapK .i64 ((wrapK .i64 ((List.getD x128 (Int.toNat x132) (0 : Int)) * x136)) + (List.getD x141 (Int.toNat x134) (0 : Int))))) (0 : Int))) (0 : Int))) false then
                        bif inB x131 (List.length x142) then
                          bif inB x132 (List.length (List.getD x142 (Int.toNat x131) ([] : List Bool))) then
                            next x128 x129 true x131 x132 x133 (wrapK .i64 (x134 + 1)) x135 x136 x137 x138 x139 x140 x141 (List.set x142 (Int.toNat x131) (List.set (List.getD x142 (Int.toNat x131) ([] : List Bool)) (Int.toNat x132) true))
                          else
                            none
                        else
                          none
                      else
                        next x128 x129 x130 x131 x132 x133 (wrapK .i64 (x134 + 1)) x135 x136 x137 x138 x139 x140 x141 x142
                    else
                      none
                  else
                    none
                else
                  none
              else
                none
            else
              none
          else
            none
        else
          none
      else
        none
    else
      none
  else
    ke14 x128 x129 x130 x131 x132 x135 x136 x137 x138 x139 x140 x141 x142
def F.spec_l2Apart_l14 {R : Type} (N : Nat) : Nat → (List Int) → Int → Bool → Int → Int → Int → Int → (List Int) → Int → (List Int) → (List Int) → (List Int) → (List Int) → (List Int) → (List (List Bool)) → ((List Int) → Int → Bool → Int → Int → (List Int) → Int → (List Int) → (List Int) → (List Int) → (List Int) → (List Int) → (List (List Bool)) → Option R) → Option R
  | 0, _, _, _, _, _, _, _, _, _, _, _, _, _, _, _, _ => none
  | n + 1, x128, x129, x130, x131, x132, x133, x134, x135, x136, x137, x138, x139, x140, x141, x142, ke14 => F.spec_l2Apart_l14_s N x128 x129 x130 x131 x132 x133 x134 x135 x136 x137 x138 x139 x140 x141 x142 (fun x128 x129 x130 x131 x132 x133 x134 x135 x136 x137 x138 x139 x140 x141 x142 => F.spec_l2Apart_l14 N n x128 x129 x130 x131 x132 x133 x134 x135 x136 x137 x138 x139 x140 x141 x142 ke14) ke14
def F.spec_l2Apart_l12_s {R : Type} (N : Nat) (x115 : List Int) (x116 : Int) (x117 : Bool) (x118 : Int) (x119 : Int) (x120 : List Int) (x121 : Int) (x122 : List Int) (x123 : List Int) (x124 : List Int) (x125 : List Int) (x126 : List Int) (x127 : List (List Bool)) (next : (List Int) → Int → Bool → Int → Int → (List Int) → Int → (List Int) → (List Int) → (List Int) → (List Int) → (List Int) → (List (List Bool)) → Option R) (ke12 : (List Int) → Int → Bool → Int → (List Int) → Int → (List Int) → (List Int) → (List Int) → (List Int) → (List Int) → (List (List Bool)) → Option R) : Option R :=
  bif decide (x119 < x116) then
    bif inB x118 (List.length x127) then
      bif inB x119 (List.length (List.getD x127 (Int.toNat x118) ([] : List Bool))) then
        bif List.getD (List.getD x127 (Int.toNat x118) ([] : List Bool)) (Int.toNat x119) false then
          next x115 x116 x117 x118 (wrapK .i64 (x119 + 1)) x120 x121 x122 x123 x124 x125 x126 x127
        else
          F.spec_l2Apart_l14 N N x115 x116 x117 x118 x119 (List.length x126 : Int) 0 x120 x121 x122 x123 x124 x125 x126 x127
            (fun y143 y144 y145 y146 y147 y148 y149 y150 y151 y152 y153 y154 y155 =>
              next y143 y144 y145 y146 (wrapK .i64 (y147 + 1)) y148 y149 y150 y151 y152 y153 y154 y155)
      else
        none
    else
      none
  else
    ke12 x115 x116 x117 x118 x120 x121 x122 x123 x124 x125 x126 x127
def F.spec_l2Apart_l12 {R : Type} (N : Nat) : Nat → (List Int) → Int → Bool → Int → Int → (List Int) → Int → (List Int) → (List Int) → (List Int) → (List Int) → (List Int) → (List (List Bool)) → ((List Int) → Int → Bool → Int → (List Int) → Int → (List Int) → (List Int) → (List Int) → (List Int) → (List Int) → (List (List Bool)) → Option R) → Option R
  | 0, _, _, _, _, _, _, _, _, _, _, _, _, _, _ => none
  | n + 1, x115, x116, x117, x118, x119, x120, x121, x122, x123, x124, x125, x126, x127, ke12 => F.spec_l2Apart_l12_s N x115 x116 x117 x118 x119 x120 x121 x122 x123 x124 x125 x126 x127 (fun x115 x116 x117 x118 x119 x120 x121 x122 x123 x124 x125 x126 x127 => F.spec_l2Apart_l12 N n x115 x116 x117 x118 x119 x120 x121 x122 x123 x124 x125 x126 x127 ke12) ke12
def F.spec_l2Apart_l10_s {R : Type} (N : Nat) (x103 : List Int) (x104 : Int) (x105 : Bool) (x106 : Int) (x107 : List Int) (x108 : Int) (x109 : List Int) (x110 : List Int) (x111 : List Int) (x112 : List Int) (x113 : List Int) (x114 : List (List Bool)) (next : (List Int) → Int → Bool → Int → (List Int) → Int → (List Int) → (List Int) → (List Int) → (List Int) → (List Int) → (List (List Bool)) → Option R) (ke10 : (List Int) → Int → Bool → (List Int) → Int → (List Int) → (List Int) → (List Int) → (List Int) → (List Int) → (List (List Bool)) → Option R) : Option R :=
  bif decide (x106 < x104) then
    F.spec_l2Apart_l12 N N x103 x104 x105 x106 0 x107 x108 x109 x110 x111 x112 x113 x114
      (fun y156 y157 y158 y159 y160 y161 y162 y163 y164 y165 y166 y167 =>
        next y156 y157 y158 (wrapK .i64 (y159 + 1)) y160 y161 y162 y163 y164 y165 y166 y167)
  else
    ke10 x103 x104 x105 x107 x108 x109 x110 x111 x112 x113 x114
def F.spec_l2Apart_l10 {R : Type} (N : Nat) : Nat → (List Int) → Int → Bool → Int → (List Int) → Int → (List Int) → (List Int) → (List Int) → (List Int) → (List Int) → (List (List Bool)) → ((List Int) → Int → Bool → (List Int) → Int → (List Int) → (List Int) → (List Int) → (List Int) → (List Int) → (List (List Bool)) → Option R) → Option R
  | 0, _, _, _, _, _, _, _, _, _, _, _, _, _ => none
  | n + 1, x103, x104, x105, x106, x107, x108, x109, x110, x111, x112, x113, x114, ke10 => F.spec_l2Apart_l10_s N x103 x104 x105 x106 x107 x108 x109 x110 x111 x112 x113 x114 (fun x103 x104 x105 x106 x107 x108 x109 x110 x111 x112 x113 x114 => F.spec_l2Apart_l10 N n x103 x104 x105 x106 x107 x108 x109 x110 x111 x112 x113 x114 ke10) ke10
def F.spec_l2Apart_l8_s {R : Type} (N : Nat) (x92 : List Int) (x93 : Int) (x94 : Bool) (x95 : List Int) (x96 : Int) (x97 : List Int) (x98 : List Int) (x99 : List Int) (x100 : List Int) (x101 : List Int) (x102 : List (List Bool)) (next : (List Int) → Int → Bool → (List Int) → Int → (List Int) → (List Int) → (List Int) → (List Int) → (List Int) → (List (List Bool)) → Option R) (ke8 : (List (List Bool)) → Option R) : Option R :=
  bif x94 then
    F.spec_l2Apart_l10 N N x92 x93 false 0 x95 x96 x97 x98 x99 x100 x101 x102
      (fun y168 y169 y170 y171 y172 y173 y174 y175 y176 y177 y178 =>
        next y168 y169 y170 y171 y172 y173 y174 y175 y176 y177 y178)
  else
    ke8 x102
def F.spec_l2Apart_l8 {R : Type} (N : Nat) : Nat → (List Int) → Int → Bool → (List Int) → Int → (List Int) → (List Int) → (List Int) → (List Int) → (List Int) → (List (List Bool)) → ((List (List Bool)) → Option R) → Option R
  | 0, _, _, _, _, _, _, _, _, _, _, _, _ => none
  | n + 1, x92, x93, x94, x95, x96, x97, x98, x99, x100, x101, x102, ke8 => F.spec_l2Apart_l8_s N x92 x93 x94 x95 x96 x97 x98 x99 x100 x101 x102 (fun x92 x93 x94 x95 x96 x97 x98 x99 x100 x101 x102 => F.spec_l2Apart_l8 N n x92 x93 x94 x95 x96 x97 x98 x99 x100 x101 x102 ke8) ke8
def F.spec_l2Apart {R : Type} (N : Nat) (x1 : List Int) (x2 : Int) (x3 : List Int) (x4 : List Int) (x5 : List Int) (x6 : List Int) (k : (List (List Bool)) → Option R) : Option R :=
  bif decide (0 ≤ (List.length x4 : Int)) then
    bif Nat.ble (Int.toNat (List.length x4 : Int)) (bigOf 8) then
      F.spec_l2Apart_l0 N N x6 (List.length x6 : Int) x6 (List.length x6 : Int) 0 x1 x2 x3 x4 x5 (List.replicate (Int.toNat (List.length x4 : Int)) (0 : Int))
        (fun y18 y19 y20 y21 y22 y23 y24 y25 =>
          F.spec_l2Apart_l2 N N y18 y19 0 y20 y21 y22 y23 y24 y25 ([] : List Int)
            (fun y37 y38 y39 y40 y41 y42 y43 y44 y45 =>
              F.spec_l2Apart_l4 N N y37 y38 0 y39 y40 y41 y42 y43 y44 y45 ([] : List (List Bool))
                (fun y82 y83 y84 y85 y86 y87 y88 y89 y90 y91 =>
                  F.spec_l2Apart_l8 N N y82 y83 true y84 y85 y86 y87 y88 y89 y90 y91
                    (fun y179 =>
                      k y179))))
    else
      none
  else
    none
/-! ### loop.example/s0007/spec.l2Go -/
def F.spec_l2Go {R : Type} (x1 : List Int) (x2 : Int) (x3 : List Int) (x4 : List Int) (x5 : List Int) (x6 : Int) (x7 : Int) (k : Int → Option R) : Option R :=
  bif inB x7 (List.length x1) then
    bif inB (wrapK .i64 ((wrapK .i64 (x6 * x2)) + (List.getD x1 (Int.toNat x7) (0 : Int)))) (List.length x3) then
      k (List.getD x3 (Int.toNat (wrapK .i64 ((wrapK .i64 (x6 * x2)) + (List.getD x1 (Int.toNat x7) (0 : Int))))) (0 : Int))
    else
      none
  else
    none
/-! ### loop.example/s0007/spec.Minimize -/
def F.spec_Minimize_l2_s {R : Type} (N : Nat) (x24 : Int) (x25 : Int) (x26 : Int) (x27 : Int) (x28 : Int) (x29 : List Int) (x30 : Int) (x31 : List Int) (x32 : List Int) (x33 : List Int) (x34 : Int) (x35 : List Int) (x36 : List (List Bool)) (x37 : List Int) (x38 : List Int) (x39 : List Int) (x40 : List Int) (x41 : List Int) (next : Int → Int → Int → Int → Int → (List Int) → Int → (List Int) → (List Int) → (List Int) → Int → (List Int) → (List (List Bool)) → (List Int) → (List Int) → (List Int) → (List Int) → (List Int) → Option R) (ke2 : Int → Int → Int → Int → (List Int) → Int → (List Int) → (List Int) → (List Int) → Int → (List Int) → (List (List Bool)) → (List Int) → (List Int) → (List Int) → (List Int) → (List Int) → Option R) : Option R :=
  bif inB x24 (List.length x36) then
    bif inB x26 (List.length (List.getD x36 (Int.toNat x24) ([] : List Bool))) then
      bif List.getD (List.getD x36 (Int.toNat x24) ([] : List Bool)) (Int.toNat x26) false then
        next x24 x25 (wrapK .i64 (x26 + 1)) x27 x28 x29 x30 x31 x32 x33 x34 x35 x36 x37 x38 x39 x40 x41
      else
        ke2 x25 x26 x27 x28 x29 x30 x31 x32 x33 x34 x35 x36 x37 x38 x39 x40 x41
    else
      none
  else
    none
def F.spec_Minimize_l2 {R : Type} (N : Nat) : Nat → Int → Int → Int → Int → Int → (List Int) → Int → (List Int) → (List Int) → (List Int) → Int → (List Int) → (List (List Bool)) → (List Int) → (List Int) → (List Int) → (List Int) → (List Int) → (Int → Int → Int → Int → (List Int) → Int → (List Int) → (List Int) → (List Int) → Int → (List Int) → (List (List Bool)) → (List Int) → (List Int) → (List Int) → (List Int) → (List Int) → Option R) → Option R
  | 0, _, _, _, _, _, _, _, _, _, _, _, _, _, _, _, _, _, _, _ => none
  | n + 1, x24, x25, x26, x27, x28, x29, x30, x31, x32, x33, x34, x35, x36, x37, x38, x39, x40, x41, ke2 => F.spec_Minimize_l2_s N x24 x25 x26 x27 x28 x29 x30 x31 x32 x33 x34 x35 x36 x37 x38 x39 x40 x41 (fun x24 x25 x26 x27 x28 x29 x30 x31 x32 x33 x34 x35 x36 x37 x38 x39 x40 x41 => F.spec_Minimize_l2 N n x24 x25 x26 x27 x28 x29 x30 x31 x32 x33 x34 x35 x36 x37 x38 x39 x40 x41 ke2) ke2
def F.spec_Minimize_l0_s {R : Type} (N : Nat) (x9 : Int) (x10 : Int) (x11 : List Int) (x12 : Int) (x13 : List Int) (x14 : List Int) (x15 : List Int) (x16 : Int) (x17 : List Int) (x18 : List (List Bool)) (x19 : List Int) (x20 : List Int) (x21 : List Int) (x22 : List Int) (x23 : List Int) (next : Int → Int → (List Int) → Int → (List Int) → (List Int) → (List Int) → Int → (List Int) → (List (List Bool)) → (List Int) → (List Int) → (List Int) → (List Int) → (List Int) → Option R) (ke0 : (List Int) → Int → (List Int) → (List Int) → (List Int) → Int → (List Int) → (List Int) → (List Int) → (List Int) → (List Int) → Option R) : Option R :=
  bif decide (x10 < x9) then
    bif inB x10 (List.length x17) then
      F.spec_Minimize_l2 N N x10 (List.getD x17 (Int.toNat x10) (0 : Int)) 0 x9 x10 x11 x12 x13 x14 x15 x16 x17 x18 x19 x20 x21 x22 x23
        (fun y42 y43 y44 y45 y46 y47 y48 y49 y50 y51 y52 y53 y54 y55 y56 y57 y58 =>
          bif inB y43 (List.length y52) then
            bif inB y42 (List.length y54) then
              next y44 (wrapK .i64 (y45 + 1)) y46 y47 y48 y49 y50 y51 y52 y53 (List.set y54 (Int.toNat y42) (List.getD y52 (Int.toNat y43) (0 : Int))) y55 y56 y57 y58
            else
              none
          else
            none)
    else
      none
  else
    ke0 x11 x12 x13 x14 x15 x16 x19 x20 x21 x22 x23
def F.spec_Minimize_l0 {R : Type} (N : Nat) : Nat → Int → Int → (List Int) → Int → (List Int) → (List Int) → (List Int) → Int → (List Int) → (List (List Bool)) → (List Int) → (List Int) → (List Int) → (List Int) → (List Int) → ((List Int) → Int → (List Int) → (List Int) → (List Int) → Int → (List Int) → (List Int) → (List Int) → (List Int) → (List Int) → Option R) → Option R
  | 0, _, _, _, _, _, _, _, _, _, _, _, _, _, _, _, _ => none
  | n + 1, x9, x10, x11, x12, x13, x14, x15, x16, x17, x18, x19, x20, x21, x22, x23, ke0 => F.spec_Minimize_l0_s N x9 x10 x11 x12 x13 x14 x15 x16 x17 x18 x19 x20 x21 x22 x23 (fun x9 x10 x11 x12 x13 x14 x15 x16 x17 x18 x19 x20 x21 x22 x23 => F.spec_Minimize_l0 N n x9 x10 x11 x12 x13 x14 x15 x16 x17 x18 x19 x20 x21 x22 x23 ke0) ke0
def F.spec_Minimize_l6_s {R : Type} (N : Nat) (x84 : Int) (x85 : Int) (x86 : List Int) (x87 : Int) (x88 : List Int) (x89 : List Int) (x90 : List Int) (x91 : Int) (x92 : List Int) (x93 : List Int) (x94 : List (List Int)) (x95 : List Int) (x96 : List Int) (x97 : List Int) (x98 : List Int) (x99 : List Int) (next : Int → Int → (List Int) → Int → (List Int) → (List Int) → (List Int) → Int → (List Int) → (List Int) → (List (List Int)) → (List Int) → (List Int) → (List Int) → (List Int) → (List Int) → Option R) (ke6 : Int → (List Int) → Int → (List Int) → (List Int) → (List Int) → Int → (List Int) → (List Int) → (List (List Int)) → (List Int) → (List Int) → (List Int) → (List Int) → (List Int) → Option R) : Option R :=
  bif decide (x85 < 256) then
    bif inB x84 (List.length x93) then
      F.spec_l2Go x86 x87 x88 x89 x90 (List.getD x93 (Int.toNat x84) (0 : Int)) x85 fun r100 =>
      bif inB r100 (List.length x92) then
        F.spec_l2Place_v1 N x93 (List.getD x92 (Int.toNat r100) (0 : Int)) fun r101 =>
        bif decide (r101 < 0) then
          bif Nat.ble (List.length x93 + List.length [List.getD x92 (Int.toNat r100) (0 : Int)]) (bigOf 8) then
            F.spec_l2Place_v1 N (x93 ++ [List.getD x92 (Int.toNat r100) (0 : Int)]) (List.getD x92 (Int.toNat r100) (0 : Int)) fun r102 =>
            bif Nat.ble (List.length x95 + List.length [r102]) (bigOf 8) then
              next x84 (wrapK .i64 (x85 + 1)) x86 x87 x88 x89 x90 x91 x92 (x93 ++ [List.getD x92 (Int.toNat r100) (0 : Int)]) x94 (x95 ++ [r102]) x96 x97 x98 x99
            else
              none
          else
            none
        else
          F.spec_l2Place_v1 N x93 (List.getD x92 (Int.toNat r100) (0 : Int)) fun r103 =>
          bif Nat.ble (List.length x95 + List.length [r103]) (bigOf 8) then
            next x84 (wrapK .i64 (x85 + 1)) x86 x87 x88 x89 x90 x91 x92 x93 x94 (x95 ++ [r103]) x96 x97 x98 x99
          else
            none
      else
        none
    else
      none
  else
    ke6 x84 x86 x87 x88 x89 x90 x91 x92 x93 x94 x95 x96 x97 x98 x99
def F.spec_Minimize_l6 {R : Type} (N : Nat) : Nat → Int → Int → (List Int) → Int → (List Int) → (List Int) → (List Int) → Int → (List Int) → (List Int) → (List (List Int)) → (List Int) → (List Int) → (List Int) → (List Int) → (List Int) → (Int → (List Int) → Int → (List Int) → (List Int) → (List Int) → Int → (List Int) → (List Int) → (List (List Int)) → (List Int) → (List Int) → (List Int) → (List Int) → (List Int) → Option R) → Option R
  | 0, _, _, _, _, _, _, _, _, _, _, _, _, _, _, _, _, _ => none
  | n + 1, x84, x85, x86, x87, x88, x89, x90, x91, x92, x93, x94, x95, x96, x97, x98, x99, ke6 => F.spec_Minimize_l6_s N x84 x85 x86 x87 x88 x89 x90 x91 x92 x93 x94 x95 x96 x97 x98 x99 (fun x84 x85 x86 x87 x88 x89 x90 x91 x92 x93 x94 x95 x96 x97 x98 x99 => F.spec_Minimize_l6 N n x84 x85 x86 x87 x88 x89 x90 x91 x92 x93 x94 x95 x96 x97 x98 x99 ke6) ke6
def F.spec_Minimize_l4_s {R : Type} (N : Nat) (x70 : Int) (x71 : List Int) (x72 : Int) (x73 : List Int) (x74 : List Int) (x75 : List Int) (x76 : Int) (x77 : List Int) (x78 : List Int) (x79 : List (List Int)) (x80 : List Int) (x81 : List Int) (x82 : List Int) (x83 : List Int) (next : Int → (List Int) → Int → (List Int) → (List Int) → (List Int) → Int → (List Int) → (List Int) → (List (List Int)) → (List Int) → (List Int) → (List Int) → (List Int) → Option R) (ke4 : (List Int) → Int → (List Int) → (List Int) → (List Int) → Int → (List Int) → (List (List Int)) → (List Int) → (List Int) → (List Int) → (List Int) → Option R) : Option R :=
  bif decide (x70 < (List.length x78 : Int)) then
    F.spec_Minimize_l6 N N x70 0 x71 x72 x73 x74 x75 x76 x77 x78 x79 ([] : List Int) x80 x81 x82 x83
      (fun y104 y105 y106 y107 y108 y109 y110 y111 y112 y113 y114 y115 y116 y117 y118 =>
        bif Nat.ble (List.length y113 + List.length [y114]) (bigOf 24) then
          next (wrapK .i64 (y104 + 1)) y105 y106 y107 y108 y109 y110 y111 y112 (y113 ++ [y114]) y115 y116 y117 y118
        else
          none)
  else
    ke4 x71 x72 x73 x74 x75 x76 x78 x79 x80 x81 x82 x83
def F.spec_Minimize_l4 {R : Type} (N : Nat) : Nat → Int → (List Int) → Int → (List Int) → (List Int) → (List Int) → Int → (List Int) → (List Int) → (List (List Int)) → (List Int) → (List Int) → (List Int) → (List Int) → ((List Int) → Int → (List Int) → (List Int) → (List Int) → Int → (List Int) → (List (List Int)) → (List Int) → (List Int) → (List Int) → (List Int) → Option R) → Option R
  | 0, _, _, _, _, _, _, _, _, _, _, _, _, _, _, _ => none
  | n + 1, x70, x71, x72, x73, x74, x75, x76, x77, x78, x79, x80, x81, x82, x83, ke4 => F.spec_Minimize_l4_s N x70 x71 x72 x73 x74 x75 x76 x77 x78 x79 x80 x81 x82 x83 (fun x70 x71 x72 x73 x74 x75 x76 x77 x78 x79 x80 x81 x82 x83 => F.spec_Minimize_l4 N n x70 x71 x72 x73 x74 x75 x76 x77 x78 x79 x80 x81 x82 x83 ke4) ke4
def F.spec_Minimize_l12_s {R : Type} (N : Nat) (x172 : Int) (x173 : Int) (x174 : Int) (x175 : Int) (x176 : Bool) (x177 : Int) (x178 : Int) (x179 : Int) (x180 : Int) (x181 : List Int) (x182 : Int) (x183 : List Int) (x184 : List Int) (x185 : List Int) (x186 : Int) (x187 : List Int) (x188 : List (List Int)) (x189 : Int) (x190 : List Int) (x191 : List Int) (x192 : List Int) (x193 : List Int) (x194 : List Int) (x195 : List Int) (x196 : List Int) (x197 : List Int) (x198 : List Int) (next : Int → Int → Int → Int → Bool → Int → Int → Int → Int → (List Int) → Int → (List Int) → (List Int) → (List Int) → Int → (List Int) → (List (List Int)) → Int → (List Int) → (List Int) → (List Int) → (List Int) → (List Int) → (List Int) → (List Int) → (List Int) → (List Int) → Option R) (ke12 : Int → Int → Int → Bool → Int → Int → (List Int) → Int → (List Int) → (List Int) → (List Int) → Int → (List Int) → (List (List Int)) → Int → (List Int) → (List Int) → (List Int) → (List Int) → (List Int) → (List Int) → (List Int) → (List Int) → (List Int) → Option R) : Option R :=
  bif decide (x180 < x179) then
    bif inB x180 (List.length x188) then
      bif inB x175 (List.length (List.getD x188 (Int.toNat x180) ([] : List Int))) then
        bif inB x172 (List.length (List.getD x188 (Int.toNat x180) ([] : List Int))) then
          bif (List.getD (List.getD x188 (Int.toNat x180) ([] : List Int)) (Int.toNat x175) (0 : Int)) != (List.getD (List.getD x188 (Int.toNat x180) ([] : List Int)) (Int.toNat x172) (0 : Int)) then
            next x172 x173 x174 x175 false x177 x178 x179 (wrapK .i64 (x180 + 1)) x181 x182 x183 x184 x185 x186 x187 x188 x189 x190 x191 x192 x193 x194 x195 x196 x197 x198
          else
            next x172 x173 x174 x175 x176 x177 x178 x179 (wrapK .i64 (x180 + 1)) x181 x182 x183 x184 x185 x186 x187 x188 x189 x190 x191 x192 x193 x194 x195 x196 x197 x198
        else
          none
      else
        none
    else
      none
  else
    ke12 x172 x173 x174 x176 x177 x178 x181 x182 x183 x184 x185 x186 x187 x188 x189 x190 x191 x192 x193 x194 x195 x196 x197 x198
def F.spec_Minimize_l12 {R : Type} (N : Nat) : Nat → Int → Int → Int → Int → Bool → Int → Int → Int → Int → (List Int) → Int → (List Int) → (List Int) → (List Int) → Int → (List Int) → (List (List Int)) → Int → (List Int) → (List Int) → (List Int) → (List Int) → (List Int) → (List Int) → (List Int) → (List Int) → (List Int) → (Int → Int → Int → Bool → Int → Int → (List Int) → Int → (List Int) → (List Int) → (List Int) → Int → (List Int) → (List (List Int)) → Int → (List Int) → (List Int) → (List Int) → (List Int) → (List Int) → (List Int) → (List Int) → (List Int) → (List Int) → Option R) → Option R
  | 0, _, _, _, _, _, _, _, _, _, _, _, _, _, _, _, _, _, _, _, _, _, _, _, _, _, _, _, _ => none
  | n + 1, x172, x173, x174, x175, x176, x177, x178, x179, x180, x181, x182, x183, x184, x185, x186, x187, x188, x189, x190, x191, x192, x193, x194, x195, x196, x197, x198, ke12 => F.spec_Minimize_l12_s N x172 x173 x174 x175 x176 x177 x178 x179 x180 x181 x182 x183 x184 x185 x186 x187 x188 x189 x190 x191 x192 x193 x194 x195 x196 x197 x198 (fun x172 x173 x174 x175 x176 x177 x178 x179 x180 x181 x182 x183 x184 x185 x186 x187 x188 x189 x190 x191 x192 x193 x194 x195 x196 x197 x198 => F.spec_Minimize_l12 N n x172 x173 x174 x175 x176 x177 x178 x179 x180 x181 x182 x183 x184 x185 x186 x187 x188 x189 x190 x191 x192 x193 x194 x195 x196 x197 x198 ke12) ke12
def F.spec_Minimize_l10_s {R : Type} (N : Nat) (x150 : Int) (x151 : Int) (x152 : Int) (x153 : Int) (x154 : List Int) (x155 : Int) (x156 : List Int) (x157 : List Int) (x158 : List Int) (x159 : Int) (x160 : List Int) (x161 : List (List Int)) (x162 : Int) (x163 : List Int) (x164 : List Int) (x165 : List Int) (x166 : List Int) (x167 : List Int) (x168 : List Int) (x169 : List Int) (x170 : List Int) (x171 : List Int) (next : Int → Int → Int → Int → (List Int) → Int → (List Int) → (List Int) → (List Int) → Int → (List Int) → (List (List Int)) → Int → (List Int) → (List Int) → (List Int) → (List Int) → (List Int) → (List Int) → (List Int) → (List Int) → (List Int) → Option R) (ke10 : Int → Int → (List Int) → Int → (List Int) → (List Int) → (List Int) → Int → (List Int) → (List (List Int)) → Int → (List Int) → (List Int) → (List Int) → (List Int) → (List Int) → (List Int) → (List Int) → (List Int) → (List Int) → Option R) : Option R :=
  bif decide (x153 < x152) then
    bif inB x153 (List.length x163) then
      F.spec_Minimize_l12 N N x150 x151 x153 (List.getD x163 (Int.toNat x153) (0 : Int)) true x152 x153 (List.length x161 : Int) 0 x154 x155 x156 x157 x158 x159 x160 x161 x162 x163 x164 x165 x166 x167 x168 x169 x170 x171
        (fun y199 y200 y201 y202 y203 y204 y205 y206 y207 y208 y209 y210 y211 y212 y213 y214 y215 y216 y217 y218 y219 y220 y221 y222 =>
          bif y202 then
            next y199 y201 y203 (wrapK .i64 (y204 + 1)) y205 y206 y207 y208 y209 y210 y211 y212 y213 y214 y215 y216 y217 y218 y219 y220 y221 y222
          else
            next y199 y200 y203 (wrapK .i64 (y204 + 1)) y205 y206 y207 y208 y209 y210 y211 y212 y213 y214 y215 y216 y217 y218 y219 y220 y221 y222)
    else
      none
  else
    ke10 x150 x151 x154 x155 x156 x157 x158 x159 x160 x161 x162 x163 x164 x165 x166 x167 x168 x169 x170 x171
def F.spec_Minimize_l10 {R : Type} (N : Nat) : Nat → Int → Int → Int → Int → (List Int) → Int → (List Int) → (List Int) → (List Int) → Int → (List Int) → (List (List Int)) → Int → (List Int) → (List Int) → (List Int) → (List Int) → (List Int) → (List Int) → (List Int) → (List Int) → (List Int) → (Int → Int → (List Int) → Int → (List Int) → (List Int) → (List Int) → Int → (List Int) → (List (List Int)) → Int → (List Int) → (List Int) → (List Int) → (List Int) → (List Int) → (List Int) → (List Int) → (List Int) → (List Int) → Option R) → Option R
  | 0, _, _, _, _, _, _, _, _, _, _, _, _, _, _, _, _, _, _, _, _, _, _, _ => none
  | n + 1, x150, x151, x152, x153, x154, x155, x156, x157, x158, x159, x160, x161, x162, x163, x164, x165, x166, x167, x168, x169, x170, x171, ke10 => F.spec_Minimize_l10_s N x150 x151 x152 x153 x154 x155 x156 x157 x158 x159 x160 x161 x162 x163 x164 x165 x166 x167 x168 x169 x170 x171 (fun x150 x151 x152 x153 x154 x155 x156 x157 x158 x159 x160 x161 x162 x163 x164 x165 x166 x167 x168 x169 x170 x171 => F.spec_Minimize_l10 N n x150 x151 x152 x153 x154 x155 x156 x157 x158 x159 x160 x161 x162 x163 x164 x165 x166 x167 x168 x169 x170 x171 ke10) ke10
def F.spec_Minimize_l8_s {R : Type} (N : Nat) (x131 : Int) (x132 : List Int) (x133 : Int) (x134 : List Int) (x135 : List Int) (x136 : List Int) (x137 : Int) (x138 : List Int) (x139 : List (List Int)) (x140 : Int) (x141 : List Int) (x142 : List Int) (x143 : List Int) (x144 : List Int) (x145 : List Int) (x146 : List Int) (x147 : List Int) (x148 : List Int) (x149 : List Int) (next : Int → (List Int) → Int → (List Int) → (List Int) → (List Int) → Int → (List Int) → (List (List Int)) → Int → (List Int) → (List Int) → (List Int) → (List Int) → (List Int) → (List Int) → (List Int) → (List Int) → (List Int) → Option R) (ke8 : (List Int) → Int → (List Int) → (List Int) → (List Int) → Int → (List Int) → (List (List Int)) → Int → (List Int) → (List Int) → (List Int) → (List Int) → (List Int) → (List Int) → (List Int) → (List Int) → (List Int) → Option R) : Option R :=
  bif decide (x131 < 256) then
    F.spec_Minimize_l10 N N x131 (-1) (List.length x141 : Int) 0 x132 x133 x134 x135 x136 x137 x138 x139 x140 x141 x142 x143 x144 x145 x146 x147 x148 x149
      (fun y223 y224 y225 y226 y227 y228 y229 y230 y231 y232 y233 y234 y235 y236 y237 y238 y239 y240 y241 y242 =>
        bif decide (y224 < 0) then
          bif Nat.ble (List.length y234 + List.length [y223]) (bigOf 8) then
            bif Nat.ble (List.length y239 + List.length [(List.length y234 : Int)]) (bigOf 8) then
              next (wrapK .i64 (y223 + 1)) y225 y226 y227 y228 y229 y230 y231 y232 y233 (y234 ++ [y223]) y235 y236 y237 y238 (y239 ++ [(List.length y234 : Int)]) y240 y241 y242
            else
              none
          else
            none
        else
          bif Nat.ble (List.length y239 + List.length [y224]) (bigOf 8) then
            next (wrapK .i64 (y223 + 1)) y225 y226 y227 y228 y229 y230 y231 y232 y233 y234 y235 y236 y237 y238 (y239 ++ [y224]) y240 y241 y242
          else
            none)
  else
    ke8 x132 x133 x134 x135 x136 x137 x138 x139 x140 x141 x142 x143 x144 x145 x146 x147 x148 x149
def F.spec_Minimize_l8 {R : Type} (N : Nat) : Nat → Int → (List Int) → Int → (List Int) → (List Int) → (List Int) → Int → (List Int) → (List (List Int)) → Int → (List Int) → (List Int) → (List Int) → (List Int) → (List Int) → (List Int) → (List Int) → (List Int) → (List Int) → ((List Int) → Int → (List Int) → (List Int) → (List Int) → Int → (List Int) → (List (List Int)) → Int → (List Int) → (List Int) → (List Int) → (List Int) → (List Int) → (List Int) → (List Int) → (List Int) → (List Int) → Option R) → Option R
  | 0, _, _, _, _, _, _, _, _, _, _, _, _, _, _, _, _, _, _, _, _ => none
  | n + 1, x131, x132, x133, x134, x135, x136, x137, x138, x139, x140, x141, x142, x143, x144, x145, x146, x147, x148, x149, ke8 => F.spec_Minimize_l8_s N x131 x132 x133 x134 x135 x136 x137 x138 x139 x140 x141 x142 x143 x144 x145 x146 x147 x148 x149 (fun x131 x132 x133 x134 x135 x136 x137 x138 x139 x140 x141 x142 x143 x144 x145 x146 x147 x148 x149 => F.spec_Minimize_l8 N n x131 x132 x133 x134 x135 x136 x137 x138 x139 x140 x141 x142 x143 x144 x145 x146 x147 x148 x149 ke8) ke8
def F.spec_Minimize_l16_s {R : Type} (N : Nat) (x281 : Int) (x282 : Int) (x283 : Int) (x284 : Int) (x285 : Int) (x286 : Int) (x287 : List Int) (x288 : Int) (x289 : List Int) (x290 : List Int) (x291 : List Int) (x292 : Int) (x293 : List (List Int)) (x294 : Int) (x295 : List Int) (x296 : List Int) (x297 : List Int) (x298 : List Int) (x299 : List Int) (x300 : List Int) (x301 : List Int) (x302 : List Int) (x303 : List Int) (x304 : List Int) (next : Int → Int → Int → Int → Int → Int → (List Int) → Int → (List Int) → (List Int) → (List Int) → Int → (List (List Int)) → Int → (List Int) → (List Int) → (List Int) → (List Int) → (List Int) → (List Int) → (List Int) → (List Int) → (List Int) → (List Int) → Option R) (ke16 : Int → Int → Int → (List Int) → Int → (List Int) → (List Int) → (List Int) → Int → (List (List Int)) → Int → (List Int) → (List Int) → (List Int) → (List Int) → (List Int) → (List Int) → (List Int) → (List Int) → (List Int) → (List Int) → Option R) : Option R :=
  bif decide (x286 < x285) then
    bif inB x286 (List.length x295) then
      bif inB x281 (List.length x293) then
        bif inB (List.getD x295 (Int.toNat x286) (0 : Int)) (List.length (List.getD x293 (Int.toNat x281) ([] : List Int))) then
          bif Nat.ble (List.length x302 + List.length [List.getD (List.getD x293 (Int.toNat x281) ([] : List Int)) (Int.toNat (List.getD x295 (Int.toNat x286) (0 : Int))) (0 : Int)]) (bigOf 8) then
            next x281 x282 x283 x284 x285 (wrapK .i64 (x286 + 1)) x287 x288 x289 x290 x291 x292 x293 x294 x295 x296 x297 x298 x299 x300 x301 (x302 ++ [List.getD (List.getD x293 (Int.toNat x281) ([] : List Int)) (Int.toNat (List.getD x295 (Int.toNat x286) (0 : Int))) (0 : Int)]) x303 x304
          else
            none
        else
          none
      else
        none
    else
      none
  else
    ke16 x282 x283 x284 x287 x288 x289 x290 x291 x292 x293 x294 x295 x296 x297 x298 x299 x300 x301 x302 x303 x304
def F.spec_Minimize_l16 {R : Type} (N : Nat) : Nat → Int → Int → Int → Int → Int → Int → (List Int) → Int → (List Int) → (List Int) → (List Int) → Int → (List (List Int)) → Int → (List Int) → (List Int) → (List Int) → (List Int) → (List Int) → (List Int) → (List Int) → (List Int) → (List Int) → (List Int) → (Int → Int → Int → (List Int) → Int → (List Int) → (List Int) → (List Int) → Int → (List (List Int)) → Int → (List Int) → (List Int) → (List Int) → (List Int) → (List Int) → (List Int) → (List Int) → (List Int) → (List Int) → (List Int) → Option R) → Option R
  | 0, _, _, _, _, _, _, _, _, _, _, _, _, _, _, _, _, _, _, _, _, _, _, _, _, _ => none
  | n + 1, x281, x282, x283, x284, x285, x286, x287, x288, x289, x290, x291, x292, x293, x294, x295, x296, x297, x298, x299, x300, x301, x302, x303, x304, ke16 => F.spec_Minimize_l16_s N x281 x282 x283 x284 x285 x286 x287 x288 x289 x290 x291 x292 x293 x294 x295 x296 x297 x298 x299 x300 x301 x302 x303 x304 (fun x281 x282 x283 x284 x285 x286 x287 x288 x289 x290 x291 x292 x293 x294 x295 x296 x297 x298 x299 x300 x301 x302 x303 x304 => F.spec_Minimize_l16 N n x281 x282 x283 x284 x285 x286 x287 x288 x289 x290 x291 x292 x293 x294 x295 x296 x297 x298 x299 x300 x301 x302 x303 x304 ke16) ke16
def F.spec_Minimize_l14_s {R : Type} (N : Nat) (x261 : Int) (x262 : Int) (x263 : List Int) (x264 : Int) (x265 : List Int) (x266 : List Int) (x267 : List Int) (x268 : Int) (x269 : List (List Int)) (x270 : Int) (x271 : List Int) (x272 : List Int) (x273 : List Int) (x274 : List Int) (x275 : List Int) (x276 : List Int) (x277 : List Int) (x278 : List Int) (x279 : List Int) (x280 : List Int) (next : Int → Int → (List Int) → Int → (List Int) → (List Int) → (List Int) → Int → (List (List Int)) → Int → (List Int) → (List Int) → (List Int) → (List Int) → (List Int) → (List Int) → (List Int) → (List Int) → (List Int) → (List Int) → Option R) (ke14 : Int → Int → (List Int) → (List Int) → (List Int) → (List Int) → (List Int) → (List Int) → (List Int) → (List Int) → Option R) : Option R :=
  bif decide (x262 < x261) then
    bif inB x262 (List.length x272) then
      F.spec_Minimize_l16 N N x262 (List.getD x272 (Int.toNat x262) (0 : Int)) x261 x262 (List.length x271 : Int) 0 x263 x264 x265 x266 x267 x268 x269 x270 x271 x272 x273 x274 x275 x276 x277 x278 x279 x280
        (fun y305 y306 y307 y308 y309 y310 y311 y312 y313 y314 y315 y316 y317 y318 y319 y320 y321 y322 y323 y324 y325 =>
          bif inB y305 (List.length y311) then
            bif Nat.ble (List.length y324 + List.length [List.getD y311 (Int.toNat y305) (0 : Int)]) (bigOf 8) then
              bif inB y305 (List.length y312) then
                bif Nat.ble (List.length y325 + List.length [List.getD y312 (Int.toNat y305) (0 : Int)]) (bigOf 8) then
                  next y306 (wrapK .i64 (y307 + 1)) y308 y309 y310 y311 y312 y313 y314 y315 y316 y317 y318 y319 y320 y321 y322 y323 (y324 ++ [List.getD y311 (Int.toNat y305) (0 : Int)]) (y325 ++ [List.getD y312 (Int.toNat y305) (0 : Int)])
                else
                  none
              else
                none
            else
              none
          else
            none)
    else
      none
  else
    ke14 x268 x270 x273 x274 x275 x276 x277 x278 x279 x280
def F.spec_Minimize_l14 {R : Type} (N : Nat) : Nat → Int → Int → (List Int) → Int → (List Int) → (List Int) → (List Int) → Int → (List (List Int)) → Int → (List Int) → (List Int) → (List Int) → (List Int) → (List Int) → (List Int) → (List Int) → (List Int) → (List Int) → (List Int) → (Int → Int → (List Int) → (List Int) → (List Int) → (List Int) → (List Int) → (List Int) → (List Int) → (List Int) → Option R) → Option R
  | 0, _, _, _, _, _, _, _, _, _, _, _, _, _, _, _, _, _, _, _, _, _ => none
  | n + 1, x261, x262, x263, x264, x265, x266, x267, x268, x269, x270, x271, x272, x273, x274, x275, x276, x277, x278, x279, x280, ke14 => F.spec_Minimize_l14_s N x261 x262 x263 x264 x265 x266 x267 x268 x269 x270 x271 x272 x273 x274 x275 x276 x277 x278 x279 x280 (fun x261 x262 x263 x264 x265 x266 x267 x268 x269 x270 x271 x272 x273 x274 x275 x276 x277 x278 x279 x280 => F.spec_Minimize_l14 N n x261 x262 x263 x264 x265 x266 x267 x268 x269 x270 x271 x272 x273 x274 x275 x276 x277 x278 x279 x280 ke14) ke14
def F.spec_Minimize {R : Type} (N : Nat) (x1 : List Int) (x2 : Int) (x3 : List Int) (x4 : List Int) (x5 : List Int) (k : Int → (List Int) → (List Int) → (List Int) → (List Int) → Option R) : Option R :=
  F.spec_DfaOK N x1 x2 x3 x4 x5 fun r6 =>
  bif !r6 then
    k 0 ([] : List Int) ([] : List Int) ([] : List Int) ([] : List Int)
  else
    F.spec_l2Reached N x1 x2 x3 x4 x5 fun r7 =>
    F.spec_l2Apart N x1 x2 x3 x4 x5 r7 fun r8 =>
    bif decide (0 ≤ (List.length x4 : Int)) then
      bif Nat.ble (Int.toNat (List.length x4 : Int)) (bigOf 8) then
        F.spec_Minimize_l0 N N (List.length r7 : Int) 0 x1 x2 x3 x4 x5 0 r7 r8 (List.replicate (Int.toNat (List.length x4 : Int)) (0 : Int)) ([] : List Int) ([] : List Int) ([] : List Int) ([] : List Int)
          (fun y59 y60 y61 y62 y63 y64 y65 y66 y67 y68 y69 =>
            bif inB 0 (List.length y65) then
              F.spec_Minimize_l4 N N 0 y59 y60 y61 y62 y63 y64 y65 [List.getD y65 (Int.toNat 0) (0 : Int)] ([] : List (List Int)) y66 y67 y68 y69
                (fun y119 y120 y121 y122 y123 y124 y125 y126 y127 y128 y129 y130 =>
                  F.spec_Minimize_l8 N N 0 y119 y120 y121 y122 y123 y124 y125 y126 0 ([] : List Int) y127 y128 y129 y130 ([] : List Int) ([] : List Int) ([] : List Int) ([] : List Int)
                    (fun y243 y244 y245 y246 y247 y248 y249 y250 y251 y252 y253 y254 y255 y256 y257 y258 y259 y260 =>
                      F.spec_Minimize_l14 N N (List.length y249 : Int) 0 y243 y244 y245 y246 y247 y248 y250 (List.length y252 : Int) y252 y249 y253 y254 y255 y256 y257 y258 y259 y260
                        (fun y326 y327 y328 y329 y330 y331 y332 y333 y334 y335 =>
                          k y327 y332 y333 y334 y335)))
            else
              none)
      else
        none
    else
      none
/-! ### loop.example/s0007/impl.DfaOK$1$1 -/
def F.impl_DfaOK_1_1 {R : Type} (x1 : Int) (x2 : Int) (x3 : Int) (k : Bool → Option R) : Option R :=
  bif decide (x1 < x2) then
    k true
  else
    k (decide (x1 > x3))
/-! ### slices.IndexFunc[[]int,int] -/
def F.slices_IndexFunc_l0_s {R : Type} (N : Nat) (x4 : List Int) (x5 : Int) (x6 : Int) (x7 : Int) (x8 : Int) (next : (List Int) → Int → Int → Int → Int → Option R) (ke0 : Int → Int → Option R) (kret : Int → Int → Int → Option R) : Option R :=
  bif decide (x6 < x5) then
    bif inB x6 (List.length x4) then
      F.impl_DfaOK_1_1 (List.getD x4 (Int.toNat x6) (0 : Int)) x7 x8 fun r9 =>
      bif r9 then
        kret x6 x7 x8
      else
        next x4 x5 (wrapK .i64 (x6 + 1)) x7 x8
    else
      none
  else
    ke0 x7 x8
def F.slices_IndexFunc_l0 {R : Type} (N : Nat) : Nat → (List Int) → Int → Int → Int → Int → (Int → Int → Option R) → (Int → Int → Int → Option R) → Option R
  | 0, _, _, _, _, _, _, _ => none
  | n + 1, x4, x5, x6, x7, x8, ke0, kret => F.slices_IndexFunc_l0_s N x4 x5 x6 x7 x8 (fun x4 x5 x6 x7 x8 => F.slices_IndexFunc_l0 N n x4 x5 x6 x7 x8 ke0 kret) ke0 kret
def F.slices_IndexFunc {R : Type} (N : Nat) (x1 : List Int) (x2 : Int) (x3 : Int) (k : Int → Int → Int → Option R) : Option R :=
  F.slices_IndexFunc_l0 N N x1 (List.length x1 : Int) 0 x2 x3
    (fun y10 y11 =>
      k (-1) y10 y11)
    (fun y12 y13 y14 =>
      k y12 y13 y14)
/-! ### slices.ContainsFunc[[]int,int] -/
def F.slices_ContainsFunc {R : Type} (N : Nat) (x1 : List Int) (x2 : Int) (x3 : Int) (k : Bool → Int → Int → Option R) : Option R :=
  F.slices_IndexFunc N x1 x2 x3 fun r4 r5 r6 =>
  k (decide (r4 ≥ 0)) r5 r6
/-! ### loop.example/s0007/impl.DfaOK$1 -/
def F.impl_DfaOK_1 {R : Type} (N : Nat) (x1 : List Int) (x2 : Int) (x3 : Int) (k : Bool → Option R) : Option R :=
  F.slices_ContainsFunc N x1 x2 x3 fun r4 r5 r6 =>
  k (!r4)
/-! ### loop.example/s0007/impl.DfaOK -/
def F.impl_DfaOK {R : Type} (N : Nat) (x1 : List Int) (x2 : Int) (x3 : List Int) (x4 : List Int) (x5 : List Int) (k : Bool → Option R) : Option R :=
  bif (List.length x1 : Int) != 256 then
    k false
  else
    bif decide (x2 < 1) then
      k false
    else
      bif decide (x2 > 256) then
        k false
      else
        bif decide ((List.length x4 : Int) < 1) then
          k false
        else
          bif decide ((List.length x4 : Int) > 4000) then
            k false
          else
            bif (List.length x5 : Int) != (List.length x4 : Int) then
              k false
            else
              bif (List.length x3 : Int) != (wrapK .i64 ((List.length x4 : Int) * x2)) then
                k false
              else
                F.impl_DfaOK_1 N x1 0 (wrapK .i64 (x2 - 1)) fun r6 =>
                bif r6 then
                  F.impl_DfaOK_1 N x3 0 (wrapK .i64 ((List.length x4 : Int) - 1)) fun r7 =>
                  bif r7 then
                    F.impl_DfaOK_1 N x4 (-1) 99 fun r8 =>
                    bif r8 then
                      F.impl_DfaOK_1 N x5 (-1) 99 fun r9 =>
                      k r9
                    else
                      k false
                  else
                    k false
                else
                  k false
/-! ### loop.example/s0007/impl.everyByte -/
def F.impl_everyByte {R : Type} (k : Unit → Option R) : Option R :=
  k ()
/-! ### (loop.example/s0007/impl.Dfa).step -/
def F.impl_Dfa_step {R : Type} (x1 : List Int) (x2 : Int) (x3 : List Int) (x4 : List Int) (x5 : List Int) (x6 : Int) (x7 : Int) (k : Int → Option R) : Option R :=
  bif inB x7 (List.length x1) then
    bif inB (wrapK .i64 ((wrapK .i64 (x6 * x2)) + (List.getD x1 (Int.toNat x7) (0 : Int)))) (List.length x3) then
      k (List.getD x3 (Int.toNat (wrapK .i64 ((wrapK .i64 (x6 * x2)) + (List.getD x1 (Int.toNat x7) (0 : Int))))) (0 : Int))
    else
      none
  else
    none
/-! ### (loop.example/s0007/impl.Dfa).reached -/
def F.impl_Dfa_reached_l2_s {R : Type} (C N : Nat) (j : Nat) (x14 : List Int) (x15 : Int) (x16 : List Int) (x17 : List Int) (x18 : List Int) (x19 : Int) (x20 : List Bool) (x21 : List Int) (next : (List Int) → Int → (List Int) → (List Int) → (List Int) → Int → (List Bool) → (List Int) → Option R) : Option R :=
  bif inB x19 (List.length x21) then
    F.impl_Dfa_step x14 x15 x16 x17 x18 (List.getD x21 (Int.toNat x19) (0 : Int)) (j : Int) fun r22 =>
    bif inB r22 (List.length x20) then
      bif !(List.getD x20 (Int.toNat r22) false) then
        bif inB r22 (List.length x20) then
          bif Nat.ble (List.length x21 + List.length [r22]) (bigOf 8) then
            next x14 x15 x16 x17 x18 x19 (List.set x20 (Int.toNat r22) true) (x21 ++ [r22])
          else
            none
        else
          none
      else
        next x14 x15 x16 x17 x18 x19 x20 x21
    else
      none
  else
    none
def F.impl_Dfa_reached_l2 {R : Type} (C N : Nat) : Nat → Nat → (List Int) → Int → (List Int) → (List Int) → (List Int) → Int → (List Bool) → (List Int) → ((List Int) → Int → (List Int) → (List Int) → (List Int) → Int → (List Bool) → (List Int) → Option R) → Option R
  | 0, j, x14, x15, x16, x17, x18, x19, x20, x21, knormal => knormal x14 x15 x16 x17 x18 x19 x20 x21
  | n + 1, j, x14, x15, x16, x17, x18, x19, x20, x21, knormal => F.impl_Dfa_reached_l2_s C N j x14 x15 x16 x17 x18 x19 x20 x21 (fun x14 x15 x16 x17 x18 x19 x20 x21 => F.impl_Dfa_reached_l2 C N n (j + 1) x14 x15 x16 x17 x18 x19 x20 x21 knormal)
def F.impl_Dfa_reached_l0_s {R : Type} (C N : Nat) (x6 : List Int) (x7 : Int) (x8 : List Int) (x9 : List Int) (x10 : List Int) (x11 : Int) (x12 : List Bool) (x13 : List Int) (next : (List Int) → Int → (List Int) → (List Int) → (List Int) → Int → (List Bool) → (List Int) → Option R) (ke0 : (List Int) → Option R) : Option R :=
  bif decide (x11 < (List.length x13 : Int)) then
    F.impl_everyByte fun _ =>
    F.impl_Dfa_reached_l2 C N C 0 x6 x7 x8 x9 x10 x11 x12 x13
      (fun y23 y24 y25 y26 y27 y28 y29 y30 =>
        next y23 y24 y25 y26 y27 (wrapK .i64 (y28 + 1)) y29 y30)
  else
    ke0 x13
def F.impl_Dfa_reached_l0 {R : Type} (C N : Nat) : Nat → (List Int) → Int → (List Int) → (List Int) → (List Int) → Int → (List Bool) → (List Int) → ((List Int) → Option R) → Option R
  | 0, _, _, _, _, _, _, _, _, _ => none
  | n + 1, x6, x7, x8, x9, x10, x11, x12, x13, ke0 => F.impl_Dfa_reached_l0_s C N x6 x7 x8 x9 x10 x11 x12 x13 (fun x6 x7 x8 x9 x10 x11 x12 x13 => F.impl_Dfa_reached_l0 C N n x6 x7 x8 x9 x10 x11 x12 x13 ke0) ke0
def F.impl_Dfa_reached_c {R : Type} (C N : Nat) (x1 : List Int) (x2 : Int) (x3 : List Int) (x4 : List Int) (x5 : List Int) (k : (List Int) → Option R) : Option R :=
  bif decide (0 ≤ (List.length x4 : Int)) then
    bif Nat.ble (Int.toNat (List.length x4 : Int)) (bigOf 1) then
      bif inB 0 (List.length (List.replicate (Int.toNat (List.length x4 : Int)) false)) then
        F.impl_Dfa_reached_l0 C N N x1 x2 x3 x4 x5 0 (List.set (List.replicate (Int.toNat (List.length x4 : Int)) false) (Int.toNat 0) true) [0]
          (fun y31 =>
            k y31)
      else
        none
    else
      none
  else
    none
def F.impl_Dfa_reached {R : Type} (N : Nat) (x1 : List Int) (x2 : Int) (x3 : List Int) (x4 : List Int) (x5 : List Int) (k : (List Int) → Option R) : Option R := F.impl_Dfa_reached_c 256 N x1 x2 x3 x4 x5 k
/-! ### (loop.example/s0007/impl.Dfa).blocks$2 -/
def F.impl_Dfa_blocks_2 {R : Type} (x1 : Int) (x2 : List Int) (x3 : Int) (x4 : List Int) (x5 : List Int) (x6 : List Int) (k : (List Int) → Option R) : Option R :=
  bif inB x1 (List.length x5) then
    bif inB x1 (List.length x6) then
      k (List.set (List.set (List.replicate 2 (0 : Int)) 0 (List.getD x5 (Int.toNat x1) (0 : Int))) 1 (List.getD x6 (Int.toNat x1) (0 : Int)))
    else
      none
  else
    none
/-! ### (loop.example/s0007/impl.Dfa).blocks$1 -/
def F.impl_Dfa_blocks_1_l0_s {R : Type} (N : Nat) (x9 : List Int) (x10 : Int) (x11 : Int) (x12 : List Int) (x13 : Int) (x14 : List Int) (x15 : List Int) (x16 : List Int) (x17 : Int) (x18 : List ((List Int) × Int)) (x19 : List Int) (x20 : List Int) (next : (List Int) → Int → Int → (List Int) → Int → (List Int) → (List Int) → (List Int) → Int → (List ((List Int) × Int)) → (List Int) → (List Int) → Option R) (ke0 : (List Int) → Int → (List Int) → (List Int) → (List Int) → Int → (List ((List Int) × Int)) → (List Int) → (List Int) → Option R) : Option R :=
  bif decide (x11 < x10) then
    bif inB x11 (List.length x9) then
      F.impl_Dfa_blocks_2 (List.getD x9 (Int.toNat x11) (0 : Int)) x12 x13 x14 x15 x16 fun r21 =>
      bif !(mhas eqL r21 x18) then
        bif inB (List.getD x9 (Int.toNat x11) (0 : Int)) (List.length x19) then
          next x9 x10 (wrapK .i64 (x11 + 1)) x12 x13 x14 x15 x16 x17 (mset eqL r21 (List.length x18 : Int) x18) (List.set x19 (Int.toNat (List.getD x9 (Int.toNat x11) (0 : Int))) (mget eqL r21 (0 : Int) (mset eqL r21 (List.length x18 : Int) x18))) x20
        else
          none
      else
        bif inB (List.getD x9 (Int.toNat x11) (0 : Int)) (List.length x19) then
          next x9 x10 (wrapK .i64 (x11 + 1)) x12 x13 x14 x15 x16 x17 x18 (List.set x19 (Int.toNat (List.getD x9 (Int.toNat x11) (0 : Int))) (mget eqL r21 (0 : Int) x18)) x20
        else
          none
    else
      none
  else
    ke0 x12 x13 x14 x15 x16 x17 x18 x19 x20
def F.impl_Dfa_blocks_1_l0 {R : Type} (N : Nat) : Nat → (List Int) → Int → Int → (List Int) → Int → (List Int) → (List Int) → (List Int) → Int → (List ((List Int) × Int)) → (List Int) → (List Int) → ((List Int) → Int → (List Int) → (List Int) → (List Int) → Int → (List ((List Int) × Int)) → (List Int) → (List Int) → Option R) → Option R
  | 0, _, _, _, _, _, _, _, _, _, _, _, _, _ => none
  | n + 1, x9, x10, x11, x12, x13, x14, x15, x16, x17, x18, x19, x20, ke0 => F.impl_Dfa_blocks_1_l0_s N x9 x10 x11 x12 x13 x14 x15 x16 x17 x18 x19 x20 (fun x9 x10 x11 x12 x13 x14 x15 x16 x17 x18 x19 x20 => F.impl_Dfa_blocks_1_l0 N n x9 x10 x11 x12 x13 x14 x15 x16 x17 x18 x19 x20 ke0) ke0
def F.impl_Dfa_blocks_1 {R : Type} (N : Nat) (x1 : List Int) (x2 : List Int) (x3 : Int) (x4 : List Int) (x5 : List Int) (x6 : List Int) (x7 : Int) (x8 : List Int) (k : (List Int) → Int → (List Int) → (List Int) → (List Int) → Int → (List Int) → Option R) : Option R :=
  bif decide (0 ≤ (List.length x8 : Int)) then
    bif Nat.ble (Int.toNat (List.length x8 : Int)) (bigOf 8) then
      F.impl_Dfa_blocks_1_l0 N N x1 (List.length x1 : Int) 0 x2 x3 x4 x5 x6 x7 ([] : List ((List Int) × Int)) (List.replicate (Int.toNat (List.length x8 : Int)) (0 : Int)) x8
        (fun y22 y23 y24 y25 y26 y27 y28 y29 y30 =>
          k y22 y23 y24 y25 y26 (List.length y28 : Int) y29)
    else
      none
  else
    none
/-! ### slices.Index[[]int,int] -/
def F.slices_Index_l0_s {R : Type} (N : Nat) (x3 : List Int) (x4 : Int) (x5 : Int) (x6 : Int) (next : (List Int) → Int → Int → Int → Option R) (ke0 : Unit → Option R) (kret : Int → Option R) : Option R :=
  bif decide (x6 < x5) then
    bif inB x6 (List.length x3) then
      bif x4 == (List.getD x3 (Int.toNat x6) (0 : Int)) then
        kret x6
      else
        next x3 x4 x5 (wrapK .i64 (x6 + 1))
    else
      none
  else
    ke0 ()
def F.slices_Index_l0 {R : Type} (N : Nat) : Nat → (List Int) → Int → Int → Int → (Unit → Option R) → (Int → Option R) → Option R
  | 0, _, _, _, _, _, _ => none
  | n + 1, x3, x4, x5, x6, ke0, kret => F.slices_Index_l0_s N x3 x4 x5 x6 (fun x3 x4 x5 x6 => F.slices_Index_l0 N n x3 x4 x5 x6 ke0 kret) ke0 kret
def F.slices_Index {R : Type} (N : Nat) (x1 : List Int) (x2 : Int) (k : Int → Option R) : Option R :=
  F.slices_Index_l0 N N x1 x2 (List.length x1 : Int) 0
    (fun _ =>
      k (-1))
    (fun y7 =>
      k y7)
/-! ### (loop.example/s0007/impl.Dfa).blocks$3 -/
def F.impl_Dfa_blocks_3 {R : Type} (x1 : Int) (x2 : List Int) (x3 : List Int) (x4 : Int) (x5 : List Int) (x6 : List Int) (x7 : List Int) (x8 : Int) (k : (List Int) → Option R) : Option R :=
  bif inB x1 (List.length x2) then
    F.impl_Dfa_step x3 x4 x5 x6 x7 x1 x8 fun r9 =>
    bif inB r9 (List.length x2) then
      k (List.set (List.set (List.replicate 2 (0 : Int)) 0 (List.getD x2 (Int.toNat x1) (0 : Int))) 1 (List.getD x2 (Int.toNat r9) (0 : Int)))
    else
      none
  else
    none
/-! ### (loop.example/s0007/impl.Dfa).blocks$1 -/
def F.impl_Dfa_blocks_1_v1_l0_s {R : Type} (N : Nat) (x10 : List Int) (x11 : Int) (x12 : Int) (x13 : List Int) (x14 : Int) (x15 : List Int) (x16 : List Int) (x17 : List Int) (x18 : Int) (x19 : Int) (x20 : List ((List Int) × Int)) (x21 : List Int) (x22 : List Int) (next : (List Int) → Int → Int → (List Int) → Int → (List Int) → (List Int) → (List Int) → Int → Int → (List ((List Int) × Int)) → (List Int) → (List Int) → Option R) (ke0 : (List Int) → Int → (List Int) → (List Int) → (List Int) → Int → Int → (List ((List Int) × Int)) → (List Int) → (List Int) → Option R) : Option R :=
  bif decide (x12 < x11) then
    bif inB x12 (List.length x10) then
      F.impl_Dfa_blocks_3 (List.getD x10 (Int.toNat x12) (0 : Int)) x22 x13 x14 x15 x16 x17 x18 fun r23 =>
      bif !(mhas eqL r23 x20) then
        bif inB (List.getD x10 (Int.toNat x12) (0 : Int)) (List.length x21) then
          next x10 x11 (wrapK .i64 (x12 + 1)) x13 x14 x15 x16 x17 x18 x19 (mset eqL r23 (List.length x20 : Int) x20) (List.set x21 (Int.toNat (List.getD x10 (Int.toNat x12) (0 : Int))) (mget eqL r23 (0 : Int) (mset eqL r23 (List.length x20 : Int) x20))) x22
        else
          none
      else
        bif inB (List.getD x10 (Int.toNat x12) (0 : Int)) (List.length x21) then
          next x10 x11 (wrapK .i64 (x12 + 1)) x13 x14 x15 x16 x17 x18 x19 x20 (List.set x21 (Int.toNat (List.getD x10 (Int.toNat x12) (0 : Int))) (mget eqL r23 (0 : Int) x20)) x22
        else
          none
    else
      none
  else
    ke0 x13 x14 x15 x16 x17 x18 x19 x20 x21 x22
def F.impl_Dfa_blocks_1_v1_l0 {R : Type} (N : Nat) : Nat → (List Int) → Int → Int → (List Int) → Int → (List Int) → (List Int) → (List Int) → Int → Int → (List ((List Int) × Int)) → (List Int) → (List Int) → ((List Int) → Int → (List Int) → (List Int) → (List Int) → Int → Int → (List ((List Int) × Int)) → (List Int) → (List Int) → Option R) → Option R
  | 0, _, _, _, _, _, _, _, _, _, _, _, _, _, _ => none
  | n + 1, x10, x11, x12, x13, x14, x15, x16, x17, x18, x19, x20, x21, x22, ke0 => F.impl_Dfa_blocks_1_v1_l0_s N x10 x11 x12 x13 x14 x15 x16 x17 x18 x19 x20 x21 x22 (fun x10 x11 x12 x13 x14 x15 x16 x17 x18 x19 x20 x21 x22 => F.impl_Dfa_blocks_1_v1_l0 N n x10 x11 x12 x13 x14 x15 x16 x17 x18 x19 x20 x21 x22 ke0) ke0
def F.impl_Dfa_blocks_1_v1 {R : Type} (N : Nat) (x1 : List Int) (x2 : List Int) (x3 : Int) (x4 : List Int) (x5 : List Int) (x6 : List Int) (x7 : Int) (x8 : Int) (x9 : List Int) (k : (List Int) → Int → (List Int) → (List Int) → (List Int) → Int → Int → (List Int) → Option R) : Option R :=
  bif decide (0 ≤ (List.length x9 : Int)) then
    bif Nat.ble (Int.toNat (List.length x9 : Int)) (bigOf 8) then
      F.impl_Dfa_blocks_1_v1_l0 N N x1 (List.length x1 : Int) 0 x2 x3 x4 x5 x6 x7 x8 ([] : List ((List Int) × Int)) (List.replicate (Int.toNat (List.length x9 : Int)) (0 : Int)) x9
        (fun y24 y25 y26 y27 y28 y29 y30 y31 y32 y33 =>
          k y24 y25 y26 y27 y28 y29 (List.length y31 : Int) y32)
    else
      none
  else
    none
/-! ### (loop.example/s0007/impl.Dfa).blocks -/
def F.impl_Dfa_blocks_l2_s {R : Type} (C N : Nat) (j : Nat) (x23 : Int) (x24 : List Int) (x25 : Int) (x26 : List Int) (x27 : List Int) (x28 : List Int) (x29 : Int) (x30 : List Int) (x31 : List Int) (next : Int → (List Int) → Int → (List Int) → (List Int) → (List Int) → Int → (List Int) → (List Int) → Option R) : Option R :=
  bif inB (j : Int) (List.length x24) then
    F.slices_Index N x24 (List.getD x24 (Int.toNat (j : Int)) (0 : Int)) fun r32 =>
    bif r32 == (j : Int) then
      F.impl_Dfa_blocks_1_v1 N x31 x24 x25 x26 x27 x28 (j : Int) x29 x30 fun r33 r34 r35 r36 r37 r38 r39 r40 =>
      next x23 r33 r34 r35 r36 r37 r39 r40 x31
    else
      next x23 x24 x25 x26 x27 x28 x29 x30 x31
  else
    none
def F.impl_Dfa_blocks_l2 {R : Type} (C N : Nat) : Nat → Nat → Int → (List Int) → Int → (List Int) → (List Int) → (List Int) → Int → (List Int) → (List Int) → (Int → (List Int) → Int → (List Int) → (List Int) → (List Int) → Int → (List Int) → (List Int) → Option R) → Option R
  | 0, j, x23, x24, x25, x26, x27, x28, x29, x30, x31, knormal => knormal x23 x24 x25 x26 x27 x28 x29 x30 x31
  | n + 1, j, x23, x24, x25, x26, x27, x28, x29, x30, x31, knormal => F.impl_Dfa_blocks_l2_s C N j x23 x24 x25 x26 x27 x28 x29 x30 x31 (fun x23 x24 x25 x26 x27 x28 x29 x30 x31 => F.impl_Dfa_blocks_l2 C N n (j + 1) x23 x24 x25 x26 x27 x28 x29 x30 x31 knormal)
def F.impl_Dfa_blocks_l0_s {R : Type} (C N : Nat) (x14 : Int) (x15 : List Int) (x16 : Int) (x17 : List Int) (x18 : List Int) (x19 : List Int) (x20 : Int) (x21 : List Int) (x22 : List Int) (next : Int → (List Int) → Int → (List Int) → (List Int) → (List Int) → Int → (List Int) → (List Int) → Option R) (ke0 : (List Int) → Option R) : Option R :=
  bif x14 != x20 then
    F.impl_everyByte fun _ =>
    F.impl_Dfa_blocks_l2 C N C 0 x20 x15 x16 x17 x18 x19 x20 x21 x22
      (fun y41 y42 y43 y44 y45 y46 y47 y48 y49 =>
        next y41 y42 y43 y44 y45 y46 y47 y48 y49)
  else
    ke0 x21
def F.impl_Dfa_blocks_l0 {R : Type} (C N : Nat) : Nat → Int → (List Int) → Int → (List Int) → (List Int) → (List Int) → Int → (List Int) → (List Int) → ((List Int) → Option R) → Option R
  | 0, _, _, _, _, _, _, _, _, _, _ => none
  | n + 1, x14, x15, x16, x17, x18, x19, x20, x21, x22, ke0 => F.impl_Dfa_blocks_l0_s C N x14 x15 x16 x17 x18 x19 x20 x21 x22 (fun x14 x15 x16 x17 x18 x19 x20 x21 x22 => F.impl_Dfa_blocks_l0 C N n x14 x15 x16 x17 x18 x19 x20 x21 x22 ke0) ke0
def F.impl_Dfa_blocks_c {R : Type} (C N : Nat) (x1 : List Int) (x2 : Int) (x3 : List Int) (x4 : List Int) (x5 : List Int) (x6 : List Int) (k : (List Int) → Option R) : Option R :=
  bif decide (0 ≤ (List.length x4 : Int)) then
    bif Nat.ble (Int.toNat (List.length x4 : Int)) (bigOf 8) then
      F.impl_Dfa_blocks_1 N x6 x1 x2 x3 x4 x5 0 (List.replicate (Int.toNat (List.length x4 : Int)) (0 : Int)) fun r7 r8 r9 r10 r11 r12 r13 =>
      F.impl_Dfa_blocks_l0 C N N 0 r7 r8 r9 r10 r11 r12 r13 x6
        (fun y50 =>
          k y50)
    else
      none
  else
    none
def F.impl_Dfa_blocks {R : Type} (N : Nat) (x1 : List Int) (x2 : Int) (x3 : List Int) (x4 : List Int) (x5 : List Int) (x6 : List Int) (k : (List Int) → Option R) : Option R := F.impl_Dfa_blocks_c 256 N x1 x2 x3 x4 x5 x6 k
/-! ### loop.example/s0007/impl.Minimize -/
def F.impl_Minimize_l0_s {R : Type} (C N : Nat) (x9 : Int) (x10 : Int) (x11 : List Int) (x12 : Int) (x13 : List Int) (x14 : List Int) (x15 : List Int) (x16 : Int) (x17 : List Int) (x18 : List Int) (x19 : List Int) (x20 : List Int) (x21 : List Int) (x22 : List Int) (x23 : List Int) (x24 : List (Int × Int)) (x25 : List (List Int)) (next : Int → Int → (List Int) → Int → (List Int) → (List Int) → (List Int) → Int → (List Int) → (List Int) → (List Int) → (List Int) → (List Int) → (List Int) → (List Int) → (List (Int × Int)) → (List (List Int)) → Option R) (ke0 : (List Int) → Int → (List Int) → (List Int) → (List Int) → Int → (List Int) → (List Int) → (List Int) → (List Int) → (List Int) → (List Int) → (List (Int × Int)) → (List (List Int)) → Option R) : Option R :=
  bif decide (x10 < x9) then
    bif inB x10 (List.length x18) then
      bif inB (List.getD x18 (Int.toNat x10) (0 : Int)) (List.length x23) then
        bif !(mhas eqI (List.getD x23 (Int.toNat (List.getD x18 (Int.toNat x10) (0 : Int))) (0 : Int)) x24) then
          bif inB (List.getD x18 (Int.toNat x10) (0 : Int)) (List.length x23) then
            bif Nat.ble (List.length x17 + List.length [List.getD x18 (Int.toNat x10) (0 : Int)]) (bigOf 8) then
              next x9 (wrapK .i64 (x10 + 1)) x11 x12 x13 x14 x15 x16 (x17 ++ [List.getD x18 (Int.toNat x10) (0 : Int)]) x18 x19 x20 x21 x22 x23 (mset eqI (List.getD x23 (Int.toNat (List.getD x18 (Int.toNat x10) (0 : Int))) (0 : Int)) (List.length x17 : Int) x24) x25
            else
              none
          else
            none
        else
          next x9 (wrapK .i64 (x10 + 1)) x11 x12 x13 x14 x15 x16 x17 x18 x19 x20 x21 x22 x23 x24 x25
      else
        none
    else
      none
  else
    ke0 x11 x12 x13 x14 x15 x16 x17 x19 x20 x21 x22 x23 x24 x25
def F.impl_Minimize_l0 {R : Type} (C N : Nat) : Nat → Int → Int → (List Int) → Int → (List Int) → (List Int) → (List Int) → Int → (List Int) → (List Int) → (List Int) → (List Int) → (List Int) → (List Int) → (List Int) → (List (Int × Int)) → (List (List Int)) → ((List Int) → Int → (List Int) → (List Int) → (List Int) → Int → (List Int) → (List Int) → (List Int) → (List Int) → (List Int) → (List Int) → (List (Int × Int)) → (List (List Int)) → Option R) → Option R
  | 0, _, _, _, _, _, _, _, _, _, _, _, _, _, _, _, _, _, _ => none
  | n + 1, x9, x10, x11, x12, x13, x14, x15, x16, x17, x18, x19, x20, x21, x22, x23, x24, x25, ke0 => F.impl_Minimize_l0_s C N x9 x10 x11 x12 x13 x14 x15 x16 x17 x18 x19 x20 x21 x22 x23 x24 x25 (fun x9 x10 x11 x12 x13 x14 x15 x16 x17 x18 x19 x20 x21 x22 x23 x24 x25 => F.impl_Minimize_l0 C N n x9 x10 x11 x12 x13 x14 x15 x16 x17 x18 x19 x20 x21 x22 x23 x24 x25 ke0) ke0
def F.impl_Minimize_l4_s {R : Type} (C N : Nat) (j : Nat) (x56 : Int) (x57 : Int) (x58 : List Int) (x59 : Int) (x60 : List Int) (x61 : List Int) (x62 : List Int) (x63 : Int) (x64 : List Int) (x65 : Int) (x66 : List Int) (x67 : List Int) (x68 : List Int) (x69 : List Int) (x70 : List Int) (x71 : List Int) (x72 : List (Int × Int)) (x73 : List (List Int)) (next : Int → Int → (List Int) → Int → (List Int) → (List Int) → (List Int) → Int → (List Int) → Int → (List Int) → (List Int) → (List Int) → (List Int) → (List Int) → (List Int) → (List (Int × Int)) → (List (List Int)) → Option R) : Option R :=
  F.impl_Dfa_step x58 x59 x60 x61 x62 x65 (j : Int) fun r74 =>
  bif inB r74 (List.length x71) then
    bif inB (j : Int) 256 then
      next x56 x57 x58 x59 x60 x61 x62 x63 x64 x65 (List.set x66 (Int.toNat (j : Int)) (mget eqI (List.getD x71 (Int.toNat r74) (0 : Int)) (0 : Int) x72)) x67 x68 x69 x70 x71 x72 x73
    else
      none
  else
    none
def F.impl_Minimize_l4 {R : Type} (C N : Nat) : Nat → Nat → Int → Int → (List Int) → Int → (List Int) → (List Int) → (List Int) → Int → (List Int) → Int → (List Int) → (List Int) → (List Int) → (List Int) → (List Int) → (List Int) → (List (Int × Int)) → (List (List Int)) → (Int → Int → (List Int) → Int → (List Int) → (List Int) → (List Int) → Int → (List Int) → (List Int) → (List Int) → (List Int) → (List Int) → (List Int) → (List Int) → (List (Int × Int)) → (List (List Int)) → Option R) → Option R
  | 0, j, x56, x57, x58, x59, x60, x61, x62, x63, x64, x65, x66, x67, x68, x69, x70, x71, x72, x73, knormal => knormal x56 x57 x58 x59 x60 x61 x62 x63 x64 x66 x67 x68 x69 x70 x71 x72 x73
  | n + 1, j, x56, x57, x58, x59, x60, x61, x62, x63, x64, x65, x66, x67, x68, x69, x70, x71, x72, x73, knormal => F.impl_Minimize_l4_s C N j x56 x57 x58 x59 x60 x61 x62 x63 x64 x65 x66 x67 x68 x69 x70 x71 x72 x73 (fun x56 x57 x58 x59 x60 x61 x62 x63 x64 x65 x66 x67 x68 x69 x70 x71 x72 x73 => F.impl_Minimize_l4 C N n (j + 1) x56 x57 x58 x59 x60 x61 x62 x63 x64 x65 x66 x67 x68 x69 x70 x71 x72 x73 knormal)
def F.impl_Minimize_l2_s {R : Type} (C N : Nat) (x40 : Int) (x41 : Int) (x42 : List Int) (x43 : Int) (x44 : List Int) (x45 : List Int) (x46 : List Int) (x47 : Int) (x48 : List Int) (x49 : List Int) (x50 : List Int) (x51 : List Int) (x52 : List Int) (x53 : List Int) (x54 : List (Int × Int)) (x55 : List (List Int)) (next : Int → Int → (List Int) → Int → (List Int) → (List Int) → (List Int) → Int → (List Int) → (List Int) → (List Int) → (List Int) → (List Int) → (List Int) → (List (Int × Int)) → (List (List Int)) → Option R) (ke2 : (List Int) → Int → (List Int) → (List Int) → (List Int) → Int → (List Int) → (List Int) → (List Int) → (List Int) → (List Int) → (List (List Int)) → Option R) : Option R :=
  bif decide (x41 < x40) then
    bif inB x41 (List.length x48) then
      F.impl_everyByte fun _ =>
      F.impl_Minimize_l4 C N C 0 x40 x41 x42 x43 x44 x45 x46 x47 x48 (List.getD x48 (Int.toNat x41) (0 : Int)) (List.replicate 256 (0 : Int)) x49 x50 x51 x52 x53 x54 x55
        (fun y75 y76 y77 y78 y79 y80 y81 y82 y83 y84 y85 y86 y87 y88 y89 y90 y91 =>
          bif Nat.ble (List.length y91 + List.length [y84]) (bigOf 2048) then
            next y75 (wrapK .i64 (y76 + 1)) y77 y78 y79 y80 y81 y82 y83 y85 y86 y87 y88 y89 y90 (y91 ++ [y84])
          else
            none)
    else
      none
  else
    ke2 x42 x43 x44 x45 x46 x47 x48 x49 x50 x51 x52 x55
def F.impl_Minimize_l2 {R : Type} (C N : Nat) : Nat → Int → Int → (List Int) → Int → (List Int) → (List Int) → (List Int) → Int → (List Int) → (List Int) → (List Int) → (List Int) → (List Int) → (List Int) → (List (Int × Int)) → (List (List Int)) → ((List Int) → Int → (List Int) → (List Int) → (List Int) → Int → (List Int) → (List Int) → (List Int) → (List Int) → (List Int) → (List (List Int)) → Option R) → Option R
  | 0, _, _, _, _, _, _, _, _, _, _, _, _, _, _, _, _, _ => none
  | n + 1, x40, x41, x42, x43, x44, x45, x46, x47, x48, x49, x50, x51, x52, x53, x54, x55, ke2 => F.impl_Minimize_l2_s C N x40 x41 x42 x43 x44 x45 x46 x47 x48 x49 x50 x51 x52 x53 x54 x55 (fun x40 x41 x42 x43 x44 x45 x46 x47 x48 x49 x50 x51 x52 x53 x54 x55 => F.impl_Minimize_l2 C N n x40 x41 x42 x43 x44 x45 x46 x47 x48 x49 x50 x51 x52 x53 x54 x55 ke2) ke2
def F.impl_Minimize_l8_s {R : Type} (C N : Nat) (x123 : Int) (x124 : Int) (x125 : Int) (x126 : List Int) (x127 : Int) (x128 : List Int) (x129 : List Int) (x130 : List Int) (x131 : Int) (x132 : List Int) (x133 : Int) (x134 : List Int) (x135 : List (List Int)) (x136 : List Int) (x137 : List Int) (x138 : List Int) (x139 : List Int) (x140 : List Int) (x141 : List Int) (x142 : List Int) (x143 : List Int) (x144 : List ((List UInt8) × Int)) (x145 : List Int) (next : Int → Int → Int → (List Int) → Int → (List Int) → (List Int) → (List Int) → Int → (List Int) → Int → (List Int) → (List (List Int)) → (List Int) → (List Int) → (List Int) → (List Int) → (List Int) → (List Int) → (List Int) → (List Int) → (List ((List UInt8) × Int)) → (List Int) → Option R) (ke8 : Int → (List Int) → Int → (List Int) → (List Int) → (List Int) → Int → (List Int) → Int → (List Int) → (List Int) → (List Int) → (List Int) → (List Int) → (List (List Int)) → (List Int) → (List Int) → (List Int) → (List Int) → (List ((List UInt8) × Int)) → (List Int) → Option R) : Option R :=
  bif decide (x125 < x124) then
    bif inB x125 (List.length x135) then
      bif inB x123 256 then
        bif inB x123 256 then
          bif decide (0 ≤ 8) then
            bif Nat.ble (List.length x134 + List.length [wrapK .u8 (List.getD (List.getD x135 (Int.toNat x125) (List.replicate 256 (0 : Int))) (Int.toNat x123) (0 : Int)), wrapK .u8 (Int.fdiv (List.getD (List.getD x135 (Int.toNat x125) (List.replicate 256 (0 : Int))) (Int.toNat x123) (0 : Int)) (2 ^ min (Int.toNat 8) 64))]) (bigOf 1) then
              next x123 x124 (wrapK .i64 (x125 + 1)) x126 x127 x128 x129 x130 x131 x132 x133 (x134 ++ [wrapK .u8 (List.getD (List.getD x135 (Int.toNat x125) (List.replicate 256 (0 : Int))) (Int.toNat x123) (0 : Int)), wrapK .u8 (Int.fdiv (List.getD (List.getD x135 (Int.toNat x125) (List.replicate 256 (0 : Int))) (Int.toNat x123) (0 : Int)) (2 ^ min (Int.toNat 8) 64))]) x135 x136 x137 x138 x139 x140 x141 x142 x143 x144 x145
            else
              none
          else
            none
        else
          none
      else
        none
    else
      none
  else
    ke8 x123 x126 x127 x128 x129 x130 x131 x132 x133 x134 x136 x137 x138 x139 x135 x140 x141 x142 x143 x144 x145
def F.impl_Minimize_l8 {R : Type} (C N : Nat) : Nat → Int → Int → Int → (List Int) → Int → (List Int) → (List Int) → (List Int) → Int → (List Int) → Int → (List Int) → (List (List Int)) → (List Int) → (List Int) → (List Int) → (List Int) → (List Int) → (List Int) → (List Int) → (List Int) → (List ((List UInt8) × Int)) → (List Int) → (Int → (List Int) → Int → (List Int) → (List Int) → (List Int) → Int → (List Int) → Int → (List Int) → (List Int) → (List Int) → (List Int) → (List Int) → (List (List Int)) → (List Int) → (List Int) → (List Int) → (List Int) → (List ((List UInt8) × Int)) → (List Int) → Option R) → Option R
  | 0, _, _, _, _, _, _, _, _, _, _, _, _, _, _, _, _, _, _, _, _, _, _, _, _ => none
  | n + 1, x123, x124, x125, x126, x127, x128, x129, x130, x131, x132, x133, x134, x135, x136, x137, x138, x139, x140, x141, x142, x143, x144, x145, ke8 => F.impl_Minimize_l8_s C N x123 x124 x125 x126 x127 x128 x129 x130 x131 x132 x133 x134 x135 x136 x137 x138 x139 x140 x141 x142 x143 x144 x145 (fun x123 x124 x125 x126 x127 x128 x129 x130 x131 x132 x133 x134 x135 x136 x137 x138 x139 x140 x141 x142 x143 x144 x145 => F.impl_Minimize_l8 C N n x123 x124 x125 x126 x127 x128 x129 x130 x131 x132 x133 x134 x135 x136 x137 x138 x139 x140 x141 x142 x143 x144 x145 ke8) ke8
def F.impl_Minimize_l6_s {R : Type} (C N : Nat) (j : Nat) (x104 : List Int) (x105 : Int) (x106 : List Int) (x107 : List Int) (x108 : List Int) (x109 : Int) (x110 : List Int) (x111 : Int) (x112 : List Int) (x113 : List Int) (x114 : List Int) (x115 : List Int) (x116 : List (List Int)) (x117 : List Int) (x118 : List Int) (x119 : List Int) (x120 : List Int) (x121 : List ((List UInt8) × Int)) (x122 : List Int) (next : (List Int) → Int → (List Int) → (List Int) → (List Int) → Int → (List Int) → Int → (List Int) → (List Int) → (List Int) → (List Int) → (List (List Int)) → (List Int) → (List Int) → (List Int) → (List Int) → (List ((List UInt8) × Int)) → (List Int) → Option R) : Option R :=
  F.impl_Minimize_l8 C N N (j : Int) (List.length x116 : Int) 0 x104 x105 x106 x107 x108 x109 x110 x111 ([] : List Int) x116 x112 x113 x114 x115 x117 x118 x119 x120 x121 x122
    (fun y146 y147 y148 y149 y150 y151 y152 y153 y154 y155 y156 y157 y158 y159 y160 y161 y162 y163 y164 y165 y166 =>
      bif !(mhas eqS (intsStr y155) y165) then
        bif Nat.ble (List.length y166 + List.length [y146]) (bigOf 8) then
          bif inB y146 (List.length y161) then
            next y147 y148 y149 y150 y151 y152 y153 y154 y156 y157 y158 y159 y160 (List.set y161 (Int.toNat y146) (mget eqS (intsStr y155) (0 : Int) (mset eqS (intsStr y155) (List.length y165 : Int) y165))) y162 y163 y164 (mset eqS (intsStr y155) (List.length y165 : Int) y165) (y166 ++ [y146])
          else
            none
        else
          none
      else
        bif inB y146 (List.length y161) then
          next y147 y148 y149 y150 y151 y152 y153 y154 y156 y157 y158 y159 y160 (List.set y161 (Int.toNat y146) (mget eqS (intsStr y155) (0 : Int) y165)) y162 y163 y164 y165 y166
        else
          none)
def F.impl_Minimize_l6 {R : Type} (C N : Nat) : Nat → Nat → (List Int) → Int → (List Int) → (List Int) → (List Int) → Int → (List Int) → Int → (List Int) → (List Int) → (List Int) → (List Int) → (List (List Int)) → (List Int) → (List Int) → (List Int) → (List Int) → (List ((List UInt8) × Int)) → (List Int) → ((List Int) → Int → (List Int) → (List Int) → (List Int) → Int → (List Int) → Int → (List Int) → (List Int) → (List Int) → (List Int) → (List (List Int)) → (List Int) → (List Int) → (List Int) → (List Int) → (List Int) → Option R) → Option R
  | 0, j, x104, x105, x106, x107, x108, x109, x110, x111, x112, x113, x114, x115, x116, x117, x118, x119, x120, x121, x122, knormal => knormal x104 x105 x106 x107 x108 x109 x110 x111 x112 x113 x114 x115 x116 x117 x118 x119 x120 x122
  | n + 1, j, x104, x105, x106, x107, x108, x109, x110, x111, x112, x113, x114, x115, x116, x117, x118, x119, x120, x121, x122, knormal => F.impl_Minimize_l6_s C N j x104 x105 x106 x107 x108 x109 x110 x111 x112 x113 x114 x115 x116 x117 x118 x119 x120 x121 x122 (fun x104 x105 x106 x107 x108 x109 x110 x111 x112 x113 x114 x115 x116 x117 x118 x119 x120 x121 x122 => F.impl_Minimize_l6 C N n (j + 1) x104 x105 x106 x107 x108 x109 x110 x111 x112 x113 x114 x115 x116 x117 x118 x119 x120 x121 x122 knormal)
def F.impl_Minimize_l12_s {R : Type} (C N : Nat) (x205 : Int) (x206 : Int) (x207 : Int) (x208 : Int) (x209 : Int) (x210 : List Int) (x211 : Int) (x212 : List Int) (x213 : List Int) (x214 : List Int) (x215 : Int) (x216 : Int) (x217 : List Int) (x218 : List Int) (x219 : List Int) (x220 : List Int) (x221 : List Int) (x222 : List Int) (x223 : List (List Int)) (x224 : List Int) (x225 : List Int) (x226 : List Int) (x227 : List Int) (next : Int → Int → Int → Int → Int → (List Int) → Int → (List Int) → (List Int) → (List Int) → Int → Int → (List Int) → (List Int) → (List Int) → (List Int) → (List Int) → (List Int) → (List (List Int)) → (List Int) → (List Int) → (List Int) → (List Int) → Option R) (ke12 : Int → Int → (List Int) → Int → (List Int) → (List Int) → (List Int) → Int → Int → (List Int) → (List Int) → (List Int) → (List Int) → (List Int) → (List (List Int)) → (List Int) → (List Int) → (List Int) → (List Int) → (List Int) → Option R) : Option R :=
  bif decide (x209 < x208) then
    bif inB x209 (List.length x218) then
      bif inB x205 (List.length x223) then
        bif inB (List.getD x218 (Int.toNat x209) (0 : Int)) 256 then
          bif Nat.ble (List.length x225 + List.length [List.getD (List.getD x223 (Int.toNat x205) (List.replicate 256 (0 : Int))) (Int.toNat (List.getD x218 (Int.toNat x209) (0 : Int))) (0 : Int)]) (bigOf 8) then
            next x205 x206 x207 x208 (wrapK .i64 (x209 + 1)) x210 x211 x212 x213 x214 x215 x216 x217 x218 x219 x220 x221 x222 x223 x224 (x225 ++ [List.getD (List.getD x223 (Int.toNat x205) (List.replicate 256 (0 : Int))) (Int.toNat (List.getD x218 (Int.toNat x209) (0 : Int))) (0 : Int)]) x226 x227
          else
            none
        else
          none
      else
        none
    else
      none
  else
    ke12 x206 x207 x210 x211 x212 x213 x214 x215 x216 x217 x219 x220 x221 x222 x223 x224 x225 x226 x227 x218
def F.impl_Minimize_l12 {R : Type} (C N : Nat) : Nat → Int → Int → Int → Int → Int → (List Int) → Int → (List Int) → (List Int) → (List Int) → Int → Int → (List Int) → (List Int) → (List Int) → (List Int) → (List Int) → (List Int) → (List (List Int)) → (List Int) → (List Int) → (List Int) → (List Int) → (Int → Int → (List Int) → Int → (List Int) → (List Int) → (List Int) → Int → Int → (List Int) → (List Int) → (List Int) → (List Int) → (List Int) → (List (List Int)) → (List Int) → (List Int) → (List Int) → (List Int) → (List Int) → Option R) → Option R
  | 0, _, _, _, _, _, _, _, _, _, _, _, _, _, _, _, _, _, _, _, _, _, _, _, _ => none
  | n + 1, x205, x206, x207, x208, x209, x210, x211, x212, x213, x214, x215, x216, x217, x218, x219, x220, x221, x222, x223, x224, x225, x226, x227, ke12 => F.impl_Minimize_l12_s C N x205 x206 x207 x208 x209 x210 x211 x212 x213 x214 x215 x216 x217 x218 x219 x220 x221 x222 x223 x224 x225 x226 x227 (fun x205 x206 x207 x208 x209 x210 x211 x212 x213 x214 x215 x216 x217 x218 x219 x220 x221 x222 x223 x224 x225 x226 x227 => F.impl_Minimize_l12 C N n x205 x206 x207 x208 x209 x210 x211 x212 x213 x214 x215 x216 x217 x218 x219 x220 x221 x222 x223 x224 x225 x226 x227 ke12) ke12
def F.impl_Minimize_l10_s {R : Type} (C N : Nat) (x185 : Int) (x186 : Int) (x187 : List Int) (x188 : Int) (x189 : List Int) (x190 : List Int) (x191 : List Int) (x192 : Int) (x193 : Int) (x194 : List Int) (x195 : List Int) (x196 : List Int) (x197 : List Int) (x198 : List Int) (x199 : List (List Int)) (x200 : List Int) (x201 : List Int) (x202 : List Int) (x203 : List Int) (x204 : List Int) (next : Int → Int → (List Int) → Int → (List Int) → (List Int) → (List Int) → Int → Int → (List Int) → (List Int) → (List Int) → (List Int) → (List Int) → (List (List Int)) → (List Int) → (List Int) → (List Int) → (List Int) → (List Int) → Option R) (ke10 : Int → Int → (List Int) → (List Int) → (List Int) → (List Int) → (List Int) → (List Int) → (List Int) → (List Int) → Option R) : Option R :=
  bif decide (x186 < x185) then
    bif inB x186 (List.length x194) then
      bif inB (List.getD x194 (Int.toNat x186) (0 : Int)) (List.length x190) then
        bif Nat.ble (List.length x202 + List.length [List.getD x190 (Int.toNat (List.getD x194 (Int.toNat x186) (0 : Int))) (0 : Int)]) (bigOf 8) then
          bif inB (List.getD x194 (Int.toNat x186) (0 : Int)) (List.length x191) then
            bif Nat.ble (List.length x203 + List.length [List.getD x191 (Int.toNat (List.getD x194 (Int.toNat x186) (0 : Int))) (0 : Int)]) (bigOf 8) then
              F.impl_Minimize_l12 C N N x186 x185 x186 (List.length x204 : Int) 0 x187 x188 x189 x190 x191 x192 x193 x194 x204 x195 x196 x197 x198 x199 x200 x201 (x202 ++ [List.getD x190 (Int.toNat (List.getD x194 (Int.toNat x186) (0 : Int))) (0 : Int)]) (x203 ++ [List.getD x191 (Int.toNat (List.getD x194 (Int.toNat x186) (0 : Int))) (0 : Int)])
                (fun y228 y229 y230 y231 y232 y233 y234 y235 y236 y237 y238 y239 y240 y241 y242 y243 y244 y245 y246 y247 =>
                  next y228 (wrapK .i64 (y229 + 1)) y230 y231 y232 y233 y234 y235 y236 y237 y238 y239 y240 y241 y242 y243 y244 y245 y246 y247)
            else
              none
          else
            none
        else
          none
      else
        none
    else
      none
  else
    ke10 x192 x193 x195 x196 x197 x198 x200 x201 x202 x203
def F.impl_Minimize_l10 {R : Type} (C N : Nat) : Nat → Int → Int → (List Int) → Int → (List Int) → (List Int) → (List Int) → Int → Int → (List Int) → (List Int) → (List Int) → (List Int) → (List Int) → (List (List Int)) → (List Int) → (List Int) → (List Int) → (List Int) → (List Int) → (Int → Int → (List Int) → (List Int) → (List Int) → (List Int) → (List Int) → (List Int) → (List Int) → (List Int) → Option R) → Option R
  | 0, _, _, _, _, _, _, _, _, _, _, _, _, _, _, _, _, _, _, _, _, _ => none
  | n + 1, x185, x186, x187, x188, x189, x190, x191, x192, x193, x194, x195, x196, x197, x198, x199, x200, x201, x202, x203, x204, ke10 => F.impl_Minimize_l10_s C N x185 x186 x187 x188 x189 x190 x191 x192 x193 x194 x195 x196 x197 x198 x199 x200 x201 x202 x203 x204 (fun x185 x186 x187 x188 x189 x190 x191 x192 x193 x194 x195 x196 x197 x198 x199 x200 x201 x202 x203 x204 => F.impl_Minimize_l10 C N n x185 x186 x187 x188 x189 x190 x191 x192 x193 x194 x195 x196 x197 x198 x199 x200 x201 x202 x203 x204 ke10) ke10
def F.impl_Minimize_c {R : Type} (C N : Nat) (x1 : List Int) (x2 : Int) (x3 : List Int) (x4 : List Int) (x5 : List Int) (k : Int → (List Int) → (List Int) → (List Int) → (List Int) → Option R) : Option R :=
  F.impl_DfaOK N x1 x2 x3 x4 x5 fun r6 =>
  bif !r6 then
    k 0 ([] : List Int) ([] : List Int) ([] : List Int) ([] : List Int)
  else
    F.impl_Dfa_reached N x1 x2 x3 x4 x5 fun r7 =>
    F.impl_Dfa_blocks N x1 x2 x3 x4 x5 r7 fun r8 =>
    F.impl_Minimize_l0 C N N (List.length r7 : Int) 0 x1 x2 x3 x4 x5 0 ([] : List Int) r7 ([] : List Int) ([] : List Int) ([] : List Int) ([] : List Int) r8 ([] : List (Int × Int)) ([] : List (List Int))
      (fun y26 y27 y28 y29 y30 y31 y32 y33 y34 y35 y36 y37 y38 y39 =>
        F.impl_Minimize_l2 C N N (List.length y32 : Int) 0 y26 y27 y28 y29 y30 y31 y32 y33 y34 y35 y36 y37 y38 y39
          (fun y92 y93 y94 y95 y96 y97 y98 y99 y100 y101 y102 y103 =>
            bif decide (0 ≤ 256) then
              bif Nat.ble (Int.toNat 256) (bigOf 8) then
                F.impl_everyByte fun _ =>
                F.impl_Minimize_l6 C N C 0 y92 y93 y94 y95 y96 y97 y98 0 y99 y100 y101 y102 y103 (List.replicate (Int.toNat 256) (0 : Int)) ([] : List Int) ([] : List Int) ([] : List Int) ([] : List ((List UInt8) × Int)) ([] : List Int)
                  (fun y167 y168 y169 y170 y171 y172 y173 y174 y175 y176 y177 y178 y179 y180 y181 y182 y183 y184 =>
                    F.impl_Minimize_l10 C N N (List.length y173 : Int) 0 y167 y168 y169 y170 y171 y172 (List.length y184 : Int) y173 y175 y176 y177 y178 y179 y180 y181 y182 y183 y184
                      (fun y248 y249 y250 y251 y252 y253 y254 y255 y256 y257 =>
                        k y249 y254 y255 y256 y257))
              else
                none
            else
              none))
def F.impl_Minimize {R : Type} (N : Nat) (x1 : List Int) (x2 : Int) (x3 : List Int) (x4 : List Int) (x5 : List Int) (k : Int → (List Int) → (List Int) → (List Int) → (List Int) → Option R) : Option R := F.impl_Minimize_c 256 N x1 x2 x3 x4 x5 k
/-! ### loop.example/s0007/laws.eqIntS -/
def F.laws_eqIntS_l0_s {R : Type} (N : Nat) (x3 : List Int) (x4 : List Int) (x5 : Int) (next : (List Int) → (List Int) → Int → Option R) (ke0 : Unit → Option R) (kret : Bool → Option R) : Option R :=
  bif decide (x5 < (List.length x3 : Int)) then
    bif inB x5 (List.length x3) then
      bif inB x5 (List.length x4) then
        bif (List.getD x3 (Int.toNat x5) (0 : Int)) != (List.getD x4 (Int.toNat x5) (0 : Int)) then
          kret false
        else
          next x3 x4 (wrapK .i64 (x5 + 1))
      else
        none
    else
      none
  else
    ke0 ()
def F.laws_eqIntS_l0 {R : Type} (N : Nat) : Nat → (List Int) → (List Int) → Int → (Unit → Option R) → (Bool → Option R) → Option R
  | 0, _, _, _, _, _ => none
  | n + 1, x3, x4, x5, ke0, kret => F.laws_eqIntS_l0_s N x3 x4 x5 (fun x3 x4 x5 => F.laws_eqIntS_l0 N n x3 x4 x5 ke0 kret) ke0 kret
def F.laws_eqIntS {R : Type} (N : Nat) (x1 : List Int) (x2 : List Int) (k : Bool → Option R) : Option R :=
  bif (List.length x1 : Int) != (List.length x2 : Int) then
    k false
  else
    F.laws_eqIntS_l0 N N x1 x2 0
      (fun _ =>
        k true)
      (fun y6 =>
        k y6)
/-! ### loop.example/s0007/laws.eqDfa -/
def F.laws_eqDfa {R : Type} (N : Nat) (x1 : List Int) (x2 : Int) (x3 : List Int) (x4 : List Int) (x5 : List Int) (x6 : List Int) (x7 : Int) (x8 : List Int) (x9 : List Int) (x10 : List Int) (k : Bool → Option R) : Option R :=
  F.laws_eqIntS N x1 x6 fun r11 =>
  bif !r11 then
    k false
  else
    bif x2 != x7 then
      k false
    else
      F.laws_eqIntS N x3 x8 fun r12 =>
      bif !r12 then
        k false
      else
        F.laws_eqIntS N x4 x9 fun r13 =>
        bif !r13 then
          k false
        else
          F.laws_eqIntS N x5 x10 fun r14 =>
          bif !r14 then
            k false
          else
            k true
/-! ### loop.example/s0007/laws.markIntS -/
def F.laws_markIntS_l0_s {R : Type} (N : Nat) (x3 : Int) (x4 : Int) (x5 : List Int) (next : Int → Int → (List Int) → Option R) (ke0 : Int → (List Int) → Option R) : Option R :=
  bif decide (x4 < (List.length x5 : Int)) then
    bif inB x4 (List.length x5) then
      next (wrapK .i64 (x3 + 1)) (wrapK .i64 (x4 + 1)) (List.set x5 (Int.toNat x4) x3)
    else
      none
  else
    ke0 x3 x5
def F.laws_markIntS_l0 {R : Type} (N : Nat) : Nat → Int → Int → (List Int) → (Int → (List Int) → Option R) → Option R
  | 0, _, _, _, _ => none
  | n + 1, x3, x4, x5, ke0 => F.laws_markIntS_l0_s N x3 x4 x5 (fun x3 x4 x5 => F.laws_markIntS_l0 N n x3 x4 x5 ke0) ke0
def F.laws_markIntS {R : Type} (N : Nat) (x1 : Int) (x2 : List Int) (k : Int → (List Int) → Option R) : Option R :=
  F.laws_markIntS_l0 N N x1 0 x2
    (fun y6 y7 =>
      k y6 y7)
/-! ### loop.example/s0007/laws.markDfa -/
def F.laws_markDfa {R : Type} (N : Nat) (x1 : Int) (x2 : Int) (x3 : List Int) (x4 : List Int) (x5 : List Int) (x6 : List Int) (k : Int → (List Int) → (List Int) → (List Int) → (List Int) → Option R) : Option R :=
  F.laws_markIntS N x2 x3 fun r7 r8 =>
  F.laws_markIntS N r7 x4 fun r9 r10 =>
  F.laws_markIntS N r9 x5 fun r11 r12 =>
  F.laws_markIntS N r11 x6 fun r13 r14 =>
  k r13 r8 r10 r12 r14
/-! ### loop.example/s0007/laws.heldIntS -/
def F.laws_heldIntS_l0_s {R : Type} (N : Nat) (x3 : List Int) (x4 : Int) (x5 : Int) (next : (List Int) → Int → Int → Option R) (ke0 : Int → Option R) (kret : Int → Int → Option R) : Option R :=
  bif decide (x5 < (List.length x3 : Int)) then
    bif inB x5 (List.length x3) then
      bif (List.getD x3 (Int.toNat x5) (0 : Int)) != x4 then
        kret x4 (-1)
      else
        next x3 (wrapK .i64 (x4 + 1)) (wrapK .i64 (x5 + 1))
    else
      none
  else
    ke0 x4
def F.laws_heldIntS_l0 {R : Type} (N : Nat) : Nat → (List Int) → Int → Int → (Int → Option R) → (Int → Int → Option R) → Option R
  | 0, _, _, _, _, _ => none
  | n + 1, x3, x4, x5, ke0, kret => F.laws_heldIntS_l0_s N x3 x4 x5 (fun x3 x4 x5 => F.laws_heldIntS_l0 N n x3 x4 x5 ke0 kret) ke0 kret
def F.laws_heldIntS {R : Type} (N : Nat) (x1 : List Int) (x2 : Int) (k : Int → Option R) : Option R :=
  F.laws_heldIntS_l0 N N x1 x2 0
    (fun y6 =>
      k y6)
    (fun y7 y8 =>
      k y8)
/-! ### loop.example/s0007/laws.heldDfa -/
def F.laws_heldDfa {R : Type} (N : Nat) (x1 : List Int) (x2 : Int) (x3 : List Int) (x4 : List Int) (x5 : List Int) (x6 : Int) (k : Int → Option R) : Option R :=
  F.laws_heldIntS N x1 x6 fun r7 =>
  bif decide (r7 < 0) then
    k (-1)
  else
    F.laws_heldIntS N x3 r7 fun r8 =>
    bif decide (r8 < 0) then
      k (-1)
    else
      F.laws_heldIntS N x4 r8 fun r9 =>
      bif decide (r9 < 0) then
        k (-1)
      else
        F.laws_heldIntS N x5 r9 fun r10 =>
        bif decide (r10 < 0) then
          k (-1)
        else
          k r10
/-! ### loop.example/s0007/laws.FnExactMinimize -/
def F.laws_FnExactMinimize {R : Type} (N : Nat) (x1 : List Int) (x2 : Int) (x3 : List Int) (x4 : List Int) (x5 : List Int) (k : Bool → Option R) : Option R :=
  F.laws_szDfa x1 x2 x3 x4 x5 1048576 fun r6 =>
  bif decide (r6 < 0) then
    k true
  else
    F.laws_toDfa N x1 x2 x3 x4 x5 fun r7 r8 r9 r10 r11 =>
    F.spec_Minimize N r8 r7 r9 r10 r11 fun r12 r13 r14 r15 r16 =>
    F.laws_toDfa N x1 x2 x3 x4 x5 fun r17 r18 r19 r20 r21 =>
    F.impl_Minimize N r18 r17 r19 r20 r21 fun r22 r23 r24 r25 r26 =>
    F.laws_eqDfa N r23 r22 r24 r25 r26 r13 r12 r14 r15 r16 fun r27 =>
    bif !r27 then
      k false
    else
      F.laws_toDfa N x1 x2 x3 x4 x5 fun r28 r29 r30 r31 r32 =>
      F.laws_eqDfa N r18 r17 r19 r20 r21 r29 r28 r30 r31 r32 fun r33 =>
      bif !r33 then
        k false
      else
        F.laws_markDfa N r17 1 r18 r19 r20 r21 fun r34 r35 r36 r37 r38 =>
        bif decide (r34 < 0) then
          k false
        else
          F.laws_eqDfa N r23 r22 r24 r25 r26 r13 r12 r14 r15 r16 fun r39 =>
          bif !r39 then
            k false
          else
            F.laws_markDfa N r22 1 r23 r24 r25 r26 fun r40 r41 r42 r43 r44 =>
            F.laws_heldDfa N r41 r22 r42 r43 r44 1 fun r45 =>
            bif decide (r45 < 0) then
              k false
            else
              bif r45 != r40 then
                k false
              else
                F.laws_toDfa N x1 x2 x3 x4 x5 fun r46 r47 r48 r49 r50 =>
                F.impl_Minimize N r47 r46 r48 r49 r50 fun r51 r52 r53 r54 r55 =>
                F.laws_eqDfa N r52 r51 r53 r54 r55 r13 r12 r14 r15 r16 fun r56 =>
                bif !r56 then
                  k false
                else
                  k true
end Go.Proofs.Ytclfonfegenfiaa.fnExactMinimize
