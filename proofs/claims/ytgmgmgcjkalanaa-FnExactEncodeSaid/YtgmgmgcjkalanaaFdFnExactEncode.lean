/- What the Go functions that the law uses answer, as plain functions. -/
import Derived.Test.YtgmgmgcjkalanaaEa
set_option linter.unusedVariables false
namespace Go.Proofs.Ytgmgmgcjkalanaa.fnExactEncode
open Go.Ev
/-! ### loop.example/s0007/laws.szIntS -/
def F.laws_szIntS {R : Type} (x1 : List Int) (x2 : Int) (k : Int → Option R) : Option R :=
  bif decide ((wrapK .i64 (x2 - (List.length x1 : Int))) < 0) then
    k (-1)
  else
    k (wrapK .i64 (x2 - (List.length x1 : Int)))
/-! ### loop.example/s0007/laws.szTable -/
def F.laws_szTable {R : Type} (x1 : List Int) (x2 : Int) (x3 : List Int) (x4 : List Int) (x5 : List Int) (x6 : List Int) (x7 : List Int) (x8 : List Int) (x9 : Int) (k : Int → Option R) : Option R :=
  F.laws_szIntS x1 x9 fun r10 =>
  bif decide (r10 < 0) then
    k (-1)
  else
    F.laws_szIntS x3 r10 fun r11 =>
    bif decide (r11 < 0) then
      k (-1)
    else
      F.laws_szIntS x4 r11 fun r12 =>
      bif decide (r12 < 0) then
        k (-1)
      else
        F.laws_szIntS x5 r12 fun r13 =>
        bif decide (r13 < 0) then
          k (-1)
        else
          F.laws_szIntS x6 r13 fun r14 =>
          bif decide (r14 < 0) then
            k (-1)
          else
            F.laws_szIntS x7 r14 fun r15 =>
            bif decide (r15 < 0) then
              k (-1)
            else
              F.laws_szIntS x8 r15 fun r16 =>
              bif decide (r16 < 0) then
                k (-1)
              else
                k r16
/-! ### loop.example/s0007/laws.toIntS -/
def F.laws_toIntS_l0_s {R : Type} (N : Nat) (x2 : List Int) (x3 : Int) (x4 : List Int) (next : (List Int) → Int → (List Int) → Option R) (ke0 : (List Int) → Option R) : Option R :=
  bif decide (x3 < (List.length x2 : Int)) then
    bif inB x3 (List.length x2) then
      bif inB x3 (List.length x4) then
        next x2 (wrapK .i64 (x3 + 1)) (List.set x4 (Int.toNat x3) (List.getD x2 (Int.toNat x3) (0 : Int)))
      else
        none
    else
      none
  else
    ke0 x4
def F.laws_toIntS_l0 {R : Type} (N : Nat) : Nat → (List Int) → Int → (List Int) → ((List Int) → Option R) → Option R
  | 0, _, _, _, _ => none
  | n + 1, x2, x3, x4, ke0 => F.laws_toIntS_l0_s N x2 x3 x4 (fun x2 x3 x4 => F.laws_toIntS_l0 N n x2 x3 x4 ke0) ke0
def F.laws_toIntS {R : Type} (N : Nat) (x1 : List Int) (k : (List Int) → Option R) : Option R :=
  bif decide (0 ≤ (List.length x1 : Int)) then
    bif Nat.ble (Int.toNat (List.length x1 : Int)) (bigOf 8) then
      F.laws_toIntS_l0 N N x1 0 (List.replicate (Int.toNat (List.length x1 : Int)) (0 : Int))
        (fun y5 =>
          k y5)
    else
      none
  else
    none
/-! ### loop.example/s0007/laws.toTable -/
def F.laws_toTable {R : Type} (N : Nat) (x1 : List Int) (x2 : Int) (x3 : List Int) (x4 : List Int) (x5 : List Int) (x6 : List Int) (x7 : List Int) (x8 : List Int) (k : Int → (List Int) → (List Int) → (List Int) → (List Int) → (List Int) → (List Int) → (List Int) → Option R) : Option R :=
  F.laws_toIntS N x1 fun r9 =>
  F.laws_toIntS N x3 fun r10 =>
  F.laws_toIntS N x4 fun r11 =>
  F.laws_toIntS N x5 fun r12 =>
  F.laws_toIntS N x6 fun r13 =>
  F.laws_toIntS N x7 fun r14 =>
  F.laws_toIntS N x8 fun r15 =>
  k x2 r9 r10 r11 r12 r13 r14 r15
/-! ### loop.example/s0007/spec.l1Between -/
def F.spec_l1Between {R : Type} (x1 : Int) (x2 : Int) (x3 : Int) (k : Bool → Option R) : Option R :=
  bif decide (x2 ≤ x1) then
    k (decide (x1 ≤ x3))
  else
    k false
/-! ### loop.example/s0007/spec.l2All -/
def F.spec_l2All_l0_s {R : Type} (N : Nat) (x4 : Int) (x5 : Int) (x6 : List Int) (x7 : Int) (x8 : Int) (next : Int → Int → (List Int) → Int → Int → Option R) (ke0 : Unit → Option R) (kret : Bool → Option R) : Option R :=
  bif decide (x8 < x7) then
    bif inB x8 (List.length x6) then
      F.spec_l1Between (List.getD x6 (Int.toNat x8) (0 : Int)) x4 x5 fun r9 =>
      bif !r9 then
        kret false
      else
        next x4 x5 x6 x7 (wrapK .i64 (x8 + 1))
    else
      none
  else
    ke0 ()
def F.spec_l2All_l0 {R : Type} (N : Nat) : Nat → Int → Int → (List Int) → Int → Int → (Unit → Option R) → (Bool → Option R) → Option R
  | 0, _, _, _, _, _, _, _ => none
  | n + 1, x4, x5, x6, x7, x8, ke0, kret => F.spec_l2All_l0_s N x4 x5 x6 x7 x8 (fun x4 x5 x6 x7 x8 => F.spec_l2All_l0 N n x4 x5 x6 x7 x8 ke0 kret) ke0 kret
def F.spec_l2All {R : Type} (N : Nat) (x1 : List Int) (x2 : Int) (x3 : Int) (k : Bool → Option R) : Option R :=
  F.spec_l2All_l0 N N x2 x3 x1 (List.length x1 : Int) 0
    (fun _ =>
      k true)
    (fun y10 =>
      k y10)
/-! ### loop.example/s0007/spec.TableOK -/
def F.spec_TableOK_l0_s {R : Type} (N : Nat) (x12 : Int) (x13 : List Int) (x14 : Int) (x15 : Int) (x16 : List Int) (x17 : Int) (x18 : List Int) (x19 : List Int) (x20 : List Int) (x21 : List Int) (x22 : List Int) (x23 : List Int) (next : Int → (List Int) → Int → Int → (List Int) → Int → (List Int) → (List Int) → (List Int) → (List Int) → (List Int) → (List Int) → Option R) (ke0 : Int → (List Int) → Int → (List Int) → (List Int) → (List Int) → (List Int) → (List Int) → (List Int) → Option R) (kret : Bool → Int → (List Int) → Int → (List Int) → (List Int) → (List Int) → (List Int) → (List Int) → (List Int) → Option R) : Option R :=
  bif decide (x15 < x14) then
    bif inB x15 (List.length x13) then
      bif (List.getD x13 (Int.toNat x15) (0 : Int)) == (-1) then
        bif inB x15 (List.length x22) then
          bif (List.getD x22 (Int.toNat x15) (0 : Int)) != 0 then
            kret false x12 x16 x17 x18 x19 x20 x21 x22 x23
          else
            next x12 x13 x14 (wrapK .i64 (x15 + 1)) x16 x17 x18 x19 x20 x21 x22 x23
        else
          none
      else
        next x12 x13 x14 (wrapK .i64 (x15 + 1)) x16 x17 x18 x19 x20 x21 x22 x23
    else
      none
  else
    ke0 x12 x16 x17 x18 x19 x20 x21 x22 x23
def F.spec_TableOK_l0 {R : Type} (N : Nat) : Nat → Int → (List Int) → Int → Int → (List Int) → Int → (List Int) → (List Int) → (List Int) → (List Int) → (List Int) → (List Int) → (Int → (List Int) → Int → (List Int) → (List Int) → (List Int) → (List Int) → (List Int) → (List Int) → Option R) → (Bool → Int → (List Int) → Int → (List Int) → (List Int) → (List Int) → (List Int) → (List Int) → (List Int) → Option R) → Option R
  | 0, _, _, _, _, _, _, _, _, _, _, _, _, _, _ => none
  | n + 1, x12, x13, x14, x15, x16, x17, x18, x19, x20, x21, x22, x23, ke0, kret => F.spec_TableOK_l0_s N x12 x13 x14 x15 x16 x17 x18 x19 x20 x21 x22 x23 (fun x12 x13 x14 x15 x16 x17 x18 x19 x20 x21 x22 x23 => F.spec_TableOK_l0 N n x12 x13 x14 x15 x16 x17 x18 x19 x20 x21 x22 x23 ke0 kret) ke0 kret
def F.spec_TableOK {R : Type} (N : Nat) (x1 : List Int) (x2 : Int) (x3 : List Int) (x4 : List Int) (x5 : List Int) (x6 : List Int) (x7 : List Int) (x8 : List Int) (k : Bool → Option R) : Option R :=
  bif (List.length x1 : Int) != 256 then
    k false
  else
    F.spec_l1Between x2 1 256 fun r9 =>
    bif !r9 then
      k false
    else
      F.spec_l2All N x1 0 (wrapK .i64 (x2 - 1)) fun r10 =>
      bif !r10 then
        k false
      else
        F.spec_l1Between (List.length x3 : Int) 1 4000 fun r11 =>
        bif !r11 then
          k false
        else
          bif (List.length x4 : Int) != (List.length x3 : Int) then
            k false
          else
            bif (List.length x5 : Int) != (List.length x3 : Int) then
              k false
            else
              bif (List.length x6 : Int) != (List.length x3 : Int) then
                k false
              else
                bif (List.length x7 : Int) != (List.length x8 : Int) then
                  k false
                else
                  bif decide ((List.length x7 : Int) > 60000) then
                    k false
                  else
                    F.spec_TableOK_l0 N N (List.length x3 : Int) x8 (List.length x8 : Int) 0 x1 x2 x3 x4 x5 x6 x7 x8
                      (fun y24 y25 y26 y27 y28 y29 y30 y31 y32 =>
                        F.spec_l2All N y27 0 59999 fun r33 =>
                        bif r33 then
                          F.spec_l2All N y28 0 (wrapK .i64 (y24 - 1)) fun r34 =>
                          bif r34 then
                            F.spec_l2All N y29 (-1) 99 fun r35 =>
                            bif r35 then
                              F.spec_l2All N y30 (-1) 99 fun r36 =>
                              bif r36 then
                                F.spec_l2All N y32 (-1) (wrapK .i64 (y24 - 1)) fun r37 =>
                                bif r37 then
                                  F.spec_l2All N y31 0 (wrapK .i64 (y24 - 1)) fun r38 =>
                                  k r38
                                else
                                  k false
                              else
                                k false
                            else
                              k false
                          else
                            k false
                        else
                          k false)
                      (fun y39 y40 y41 y42 y43 y44 y45 y46 y47 y48 =>
                        k y39)
/-! ### loop.example/s0007/spec.l3Two -/
def F.spec_l3Two {R : Type} (x1 : Int) (x2 : List Int) (k : (List Int) → Option R) : Option R :=
  bif decide (x1 < 0) then
    bif !(256 == 0) then
      bif !(256 == 0) then
        bif Nat.ble (List.length x2 + List.length [wrapK .u8 (wrapK .i64 (Int.tdiv 65535 256)), wrapK .u8 (Int.tmod 65535 256)]) (bigOf 1) then
          k (x2 ++ [wrapK .u8 (wrapK .i64 (Int.tdiv 65535 256)), wrapK .u8 (Int.tmod 65535 256)])
        else
          none
      else
        none
    else
      none
  else
    bif !(256 == 0) then
      bif !(256 == 0) then
        bif Nat.ble (List.length x2 + List.length [wrapK .u8 (wrapK .i64 (Int.tdiv x1 256)), wrapK .u8 (Int.tmod x1 256)]) (bigOf 1) then
          k (x2 ++ [wrapK .u8 (wrapK .i64 (Int.tdiv x1 256)), wrapK .u8 (Int.tmod x1 256)])
        else
          none
      else
        none
    else
      none
/-! ### loop.example/s0007/spec.l3Sum -/
def F.spec_l3Sum_l0_s {R : Type} (N : Nat) (x2 : List Int) (x3 : Int) (x4 : Int) (next : (List Int) → Int → Int → Option R) (ke0 : Int → Option R) : Option R :=
  bif decide (x4 < (List.length x2 : Int)) then
    bif inB x4 (List.length x2) then
      bif !(65536 == 0) then
        next x2 (Int.tmod (wrapK .i64 (x3 + (wrapK .i64 (List.getD x2 (Int.toNat x4) (0 : Int))))) 65536) (wrapK .i64 (x4 + 1))
      else
        none
    else
      none
  else
    ke0 x3
def F.spec_l3Sum_l0 {R : Type} (N : Nat) : Nat → (List Int) → Int → Int → (Int → Option R) → Option R
  | 0, _, _, _, _ => none
  | n + 1, x2, x3, x4, ke0 => F.spec_l3Sum_l0_s N x2 x3 x4 (fun x2 x3 x4 => F.spec_l3Sum_l0 N n x2 x3 x4 ke0) ke0
def F.spec_l3Sum {R : Type} (N : Nat) (x1 : List Int) (k : Int → Option R) : Option R :=
  F.spec_l3Sum_l0 N N x1 0 0
    (fun y5 =>
      k y5)
/-! ### loop.example/s0007/spec.l3Raw -/
def F.spec_l3Raw_l0_s {R : Type} (N : Nat) (x12 : List Int) (x13 : Int) (x14 : Int) (x15 : List Int) (x16 : Int) (x17 : List Int) (x18 : List Int) (x19 : List Int) (x20 : List Int) (x21 : List Int) (x22 : List Int) (x23 : List Int) (next : (List Int) → Int → Int → (List Int) → Int → (List Int) → (List Int) → (List Int) → (List Int) → (List Int) → (List Int) → (List Int) → Option R) (ke0 : (List Int) → Int → (List Int) → (List Int) → (List Int) → (List Int) → (List Int) → (List Int) → (List Int) → Option R) : Option R :=
  bif decide (x14 < x13) then
    bif inB x14 (List.length x12) then
      bif Nat.ble (List.length x23 + List.length [wrapK .u8 (List.getD x12 (Int.toNat x14) (0 : Int))]) (bigOf 1) then
        next x12 x13 (wrapK .i64 (x14 + 1)) x15 x16 x17 x18 x19 x20 x21 x22 (x23 ++ [wrapK .u8 (List.getD x12 (Int.toNat x14) (0 : Int))])
      else
        none
    else
      none
  else
    ke0 x15 x16 x17 x18 x19 x20 x21 x22 x23
def F.spec_l3Raw_l0 {R : Type} (N : Nat) : Nat → (List Int) → Int → Int → (List Int) → Int → (List Int) → (List Int) → (List Int) → (List Int) → (List Int) → (List Int) → (List Int) → ((List Int) → Int → (List Int) → (List Int) → (List Int) → (List Int) → (List Int) → (List Int) → (List Int) → Option R) → Option R
  | 0, _, _, _, _, _, _, _, _, _, _, _, _, _ => none
  | n + 1, x12, x13, x14, x15, x16, x17, x18, x19, x20, x21, x22, x23, ke0 => F.spec_l3Raw_l0_s N x12 x13 x14 x15 x16 x17 x18 x19 x20 x21 x22 x23 (fun x12 x13 x14 x15 x16 x17 x18 x19 x20 x21 x22 x23 => F.spec_l3Raw_l0 N n x12 x13 x14 x15 x16 x17 x18 x19 x20 x21 x22 x23 ke0) ke0
def F.spec_l3Raw_l2_s {R : Type} (N : Nat) (x33 : Int) (x34 : Int) (x35 : List Int) (x36 : Int) (x37 : List Int) (x38 : List Int) (x39 : List Int) (x40 : List Int) (x41 : List Int) (x42 : List Int) (x43 : List Int) (next : Int → Int → (List Int) → Int → (List Int) → (List Int) → (List Int) → (List Int) → (List Int) → (List Int) → (List Int) → Option R) (ke2 : (List Int) → Int → (List Int) → (List Int) → (List Int) → (List Int) → (List Int) → (List Int) → (List Int) → Option R) : Option R :=
  bif decide (x34 < x33) then
    bif inB x34 (List.length x37) then
      F.spec_l3Two (List.getD x37 (Int.toNat x34) (0 : Int)) x43 fun r44 =>
      bif inB x34 (List.length x38) then
        F.spec_l3Two (List.getD x38 (Int.toNat x34) (0 : Int)) r44 fun r45 =>
        bif inB x34 (List.length x39) then
          F.spec_l3Two (List.getD x39 (Int.toNat x34) (0 : Int)) r45 fun r46 =>
          bif inB x34 (List.length x40) then
            F.spec_l3Two (List.getD x40 (Int.toNat x34) (0 : Int)) r46 fun r47 =>
            next x33 (wrapK .i64 (x34 + 1)) x35 x36 x37 x38 x39 x40 x41 x42 r47
          else
            none
        else
          none
      else
        none
    else
      none
  else
    ke2 x35 x36 x37 x38 x39 x40 x41 x42 x43
def F.spec_l3Raw_l2 {R : Type} (N : Nat) : Nat → Int → Int → (List Int) → Int → (List Int) → (List Int) → (List Int) → (List Int) → (List Int) → (List Int) → (List Int) → ((List Int) → Int → (List Int) → (List Int) → (List Int) → (List Int) → (List Int) → (List Int) → (List Int) → Option R) → Option R
  | 0, _, _, _, _, _, _, _, _, _, _, _, _ => none
  | n + 1, x33, x34, x35, x36, x37, x38, x39, x40, x41, x42, x43, ke2 => F.spec_l3Raw_l2_s N x33 x34 x35 x36 x37 x38 x39 x40 x41 x42 x43 (fun x33 x34 x35 x36 x37 x38 x39 x40 x41 x42 x43 => F.spec_l3Raw_l2 N n x33 x34 x35 x36 x37 x38 x39 x40 x41 x42 x43 ke2) ke2
def F.spec_l3Raw_l4_s {R : Type} (N : Nat) (x57 : Int) (x58 : Int) (x59 : List Int) (x60 : Int) (x61 : List Int) (x62 : List Int) (x63 : List Int) (x64 : List Int) (x65 : List Int) (x66 : List Int) (x67 : List Int) (next : Int → Int → (List Int) → Int → (List Int) → (List Int) → (List Int) → (List Int) → (List Int) → (List Int) → (List Int) → Option R) (ke4 : (List Int) → Option R) : Option R :=
  bif decide (x58 < x57) then
    bif inB x58 (List.length x65) then
      F.spec_l3Two (List.getD x65 (Int.toNat x58) (0 : Int)) x67 fun r68 =>
      bif inB x58 (List.length x66) then
        F.spec_l3Two (List.getD x66 (Int.toNat x58) (0 : Int)) r68 fun r69 =>
        next x57 (wrapK .i64 (x58 + 1)) x59 x60 x61 x62 x63 x64 x65 x66 r69
      else
        none
    else
      none
  else
    ke4 x67
def F.spec_l3Raw_l4 {R : Type} (N : Nat) : Nat → Int → Int → (List Int) → Int → (List Int) → (List Int) → (List Int) → (List Int) → (List Int) → (List Int) → (List Int) → ((List Int) → Option R) → Option R
  | 0, _, _, _, _, _, _, _, _, _, _, _, _ => none
  | n + 1, x57, x58, x59, x60, x61, x62, x63, x64, x65, x66, x67, ke4 => F.spec_l3Raw_l4_s N x57 x58 x59 x60 x61 x62 x63 x64 x65 x66 x67 (fun x57 x58 x59 x60 x61 x62 x63 x64 x65 x66 x67 => F.spec_l3Raw_l4 N n x57 x58 x59 x60 x61 x62 x63 x64 x65 x66 x67 ke4) ke4
def F.spec_l3Raw {R : Type} (N : Nat) (x1 : List Int) (x2 : Int) (x3 : List Int) (x4 : List Int) (x5 : List Int) (x6 : List Int) (x7 : List Int) (x8 : List Int) (k : (List UInt8) → Option R) : Option R :=
  bif Nat.ble 1 (List.length [88, 68, 70, 49]) then
    F.spec_l3Two (List.length x3 : Int) [88, 68, 70, 49] fun r9 =>
    F.spec_l3Two x2 r9 fun r10 =>
    F.spec_l3Two (List.length x7 : Int) r10 fun r11 =>
    F.spec_l3Raw_l0 N N x1 (List.length x1 : Int) 0 x1 x2 x3 x4 x5 x6 x7 x8 r11
      (fun y24 y25 y26 y27 y28 y29 y30 y31 y32 =>
        F.spec_l3Raw_l2 N N (List.length y26 : Int) 0 y24 y25 y26 y27 y28 y29 y30 y31 y32
          (fun y48 y49 y50 y51 y52 y53 y54 y55 y56 =>
            F.spec_l3Raw_l4 N N (List.length y54 : Int) 0 y48 y49 y50 y51 y52 y53 y54 y55 y56
              (fun y70 =>
                F.spec_l3Sum N y70 fun r71 =>
                F.spec_l3Two r71 y70 fun r72 =>
                k (intsStr r72))))
  else
    none
/-! ### loop.example/s0007/spec.Encode -/
def F.spec_Encode {R : Type} (N : Nat) (x1 : List Int) (x2 : Int) (x3 : List Int) (x4 : List Int) (x5 : List Int) (x6 : List Int) (x7 : List Int) (x8 : List Int) (k : (List UInt8) → Option R) : Option R :=
  F.spec_TableOK N x1 x2 x3 x4 x5 x6 x7 x8 fun r9 =>
  bif !r9 then
    k []
  else
    F.spec_l3Raw N x1 x2 x3 x4 x5 x6 x7 x8 fun r10 =>
    k r10
/-! ### loop.example/s0007/impl.DfaOK$1$1 -/
def F.impl_DfaOK_1_1 {R : Type} (x1 : Int) (x2 : Int) (x3 : Int) (k : Bool → Option R) : Option R :=
  bif decide (x1 < x2) then
    k true
  else
    k (decide (x1 > x3))
/-! ### slices.IndexFunc[[]int,int] -/
def F.slices_IndexFunc_l0_s {R : Type} (N : Nat) (x4 : List Int) (x5 : Int) (x6 : Int) (x7 : Int) (x8 : Int) (next : (List Int) → Int → Int → Int → Int → Option R) (ke0 : Int → Int → Option R) (kret : Int → Int → Int → Option R) : Option R :=
  bif decide (x6 < x5) then
    bif inB x6 (List.length x4) then
      F.impl_DfaOK_1_1 (List.getD x4 (Int.toNat x6) (0 : Int)) x7 x8 fun r9 =>
      bif r9 then
        kret x6 x7 x8
      else
        next x4 x5 (wrapK .i64 (x6 + 1)) x7 x8
    else
      none
  else
    ke0 x7 x8
def F.slices_IndexFunc_l0 {R : Type} (N : Nat) : Nat → (List Int) → Int → Int → Int → Int → (Int → Int → Option R) → (Int → Int → Int → Option R) → Option R
  | 0, _, _, _, _, _, _, _ => none
  | n + 1, x4, x5, x6, x7, x8, ke0, kret => F.slices_IndexFunc_l0_s N x4 x5 x6 x7 x8 (fun x4 x5 x6 x7 x8 => F.slices_IndexFunc_l0 N n x4 x5 x6 x7 x8 ke0 kret) ke0 kret
def F.slices_IndexFunc {R : Type} (N : Nat) (x1 : List Int) (x2 : Int) (x3 : Int) (k : Int → Int → Int → Option R) : Option R :=
  F.slices_IndexFunc_l0 N N x1 (List.length x1 : Int) 0 x2 x3
    (fun y10 y11 =>
      k (-1) y10 y11)
    (fun y12 y13 y14 =>
      k y12 y13 y14)
/-! ### slices.ContainsFunc[[]int,int] -/
def F.slices_ContainsFunc {R : Type} (N : Nat) (x1 : List Int) (x2 : Int) (x3 : Int) (k : Bool → Int → Int → Option R) : Option R :=
  F.slices_IndexFunc N x1 x2 x3 fun r4 r5 r6 =>
  k (decide (r4 ≥ 0)) r5 r6
/-! ### loop.example/s0007/impl.DfaOK$1 -/
def F.impl_DfaOK_1 {R : Type} (N : Nat) (x1 : List Int) (x2 : Int) (x3 : Int) (k : Bool → Option R) : Option R :=
  F.slices_ContainsFunc N x1 x2 x3 fun r4 r5 r6 =>
  k (!r4)
/-! ### loop.example/s0007/impl.DfaOK -/
def F.impl_DfaOK {R : Type} (N : Nat) (x1 : List Int) (x2 : Int) (x3 : List Int) (x4 : List Int) (x5 : List Int) (k : Bool → Option R) : Option R :=
  bif (List.length x1 : Int) != 256 then
    k false
  else
    bif decide (x2 < 1) then
      k false
    else
      bif decide (x2 > 256) then
        k false
      else
        bif decide ((List.length x4 : Int) < 1) then
          k false
        else
          bif decide ((List.length x4 : Int) > 4000) then
            k false
          else
            bif (List.length x5 : Int) != (List.length x4 : Int) then
              k false
            else
              bif (List.length x3 : Int) != (wrapK .i64 ((List.length x4 : Int) * x2)) then
                k false
              else
                F.impl_DfaOK_1 N x1 0 (wrapK .i64 (x2 - 1)) fun r6 =>
                bif r6 then
                  F.impl_DfaOK_1 N x3 0 (wrapK .i64 ((List.length x4 : Int) - 1)) fun r7 =>
                  bif r7 then
                    F.impl_DfaOK_1 N x4 (-1) 99 fun r8 =>
                    bif r8 then
                      F.impl_DfaOK_1 N x5 (-1) 99 fun r9 =>
                      k r9
                    else
                      k false
                  else
                    k false
                else
                  k false
/-! ### loop.example/s0007/impl.TableOK -/
def F.impl_TableOK_l0_s {R : Type} (N : Nat) (x10 : Int) (x11 : Int) (x12 : Int) (x13 : List Int) (x14 : Int) (x15 : List Int) (x16 : List Int) (x17 : List Int) (x18 : List Int) (x19 : List Int) (x20 : List Int) (next : Int → Int → Int → (List Int) → Int → (List Int) → (List Int) → (List Int) → (List Int) → (List Int) → (List Int) → Option R) (ke0 : Int → (List Int) → Int → (List Int) → (List Int) → (List Int) → (List Int) → (List Int) → (List Int) → Option R) (kret : Bool → Int → (List Int) → Int → (List Int) → (List Int) → (List Int) → (List Int) → (List Int) → (List Int) → Option R) : Option R :=
  bif decide (x12 < x11) then
    bif inB x12 (List.length x15) then
      bif decide ((List.getD x15 (Int.toNat x12) (0 : Int)) < 0) then
        kret false x10 x13 x14 x15 x16 x17 x18 x19 x20
      else
        bif inB x12 (List.length x15) then
          bif decide ((List.getD x15 (Int.toNat x12) (0 : Int)) ≥ 60000) then
            kret false x10 x13 x14 x15 x16 x17 x18 x19 x20
          else
            bif inB x12 (List.length x16) then
              bif decide ((List.getD x16 (Int.toNat x12) (0 : Int)) < 0) then
                kret false x10 x13 x14 x15 x16 x17 x18 x19 x20
              else
                bif inB x12 (List.length x16) then
                  bif decide ((List.getD x16 (Int.toNat x12) (0 : Int)) ≥ x10) then
                    kret false x10 x13 x14 x15 x16 x17 x18 x19 x20
                  else
                    next x10 x11 (wrapK .i64 (x12 + 1)) x13 x14 x15 x16 x17 x18 x19 x20
                else
                  none
            else
              none
        else
          none
    else
      none
  else
    ke0 x10 x13 x14 x15 x16 x17 x18 x19 x20
def F.impl_TableOK_l0 {R : Type} (N : Nat) : Nat → Int → Int → Int → (List Int) → Int → (List Int) → (List Int) → (List Int) → (List Int) → (List Int) → (List Int) → (Int → (List Int) → Int → (List Int) → (List Int) → (List Int) → (List Int) → (List Int) → (List Int) → Option R) → (Bool → Int → (List Int) → Int → (List Int) → (List Int) → (List Int) → (List Int) → (List Int) → (List Int) → Option R) → Option R
  | 0, _, _, _, _, _, _, _, _, _, _, _, _, _ => none
  | n + 1, x10, x11, x12, x13, x14, x15, x16, x17, x18, x19, x20, ke0, kret => F.impl_TableOK_l0_s N x10 x11 x12 x13 x14 x15 x16 x17 x18 x19 x20 (fun x10 x11 x12 x13 x14 x15 x16 x17 x18 x19 x20 => F.impl_TableOK_l0 N n x10 x11 x12 x13 x14 x15 x16 x17 x18 x19 x20 ke0 kret) ke0 kret
def F.impl_TableOK_l2_s {R : Type} (N : Nat) (x30 : Int) (x31 : List Int) (x32 : Int) (x33 : Int) (x34 : List Int) (x35 : Int) (x36 : List Int) (x37 : List Int) (x38 : List Int) (x39 : List Int) (x40 : List Int) (x41 : List Int) (next : Int → (List Int) → Int → Int → (List Int) → Int → (List Int) → (List Int) → (List Int) → (List Int) → (List Int) → (List Int) → Option R) (ke2 : Unit → Option R) (kret : Bool → Option R) : Option R :=
  bif decide (x33 < x32) then
    bif inB x33 (List.length x31) then
      bif decide ((List.getD x31 (Int.toNat x33) (0 : Int)) < (-1)) then
        kret false
      else
        bif decide ((List.getD x31 (Int.toNat x33) (0 : Int)) ≥ x30) then
          kret false
        else
          bif inB x33 (List.length x40) then
            bif decide ((List.getD x40 (Int.toNat x33) (0 : Int)) < 0) then
              kret false
            else
              bif inB x33 (List.length x40) then
                bif decide ((List.getD x40 (Int.toNat x33) (0 : Int)) ≥ x30) then
                  kret false
                else
                  bif (List.getD x31 (Int.toNat x33) (0 : Int)) == (-1) then
                    bif inB x33 (List.length x40) then
                      bif (List.getD x40 (Int.toNat x33) (0 : Int)) != 0 then
                        kret false
                      else
                        next x30 x31 x32 (wrapK .i64 (x33 + 1)) x34 x35 x36 x37 x38 x39 x40 x41
                    else
                      none
                  else
                    next x30 x31 x32 (wrapK .i64 (x33 + 1)) x34 x35 x36 x37 x38 x39 x40 x41
              else
                none
          else
            none
    else
      none
  else
    ke2 ()
def F.impl_TableOK_l2 {R : Type} (N : Nat) : Nat → Int → (List Int) → Int → Int → (List Int) → Int → (List Int) → (List Int) → (List Int) → (List Int) → (List Int) → (List Int) → (Unit → Option R) → (Bool → Option R) → Option R
  | 0, _, _, _, _, _, _, _, _, _, _, _, _, _, _ => none
  | n + 1, x30, x31, x32, x33, x34, x35, x36, x37, x38, x39, x40, x41, ke2, kret => F.impl_TableOK_l2_s N x30 x31 x32 x33 x34 x35 x36 x37 x38 x39 x40 x41 (fun x30 x31 x32 x33 x34 x35 x36 x37 x38 x39 x40 x41 => F.impl_TableOK_l2 N n x30 x31 x32 x33 x34 x35 x36 x37 x38 x39 x40 x41 ke2 kret) ke2 kret
def F.impl_TableOK {R : Type} (N : Nat) (x1 : List Int) (x2 : Int) (x3 : List Int) (x4 : List Int) (x5 : List Int) (x6 : List Int) (x7 : List Int) (x8 : List Int) (k : Bool → Option R) : Option R :=
  bif (List.length x4 : Int) != (List.length x3 : Int) then
    k false
  else
    bif (List.length x8 : Int) != (List.length x7 : Int) then
      k false
    else
      bif decide ((List.length x7 : Int) > 60000) then
        k false
      else
        bif decide ((List.length x3 : Int) < 1) then
          k false
        else
          bif decide ((List.length x3 : Int) > 4000) then
            k false
          else
            bif decide (x2 < 1) then
              k false
            else
              bif decide (x2 > 256) then
                k false
              else
                bif (List.length x5 : Int) != (List.length x3 : Int) then
                  k false
                else
                  bif decide (0 ≤ (wrapK .i64 ((List.length x3 : Int) * x2))) then
                    bif Nat.ble (Int.toNat (wrapK .i64 ((List.length x3 : Int) * x2))) (bigOf 8) then
                      F.impl_DfaOK N x1 x2 (List.replicate (Int.toNat (wrapK .i64 ((List.length x3 : Int) * x2))) (0 : Int)) x5 x6 fun r9 =>
                      bif !r9 then
                        k false
                      else
                        F.impl_TableOK_l0 N N (List.length x3 : Int) (List.length x3 : Int) 0 x1 x2 x3 x4 x5 x6 x7 x8
                          (fun y21 y22 y23 y24 y25 y26 y27 y28 y29 =>
                            F.impl_TableOK_l2 N N y21 y29 (List.length y29 : Int) 0 y22 y23 y24 y25 y26 y27 y28 y29
                              (fun _ =>
                                k true)
                              (fun y42 =>
                                k y42))
                          (fun y43 y44 y45 y46 y47 y48 y49 y50 y51 y52 =>
                            k y43)
                    else
                      none
                  else
                    none
/-! ### (*loop.example/s0007/impl.cursor).two -/
def F.impl_cursor_two_l0_s {R : Type} (N : Nat) (x3 : List Int) (x4 : Int) (x5 : Int) (x6 : List Int) (next : (List Int) → Int → Int → (List Int) → Option R) (ke0 : (List Int) → Option R) : Option R :=
  bif decide (x5 < x4) then
    bif inB x5 (List.length x3) then
      bif decide (0 ≤ 8) then
        bif Nat.ble (List.length x6 + List.length [wrapK .u8 (Int.fdiv (List.getD x3 (Int.toNat x5) (0 : Int)) (2 ^ min (Int.toNat 8) 64)), wrapK .u8 (List.getD x3 (Int.toNat x5) (0 : Int))]) (bigOf 1) then
          next x3 x4 (wrapK .i64 (x5 + 1)) (x6 ++ [wrapK .u8 (Int.fdiv (List.getD x3 (Int.toNat x5) (0 : Int)) (2 ^ min (Int.toNat 8) 64)), wrapK .u8 (List.getD x3 (Int.toNat x5) (0 : Int))])
        else
          none
      else
        none
    else
      none
  else
    ke0 x6
def F.impl_cursor_two_l0 {R : Type} (N : Nat) : Nat → (List Int) → Int → Int → (List Int) → ((List Int) → Option R) → Option R
  | 0, _, _, _, _, _ => none
  | n + 1, x3, x4, x5, x6, ke0 => F.impl_cursor_two_l0_s N x3 x4 x5 x6 (fun x3 x4 x5 x6 => F.impl_cursor_two_l0 N n x3 x4 x5 x6 ke0) ke0
def F.impl_cursor_two {R : Type} (N : Nat) (x1 : List Int) (x2 : List Int) (k : (List Int) → Option R) : Option R :=
  F.impl_cursor_two_l0 N N x1 (List.length x1 : Int) 0 x2
    (fun y7 =>
      k y7)
/-! ### loop.example/s0007/impl.sum -/
def F.impl_sum_l0_s {R : Type} (N : Nat) (x2 : Int) (x3 : List Int) (x4 : Int) (x5 : Int) (next : Int → (List Int) → Int → Int → Option R) (ke0 : Int → Option R) : Option R :=
  bif decide (x5 < x4) then
    bif inB x5 (List.length x3) then
      next (wrapK .i64 (x2 + (wrapK .i64 (List.getD x3 (Int.toNat x5) (0 : Int))))) x3 x4 (wrapK .i64 (x5 + 1))
    else
      none
  else
    ke0 x2
def F.impl_sum_l0 {R : Type} (N : Nat) : Nat → Int → (List Int) → Int → Int → (Int → Option R) → Option R
  | 0, _, _, _, _, _ => none
  | n + 1, x2, x3, x4, x5, ke0 => F.impl_sum_l0_s N x2 x3 x4 x5 (fun x2 x3 x4 x5 => F.impl_sum_l0 N n x2 x3 x4 x5 ke0) ke0
def F.impl_sum {R : Type} (N : Nat) (x1 : List Int) (k : Int → Option R) : Option R :=
  F.impl_sum_l0 N N 0 x1 (List.length x1 : Int) 0
    (fun y6 =>
      bif !(65536 == 0) then
        k (Int.tmod y6 65536)
      else
        none)
/-! ### loop.example/s0007/impl.Encode -/
def F.impl_Encode_l0_s {R : Type} (N : Nat) (x11 : List Int) (x12 : Int) (x13 : Int) (x14 : List Int) (x15 : Int) (x16 : List Int) (x17 : List Int) (x18 : List Int) (x19 : List Int) (x20 : List Int) (x21 : List Int) (x22 : List Int) (next : (List Int) → Int → Int → (List Int) → Int → (List Int) → (List Int) → (List Int) → (List Int) → (List Int) → (List Int) → (List Int) → Option R) (ke0 : (List Int) → Int → (List Int) → (List Int) → (List Int) → (List Int) → (List Int) → (List Int) → (List Int) → Option R) : Option R :=
  bif decide (x13 < x12) then
    bif inB x13 (List.length x11) then
      bif Nat.ble (List.length x22 + List.length [wrapK .u8 (List.getD x11 (Int.toNat x13) (0 : Int))]) (bigOf 1) then
        next x11 x12 (wrapK .i64 (x13 + 1)) x14 x15 x16 x17 x18 x19 x20 x21 (x22 ++ [wrapK .u8 (List.getD x11 (Int.toNat x13) (0 : Int))])
      else
        none
    else
      none
  else
    ke0 x14 x15 x16 x17 x18 x19 x20 x21 x22
def F.impl_Encode_l0 {R : Type} (N : Nat) : Nat → (List Int) → Int → Int → (List Int) → Int → (List Int) → (List Int) → (List Int) → (List Int) → (List Int) → (List Int) → (List Int) → ((List Int) → Int → (List Int) → (List Int) → (List Int) → (List Int) → (List Int) → (List Int) → (List Int) → Option R) → Option R
  | 0, _, _, _, _, _, _, _, _, _, _, _, _, _ => none
  | n + 1, x11, x12, x13, x14, x15, x16, x17, x18, x19, x20, x21, x22, ke0 => F.impl_Encode_l0_s N x11 x12 x13 x14 x15 x16 x17 x18 x19 x20 x21 x22 (fun x11 x12 x13 x14 x15 x16 x17 x18 x19 x20 x21 x22 => F.impl_Encode_l0 N n x11 x12 x13 x14 x15 x16 x17 x18 x19 x20 x21 x22 ke0) ke0
def F.impl_Encode_l2_s {R : Type} (N : Nat) (x32 : Int) (x33 : Int) (x34 : List Int) (x35 : Int) (x36 : List Int) (x37 : List Int) (x38 : List Int) (x39 : List Int) (x40 : List Int) (x41 : List Int) (x42 : List Int) (next : Int → Int → (List Int) → Int → (List Int) → (List Int) → (List Int) → (List Int) → (List Int) → (List Int) → (List Int) → Option R) (ke2 : (List Int) → Int → (List Int) → (List Int) → (List Int) → (List Int) → (List Int) → (List Int) → (List Int) → Option R) : Option R :=
  bif decide (x33 < x32) then
    bif inB x33 (List.length x36) then
      bif inB x33 (List.length x37) then
        bif inB x33 (List.length x38) then
          bif inB x33 (List.length x39) then
            F.impl_cursor_two N [List.getD x36 (Int.toNat x33) (0 : Int), List.getD x37 (Int.toNat x33) (0 : Int), List.getD x38 (Int.toNat x33) (0 : Int), List.getD x39 (Int.toNat x33) (0 : Int)] x42 fun r43 =>
            next x32 (wrapK .i64 (x33 + 1)) x34 x35 x36 x37 x38 x39 x40 x41 r43
          else
            none
        else
          none
      else
        none
    else
      none
  else
    ke2 x34 x35 x36 x37 x38 x39 x40 x41 x42
def F.impl_Encode_l2 {R : Type} (N : Nat) : Nat → Int → Int → (List Int) → Int → (List Int) → (List Int) → (List Int) → (List Int) → (List Int) → (List Int) → (List Int) → ((List Int) → Int → (List Int) → (List Int) → (List Int) → (List Int) → (List Int) → (List Int) → (List Int) → Option R) → Option R
  | 0, _, _, _, _, _, _, _, _, _, _, _, _ => none
  | n + 1, x32, x33, x34, x35, x36, x37, x38, x39, x40, x41, x42, ke2 => F.impl_Encode_l2_s N x32 x33 x34 x35 x36 x37 x38 x39 x40 x41 x42 (fun x32 x33 x34 x35 x36 x37 x38 x39 x40 x41 x42 => F.impl_Encode_l2 N n x32 x33 x34 x35 x36 x37 x38 x39 x40 x41 x42 ke2) ke2
def F.impl_Encode_l4_s {R : Type} (N : Nat) (x53 : Int) (x54 : Int) (x55 : List Int) (x56 : Int) (x57 : List Int) (x58 : List Int) (x59 : List Int) (x60 : List Int) (x61 : List Int) (x62 : List Int) (x63 : List Int) (next : Int → Int → (List Int) → Int → (List Int) → (List Int) → (List Int) → (List Int) → (List Int) → (List Int) → (List Int) → Option R) (ke4 : (List Int) → Option R) : Option R :=
  bif decide (x54 < x53) then
    bif inB x54 (List.length x61) then
      bif inB x54 (List.length x62) then
        F.impl_cursor_two N [List.getD x61 (Int.toNat x54) (0 : Int), List.getD x62 (Int.toNat x54) (0 : Int)] x63 fun r64 =>
        next x53 (wrapK .i64 (x54 + 1)) x55 x56 x57 x58 x59 x60 x61 x62 r64
      else
        none
    else
      none
  else
    ke4 x63
def F.impl_Encode_l4 {R : Type} (N : Nat) : Nat → Int → Int → (List Int) → Int → (List Int) → (List Int) → (List Int) → (List Int) → (List Int) → (List Int) → (List Int) → ((List Int) → Option R) → Option R
  | 0, _, _, _, _, _, _, _, _, _, _, _, _ => none
  | n + 1, x53, x54, x55, x56, x57, x58, x59, x60, x61, x62, x63, ke4 => F.impl_Encode_l4_s N x53 x54 x55 x56 x57 x58 x59 x60 x61 x62 x63 (fun x53 x54 x55 x56 x57 x58 x59 x60 x61 x62 x63 => F.impl_Encode_l4 N n x53 x54 x55 x56 x57 x58 x59 x60 x61 x62 x63 ke4) ke4
def F.impl_Encode {R : Type} (N : Nat) (x1 : List Int) (x2 : Int) (x3 : List Int) (x4 : List Int) (x5 : List Int) (x6 : List Int) (x7 : List Int) (x8 : List Int) (k : (List UInt8) → Option R) : Option R :=
  F.impl_TableOK N x1 x2 x3 x4 x5 x6 x7 x8 fun r9 =>
  bif !r9 then
    k []
  else
    bif Nat.ble (List.length ([] : List Int) + List.length (strInts [88, 68, 70, 49])) (bigOf 1) then
      F.impl_cursor_two N [(List.length x3 : Int), x2, (List.length x7 : Int)] (([] : List Int) ++ (strInts [88, 68, 70, 49])) fun r10 =>
      F.impl_Encode_l0 N N x1 (List.length x1 : Int) 0 x1 x2 x3 x4 x5 x6 x7 x8 r10
        (fun y23 y24 y25 y26 y27 y28 y29 y30 y31 =>
          F.impl_Encode_l2 N N (List.length y25 : Int) 0 y23 y24 y25 y26 y27 y28 y29 y30 y31
            (fun y44 y45 y46 y47 y48 y49 y50 y51 y52 =>
              F.impl_Encode_l4 N N (List.length y50 : Int) 0 y44 y45 y46 y47 y48 y49 y50 y51 y52
                (fun y65 =>
                  F.impl_sum N y65 fun r66 =>
                  F.impl_cursor_two N [r66] y65 fun r67 =>
                  k (intsStr r67))))
    else
      none
/-! ### loop.example/s0007/laws.eqIntS -/
def F.laws_eqIntS_l0_s {R : Type} (N : Nat) (x3 : List Int) (x4 : List Int) (x5 : Int) (next : (List Int) → (List Int) → Int → Option R) (ke0 : Unit → Option R) (kret : Bool → Option R) : Option R :=
  bif decide (x5 < (List.length x3 : Int)) then
    bif inB x5 (List.length x3) then
      bif inB x5 (List.length x4) then
        bif (List.getD x3 (Int.toNat x5) (0 : Int)) != (List.getD x4 (Int.toNat x5) (0 : Int)) then
          kret false
        else
          next x3 x4 (wrapK .i64 (x5 + 1))
      else
        none
    else
      none
  else
    ke0 ()
def F.laws_eqIntS_l0 {R : Type} (N : Nat) : Nat → (List Int) → (List Int) → Int → (Unit → Option R) → (Bool → Option R) → Option R
  | 0, _, _, _, _, _ => none
  | n + 1, x3, x4, x5, ke0, kret => F.laws_eqIntS_l0_s N x3 x4 x5 (fun x3 x4 x5 => F.laws_eqIntS_l0 N n x3 x4 x5 ke0 kret) ke0 kret
def F.laws_eqIntS {R : Type} (N : Nat) (x1 : List Int) (x2 : List Int) (k : Bool → Option R) : Option R :=
  bif (List.length x1 : Int) != (List.length x2 : Int) then
    k false
  else
    F.laws_eqIntS_l0 N N x1 x2 0
      (fun _ =>
        k true)
      (fun y6 =>
        k y6)
/-! ### loop.example/s0007/laws.eqTable -/
def F.laws_eqTable {R : Type} (N : Nat) (x1 : List Int) (x2 : Int) (x3 : List Int) (x4 : List Int) (x5 : List Int) (x6 : List Int) (x7 : List Int) (x8 : List Int) (x9 : List Int) (x10 : Int) (x11 : List Int) (x12 : List Int) (x13 : List Int) (x14 : List Int) (x15 : List Int) (x16 : List Int) (k : Bool → Option R) : Option R :=
  F.laws_eqIntS N x1 x9 fun r17 =>
  bif !r17 then
    k false
  else
    bif x2 != x10 then
      k false
    else
      F.laws_eqIntS N x3 x11 fun r18 =>
      bif !r18 then
        k false
      else
        F.laws_eqIntS N x4 x12 fun r19 =>
        bif !r19 then
          k false
        else
          F.laws_eqIntS N x5 x13 fun r20 =>
          bif !r20 then
            k false
          else
            F.laws_eqIntS N x6 x14 fun r21 =>
            bif !r21 then
              k false
            else
              F.laws_eqIntS N x7 x15 fun r22 =>
              bif !r22 then
                k false
              else
                F.laws_eqIntS N x8 x16 fun r23 =>
                bif !r23 then
                  k false
                else
                  k true
/-! ### loop.example/s0007/laws.FnExactEncode -/
def F.laws_FnExactEncode {R : Type} (N : Nat) (x1 : List Int) (x2 : Int) (x3 : List Int) (x4 : List Int) (x5 : List Int) (x6 : List Int) (x7 : List Int) (x8 : List Int) (k : Bool → Option R) : Option R :=
  F.laws_szTable x1 x2 x3 x4 x5 x6 x7 x8 1048576 fun r9 =>
  bif decide (r9 < 0) then
    k true
  else
    F.laws_toTable N x1 x2 x3 x4 x5 x6 x7 x8 fun r10 r11 r12 r13 r14 r15 r16 r17 =>
    F.spec_Encode N r11 r10 r12 r13 r14 r15 r16 r17 fun r18 =>
    F.laws_toTable N x1 x2 x3 x4 x5 x6 x7 x8 fun r19 r20 r21 r22 r23 r24 r25 r26 =>
    F.impl_Encode N r20 r19 r21 r22 r23 r24 r25 r26 fun r27 =>
    bif !(r27 == r18) then
      k false
    else
      F.laws_toTable N x1 x2 x3 x4 x5 x6 x7 x8 fun r28 r29 r30 r31 r32 r33 r34 r35 =>
      F.laws_eqTable N r20 r19 r21 r22 r23 r24 r25 r26 r29 r28 r30 r31 r32 r33 r34 r35 fun r36 =>
      bif !r36 then
        k false
      else
        k true
end Go.Proofs.Ytgmgmgcjkalanaa.fnExactEncode
