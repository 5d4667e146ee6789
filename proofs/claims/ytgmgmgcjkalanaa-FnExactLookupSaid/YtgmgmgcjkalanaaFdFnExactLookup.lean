/- What the Go functions that the law uses answer, as plain functions. -/
import Derived.Test.YtgmgmgcjkalanaaEa
set_option linter.unusedVariables false
namespace Go.Proofs.Ytgmgmgcjkalanaa.fnExactLookup
open Go.Ev
/-! ### loop.example/s0007/laws.szIntS -/
def F.laws_szIntS {R : Type} (x1 : List Int) (x2 : Int) (k : Int → Option R) : Option R :=
  bif decide ((wrapK .i64 (x2 - (List.length x1 : Int))) < 0) then
    k (-1)
  else
    k (wrapK .i64 (x2 - (List.length x1 : Int)))
/-! ### loop.example/s0007/laws.szTable -/
def F.laws_szTable {R : Type} (x1 : List Int) (x2 : Int) (x3 : List Int) (x4 : List Int) (x5 : List Int) (x6 : List Int) (x7 : List Int) (x8 : List Int) (x9 : Int) (k : Int → Option R) : Option R :=
  F.laws_szIntS x1 x9 fun r10 =>
  bif decide (r10 < 0) then
    k (-1)
  else
    F.laws_szIntS x3 r10 fun r11 =>
    bif decide (r11 < 0) then
      k (-1)
    else
      F.laws_szIntS x4 r11 fun r12 =>
      bif decide (r12 < 0) then
        k (-1)
      else
        F.laws_szIntS x5 r12 fun r13 =>
        bif decide (r13 < 0) then
          k (-1)
        else
          F.laws_szIntS x6 r13 fun r14 =>
          bif decide (r14 < 0) then
            k (-1)
          else
            F.laws_szIntS x7 r14 fun r15 =>
            bif decide (r15 < 0) then
              k (-1)
            else
              F.laws_szIntS x8 r15 fun r16 =>
              bif decide (r16 < 0) then
                k (-1)
              else
                k r16
/-! ### loop.example/s0007/laws.toIntS -/
def F.laws_toIntS_l0_s {R : Type} (N : Nat) (x2 : List Int) (x3 : Int) (x4 : List Int) (next : (List Int) → Int → (List Int) → Option R) (ke0 : (List Int) → Option R) : Option R :=
  bif decide (x3 < (List.length x2 : Int)) then
    bif inB x3 (List.length x2) then
      bif inB x3 (List.length x4) then
        next x2 (wrapK .i64 (x3 + 1)) (List.set x4 (Int.toNat x3) (List.getD x2 (Int.toNat x3) (0 : Int)))
      else
        none
    else
      none
  else
    ke0 x4
def F.laws_toIntS_l0 {R : Type} (N : Nat) : Nat → (List Int) → Int → (List Int) → ((List Int) → Option R) → Option R
  | 0, _, _, _, _ => none
  | n + 1, x2, x3, x4, ke0 => F.laws_toIntS_l0_s N x2 x3 x4 (fun x2 x3 x4 => F.laws_toIntS_l0 N n x2 x3 x4 ke0) ke0
def F.laws_toIntS {R : Type} (N : Nat) (x1 : List Int) (k : (List Int) → Option R) : Option R :=
  bif decide (0 ≤ (List.length x1 : Int)) then
    bif Nat.ble (Int.toNat (List.length x1 : Int)) (bigOf 8) then
      F.laws_toIntS_l0 N N x1 0 (List.replicate (Int.toNat (List.length x1 : Int)) (0 : Int))
        (fun y5 =>
          k y5)
    else
      none
  else
    none
/-! ### loop.example/s0007/laws.toTable -/
def F.laws_toTable {R : Type} (N : Nat) (x1 : List Int) (x2 : Int) (x3 : List Int) (x4 : List Int) (x5 : List Int) (x6 : List Int) (x7 : List Int) (x8 : List Int) (k : Int → (List Int) → (List Int) → (List Int) → (List Int) → (List Int) → (List Int) → (List Int) → Option R) : Option R :=
  F.laws_toIntS N x1 fun r9 =>
  F.laws_toIntS N x3 fun r10 =>
  F.laws_toIntS N x4 fun r11 =>
  F.laws_toIntS N x5 fun r12 =>
  F.laws_toIntS N x6 fun r13 =>
  F.laws_toIntS N x7 fun r14 =>
  F.laws_toIntS N x8 fun r15 =>
  k x2 r9 r10 r11 r12 r13 r14 r15
/-! ### loop.example/s0007/spec.l1Between -/
def F.spec_l1Between {R : Type} (x1 : Int) (x2 : Int) (x3 : Int) (k : Bool → Option R) : Option R :=
  bif decide (x2 ≤ x1) then
    k (decide (x1 ≤ x3))
  else
    k false
/-! ### loop.example/s0007/spec.l2All -/
def F.spec_l2All_l0_s {R : Type} (N : Nat) (x4 : Int) (x5 : Int) (x6 : List Int) (x7 : Int) (x8 : Int) (next : Int → Int → (List Int) → Int → Int → Option R) (ke0 : Unit → Option R) (kret : Bool → Option R) : Option R :=
  bif decide (x8 < x7) then
    bif inB x8 (List.length x6) then
      F.spec_l1Between (List.getD x6 (Int.toNat x8) (0 : Int)) x4 x5 fun r9 =>
      bif !r9 then
        kret false
      else
        next x4 x5 x6 x7 (wrapK .i64 (x8 + 1))
    else
      none
  else
    ke0 ()
def F.spec_l2All_l0 {R : Type} (N : Nat) : Nat → Int → Int → (List Int) → Int → Int → (Unit → Option R) → (Bool → Option R) → Option R
  | 0, _, _, _, _, _, _, _ => none
  | n + 1, x4, x5, x6, x7, x8, ke0, kret => F.spec_l2All_l0_s N x4 x5 x6 x7 x8 (fun x4 x5 x6 x7 x8 => F.spec_l2All_l0 N n x4 x5 x6 x7 x8 ke0 kret) ke0 kret
def F.spec_l2All {R : Type} (N : Nat) (x1 : List Int) (x2 : Int) (x3 : Int) (k : Bool → Option R) : Option R :=
  F.spec_l2All_l0 N N x2 x3 x1 (List.length x1 : Int) 0
    (fun _ =>
      k true)
    (fun y10 =>
      k y10)
/-! ### loop.example/s0007/spec.TableOK -/
def F.spec_TableOK_l0_s {R : Type} (N : Nat) (x12 : Int) (x13 : List Int) (x14 : Int) (x15 : Int) (x16 : List Int) (x17 : Int) (x18 : List Int) (x19 : List Int) (x20 : List Int) (x21 : List Int) (x22 : List Int) (x23 : List Int) (next : Int → (List Int) → Int → Int → (List Int) → Int → (List Int) → (List Int) → (List Int) → (List Int) → (List Int) → (List Int) → Option R) (ke0 : Int → (List Int) → Int → (List Int) → (List Int) → (List Int) → (List Int) → (List Int) → (List Int) → Option R) (kret : Bool → Int → (List Int) → Int → (List Int) → (List Int) → (List Int) → (List Int) → (List Int) → (List Int) → Option R) : Option R :=
  bif decide (x15 < x14) then
    bif inB x15 (List.length x13) then
      bif (List.getD x13 (Int.toNat x15) (0 : Int)) == (-1) then
        bif inB x15 (List.length x22) then
          bif (List.getD x22 (Int.toNat x15) (0 : Int)) != 0 then
            kret false x12 x16 x17 x18 x19 x20 x21 x22 x23
          else
            next x12 x13 x14 (wrapK .i64 (x15 + 1)) x16 x17 x18 x19 x20 x21 x22 x23
        else
          none
      else
        next x12 x13 x14 (wrapK .i64 (x15 + 1)) x16 x17 x18 x19 x20 x21 x22 x23
    else
      none
  else
    ke0 x12 x16 x17 x18 x19 x20 x21 x22 x23
def F.spec_TableOK_l0 {R : Type} (N : Nat) : Nat → Int → (List Int) → Int → Int → (List Int) → Int → (List Int) → (List Int) → (List Int) → (List Int) → (List Int) → (List Int) → (Int → (List Int) → Int → (List Int) → (List Int) → (List Int) → (List Int) → (List Int) → (List Int) → Option R) → (Bool → Int → (List Int) → Int → (List Int) → (List Int) → (List Int) → (List Int) → (List Int) → (List Int) → Option R) → Option R
  | 0, _, _, _, _, _, _, _, _, _, _, _, _, _, _ => none
  | n + 1, x12, x13, x14, x15, x16, x17, x18, x19, x20, x21, x22, x23, ke0, kret => F.spec_TableOK_l0_s N x12 x13 x14 x15 x16 x17 x18 x19 x20 x21 x22 x23 (fun x12 x13 x14 x15 x16 x17 x18 x19 x20 x21 x22 x23 => F.spec_TableOK_l0 N n x12 x13 x14 x15 x16 x17 x18 x19 x20 x21 x22 x23 ke0 kret) ke0 kret
def F.spec_TableOK {R : Type} (N : Nat) (x1 : List Int) (x2 : Int) (x3 : List Int) (x4 : List Int) (x5 : List Int) (x6 : List Int) (x7 : List Int) (x8 : List Int) (k : Bool → Option R) : Option R :=
  bif (List.length x1 : Int) != 256 then
    k false
  else
    F.spec_l1Between x2 1 256 fun r9 =>
    bif !r9 then
      k false
    else
      F.spec_l2All N x1 0 (wrapK .i64 (x2 - 1)) fun r10 =>
      bif !r10 then
        k false
      else
        F.spec_l1Between (List.length x3 : Int) 1 4000 fun r11 =>
        bif !r11 then
          k false
        else
          bif (List.length x4 : Int) != (List.length x3 : Int) then
            k false
          else
            bif (List.length x5 : Int) != (List.length x3 : Int) then
              k false
            else
              bif (List.length x6 : Int) != (List.length x3 : Int) then
                k false
              else
                bif (List.length x7 : Int) != (List.length x8 : Int) then
                  k false
                else
                  bif decide ((List.length x7 : Int) > 60000) then
                    k false
                  else
                    F.spec_TableOK_l0 N N (List.length x3 : Int) x8 (List.length x8 : Int) 0 x1 x2 x3 x4 x5 x6 x7 x8
                      (fun y24 y25 y26 y27 y28 y29 y30 y31 y32 =>
                        F.spec_l2All N y27 0 59999 fun r33 =>
                        bif r33 then
                          F.spec_l2All N y28 0 (wrapK .i64 (y24 - 1)) fun r34 =>
                          bif r34 then
                            F.spec_l2All N y29 (-1) 99 fun r35 =>
                            bif r35 then
                              F.spec_l2All N y30 (-1) 99 fun r36 =>
                              bif r36 then
                                F.spec_l2All N y32 (-1) (wrapK .i64 (y24 - 1)) fun r37 =>
                                bif r37 then
                                  F.spec_l2All N y31 0 (wrapK .i64 (y24 - 1)) fun r38 =>
                                  k r38
                                else
                                  k false
                              else
                                k false
                            else
                              k false
                          else
                            k false
                        else
                          k false)
                      (fun y39 y40 y41 y42 y43 y44 y45 y46 y47 y48 =>
                        k y39)
/-! ### loop.example/s0007/spec.l3Go -/
def F.spec_l3Go {R : Type} (x1 : List Int) (x2 : Int) (x3 : List Int) (x4 : List Int) (x5 : List Int) (x6 : List Int) (x7 : List Int) (x8 : List Int) (x9 : Int) (x10 : Int) (k : Int → Option R) : Option R :=
  bif inB x9 (List.length x3) then
    bif inB x10 (List.length x1) then
      bif decide ((wrapK .i64 ((List.getD x3 (Int.toNat x9) (0 : Int)) + (List.getD x1 (Int.toNat x10) (0 : Int)))) < (List.length x8 : Int)) then
        bif inB (wrapK .i64 ((List.getD x3 (Int.toNat x9) (0 : Int)) + (List.getD x1 (Int.toNat x10) (0 : Int)))) (List.length x8) then
          bif (List.getD x8 (Int.toNat (wrapK .i64 ((List.getD x3 (Int.toNat x9) (0 : Int)) + (List.getD x1 (Int.toNat x10) (0 : Int))))) (0 : Int)) == x9 then
            bif inB (wrapK .i64 ((List.getD x3 (Int.toNat x9) (0 : Int)) + (List.getD x1 (Int.toNat x10) (0 : Int)))) (List.length x7) then
              k (List.getD x7 (Int.toNat (wrapK .i64 ((List.getD x3 (Int.toNat x9) (0 : Int)) + (List.getD x1 (Int.toNat x10) (0 : Int))))) (0 : Int))
            else
              none
          else
            bif inB x9 (List.length x4) then
              k (List.getD x4 (Int.toNat x9) (0 : Int))
            else
              none
        else
          none
      else
        bif inB x9 (List.length x4) then
          k (List.getD x4 (Int.toNat x9) (0 : Int))
        else
          none
    else
      none
  else
    none
/-! ### loop.example/s0007/spec.Lookup -/
def F.spec_Lookup {R : Type} (N : Nat) (x1 : List Int) (x2 : Int) (x3 : List Int) (x4 : List Int) (x5 : List Int) (x6 : List Int) (x7 : List Int) (x8 : List Int) (x9 : Int) (x10 : Int) (k : Int → Option R) : Option R :=
  F.spec_TableOK N x1 x2 x3 x4 x5 x6 x7 x8 fun r11 =>
  bif !r11 then
    k (-1)
  else
    F.spec_l1Between x9 0 (wrapK .i64 ((List.length x3 : Int) - 1)) fun r12 =>
    bif !r12 then
      k (-1)
    else
      F.spec_l1Between x10 0 255 fun r13 =>
      bif !r13 then
        k (-1)
      else
        F.spec_l3Go x1 x2 x3 x4 x5 x6 x7 x8 x9 x10 fun r14 =>
        k r14
/-! ### loop.example/s0007/impl.DfaOK$1$1 -/
def F.impl_DfaOK_1_1 {R : Type} (x1 : Int) (x2 : Int) (x3 : Int) (k : Bool → Option R) : Option R :=
  bif decide (x1 < x2) then
    k true
  else
    k (decide (x1 > x3))
/-! ### slices.IndexFunc[[]int,int] -/
def F.slices_IndexFunc_l0_s {R : Type} (N : Nat) (x4 : List Int) (x5 : Int) (x6 : Int) (x7 : Int) (x8 : Int) (next : (List Int) → Int → Int → Int → Int → Option R) (ke0 : Int → Int → Option R) (kret : Int → Int → Int → Option R) : Option R :=
  bif decide (x6 < x5) then
    bif inB x6 (List.length x4) then
      F.impl_DfaOK_1_1 (List.getD x4 (Int.toNat x6) (0 : Int)) x7 x8 fun r9 =>
      bif r9 then
        kret x6 x7 x8
      else
        next x4 x5 (wrapK .i64 (x6 + 1)) x7 x8
    else
      none
  else
    ke0 x7 x8
def F.slices_IndexFunc_l0 {R : Type} (N : Nat) : Nat → (List Int) → Int → Int → Int → Int → (Int → Int → Option R) → (Int → Int → Int → Option R) → Option R
  | 0, _, _, _, _, _, _, _ => none
  | n + 1, x4, x5, x6, x7, x8, ke0, kret => F.slices_IndexFunc_l0_s N x4 x5 x6 x7 x8 (fun x4 x5 x6 x7 x8 => F.slices_IndexFunc_l0 N n x4 x5 x6 x7 x8 ke0 kret) ke0 kret
def F.slices_IndexFunc {R : Type} (N : Nat) (x1 : List Int) (x2 : Int) (x3 : Int) (k : Int → Int → Int → Option R) : Option R :=
  F.slices_IndexFunc_l0 N N x1 (List.length x1 : Int) 0 x2 x3
    (fun y10 y11 =>
      k (-1) y10 y11)
    (fun y12 y13 y14 =>
      k y12 y13 y14)
/-! ### slices.ContainsFunc[[]int,int] -/
def F.slices_ContainsFunc {R : Type} (N : Nat) (x1 : List Int) (x2 : Int) (x3 : Int) (k : Bool → Int → Int → Option R) : Option R :=
  F.slices_IndexFunc N x1 x2 x3 fun r4 r5 r6 =>
  k (decide (r4 ≥ 0)) r5 r6
/-! ### loop.example/s0007/impl.DfaOK$1 -/
def F.impl_DfaOK_1 {R : Type} (N : Nat) (x1 : List Int) (x2 : Int) (x3 : Int) (k : Bool → Option R) : Option R :=
  F.slices_ContainsFunc N x1 x2 x3 fun r4 r5 r6 =>
  k (!r4)
/-! ### loop.example/s0007/impl.DfaOK -/
def F.impl_DfaOK {R : Type} (N : Nat) (x1 : List Int) (x2 : Int) (x3 : List Int) (x4 : List Int) (x5 : List Int) (k : Bool → Option R) : Option R :=
  bif (List.length x1 : Int) != 256 then
    k false
  else
    bif decide (x2 < 1) then
      k false
    else
      bif decide (x2 > 256) then
        k false
      else
        bif decide ((List.length x4 : Int) < 1) then
          k false
        else
          bif decide ((List.length x4 : Int) > 4000) then
            k false
          else
            bif (List.length x5 : Int) != (List.length x4 : Int) then
              k false
            else
              bif (List.length x3 : Int) != (wrapK .i64 ((List.length x4 : Int) * x2)) then
                k false
              else
                F.impl_DfaOK_1 N x1 0 (wrapK .i64 (x2 - 1)) fun r6 =>
                bif r6 then
                  F.impl_DfaOK_1 N x3 0 (wrapK .i64 ((List.length x4 : Int) - 1)) fun r7 =>
                  bif r7 then
                    F.impl_DfaOK_1 N x4 (-1) 99 fun r8 =>
                    bif r8 then
                      F.impl_DfaOK_1 N x5 (-1) 99 fun r9 =>
                      k r9
                    else
                      k false
                  else
                    k false
                else
                  k false
/-! ### loop.example/s0007/impl.TableOK -/
def F.impl_TableOK_l0_s {R : Type} (N : Nat) (x10 : Int) (x11 : Int) (x12 : Int) (x13 : List Int) (x14 : Int) (x15 : List Int) (x16 : List Int) (x17 : List Int) (x18 : List Int) (x19 : List Int) (x20 : List Int) (next : Int → Int → Int → (List Int) → Int → (List Int) → (List Int) → (List Int) → (List Int) → (List Int) → (List Int) → Option R) (ke0 : Int → (List Int) → Int → (List Int) → (List Int) → (List Int) → (List Int) → (List Int) → (List Int) → Option R) (kret : Bool → Int → (List Int) → Int → (List Int) → (List Int) → (List Int) → (List Int) → (List Int) → (List Int) → Option R) : Option R :=
  bif decide (x12 < x11) then
    bif inB x12 (List.length x15) then
      bif decide ((List.getD x15 (Int.toNat x12) (0 : Int)) < 0) then
        kret false x10 x13 x14 x15 x16 x17 x18 x19 x20
      else
        bif inB x12 (List.length x15) then
          bif decide ((List.getD x15 (Int.toNat x12) (0 : Int)) ≥ 60000) then
            kret false x10 x13 x14 x15 x16 x17 x18 x19 x20
          else
            bif inB x12 (List.length x16) then
              bif decide ((List.getD x16 (Int.toNat x12) (0 : Int)) < 0) then
                kret false x10 x13 x14 x15 x16 x17 x18 x19 x20
              else
                bif inB x12 (List.length x16) then
                  bif decide ((List.getD x16 (Int.toNat x12) (0 : Int)) ≥ x10) then
                    kret false x10 x13 x14 x15 x16 x17 x18 x19 x20
                  else
                    next x10 x11 (wrapK .i64 (x12 + 1)) x13 x14 x15 x16 x17 x18 x19 x20
                else
                  none
            else
              none
        else
          none
    else
      none
  else
    ke0 x10 x13 x14 x15 x16 x17 x18 x19 x20
def F.impl_TableOK_l0 {R : Type} (N : Nat) : Nat → Int → Int → Int → (List Int) → Int → (List Int) → (List Int) → (List Int) → (List Int) → (List Int) → (List Int) → (Int → (List Int) → Int → (List Int) → (List Int) → (List Int) → (List Int) → (List Int) → (List Int) → Option R) → (Bool → Int → (List Int) → Int → (List Int) → (List Int) → (List Int) → (List Int) → (List Int) → (List Int) → Option R) → Option R
  | 0, _, _, _, _, _, _, _, _, _, _, _, _, _ => none
  | n + 1, x10, x11, x12, x13, x14, x15, x16, x17, x18, x19, x20, ke0, kret => F.impl_TableOK_l0_s N x10 x11 x12 x13 x14 x15 x16 x17 x18 x19 x20 (fun x10 x11 x12 x13 x14 x15 x16 x17 x18 x19 x20 => F.impl_TableOK_l0 N n x10 x11 x12 x13 x14 x15 x16 x17 x18 x19 x20 ke0 kret) ke0 kret
def F.impl_TableOK_l2_s {R : Type} (N : Nat) (x30 : Int) (x31 : List Int) (x32 : Int) (x33 : Int) (x34 : List Int) (x35 : Int) (x36 : List Int) (x37 : List Int) (x38 : List Int) (x39 : List Int) (x40 : List Int) (x41 : List Int) (next : Int → (List Int) → Int → Int → (List Int) → Int → (List Int) → (List Int) → (List Int) → (List Int) → (List Int) → (List Int) → Option R) (ke2 : Unit → Option R) (kret : Bool → Option R) : Option R :=
  bif decide (x33 < x32) then
    bif inB x33 (List.length x31) then
      bif decide ((List.getD x31 (Int.toNat x33) (0 : Int)) < (-1)) then
        kret false
      else
        bif decide ((List.getD x31 (Int.toNat x33) (0 : Int)) ≥ x30) then
          kret false
        else
          bif inB x33 (List.length x40) then
            bif decide ((List.getD x40 (Int.toNat x33) (0 : Int)) < 0) then
              kret false
            else
              bif inB x33 (List.length x40) then
                bif decide ((List.getD x40 (Int.toNat x33) (0 : Int)) ≥ x30) then
                  kret false
                else
                  bif (List.getD x31 (Int.toNat x33) (0 : Int)) == (-1) then
                    bif inB x33 (List.length x40) then
                      bif (List.getD x40 (Int.toNat x33) (0 : Int)) != 0 then
                        kret false
                      else
                        next x30 x31 x32 (wrapK .i64 (x33 + 1)) x34 x35 x36 x37 x38 x39 x40 x41
                    else
                      none
                  else
                    next x30 x31 x32 (wrapK .i64 (x33 + 1)) x34 x35 x36 x37 x38 x39 x40 x41
              else
                none
          else
            none
    else
      none
  else
    ke2 ()
def F.impl_TableOK_l2 {R : Type} (N : Nat) : Nat → Int → (List Int) → Int → Int → (List Int) → Int → (List Int) → (List Int) → (List Int) → (List Int) → (List Int) → (List Int) → (Unit → Option R) → (Bool → Option R) → Option R
  | 0, _, _, _, _, _, _, _, _, _, _, _, _, _, _ => none
  | n + 1, x30, x31, x32, x33, x34, x35, x36, x37, x38, x39, x40, x41, ke2, kret => F.impl_TableOK_l2_s N x30 x31 x32 x33 x34 x35 x36 x37 x38 x39 x40 x41 (fun x30 x31 x32 x33 x34 x35 x36 x37 x38 x39 x40 x41 => F.impl_TableOK_l2 N n x30 x31 x32 x33 x34 x35 x36 x37 x38 x39 x40 x41 ke2 kret) ke2 kret
def F.impl_TableOK {R : Type} (N : Nat) (x1 : List Int) (x2 : Int) (x3 : List Int) (x4 : List Int) (x5 : List Int) (x6 : List Int) (x7 : List Int) (x8 : List Int) (k : Bool → Option R) : Option R :=
  bif (List.length x4 : Int) != (List.length x3 : Int) then
    k false
  else
    bif (List.length x8 : Int) != (List.length x7 : Int) then
      k false
    else
      bif decide ((List.length x7 : Int) > 60000) then
        k false
      else
        bif decide ((List.length x3 : Int) < 1) then
          k false
        else
          bif decide ((List.length x3 : Int) > 4000) then
            k false
          else
            bif decide (x2 < 1) then
              k false
            else
              bif decide (x2 > 256) then
                k false
              else
                bif (List.length x5 : Int) != (List.length x3 : Int) then
                  k false
                else
                  bif decide (0 ≤ (wrapK .i64 ((List.length x3 : Int) * x2))) then
                    bif Nat.ble (Int.toNat (wrapK .i64 ((List.length x3 : Int) * x2))) (bigOf 8) then
                      F.impl_DfaOK N x1 x2 (List.replicate (Int.toNat (wrapK .i64 ((List.length x3 : Int) * x2))) (0 : Int)) x5 x6 fun r9 =>
                      bif !r9 then
                        k false
                      else
                        F.impl_TableOK_l0 N N (List.length x3 : Int) (List.length x3 : Int) 0 x1 x2 x3 x4 x5 x6 x7 x8
                          (fun y21 y22 y23 y24 y25 y26 y27 y28 y29 =>
                            F.impl_TableOK_l2 N N y21 y29 (List.length y29 : Int) 0 y22 y23 y24 y25 y26 y27 y28 y29
                              (fun _ =>
                                k true)
                              (fun y42 =>
                                k y42))
                          (fun y43 y44 y45 y46 y47 y48 y49 y50 y51 y52 =>
                            k y43)
                    else
                      none
                  else
                    none
/-! ### (*loop.example/s0007/impl.Table).step -/
def F.impl_Table_step {R : Type} (x1 : List Int) (x2 : Int) (x3 : List Int) (x4 : List Int) (x5 : List Int) (x6 : List Int) (x7 : List Int) (x8 : List Int) (x9 : Int) (x10 : Int) (k : Int → Option R) : Option R :=
  bif inB x9 (List.length x3) then
    bif inB x10 (List.length x1) then
      bif decide ((wrapK .i64 ((List.getD x3 (Int.toNat x9) (0 : Int)) + (List.getD x1 (Int.toNat x10) (0 : Int)))) < (List.length x8 : Int)) then
        bif inB (wrapK .i64 ((List.getD x3 (Int.toNat x9) (0 : Int)) + (List.getD x1 (Int.toNat x10) (0 : Int)))) (List.length x8) then
          bif (List.getD x8 (Int.toNat (wrapK .i64 ((List.getD x3 (Int.toNat x9) (0 : Int)) + (List.getD x1 (Int.toNat x10) (0 : Int))))) (0 : Int)) == x9 then
            bif inB (wrapK .i64 ((List.getD x3 (Int.toNat x9) (0 : Int)) + (List.getD x1 (Int.toNat x10) (0 : Int)))) (List.length x7) then
              k (List.getD x7 (Int.toNat (wrapK .i64 ((List.getD x3 (Int.toNat x9) (0 : Int)) + (List.getD x1 (Int.toNat x10) (0 : Int))))) (0 : Int))
            else
              none
          else
            bif inB x9 (List.length x4) then
              k (List.getD x4 (Int.toNat x9) (0 : Int))
            else
              none
        else
          none
      else
        bif inB x9 (List.length x4) then
          k (List.getD x4 (Int.toNat x9) (0 : Int))
        else
          none
    else
      none
  else
    none
/-! ### loop.example/s0007/impl.Lookup -/
def F.impl_Lookup {R : Type} (N : Nat) (x1 : List Int) (x2 : Int) (x3 : List Int) (x4 : List Int) (x5 : List Int) (x6 : List Int) (x7 : List Int) (x8 : List Int) (x9 : Int) (x10 : Int) (k : Int → Option R) : Option R :=
  F.impl_TableOK N x1 x2 x3 x4 x5 x6 x7 x8 fun r11 =>
  bif !r11 then
    k (-1)
  else
    bif decide (x9 < 0) then
      k (-1)
    else
      bif decide (x9 ≥ (List.length x3 : Int)) then
        k (-1)
      else
        bif decide (x10 < 0) then
          k (-1)
        else
          bif decide (x10 > 255) then
            k (-1)
          else
            F.impl_Table_step x1 x2 x3 x4 x5 x6 x7 x8 x9 x10 fun r12 =>
            k r12
/-! ### loop.example/s0007/laws.eqIntS -/
def F.laws_eqIntS_l0_s {R : Type} (N : Nat) (x3 : List Int) (x4 : List Int) (x5 : Int) (next : (List Int) → (List Int) → Int → Option R) (ke0 : Unit → Option R) (kret : Bool → Option R) : Option R :=
  bif decide (x5 < (List.length x3 : Int)) then
    bif inB x5 (List.length x3) then
      bif inB x5 (List.length x4) then
        bif (List.getD x3 (Int.toNat x5) (0 : Int)) != (List.getD x4 (Int.toNat x5) (0 : Int)) then
          kret false
        else
          next x3 x4 (wrapK .i64 (x5 + 1))
      else
        none
    else
      none
  else
    ke0 ()
def F.laws_eqIntS_l0 {R : Type} (N : Nat) : Nat → (List Int) → (List Int) → Int → (Unit → Option R) → (Bool → Option R) → Option R
  | 0, _, _, _, _, _ => none
  | n + 1, x3, x4, x5, ke0, kret => F.laws_eqIntS_l0_s N x3 x4 x5 (fun x3 x4 x5 => F.laws_eqIntS_l0 N n x3 x4 x5 ke0 kret) ke0 kret
def F.laws_eqIntS {R : Type} (N : Nat) (x1 : List Int) (x2 : List Int) (k : Bool → Option R) : Option R :=
  bif (List.length x1 : Int) != (List.length x2 : Int) then
    k false
  else
    F.laws_eqIntS_l0 N N x1 x2 0
      (fun _ =>
        k true)
      (fun y6 =>
        k y6)
/-! ### loop.example/s0007/laws.eqTable -/
def F.laws_eqTable {R : Type} (N : Nat) (x1 : List Int) (x2 : Int) (x3 : List Int) (x4 : List Int) (x5 : List Int) (x6 : List Int) (x7 : List Int) (x8 : List Int) (x9 : List Int) (x10 : Int) (x11 : List Int) (x12 : List Int) (x13 : List Int) (x14 : List Int) (x15 : List Int) (x16 : List Int) (k : Bool → Option R) : Option R :=
  F.laws_eqIntS N x1 x9 fun r17 =>
  bif !r17 then
    k false
  else
    bif x2 != x10 then
      k false
    else
      F.laws_eqIntS N x3 x11 fun r18 =>
      bif !r18 then
        k false
      else
        F.laws_eqIntS N x4 x12 fun r19 =>
        bif !r19 then
          k false
        else
          F.laws_eqIntS N x5 x13 fun r20 =>
          bif !r20 then
            k false
          else
            F.laws_eqIntS N x6 x14 fun r21 =>
            bif !r21 then
              k false
            else
              F.laws_eqIntS N x7 x15 fun r22 =>
              bif !r22 then
                k false
              else
                F.laws_eqIntS N x8 x16 fun r23 =>
                bif !r23 then
                  k false
                else
                  k true
/-! ### loop.example/s0007/laws.FnExactLookup -/
def F.laws_FnExactLookup {R : Type} (N : Nat) (x1 : List Int) (x2 : Int) (x3 : List Int) (x4 : List Int) (x5 : List Int) (x6 : List Int) (x7 : List Int) (x8 : List Int) (x9 : Int) (x10 : Int) (k : Bool → Option R) : Option R :=
  F.laws_szTable x1 x2 x3 x4 x5 x6 x7 x8 1048576 fun r11 =>
  bif decide (r11 < 0) then
    k true
  else
    F.laws_toTable N x1 x2 x3 x4 x5 x6 x7 x8 fun r12 r13 r14 r15 r16 r17 r18 r19 =>
    F.spec_Lookup N r13 r12 r14 r15 r16 r17 r18 r19 x9 x10 fun r20 =>
    F.laws_toTable N x1 x2 x3 x4 x5 x6 x7 x8 fun r21 r22 r23 r24 r25 r26 r27 r28 =>
    F.impl_Lookup N r22 r21 r23 r24 r25 r26 r27 r28 x9 x10 fun r29 =>
    bif r29 != r20 then
      k false
    else
      F.laws_toTable N x1 x2 x3 x4 x5 x6 x7 x8 fun r30 r31 r32 r33 r34 r35 r36 r37 =>
      F.laws_eqTable N r22 r21 r23 r24 r25 r26 r27 r28 r31 r30 r32 r33 r34 r35 r36 r37 fun r38 =>
      bif !r38 then
        k false
      else
        k true
end Go.Proofs.Ytgmgmgcjkalanaa.fnExactLookup
