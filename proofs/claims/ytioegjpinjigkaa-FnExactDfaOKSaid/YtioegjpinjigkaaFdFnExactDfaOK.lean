/- What the Go functions that the law uses answer, as plain functions. -/
import Derived.Test.YtioegjpinjigkaaEa
set_option linter.unusedVariables false
namespace Go.Proofs.Ytioegjpinjigkaa.fnExactDfaOK
open Go.Ev
/-! ### loop.example/s0007/laws.szIntS -/
def F.laws_szIntS {R : Type} (x1 : List Int) (x2 : Int) (k : Int → Option R) : Option R :=
  bif decide ((wrapK .i64 (x2 - (List.length x1 : Int))) < 0) then
    k (-1)
  else
    k (wrapK .i64 (x2 - (List.length x1 : Int)))
/-! ### loop.example/s0007/laws.szDfa -/
def F.laws_szDfa {R : Type} (x1 : List Int) (x2 : Int) (x3 : List Int) (x4 : List Int) (x5 : List Int) (x6 : Int) (k : Int → Option R) : Option R :=
  F.laws_szIntS x1 x6 fun r7 =>
  bif decide (r7 < 0) then
    k (-1)
  else
    F.laws_szIntS x3 r7 fun r8 =>
    bif decide (r8 < 0) then
      k (-1)
    else
      F.laws_szIntS x4 r8 fun r9 =>
      bif decide (r9 < 0) then
        k (-1)
      else
        F.laws_szIntS x5 r9 fun r10 =>
        bif decide (r10 < 0) then
          k (-1)
        else
          k r10
/-! ### loop.example/s0007/laws.toIntS -/
def F.laws_toIntS_l0_s {R : Type} (N : Nat) (x2 : List Int) (x3 : Int) (x4 : List Int) (next : (List Int) → Int → (List Int) → Option R) (ke0 : (List Int) → Option R) : Option R :=
  bif decide (x3 < (List.length x2 : Int)) then
    bif inB x3 (List.length x2) then
      bif inB x3 (List.length x4) then
        next x2 (wrapK .i64 (x3 + 1)) (List.set x4 (Int.toNat x3) (List.getD x2 (Int.toNat x3) (0 : Int)))
      else
        none
    else
      none
  else
    ke0 x4
def F.laws_toIntS_l0 {R : Type} (N : Nat) : Nat → (List Int) → Int → (List Int) → ((List Int) → Option R) → Option R
  | 0, _, _, _, _ => none
  | n + 1, x2, x3, x4, ke0 => F.laws_toIntS_l0_s N x2 x3 x4 (fun x2 x3 x4 => F.laws_toIntS_l0 N n x2 x3 x4 ke0) ke0
def F.laws_toIntS {R : Type} (N : Nat) (x1 : List Int) (k : (List Int) → Option R) : Option R :=
  bif decide (0 ≤ (List.length x1 : Int)) then
    bif Nat.ble (Int.toNat (List.length x1 : Int)) (bigOf 8) then
      F.laws_toIntS_l0 N N x1 0 (List.replicate (Int.toNat (List.length x1 : Int)) (0 : Int))
        (fun y5 =>
          k y5)
    else
      none
  else
    none
/-! ### loop.example/s0007/laws.toDfa -/
def F.laws_toDfa {R : Type} (N : Nat) (x1 : List Int) (x2 : Int) (x3 : List Int) (x4 : List Int) (x5 : List Int) (k : Int → (List Int) → (List Int) → (List Int) → (List Int) → Option R) : Option R :=
  F.laws_toIntS N x1 fun r6 =>
  F.laws_toIntS N x3 fun r7 =>
  F.laws_toIntS N x4 fun r8 =>
  F.laws_toIntS N x5 fun r9 =>
  k x2 r6 r7 r8 r9
/-! ### loop.example/s0007/spec.l1Between -/
def F.spec_l1Between {R : Type} (x1 : Int) (x2 : Int) (x3 : Int) (k : Bool → Option R) : Option R :=
  bif decide (x2 ≤ x1) then
    k (decide (x1 ≤ x3))
  else
    k false
/-! ### loop.example/s0007/spec.l2All -/
def F.spec_l2All_l0_s {R : Type} (N : Nat) (x4 : Int) (x5 : Int) (x6 : List Int) (x7 : Int) (x8 : Int) (next : Int → Int → (List Int) → Int → Int → Option R) (ke0 : Unit → Option R) (kret : Bool → Option R) : Option R :=
  bif decide (x8 < x7) then
    bif inB x8 (List.length x6) then
      F.spec_l1Between (List.getD x6 (Int.toNat x8) (0 : Int)) x4 x5 fun r9 =>
      bif !r9 then
        kret false
      else
        next x4 x5 x6 x7 (wrapK .i64 (x8 + 1))
    else
      none
  else
    ke0 ()
def F.spec_l2All_l0 {R : Type} (N : Nat) : Nat → Int → Int → (List Int) → Int → Int → (Unit → Option R) → (Bool → Option R) → Option R
  | 0, _, _, _, _, _, _, _ => none
  | n + 1, x4, x5, x6, x7, x8, ke0, kret => F.spec_l2All_l0_s N x4 x5 x6 x7 x8 (fun x4 x5 x6 x7 x8 => F.spec_l2All_l0 N n x4 x5 x6 x7 x8 ke0 kret) ke0 kret
def F.spec_l2All {R : Type} (N : Nat) (x1 : List Int) (x2 : Int) (x3 : Int) (k : Bool → Option R) : Option R :=
  F.spec_l2All_l0 N N x2 x3 x1 (List.length x1 : Int) 0
    (fun _ =>
      k true)
    (fun y10 =>
      k y10)
/-! ### loop.example/s0007/spec.DfaOK -/
def F.spec_DfaOK {R : Type} (N : Nat) (x1 : List Int) (x2 : Int) (x3 : List Int) (x4 : List Int) (x5 : List Int) (k : Bool → Option R) : Option R :=
  bif (List.length x1 : Int) != 256 then
    k false
  else
    F.spec_l1Between x2 1 256 fun r6 =>
    bif !r6 then
      k false
    else
      F.spec_l1Between (List.length x4 : Int) 1 4000 fun r7 =>
      bif !r7 then
        k false
      else
        bif (List.length x5 : Int) != (List.length x4 : Int) then
          k false
        else
          bif (List.length x3 : Int) != (wrapK .i64 ((List.length x4 : Int) * x2)) then
            k false
          else
            F.spec_l2All N x1 0 (wrapK .i64 (x2 - 1)) fun r8 =>
            bif r8 then
              F.spec_l2All N x3 0 (wrapK .i64 ((List.length x4 : Int) - 1)) fun r9 =>
              bif r9 then
                F.spec_l2All N x4 (-1) 99 fun r10 =>
                bif r10 then
                  F.spec_l2All N x5 (-1) 99 fun r11 =>
                  k r11
                else
                  k false
              else
                k false
            else
              k false
/-! ### loop.example/s0007/impl.DfaOK$1$1 -/
def F.impl_DfaOK_1_1 {R : Type} (x1 : Int) (x2 : Int) (x3 : Int) (k : Bool → Option R) : Option R :=
  bif decide (x1 < x2) then
    k true
  else
    k (decide (x1 > x3))
/-! ### slices.IndexFunc[[]int,int] -/
def F.slices_IndexFunc_l0_s {R : Type} (N : Nat) (x4 : List Int) (x5 : Int) (x6 : Int) (x7 : Int) (x8 : Int) (next : (List Int) → Int → Int → Int → Int → Option R) (ke0 : Int → Int → Option R) (kret : Int → Int → Int → Option R) : Option R :=
  bif decide (x6 < x5) then
    bif inB x6 (List.length x4) then
      F.impl_DfaOK_1_1 (List.getD x4 (Int.toNat x6) (0 : Int)) x7 x8 fun r9 =>
      bif r9 then
        kret x6 x7 x8
      else
        next x4 x5 (wrapK .i64 (x6 + 1)) x7 x8
    else
      none
  else
    ke0 x7 x8
def F.slices_IndexFunc_l0 {R : Type} (N : Nat) : Nat → (List Int) → Int → Int → Int → Int → (Int → Int → Option R) → (Int → Int → Int → Option R) → Option R
  | 0, _, _, _, _, _, _, _ => none
  | n + 1, x4, x5, x6, x7, x8, ke0, kret => F.slices_IndexFunc_l0_s N x4 x5 x6 x7 x8 (fun x4 x5 x6 x7 x8 => F.slices_IndexFunc_l0 N n x4 x5 x6 x7 x8 ke0 kret) ke0 kret
def F.slices_IndexFunc {R : Type} (N : Nat) (x1 : List Int) (x2 : Int) (x3 : Int) (k : Int → Int → Int → Option R) : Option R :=
  F.slices_IndexFunc_l0 N N x1 (List.length x1 : Int) 0 x2 x3
    (fun y10 y11 =>
      k (-1) y10 y11)
    (fun y12 y13 y14 =>
      k y12 y13 y14)
/-! ### slices.ContainsFunc[[]int,int] -/
def F.slices_ContainsFunc {R : Type} (N : Nat) (x1 : List Int) (x2 : Int) (x3 : Int) (k : Bool → Int → Int → Option R) : Option R :=
  F.slices_IndexFunc N x1 x2 x3 fun r4 r5 r6 =>
  k (decide (r4 ≥ 0)) r5 r6
/-! ### loop.example/s0007/impl.DfaOK$1 -/
def F.impl_DfaOK_1 {R : Type} (N : Nat) (x1 : List Int) (x2 : Int) (x3 : Int) (k : Bool → Option R) : Option R :=
  F.slices_ContainsFunc N x1 x2 x3 fun r4 r5 r6 =>
  k (!r4)
/-! ### loop.example/s0007/impl.DfaOK -/
def F.impl_DfaOK {R : Type} (N : Nat) (x1 : List Int) (x2 : Int) (x3 : List Int) (x4 : List Int) (x5 : List Int) (k : Bool → Option R) : Option R :=
  bif (List.length x1 : Int) != 256 then
    k false
  else
    bif decide (x2 < 1) then
      k false
    else
      bif decide (x2 > 256) then
        k false
      else
        bif decide ((List.length x4 : Int) < 1) then
          k false
        else
          bif decide ((List.length x4 : Int) > 4000) then
            k false
          else
            bif (List.length x5 : Int) != (List.length x4 : Int) then
              k false
            else
              bif (List.length x3 : Int) != (wrapK .i64 ((List.length x4 : Int) * x2)) then
                k false
              else
                F.impl_DfaOK_1 N x1 0 (wrapK .i64 (x2 - 1)) fun r6 =>
                bif r6 then
                  F.impl_DfaOK_1 N x3 0 (wrapK .i64 ((List.length x4 : Int) - 1)) fun r7 =>
                  bif r7 then
                    F.impl_DfaOK_1 N x4 (-1) 99 fun r8 =>
                    bif r8 then
                      F.impl_DfaOK_1 N x5 (-1) 99 fun r9 =>
                      k r9
                    else
                      k false
                  else
                    k false
                else
                  k false
/-! ### loop.example/s0007/laws.eqIntS -/
def F.laws_eqIntS_l0_s {R : Type} (N : Nat) (x3 : List Int) (x4 : List Int) (x5 : Int) (next : (List Int) → (List Int) → Int → Option R) (ke0 : Unit → Option R) (kret : Bool → Option R) : Option R :=
  bif decide (x5 < (List.length x3 : Int)) then
    bif inB x5 (List.length x3) then
      bif inB x5 (List.length x4) then
        bif (List.getD x3 (Int.toNat x5) (0 : Int)) != (List.getD x4 (Int.toNat x5) (0 : Int)) then
          kret false
        else
          next x3 x4 (wrapK .i64 (x5 + 1))
      else
        none
    else
      none
  else
    ke0 ()
def F.laws_eqIntS_l0 {R : Type} (N : Nat) : Nat → (List Int) → (List Int) → Int → (Unit → Option R) → (Bool → Option R) → Option R
  | 0, _, _, _, _, _ => none
  | n + 1, x3, x4, x5, ke0, kret => F.laws_eqIntS_l0_s N x3 x4 x5 (fun x3 x4 x5 => F.laws_eqIntS_l0 N n x3 x4 x5 ke0 kret) ke0 kret
def F.laws_eqIntS {R : Type} (N : Nat) (x1 : List Int) (x2 : List Int) (k : Bool → Option R) : Option R :=
  bif (List.length x1 : Int) != (List.length x2 : Int) then
    k false
  else
    F.laws_eqIntS_l0 N N x1 x2 0
      (fun _ =>
        k true)
      (fun y6 =>
        k y6)
/-! ### loop.example/s0007/laws.eqDfa -/
def F.laws_eqDfa {R : Type} (N : Nat) (x1 : List Int) (x2 : Int) (x3 : List Int) (x4 : List Int) (x5 : List Int) (x6 : List Int) (x7 : Int) (x8 : List Int) (x9 : List Int) (x10 : List Int) (k : Bool → Option R) : Option R :=
  F.laws_eqIntS N x1 x6 fun r11 =>
  bif !r11 then
    k false
  else
    bif x2 != x7 then
      k false
    else
      F.laws_eqIntS N x3 x8 fun r12 =>
      bif !r12 then
        k false
      else
        F.laws_eqIntS N x4 x9 fun r13 =>
        bif !r13 then
          k false
        else
          F.laws_eqIntS N x5 x10 fun r14 =>
          bif !r14 then
            k false
          else
            k true
/-! ### loop.example/s0007/laws.FnExactDfaOK -/
def F.laws_FnExactDfaOK {R : Type} (N : Nat) (x1 : List Int) (x2 : Int) (x3 : List Int) (x4 : List Int) (x5 : List Int) (k : Bool → Option R) : Option R :=
  F.laws_szDfa x1 x2 x3 x4 x5 1048576 fun r6 =>
  bif decide (r6 < 0) then
    k true
  else
    F.laws_toDfa N x1 x2 x3 x4 x5 fun r7 r8 r9 r10 r11 =>
    F.spec_DfaOK N r8 r7 r9 r10 r11 fun r12 =>
    F.laws_toDfa N x1 x2 x3 x4 x5 fun r13 r14 r15 r16 r17 =>
    F.impl_DfaOK N r14 r13 r15 r16 r17 fun r18 =>
    bif !(r18 == r12) then
      k false
    else
      F.laws_toDfa N x1 x2 x3 x4 x5 fun r19 r20 r21 r22 r23 =>
      F.laws_eqDfa N r14 r13 r15 r16 r17 r20 r19 r21 r22 r23 fun r24 =>
      bif !r24 then
        k false
      else
        k true
end Go.Proofs.Ytioegjpinjigkaa.fnExactDfaOK
