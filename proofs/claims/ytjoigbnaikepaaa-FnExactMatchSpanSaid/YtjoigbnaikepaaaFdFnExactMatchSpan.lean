/- What the Go functions that the law uses answer, as plain functions. -/
import Derived.Test.YtjoigbnaikepaaaEa
set_option linter.unusedVariables false
namespace Go.Proofs.Ytjoigbnaikepaaa.fnExactMatchSpan
open Go.Ev
/-! ### loop.example/s0007/laws.szRangeS -/
def F.laws_szRangeS {R : Type} (x1 : List (Int × Int)) (x2 : Int) (k : Int → Option R) : Option R :=
  bif decide ((wrapK .i64 (x2 - (List.length x1 : Int))) < 0) then
    k (-1)
  else
    k (wrapK .i64 (x2 - (List.length x1 : Int)))
/-! ### loop.example/s0007/laws.szNode -/
def F.laws_szNode {R : Type} (x1 : Int) (x2 : List (Int × Int)) (x3 : Int) (x4 : Int) (x5 : Int) (x6 : Int) (k : Int → Option R) : Option R :=
  F.laws_szRangeS x2 x6 fun r7 =>
  bif decide (r7 < 0) then
    k (-1)
  else
    k r7
/-! ### loop.example/s0007/laws.szNodeS -/
def F.laws_szNodeS_l0_s {R : Type} (N : Nat) (x3 : List (Int × ((List (Int × Int)) × (Int × (Int × Int))))) (x4 : Int) (x5 : Int) (next : (List (Int × ((List (Int × Int)) × (Int × (Int × Int))))) → Int → Int → Option R) (ke0 : Int → Option R) (kret : Int → Int → Option R) : Option R :=
  bif decide (x5 < (List.length x3 : Int)) then
    bif inB x5 (List.length x3) then
      F.laws_szNode ((List.getD x3 (Int.toNat x5) ((0 : Int), (([] : List (Int × Int)), ((0 : Int), ((0 : Int), (0 : Int)))))).1) (((List.getD x3 (Int.toNat x5) ((0 : Int), (([] : List (Int × Int)), ((0 : Int), ((0 : Int), (0 : Int)))))).2).1) ((((List.getD x3 (Int.toNat x5) ((0 : Int), (([] : List (Int × Int)), ((0 : Int), ((0 : Int), (0 : Int)))))).2).2).1) (((((List.getD x3 (Int.toNat x5) ((0 : Int), (([] : List (Int × Int)), ((0 : Int), ((0 : Int), (0 : Int)))))).2).2).2).1) (((((List.getD x3 (Int.toNat x5) ((0 : Int), (([] : List (Int × Int)), ((0 : Int), ((0 : Int), (0 : Int)))))).2).2).2).2) x4 fun r6 =>
      bif decide (r6 < 0) then
        kret r6 (-1)
      else
        next x3 r6 (wrapK .i64 (x5 + 1))
    else
      none
  else
    ke0 x4
def F.laws_szNodeS_l0 {R : Type} (N : Nat) : Nat → (List (Int × ((List (Int × Int)) × (Int × (Int × Int))))) → Int → Int → (Int → Option R) → (Int → Int → Option R) → Option R
  | 0, _, _, _, _, _ => none
  | n + 1, x3, x4, x5, ke0, kret => F.laws_szNodeS_l0_s N x3 x4 x5 (fun x3 x4 x5 => F.laws_szNodeS_l0 N n x3 x4 x5 ke0 kret) ke0 kret
def F.laws_szNodeS {R : Type} (N : Nat) (x1 : List (Int × ((List (Int × Int)) × (Int × (Int × Int))))) (x2 : Int) (k : Int → Option R) : Option R :=
  bif decide ((wrapK .i64 (x2 - (List.length x1 : Int))) < 0) then
    k (-1)
  else
    F.laws_szNodeS_l0 N N x1 (wrapK .i64 (x2 - (List.length x1 : Int))) 0
      (fun y7 =>
        k y7)
      (fun y8 y9 =>
        k y9)
/-! ### loop.example/s0007/laws.szBranch -/
def F.laws_szBranch {R : Type} (N : Nat) (x1 : Bool) (x2 : Bool) (x3 : List (Int × ((List (Int × Int)) × (Int × (Int × Int))))) (x4 : Int) (k : Int → Option R) : Option R :=
  F.laws_szNodeS N x3 x4 fun r5 =>
  bif decide (r5 < 0) then
    k (-1)
  else
    k r5
/-! ### loop.example/s0007/laws.szBranchS -/
def F.laws_szBranchS_l0_s {R : Type} (N : Nat) (x3 : List (Bool × (Bool × (List (Int × ((List (Int × Int)) × (Int × (Int × Int)))))))) (x4 : Int) (x5 : Int) (next : (List (Bool × (Bool × (List (Int × ((List (Int × Int)) × (Int × (Int × Int)))))))) → Int → Int → Option R) (ke0 : Int → Option R) (kret : Int → Int → Option R) : Option R :=
  bif decide (x5 < (List.length x3 : Int)) then
    bif inB x5 (List.length x3) then
      F.laws_szBranch N ((List.getD x3 (Int.toNat x5) (false, (false, ([] : List (Int × ((List (Int × Int)) × (Int × (Int × Int)))))))).1) (((List.getD x3 (Int.toNat x5) (false, (false, ([] : List (Int × ((List (Int × Int)) × (Int × (Int × Int)))))))).2).1) (((List.getD x3 (Int.toNat x5) (false, (false, ([] : List (Int × ((List (Int × Int)) × (Int × (Int × Int)))))))).2).2) x4 fun r6 =>
      bif decide (r6 < 0) then
        kret r6 (-1)
      else
        next x3 r6 (wrapK .i64 (x5 + 1))
    else
      none
  else
    ke0 x4
def F.laws_szBranchS_l0 {R : Type} (N : Nat) : Nat → (List (Bool × (Bool × (List (Int × ((List (Int × Int)) × (Int × (Int × Int)))))))) → Int → Int → (Int → Option R) → (Int → Int → Option R) → Option R
  | 0, _, _, _, _, _ => none
  | n + 1, x3, x4, x5, ke0, kret => F.laws_szBranchS_l0_s N x3 x4 x5 (fun x3 x4 x5 => F.laws_szBranchS_l0 N n x3 x4 x5 ke0 kret) ke0 kret
def F.laws_szBranchS {R : Type} (N : Nat) (x1 : List (Bool × (Bool × (List (Int × ((List (Int × Int)) × (Int × (Int × Int)))))))) (x2 : Int) (k : Int → Option R) : Option R :=
  bif decide ((wrapK .i64 (x2 - (List.length x1 : Int))) < 0) then
    k (-1)
  else
    F.laws_szBranchS_l0 N N x1 (wrapK .i64 (x2 - (List.length x1 : Int))) 0
      (fun y7 =>
        k y7)
      (fun y8 y9 =>
        k y9)
/-! ### loop.example/s0007/laws.szRule -/
def F.laws_szRule {R : Type} (N : Nat) (x1 : List (Bool × (Bool × (List (Int × ((List (Int × Int)) × (Int × (Int × Int)))))))) (x2 : Int) (x3 : Int) (k : Int → Option R) : Option R :=
  F.laws_szBranchS N x1 x3 fun r4 =>
  bif decide (r4 < 0) then
    k (-1)
  else
    k r4
/-! ### loop.example/s0007/laws.toRange -/
def F.laws_toRange {R : Type} (x1 : Int) (x2 : Int) (k : Int → Int → Option R) : Option R :=
  k x1 x2
/-! ### loop.example/s0007/laws.toRangeS -/
def F.laws_toRangeS_l0_s {R : Type} (N : Nat) (x2 : List (Int × Int)) (x3 : Int) (x4 : List (Int × Int)) (next : (List (Int × Int)) → Int → (List (Int × Int)) → Option R) (ke0 : (List (Int × Int)) → Option R) : Option R :=
  bif decide (x3 < (List.length x2 : Int)) then
    bif inB x3 (List.length x2) then
      F.laws_toRange ((List.getD x2 (Int.toNat x3) ((0 : Int), (0 : Int))).1) ((List.getD x2 (Int.toNat x3) ((0 : Int), (0 : Int))).2) fun r5 r6 =>
      bif inB x3 (List.length x4) then
        next x2 (wrapK .i64 (x3 + 1)) (List.set x4 (Int.toNat x3) (r5, r6))
      else
        none
    else
      none
  else
    ke0 x4
def F.laws_toRangeS_l0 {R : Type} (N : Nat) : Nat → (List (Int × Int)) → Int → (List (Int × Int)) → ((List (Int × Int)) → Option R) → Option R
  | 0, _, _, _, _ => none
  | n + 1, x2, x3, x4, ke0 => F.laws_toRangeS_l0_s N x2 x3 x4 (fun x2 x3 x4 => F.laws_toRangeS_l0 N n x2 x3 x4 ke0) ke0
def F.laws_toRangeS {R : Type} (N : Nat) (x1 : List (Int × Int)) (k : (List (Int × Int)) → Option R) : Option R :=
  bif decide (0 ≤ (List.length x1 : Int)) then
    bif Nat.ble (Int.toNat (List.length x1 : Int)) (bigOf 16) then
      F.laws_toRangeS_l0 N N x1 0 (List.replicate (Int.toNat (List.length x1 : Int)) ((0 : Int), (0 : Int)))
        (fun y7 =>
          k y7)
    else
      none
  else
    none
/-! ### loop.example/s0007/laws.toNode -/
def F.laws_toNode {R : Type} (N : Nat) (x1 : Int) (x2 : List (Int × Int)) (x3 : Int) (x4 : Int) (x5 : Int) (k : Int → Int → Int → Int → (List (Int × Int)) → Option R) : Option R :=
  F.laws_toRangeS N x2 fun r6 =>
  k x1 x3 x4 x5 r6
/-! ### loop.example/s0007/laws.toNodeS -/
def F.laws_toNodeS_l0_s {R : Type} (N : Nat) (x2 : List (Int × ((List (Int × Int)) × (Int × (Int × Int))))) (x3 : Int) (x4 : List (Int × ((List (Int × Int)) × (Int × (Int × Int))))) (next : (List (Int × ((List (Int × Int)) × (Int × (Int × Int))))) → Int → (List (Int × ((List (Int × Int)) × (Int × (Int × Int))))) → Option R) (ke0 : (List (Int × ((List (Int × Int)) × (Int × (Int × Int))))) → Option R) : Option R :=
  bif decide (x3 < (List.length x2 : Int)) then
    bif inB x3 (List.length x2) then
      F.laws_toNode N ((List.getD x2 (Int.toNat x3) ((0 : Int), (([] : List (Int × Int)), ((0 : Int), ((0 : Int), (0 : Int)))))).1) (((List.getD x2 (Int.toNat x3) ((0 : Int), (([] : List (Int × Int)), ((0 : Int), ((0 : Int), (0 : Int)))))).2).1) ((((List.getD x2 (Int.toNat x3) ((0 : Int), (([] : List (Int × Int)), ((0 : Int), ((0 : Int), (0 : Int)))))).2).2).1) (((((List.getD x2 (Int.toNat x3) ((0 : Int), (([] : List (Int × Int)), ((0 : Int), ((0 : Int), (0 : Int)))))).2).2).2).1) (((((List.getD x2 (Int.toNat x3) ((0 : Int), (([] : List (Int × Int)), ((0 : Int), ((0 : Int), (0 : Int)))))).2).2).2).2) fun r5 r6 r7 r8 r9 =>
      bif inB x3 (List.length x4) then
        next x2 (wrapK .i64 (x3 + 1)) (List.set x4 (Int.toNat x3) (r5, (r9, (r6, (r7, r8)))))
      else
        none
    else
      none
  else
    ke0 x4
def F.laws_toNodeS_l0 {R : Type} (N : Nat) : Nat → (List (Int × ((List (Int × Int)) × (Int × (Int × Int))))) → Int → (List (Int × ((List (Int × Int)) × (Int × (Int × Int))))) → ((List (Int × ((List (Int × Int)) × (Int × (Int × Int))))) → Option R) → Option R
  | 0, _, _, _, _ => none
  | n + 1, x2, x3, x4, ke0 => F.laws_toNodeS_l0_s N x2 x3 x4 (fun x2 x3 x4 => F.laws_toNodeS_l0 N n x2 x3 x4 ke0) ke0
def F.laws_toNodeS {R : Type} (N : Nat) (x1 : List (Int × ((List (Int × Int)) × (Int × (Int × Int))))) (k : (List (Int × ((List (Int × Int)) × (Int × (Int × Int))))) → Option R) : Option R :=
  bif decide (0 ≤ (List.length x1 : Int)) then
    bif Nat.ble (Int.toNat (List.length x1 : Int)) (bigOf 56) then
      F.laws_toNodeS_l0 N N x1 0 (List.replicate (Int.toNat (List.length x1 : Int)) ((0 : Int), (([] : List (Int × Int)), ((0 : Int), ((0 : Int), (0 : Int))))))
        (fun y10 =>
          k y10)
    else
      none
  else
    none
/-! ### loop.example/s0007/laws.toBranch -/
def F.laws_toBranch {R : Type} (N : Nat) (x1 : Bool) (x2 : Bool) (x3 : List (Int × ((List (Int × Int)) × (Int × (Int × Int))))) (k : Bool → Bool → (List (Int × ((List (Int × Int)) × (Int × (Int × Int))))) → Option R) : Option R :=
  F.laws_toNodeS N x3 fun r4 =>
  k x1 x2 r4
/-! ### loop.example/s0007/laws.toBranchS -/
def F.laws_toBranchS_l0_s {R : Type} (N : Nat) (x2 : List (Bool × (Bool × (List (Int × ((List (Int × Int)) × (Int × (Int × Int)))))))) (x3 : Int) (x4 : List (Bool × (Bool × (List (Int × ((List (Int × Int)) × (Int × (Int × Int)))))))) (next : (List (Bool × (Bool × (List (Int × ((List (Int × Int)) × (Int × (Int × Int)))))))) → Int → (List (Bool × (Bool × (List (Int × ((List (Int × Int)) × (Int × (Int × Int)))))))) → Option R) (ke0 : (List (Bool × (Bool × (List (Int × ((List (Int × Int)) × (Int × (Int × Int)))))))) → Option R) : Option R :=
  bif decide (x3 < (List.length x2 : Int)) then
    bif inB x3 (List.length x2) then
      F.laws_toBranch N ((List.getD x2 (Int.toNat x3) (false, (false, ([] : List (Int × ((List (Int × Int)) × (Int × (Int × Int)))))))).1) (((List.getD x2 (Int.toNat x3) (false, (false, ([] : List (Int × ((List (Int × Int)) × (Int × (Int × Int)))))))).2).1) (((List.getD x2 (Int.toNat x3) (false, (false, ([] : List (Int × ((List (Int × Int)) × (Int × (Int × Int)))))))).2).2) fun r5 r6 r7 =>
      bif inB x3 (List.length x4) then
        next x2 (wrapK .i64 (x3 + 1)) (List.set x4 (Int.toNat x3) (r5, (r6, r7)))
      else
        none
    else
      none
  else
    ke0 x4
def F.laws_toBranchS_l0 {R : Type} (N : Nat) : Nat → (List (Bool × (Bool × (List (Int × ((List (Int × Int)) × (Int × (Int × Int)))))))) → Int → (List (Bool × (Bool × (List (Int × ((List (Int × Int)) × (Int × (Int × Int)))))))) → ((List (Bool × (Bool × (List (Int × ((List (Int × Int)) × (Int × (Int × Int)))))))) → Option R) → Option R
  | 0, _, _, _, _ => none
  | n + 1, x2, x3, x4, ke0 => F.laws_toBranchS_l0_s N x2 x3 x4 (fun x2 x3 x4 => F.laws_toBranchS_l0 N n x2 x3 x4 ke0) ke0
def F.laws_toBranchS {R : Type} (N : Nat) (x1 : List (Bool × (Bool × (List (Int × ((List (Int × Int)) × (Int × (Int × Int)))))))) (k : (List (Bool × (Bool × (List (Int × ((List (Int × Int)) × (Int × (Int × Int)))))))) → Option R) : Option R :=
  bif decide (0 ≤ (List.length x1 : Int)) then
    bif Nat.ble (Int.toNat (List.length x1 : Int)) (bigOf 32) then
      F.laws_toBranchS_l0 N N x1 0 (List.replicate (Int.toNat (List.length x1 : Int)) (false, (false, ([] : List (Int × ((List (Int × Int)) × (Int × (Int × Int))))))))
        (fun y8 =>
          k y8)
    else
      none
  else
    none
/-! ### loop.example/s0007/laws.toRule -/
def F.laws_toRule {R : Type} (N : Nat) (x1 : List (Bool × (Bool × (List (Int × ((List (Int × Int)) × (Int × (Int × Int)))))))) (x2 : Int) (k : Int → (List (Bool × (Bool × (List (Int × ((List (Int × Int)) × (Int × (Int × Int)))))))) → Option R) : Option R :=
  F.laws_toBranchS N x1 fun r3 =>
  k x2 r3
/-! ### loop.example/s0007/spec.l1Between -/
def F.spec_l1Between {R : Type} (x1 : Int) (x2 : Int) (x3 : Int) (k : Bool → Option R) : Option R :=
  bif decide (x2 ≤ x1) then
    k (decide (x1 ≤ x3))
  else
    k false
/-! ### loop.example/s0007/spec.l1Arity -/
def F.spec_l1Arity {R : Type} (x1 : Int) (k : Int → Option R) : Option R :=
  bif x1 == 2 then
    k 2
  else
    bif x1 == 3 then
      k 2
    else
      bif x1 == 4 then
        k 1
      else
        bif x1 == 5 then
          k 1
        else
          k 0
/-! ### loop.example/s0007/spec.l1Kids -/
def F.spec_l1Kids_l0_s {R : Type} (N : Nat) (x2 : List (Int × ((List (Int × Int)) × (Int × (Int × Int))))) (x3 : Int) (x4 : Int) (x5 : List Int) (x6 : List Int) (x7 : List Int) (next : (List (Int × ((List (Int × Int)) × (Int × (Int × Int))))) → Int → Int → (List Int) → (List Int) → (List Int) → Option R) (ke0 : (List Int) → (List Int) → (List Int) → Option R) (kret : Bool → (List Int) → (List Int) → (List Int) → Option R) : Option R :=
  bif decide (x4 < x3) then
    bif inB x4 (List.length x2) then
      F.spec_l1Arity ((List.getD x2 (Int.toNat x4) ((0 : Int), (([] : List (Int × Int)), ((0 : Int), ((0 : Int), (0 : Int)))))).1) fun r8 =>
      bif decide ((List.length x7 : Int) < r8) then
        kret false x5 x6 x7
      else
        F.spec_l1Arity ((List.getD x2 (Int.toNat x4) ((0 : Int), (([] : List (Int × Int)), ((0 : Int), ((0 : Int), (0 : Int)))))).1) fun r9 =>
        bif r9 == 2 then
          bif inB (wrapK .i64 ((List.length x7 : Int) - 1)) (List.length x7) then
            bif decide (0 ≤ (wrapK .i64 ((List.length x7 : Int) - 1))) && decide ((wrapK .i64 ((List.length x7 : Int) - 1)) ≤ (List.length x7 : Int)) then
              F.spec_l1Arity ((List.getD x2 (Int.toNat x4) ((0 : Int), (([] : List (Int × Int)), ((0 : Int), ((0 : Int), (0 : Int)))))).1) fun r10 =>
              bif decide (r10 ≥ 1) then
                bif inB (wrapK .i64 (((Int.toNat (wrapK .i64 ((List.length x7 : Int) - 1))) - 0 : Int) - 1)) ((Int.toNat (wrapK .i64 ((List.length x7 : Int) - 1))) - 0) then
                  bif decide (0 ≤ (wrapK .i64 (((Int.toNat (wrapK .i64 ((List.length x7 : Int) - 1))) - 0 : Int) - 1))) && decide ((wrapK .i64 (((Int.toNat (wrapK .i64 ((List.length x7 : Int) - 1))) - 0 : Int) - 1)) ≤ ((Int.toNat (wrapK .i64 ((List.length x7 : Int) - 1))) - 0 : Int)) then
                    bif Nat.ble (List.length x5 + List.length [List.getD x7 (0 + Int.toNat (wrapK .i64 (((Int.toNat (wrapK .i64 ((List.length x7 : Int) - 1))) - 0 : Int) - 1))) (0 : Int)]) (bigOf 8) then
                      bif Nat.ble (List.length x6 + List.length [List.getD x7 (Int.toNat (wrapK .i64 ((List.length x7 : Int) - 1))) (0 : Int)]) (bigOf 8) then
                        bif Nat.ble (List.length (List.take ((Int.toNat (wrapK .i64 (((Int.toNat (wrapK .i64 ((List.length x7 : Int) - 1))) - 0 : Int) - 1))) - 0) (List.drop (0 + 0) x7)) + List.length [x4]) (bigOf 8) then
                          next x2 x3 (wrapK .i64 (x4 + 1)) (x5 ++ [List.getD x7 (0 + Int.toNat (wrapK .i64 (((Int.toNat (wrapK .i64 ((List.length x7 : Int) - 1))) - 0 : Int) - 1))) (0 : Int)]) (x6 ++ [List.getD x7 (Int.toNat (wrapK .i64 ((List.length x7 : Int) - 1))) (0 : Int)]) ((List.take ((Int.toNat (wrapK .i64 (((Int.toNat (wrapK .i64 ((List.length x7 : Int) - 1))) - 0 : Int) - 1))) - 0) (List.drop (0 + 0) x7)) ++ [x4])
                        else
                          none
                      else
                        none
                    else
                      none
                  else
                    none
                else
                  none
              else
                bif Nat.ble (List.length x5 + List.length [(-1)]) (bigOf 8) then
                  bif Nat.ble (List.length x6 + List.length [List.getD x7 (Int.toNat (wrapK .i64 ((List.length x7 : Int) - 1))) (0 : Int)]) (bigOf 8) then
                    bif Nat.ble (List.length (List.take ((Int.toNat (wrapK .i64 ((List.length x7 : Int) - 1))) - 0) (List.drop 0 x7)) + List.length [x4]) (bigOf 8) then
                      next x2 x3 (wrapK .i64 (x4 + 1)) (x5 ++ [(-1)]) (x6 ++ [List.getD x7 (Int.toNat (wrapK .i64 ((List.length x7 : Int) - 1))) (0 : Int)]) ((List.take ((Int.toNat (wrapK .i64 ((List.length x7 : Int) - 1))) - 0) (List.drop 0 x7)) ++ [x4])
                    else
                      none
                  else
                    none
                else
                  none
            else
              none
          else
            none
        else
          F.spec_l1Arity ((List.getD x2 (Int.toNat x4) ((0 : Int), (([] : List (Int × Int)), ((0 : Int), ((0 : Int), (0 : Int)))))).1) fun r11 =>
          bif decide (r11 ≥ 1) then
            bif inB (wrapK .i64 ((List.length x7 : Int) - 1)) (List.length x7) then
              bif decide (0 ≤ (wrapK .i64 ((List.length x7 : Int) - 1))) && decide ((wrapK .i64 ((List.length x7 : Int) - 1)) ≤ (List.length x7 : Int)) then
                bif Nat.ble (List.length x5 + List.length [List.getD x7 (Int.toNat (wrapK .i64 ((List.length x7 : Int) - 1))) (0 : Int)]) (bigOf 8) then
                  bif Nat.ble (List.length x6 + List.length [(-1)]) (bigOf 8) then
                    bif Nat.ble (List.length (List.take ((Int.toNat (wrapK .i64 ((List.length x7 : Int) - 1))) - 0) (List.drop 0 x7)) + List.length [x4]) (bigOf 8) then
                      next x2 x3 (wrapK .i64 (x4 + 1)) (x5 ++ [List.getD x7 (Int.toNat (wrapK .i64 ((List.length x7 : Int) - 1))) (0 : Int)]) (x6 ++ [(-1)]) ((List.take ((Int.toNat (wrapK .i64 ((List.length x7 : Int) - 1))) - 0) (List.drop 0 x7)) ++ [x4])
                    else
                      none
                  else
                    none
                else
                  none
              else
                none
            else
              none
          else
            bif Nat.ble (List.length x5 + List.length [(-1)]) (bigOf 8) then
              bif Nat.ble (List.length x6 + List.length [(-1)]) (bigOf 8) then
                bif Nat.ble (List.length x7 + List.length [x4]) (bigOf 8) then
                  next x2 x3 (wrapK .i64 (x4 + 1)) (x5 ++ [(-1)]) (x6 ++ [(-1)]) (x7 ++ [x4])
                else
                  none
              else
                none
            else
              none
    else
      none
  else
    ke0 x5 x6 x7
def F.spec_l1Kids_l0 {R : Type} (N : Nat) : Nat → (List (Int × ((List (Int × Int)) × (Int × (Int × Int))))) → Int → Int → (List Int) → (List Int) → (List Int) → ((List Int) → (List Int) → (List Int) → Option R) → (Bool → (List Int) → (List Int) → (List Int) → Option R) → Option R
  | 0, _, _, _, _, _, _, _, _ => none
  | n + 1, x2, x3, x4, x5, x6, x7, ke0, kret => F.spec_l1Kids_l0_s N x2 x3 x4 x5 x6 x7 (fun x2 x3 x4 x5 x6 x7 => F.spec_l1Kids_l0 N n x2 x3 x4 x5 x6 x7 ke0 kret) ke0 kret
def F.spec_l1Kids {R : Type} (N : Nat) (x1 : List (Int × ((List (Int × Int)) × (Int × (Int × Int))))) (k : Bool → (List Int) → (List Int) → Option R) : Option R :=
  F.spec_l1Kids_l0 N N x1 (List.length x1 : Int) 0 ([] : List Int) ([] : List Int) ([] : List Int)
    (fun y12 y13 y14 =>
      k ((List.length y14 : Int) == 1) y12 y13)
    (fun y15 y16 y17 y18 =>
      k y15 y16 y17)
/-! ### loop.example/s0007/spec.l1NodeOK -/
def F.spec_l1NodeOK_l0_s {R : Type} (N : Nat) (x6 : List (Int × Int)) (x7 : Int) (x8 : Int) (x9 : Int) (x10 : List (Int × Int)) (x11 : Int) (x12 : Int) (x13 : Int) (next : (List (Int × Int)) → Int → Int → Int → (List (Int × Int)) → Int → Int → Int → Option R) (ke0 : Unit → Option R) (kret : Bool → Option R) : Option R :=
  bif decide (x8 < x7) then
    bif inB x8 (List.length x6) then
      bif decide (((List.getD x6 (Int.toNat x8) ((0 : Int), (0 : Int))).1) < 0) then
        kret false
      else
        bif decide (((List.getD x6 (Int.toNat x8) ((0 : Int), (0 : Int))).1) > ((List.getD x6 (Int.toNat x8) ((0 : Int), (0 : Int))).2)) then
          kret false
        else
          bif decide (((List.getD x6 (Int.toNat x8) ((0 : Int), (0 : Int))).2) > 255) then
            kret false
          else
            bif decide (x8 > 0) then
              bif inB (wrapK .i64 (x8 - 1)) (List.length x10) then
                bif decide (((List.getD x6 (Int.toNat x8) ((0 : Int), (0 : Int))).1) < (wrapK .i64 (((List.getD x10 (Int.toNat (wrapK .i64 (x8 - 1))) ((0 : Int), (0 : Int))).2) + 2))) then
                  kret false
                else
                  next x6 x7 (wrapK .i64 (x8 + 1)) x9 x10 x11 x12 x13
              else
                none
            else
              next x6 x7 (wrapK .i64 (x8 + 1)) x9 x10 x11 x12 x13
    else
      none
  else
    ke0 ()
def F.spec_l1NodeOK_l0 {R : Type} (N : Nat) : Nat → (List (Int × Int)) → Int → Int → Int → (List (Int × Int)) → Int → Int → Int → (Unit → Option R) → (Bool → Option R) → Option R
  | 0, _, _, _, _, _, _, _, _, _, _ => none
  | n + 1, x6, x7, x8, x9, x10, x11, x12, x13, ke0, kret => F.spec_l1NodeOK_l0_s N x6 x7 x8 x9 x10 x11 x12 x13 (fun x6 x7 x8 x9 x10 x11 x12 x13 => F.spec_l1NodeOK_l0 N n x6 x7 x8 x9 x10 x11 x12 x13 ke0 kret) ke0 kret
def F.spec_l1NodeOK {R : Type} (N : Nat) (x1 : Int) (x2 : List (Int × Int)) (x3 : Int) (x4 : Int) (x5 : Int) (k : Bool → Option R) : Option R :=
  bif decide (x1 < 1) then
    k false
  else
    bif decide (x1 > 5) then
      k false
    else
      bif x1 != 1 then
        bif (List.length x2 : Int) != 0 then
          k false
        else
          bif x1 != 5 then
            bif x5 != 0 then
              k false
            else
              bif x1 != 4 then
                bif x3 != 0 then
                  k false
                else
                  bif x4 != 0 then
                    k false
                  else
                    F.spec_l1NodeOK_l0 N N x2 (List.length x2 : Int) 0 x1 x2 x3 x4 x5
                      (fun _ =>
                        k true)
                      (fun y14 =>
                        k y14)
              else
                F.spec_l1Between x3 0 255 fun r15 =>
                bif !r15 then
                  k false
                else
                  bif x4 != (-1) then
                    F.spec_l1Between x4 x3 255 fun r16 =>
                    bif !r16 then
                      k false
                    else
                      F.spec_l1NodeOK_l0 N N x2 (List.length x2 : Int) 0 x1 x2 x3 x4 x5
                        (fun _ =>
                          k true)
                        (fun y17 =>
                          k y17)
                  else
                    F.spec_l1NodeOK_l0 N N x2 (List.length x2 : Int) 0 x1 x2 x3 x4 x5
                      (fun _ =>
                        k true)
                      (fun y18 =>
                        k y18)
          else
            bif x1 != 4 then
              bif x3 != 0 then
                k false
              else
                bif x4 != 0 then
                  k false
                else
                  F.spec_l1NodeOK_l0 N N x2 (List.length x2 : Int) 0 x1 x2 x3 x4 x5
                    (fun _ =>
                      k true)
                    (fun y19 =>
                      k y19)
            else
              F.spec_l1Between x3 0 255 fun r20 =>
              bif !r20 then
                k false
              else
                bif x4 != (-1) then
                  F.spec_l1Between x4 x3 255 fun r21 =>
                  bif !r21 then
                    k false
                  else
                    F.spec_l1NodeOK_l0 N N x2 (List.length x2 : Int) 0 x1 x2 x3 x4 x5
                      (fun _ =>
                        k true)
                      (fun y22 =>
                        k y22)
                else
                  F.spec_l1NodeOK_l0 N N x2 (List.length x2 : Int) 0 x1 x2 x3 x4 x5
                    (fun _ =>
                      k true)
                    (fun y23 =>
                      k y23)
      else
        bif x1 != 5 then
          bif x5 != 0 then
            k false
          else
            bif x1 != 4 then
              bif x3 != 0 then
                k false
              else
                bif x4 != 0 then
                  k false
                else
                  F.spec_l1NodeOK_l0 N N x2 (List.length x2 : Int) 0 x1 x2 x3 x4 x5
                    (fun _ =>
                      k true)
                    (fun y24 =>
                      k y24)
            else
              F.spec_l1Between x3 0 255 fun r25 =>
              bif !r25 then
                k false
              else
                bif x4 != (-1) then
                  F.spec_l1Between x4 x3 255 fun r26 =>
                  bif !r26 then
                    k false
                  else
                    F.spec_l1NodeOK_l0 N N x2 (List.length x2 : Int) 0 x1 x2 x3 x4 x5
                      (fun _ =>
                        k true)
                      (fun y27 =>
                        k y27)
                else
                  F.spec_l1NodeOK_l0 N N x2 (List.length x2 : Int) 0 x1 x2 x3 x4 x5
                    (fun _ =>
                      k true)
                    (fun y28 =>
                      k y28)
        else
          bif x1 != 4 then
            bif x3 != 0 then
              k false
            else
              bif x4 != 0 then
                k false
              else
                F.spec_l1NodeOK_l0 N N x2 (List.length x2 : Int) 0 x1 x2 x3 x4 x5
                  (fun _ =>
                    k true)
                  (fun y29 =>
                    k y29)
          else
            F.spec_l1Between x3 0 255 fun r30 =>
            bif !r30 then
              k false
            else
              bif x4 != (-1) then
                F.spec_l1Between x4 x3 255 fun r31 =>
                bif !r31 then
                  k false
                else
                  F.spec_l1NodeOK_l0 N N x2 (List.length x2 : Int) 0 x1 x2 x3 x4 x5
                    (fun _ =>
                      k true)
                    (fun y32 =>
                      k y32)
              else
                F.spec_l1NodeOK_l0 N N x2 (List.length x2 : Int) 0 x1 x2 x3 x4 x5
                  (fun _ =>
                    k true)
                  (fun y33 =>
                    k y33)
/-! ### loop.example/s0007/spec.l1Copies -/
def F.spec_l1Copies {R : Type} (x1 : Int) (x2 : List (Int × Int)) (x3 : Int) (x4 : Int) (x5 : Int) (k : Int → Option R) : Option R :=
  bif x4 == (-1) then
    k (wrapK .i64 (x3 + 1))
  else
    bif decide (x4 < 1) then
      k 1
    else
      k x4
/-! ### loop.example/s0007/spec.l1Weight -/
def F.spec_l1Weight_l0_s {R : Type} (N : Nat) (x5 : List (Int × ((List (Int × Int)) × (Int × (Int × Int))))) (x6 : List (Int × ((List (Int × Int)) × (Int × (Int × Int))))) (x7 : Int) (x8 : Int) (x9 : List Int) (x10 : List Int) (x11 : List Int) (next : (List (Int × ((List (Int × Int)) × (Int × (Int × Int))))) → (List (Int × ((List (Int × Int)) × (Int × (Int × Int))))) → Int → Int → (List Int) → (List Int) → (List Int) → Option R) (ke0 : (List (Int × ((List (Int × Int)) × (Int × (Int × Int))))) → (List Int) → Option R) : Option R :=
  bif decide (x8 < x7) then
    bif inB x8 (List.length x6) then
      bif ((List.getD x6 (Int.toNat x8) ((0 : Int), (([] : List (Int × Int)), ((0 : Int), ((0 : Int), (0 : Int)))))).1) == 1 then
        bif inB x8 (List.length x11) then
          bif inB x8 (List.length (List.set x11 (Int.toNat x8) 1)) then
            bif decide ((List.getD (List.set x11 (Int.toNat x8) 1) (Int.toNat x8) (0 : Int)) > 2000) then
              bif inB x8 (List.length (List.set x11 (Int.toNat x8) 1)) then
                next x5 x6 x7 (wrapK .i64 (x8 + 1)) x9 x10 (List.set (List.set x11 (Int.toNat x8) 1) (Int.toNat x8) 2001)
              else
                none
            else
              next x5 x6 x7 (wrapK .i64 (x8 + 1)) x9 x10 (List.set x11 (Int.toNat x8) 1)
          else
            none
        else
          none
      else
        bif ((List.getD x6 (Int.toNat x8) ((0 : Int), (([] : List (Int × Int)), ((0 : Int), ((0 : Int), (0 : Int)))))).1) == 2 then
          bif ((List.getD x6 (Int.toNat x8) ((0 : Int), (([] : List (Int × Int)), ((0 : Int), ((0 : Int), (0 : Int)))))).1) == 2 then
            bif inB x8 (List.length x9) then
              bif inB (List.getD x9 (Int.toNat x8) (0 : Int)) (List.length x11) then
                bif inB x8 (List.length x10) then
                  bif inB (List.getD x10 (Int.toNat x8) (0 : Int)) (List.length x11) then
                    bif inB x8 (List.length x11) then
                      bif inB x8 (List.length (List.set x11 (Int.toNat x8) (wrapK .i64 ((List.getD x11 (Int.toNat (List.getD x9 (Int.toNat x8) (0 : Int))) (0 : Int)) + (List.getD x11 (Int.toNat (List.getD x10 (Int.toNat x8) (0 : Int))) (0 : Int)))))) then
                        bif decide ((List.getD (List.set x11 (Int.toNat x8) (wrapK .i64 ((List.getD x11 (Int.toNat (List.getD x9 (Int.toNat x8) (0 : Int))) (0 : Int)) + (List.getD x11 (Int.toNat (List.getD x10 (Int.toNat x8) (0 : Int))) (0 : Int))))) (Int.toNat x8) (0 : Int)) > 2000) then
                          bif inB x8 (List.length (List.set x11 (Int.toNat x8) (wrapK .i64 ((List.getD x11 (Int.toNat (List.getD x9 (Int.toNat x8) (0 : Int))) (0 : Int)) + (List.getD x11 (Int.toNat (List.getD x10 (Int.toNat x8) (0 : Int))) (0 : Int)))))) then
                            next x5 x6 x7 (wrapK .i64 (x8 + 1)) x9 x10 (List.set (List.set x11 (Int.toNat x8) (wrapK .i64 ((List.getD x11 (Int.toNat (List.getD x9 (Int.toNat x8) (0 : Int))) (0 : Int)) + (List.getD x11 (Int.toNat (List.getD x10 (Int.toNat x8) (0 : Int))) (0 : Int))))) (Int.toNat x8) 2001)
                          else
                            none
                        else
                          next x5 x6 x7 (wrapK .i64 (x8 + 1)) x9 x10 (List.set x11 (Int.toNat x8) (wrapK .i64 ((List.getD x11 (Int.toNat (List.getD x9 (Int.toNat x8) (0 : Int))) (0 : Int)) + (List.getD x11 (Int.toNat (List.getD x10 (Int.toNat x8) (0 : Int))) (0 : Int)))))
                      else
                        none
                    else
                      none
                  else
                    none
                else
                  none
              else
                none
            else
              none
          else
            bif ((List.getD x6 (Int.toNat x8) ((0 : Int), (([] : List (Int × Int)), ((0 : Int), ((0 : Int), (0 : Int)))))).1) == 4 then
              bif inB x8 (List.length x9) then
                bif inB (List.getD x9 (Int.toNat x8) (0 : Int)) (List.length x11) then
                  F.spec_l1Copies ((List.getD x6 (Int.toNat x8) ((0 : Int), (([] : List (Int × Int)), ((0 : Int), ((0 : Int), (0 : Int)))))).1) (((List.getD x6 (Int.toNat x8) ((0 : Int), (([] : List (Int × Int)), ((0 : Int), ((0 : Int), (0 : Int)))))).2).1) ((((List.getD x6 (Int.toNat x8) ((0 : Int), (([] : List (Int × Int)), ((0 : Int), ((0 : Int), (0 : Int)))))).2).2).1) (((((List.getD x6 (Int.toNat x8) ((0 : Int), (([] : List (Int × Int)), ((0 : Int), ((0 : Int), (0 : Int)))))).2).2).2).1) (((((List.getD x6 (Int.toNat x8) ((0 : Int), (([] : List (Int × Int)), ((0 : Int), ((0 : Int), (0 : Int)))))).2).2).2).2) fun r12 =>
                  bif inB x8 (List.length x11) then
                    bif inB x8 (List.length (List.set x11 (Int.toNat x8) (wrapK .i64 ((List.getD x11 (Int.toNat (List.getD x9 (Int.toNat x8) (0 : Int))) (0 : Int)) * r12)))) then
                      bif decide ((List.getD (List.set x11 (Int.toNat x8) (wrapK .i64 ((List.getD x11 (Int.toNat (List.getD x9 (Int.toNat x8) (0 : Int))) (0 : Int)) * r12))) (Int.toNat x8) (0 : Int)) > 2000) then
                        bif inB x8 (List.length (List.set x11 (Int.toNat x8) (wrapK .i64 ((List.getD x11 (Int.toNat (List.getD x9 (Int.toNat x8) (0 : Int))) (0 : Int)) * r12)))) then
                          next x5 x6 x7 (wrapK .i64 (x8 + 1)) x9 x10 (List.set (List.set x11 (Int.toNat x8) (wrapK .i64 ((List.getD x11 (Int.toNat (List.getD x9 (Int.toNat x8) (0 : Int))) (0 : Int)) * r12))) (Int.toNat x8) 2001)
                        else
                          none
                      else
                        next x5 x6 x7 (wrapK .i64 (x8 + 1)) x9 x10 (List.set x11 (Int.toNat x8) (wrapK .i64 ((List.getD x11 (Int.toNat (List.getD x9 (Int.toNat x8) (0 : Int))) (0 : Int)) * r12)))
                    else
                      none
                  else
                    none
                else
                  none
              else
                none
            else
              bif ((List.getD x6 (Int.toNat x8) ((0 : Int), (([] : List (Int × Int)), ((0 : Int), ((0 : Int), (0 : Int)))))).1) == 5 then
                bif inB x8 (List.length x9) then
                  bif inB (List.getD x9 (Int.toNat x8) (0 : Int)) (List.length x11) then
                    bif inB x8 (List.length x11) then
                      bif inB x8 (List.length (List.set x11 (Int.toNat x8) (List.getD x11 (Int.toNat (List.getD x9 (Int.toNat x8) (0 : Int))) (0 : Int)))) then
                        bif decide ((List.getD (List.set x11 (Int.toNat x8) (List.getD x11 (Int.toNat (List.getD x9 (Int.toNat x8) (0 : Int))) (0 : Int))) (Int.toNat x8) (0 : Int)) > 2000) then
                          bif inB x8 (List.length (List.set x11 (Int.toNat x8) (List.getD x11 (Int.toNat (List.getD x9 (Int.toNat x8) (0 : Int))) (0 : Int)))) then
                            next x5 x6 x7 (wrapK .i64 (x8 + 1)) x9 x10 (List.set (List.set x11 (Int.toNat x8) (List.getD x11 (Int.toNat (List.getD x9 (Int.toNat x8) (0 : Int))) (0 : Int))) (Int.toNat x8) 2001)
                          else
                            none
                        else
                          next x5 x6 x7 (wrapK .i64 (x8 + 1)) x9 x10 (List.set x11 (Int.toNat x8) (List.getD x11 (Int.toNat (List.getD x9 (Int.toNat x8) (0 : Int))) (0 : Int)))
                      else
                        none
                    else
                      none
                  else
                    none
                else
                  none
              else
                bif inB x8 (List.length x11) then
                  bif decide ((List.getD x11 (Int.toNat x8) (0 : Int)) > 2000) then
                    bif inB x8 (List.length x11) then
                      next x5 x6 x7 (wrapK .i64 (x8 + 1)) x9 x10 (List.set x11 (Int.toNat x8) 2001)
                    else
                      none
                  else
                    next x5 x6 x7 (wrapK .i64 (x8 + 1)) x9 x10 x11
                else
                  none
        else
          bif ((List.getD x6 (Int.toNat x8) ((0 : Int), (([] : List (Int × Int)), ((0 : Int), ((0 : Int), (0 : Int)))))).1) == 3 then
            bif inB x8 (List.length x9) then
              bif inB (List.getD x9 (Int.toNat x8) (0 : Int)) (List.length x11) then
                bif inB x8 (List.length x10) then
                  bif inB (List.getD x10 (Int.toNat x8) (0 : Int)) (List.length x11) then
                    bif inB x8 (List.length x11) then
                      bif inB x8 (List.length (List.set x11 (Int.toNat x8) (wrapK .i64 ((List.getD x11 (Int.toNat (List.getD x9 (Int.toNat x8) (0 : Int))) (0 : Int)) + (List.getD x11 (Int.toNat (List.getD x10 (Int.toNat x8) (0 : Int))) (0 : Int)))))) then
                        bif decide ((List.getD (List.set x11 (Int.toNat x8) (wrapK .i64 ((List.getD x11 (Int.toNat (List.getD x9 (Int.toNat x8) (0 : Int))) (0 : Int)) + (List.getD x11 (Int.toNat (List.getD x10 (Int.toNat x8) (0 : Int))) (0 : Int))))) (Int.toNat x8) (0 : Int)) > 2000) then
                          bif inB x8 (List.length (List.set x11 (Int.toNat x8) (wrapK .i64 ((List.getD x11 (Int.toNat (List.getD x9 (Int.toNat x8) (0 : Int))) (0 : Int)) + (List.getD x11 (Int.toNat (List.getD x10 (Int.toNat x8) (0 : Int))) (0 : Int)))))) then
                            next x5 x6 x7 (wrapK .i64 (x8 + 1)) x9 x10 (List.set (List.set x11 (Int.toNat x8) (wrapK .i64 ((List.getD x11 (Int.toNat (List.getD x9 (Int.toNat x8) (0 : Int))) (0 : Int)) + (List.getD x11 (Int.toNat (List.getD x10 (Int.toNat x8) (0 : Int))) (0 : Int))))) (Int.toNat x8) 2001)
                          else
                            none
                        else
                          next x5 x6 x7 (wrapK .i64 (x8 + 1)) x9 x10 (List.set x11 (Int.toNat x8) (wrapK .i64 ((List.getD x11 (Int.toNat (List.getD x9 (Int.toNat x8) (0 : Int))) (0 : Int)) + (List.getD x11 (Int.toNat (List.getD x10 (Int.toNat x8) (0 : Int))) (0 : Int)))))
                      else
                        none
                    else
                      none
                  else
                    none
                else
                  none
              else
                none
            else
              none
          else
            bif ((List.getD x6 (Int.toNat x8) ((0 : Int), (([] : List (Int × Int)), ((0 : Int), ((0 : Int), (0 : Int)))))).1) == 4 then
              bif inB x8 (List.length x9) then
                bif inB (List.getD x9 (Int.toNat x8) (0 : Int)) (List.length x11) then
                  F.spec_l1Copies ((List.getD x6 (Int.toNat x8) ((0 : Int), (([] : List (Int × Int)), ((0 : Int), ((0 : Int), (0 : Int)))))).1) (((List.getD x6 (Int.toNat x8) ((0 : Int), (([] : List (Int × Int)), ((0 : Int), ((0 : Int), (0 : Int)))))).2).1) ((((List.getD x6 (Int.toNat x8) ((0 : Int), (([] : List (Int × Int)), ((0 : Int), ((0 : Int), (0 : Int)))))).2).2).1) (((((List.getD x6 (Int.toNat x8) ((0 : Int), (([] : List (Int × Int)), ((0 : Int), ((0 : Int), (0 : Int)))))).2).2).2).1) (((((List.getD x6 (Int.toNat x8) ((0 : Int), (([] : List (Int × Int)), ((0 : Int), ((0 : Int), (0 : Int)))))).2).2).2).2) fun r13 =>
                  bif inB x8 (List.length x11) then
                    bif inB x8 (List.length (List.set x11 (Int.toNat x8) (wrapK .i64 ((List.getD x11 (Int.toNat (List.getD x9 (Int.toNat x8) (0 : Int))) (0 : Int)) * r13)))) then
                      bif decide ((List.getD (List.set x11 (Int.toNat x8) (wrapK .i64 ((List.getD x11 (Int.toNat (List.getD x9 (Int.toNat x8) (0 : Int))) (0 : Int)) * r13))) (Int.toNat x8) (0 : Int)) > 2000) then
                        bif inB x8 (List.length (List.set x11 (Int.toNat x8) (wrapK .i64 ((List.getD x11 (Int.toNat (List.getD x9 (Int.toNat x8) (0 : Int))) (0 : Int)) * r13)))) then
                          next x5 x6 x7 (wrapK .i64 (x8 + 1)) x9 x10 (List.set (List.set x11 (Int.toNat x8) (wrapK .i64 ((List.getD x11 (Int.toNat (List.getD x9 (Int.toNat x8) (0 : Int))) (0 : Int)) * r13))) (Int.toNat x8) 2001)
                        else
                          none
                      else
                        next x5 x6 x7 (wrapK .i64 (x8 + 1)) x9 x10 (List.set x11 (Int.toNat x8) (wrapK .i64 ((List.getD x11 (Int.toNat (List.getD x9 (Int.toNat x8) (0 : Int))) (0 : Int)) * r13)))
                    else
                      none
                  else
                    none
                else
                  none
              else
                none
            else
              bif ((List.getD x6 (Int.toNat x8) ((0 : Int), (([] : List (Int × Int)), ((0 : Int), ((0 : Int), (0 : Int)))))).1) == 5 then
                bif inB x8 (List.length x9) then
                  bif inB (List.getD x9 (Int.toNat x8) (0 : Int)) (List.length x11) then
                    bif inB x8 (List.length x11) then
                      bif inB x8 (List.length (List.set x11 (Int.toNat x8) (List.getD x11 (Int.toNat (List.getD x9 (Int.toNat x8) (0 : Int))) (0 : Int)))) then
                        bif decide ((List.getD (List.set x11 (Int.toNat x8) (List.getD x11 (Int.toNat (List.getD x9 (Int.toNat x8) (0 : Int))) (0 : Int))) (Int.toNat x8) (0 : Int)) > 2000) then
                          bif inB x8 (List.length (List.set x11 (Int.toNat x8) (List.getD x11 (Int.toNat (List.getD x9 (Int.toNat x8) (0 : Int))) (0 : Int)))) then
                            next x5 x6 x7 (wrapK .i64 (x8 + 1)) x9 x10 (List.set (List.set x11 (Int.toNat x8) (List.getD x11 (Int.toNat (List.getD x9 (Int.toNat x8) (0 : Int))) (0 : Int))) (Int.toNat x8) 2001)
                          else
                            none
                        else
                          next x5 x6 x7 (wrapK .i64 (x8 + 1)) x9 x10 (List.set x11 (Int.toNat x8) (List.getD x11 (Int.toNat (List.getD x9 (Int.toNat x8) (0 : Int))) (0 : Int)))
                      else
                        none
                    else
                      none
                  else
                    none
                else
                  none
              else
                bif inB x8 (List.length x11) then
                  bif decide ((List.getD x11 (Int.toNat x8) (0 : Int)) > 2000) then
                    bif inB x8 (List.length x11) then
                      next x5 x6 x7 (wrapK .i64 (x8 + 1)) x9 x10 (List.set x11 (Int.toNat x8) 2001)
                    else
                      none
                  else
                    next x5 x6 x7 (wrapK .i64 (x8 + 1)) x9 x10 x11
                else
                  none
    else
      none
  else
    ke0 x5 x11
def F.spec_l1Weight_l0 {R : Type} (N : Nat) : Nat → (List (Int × ((List (Int × Int)) × (Int × (Int × Int))))) → (List (Int × ((List (Int × Int)) × (Int × (Int × Int))))) → Int → Int → (List Int) → (List Int) → (List Int) → ((List (Int × ((List (Int × Int)) × (Int × (Int × Int))))) → (List Int) → Option R) → Option R
  | 0, _, _, _, _, _, _, _, _ => none
  | n + 1, x5, x6, x7, x8, x9, x10, x11, ke0 => F.spec_l1Weight_l0_s N x5 x6 x7 x8 x9 x10 x11 (fun x5 x6 x7 x8 x9 x10 x11 => F.spec_l1Weight_l0 N n x5 x6 x7 x8 x9 x10 x11 ke0) ke0
def F.spec_l1Weight {R : Type} (N : Nat) (x1 : List (Int × ((List (Int × Int)) × (Int × (Int × Int))))) (k : Int → Option R) : Option R :=
  F.spec_l1Kids N x1 fun r2 r3 r4 =>
  bif !r2 then
    k 0
  else
    bif decide (0 ≤ (List.length x1 : Int)) then
      bif Nat.ble (Int.toNat (List.length x1 : Int)) (bigOf 8) then
        F.spec_l1Weight_l0 N N x1 x1 (List.length x1 : Int) 0 r3 r4 (List.replicate (Int.toNat (List.length x1 : Int)) (0 : Int))
          (fun y14 y15 =>
            bif inB (wrapK .i64 ((List.length y14 : Int) - 1)) (List.length y15) then
              k (List.getD y15 (Int.toNat (wrapK .i64 ((List.length y14 : Int) - 1))) (0 : Int))
            else
              none)
      else
        none
    else
      none
/-! ### loop.example/s0007/spec.l1RuleWeight -/
def F.spec_l1RuleWeight_l0_s {R : Type} (N : Nat) (x3 : Int) (x4 : List (Bool × (Bool × (List (Int × ((List (Int × Int)) × (Int × (Int × Int)))))))) (x5 : Int) (x6 : Int) (next : Int → (List (Bool × (Bool × (List (Int × ((List (Int × Int)) × (Int × (Int × Int)))))))) → Int → Int → Option R) (ke0 : Int → Option R) : Option R :=
  bif decide (x6 < x5) then
    bif inB x6 (List.length x4) then
      F.spec_l1Weight N (((List.getD x4 (Int.toNat x6) (false, (false, ([] : List (Int × ((List (Int × Int)) × (Int × (Int × Int)))))))).2).2) fun r7 =>
      next (wrapK .i64 (x3 + r7)) x4 x5 (wrapK .i64 (x6 + 1))
    else
      none
  else
    ke0 x3
def F.spec_l1RuleWeight_l0 {R : Type} (N : Nat) : Nat → Int → (List (Bool × (Bool × (List (Int × ((List (Int × Int)) × (Int × (Int × Int)))))))) → Int → Int → (Int → Option R) → Option R
  | 0, _, _, _, _, _ => none
  | n + 1, x3, x4, x5, x6, ke0 => F.spec_l1RuleWeight_l0_s N x3 x4 x5 x6 (fun x3 x4 x5 x6 => F.spec_l1RuleWeight_l0 N n x3 x4 x5 x6 ke0) ke0
def F.spec_l1RuleWeight {R : Type} (N : Nat) (x1 : List (Bool × (Bool × (List (Int × ((List (Int × Int)) × (Int × (Int × Int)))))))) (x2 : Int) (k : Int → Option R) : Option R :=
  F.spec_l1RuleWeight_l0 N N 0 x1 (List.length x1 : Int) 0
    (fun y8 =>
      k y8)
/-! ### loop.example/s0007/spec.RuleOK -/
def F.spec_RuleOK_l0_s {R : Type} (N : Nat) (x5 : Int) (x6 : List (Bool × (Bool × (List (Int × ((List (Int × Int)) × (Int × (Int × Int)))))))) (x7 : Int) (x8 : Int) (x9 : List (Bool × (Bool × (List (Int × ((List (Int × Int)) × (Int × (Int × Int)))))))) (x10 : Int) (x11 : List Int) (next : Int → (List (Bool × (Bool × (List (Int × ((List (Int × Int)) × (Int × (Int × Int)))))))) → Int → Int → (List (Bool × (Bool × (List (Int × ((List (Int × Int)) × (Int × (Int × Int)))))))) → Int → (List Int) → Option R) (ke0 : Int → (List (Bool × (Bool × (List (Int × ((List (Int × Int)) × (Int × (Int × Int)))))))) → Int → (List Int) → Option R) : Option R :=
  bif decide (x8 < x7) then
    bif inB x8 (List.length x6) then
      next (wrapK .i64 (x5 + (List.length (((List.getD x6 (Int.toNat x8) (false, (false, ([] : List (Int × ((List (Int × Int)) × (Int × (Int × Int)))))))).2).2) : Int))) x6 x7 (wrapK .i64 (x8 + 1)) x9 x10 x11
    else
      none
  else
    ke0 x5 x9 x10 x11
def F.spec_RuleOK_l0 {R : Type} (N : Nat) : Nat → Int → (List (Bool × (Bool × (List (Int × ((List (Int × Int)) × (Int × (Int × Int)))))))) → Int → Int → (List (Bool × (Bool × (List (Int × ((List (Int × Int)) × (Int × (Int × Int)))))))) → Int → (List Int) → (Int → (List (Bool × (Bool × (List (Int × ((List (Int × Int)) × (Int × (Int × Int)))))))) → Int → (List Int) → Option R) → Option R
  | 0, _, _, _, _, _, _, _, _ => none
  | n + 1, x5, x6, x7, x8, x9, x10, x11, ke0 => F.spec_RuleOK_l0_s N x5 x6 x7 x8 x9 x10 x11 (fun x5 x6 x7 x8 x9 x10 x11 => F.spec_RuleOK_l0 N n x5 x6 x7 x8 x9 x10 x11 ke0) ke0
def F.spec_RuleOK_l4_s {R : Type} (N : Nat) (x25 : List (Bool × (Bool × (List (Int × ((List (Int × Int)) × (Int × (Int × Int)))))))) (x26 : Int) (x27 : Int) (x28 : List (Int × ((List (Int × Int)) × (Int × (Int × Int))))) (x29 : Int) (x30 : Int) (x31 : List (Bool × (Bool × (List (Int × ((List (Int × Int)) × (Int × (Int × Int)))))))) (x32 : Int) (x33 : List Int) (next : (List (Bool × (Bool × (List (Int × ((List (Int × Int)) × (Int × (Int × Int)))))))) → Int → Int → (List (Int × ((List (Int × Int)) × (Int × (Int × Int))))) → Int → Int → (List (Bool × (Bool × (List (Int × ((List (Int × Int)) × (Int × (Int × Int)))))))) → Int → (List Int) → Option R) (ke4 : (List (Bool × (Bool × (List (Int × ((List (Int × Int)) × (Int × (Int × Int)))))))) → Int → Int → (List (Bool × (Bool × (List (Int × ((List (Int × Int)) × (Int × (Int × Int)))))))) → Int → (List Int) → Option R) (kret : Bool → (List (Bool × (Bool × (List (Int × ((List (Int × Int)) × (Int × (Int × Int)))))))) → Int → Int → (List (Bool × (Bool × (List (Int × ((List (Int × Int)) × (Int × (Int × Int)))))))) → Int → (List Int) → Option R) : Option R :=
  bif decide (x30 < x29) then
    bif inB x30 (List.length x28) then
      F.spec_l1NodeOK N ((List.getD x28 (Int.toNat x30) ((0 : Int), (([] : List (Int × Int)), ((0 : Int), ((0 : Int), (0 : Int)))))).1) (((List.getD x28 (Int.toNat x30) ((0 : Int), (([] : List (Int × Int)), ((0 : Int), ((0 : Int), (0 : Int)))))).2).1) ((((List.getD x28 (Int.toNat x30) ((0 : Int), (([] : List (Int × Int)), ((0 : Int), ((0 : Int), (0 : Int)))))).2).2).1) (((((List.getD x28 (Int.toNat x30) ((0 : Int), (([] : List (Int × Int)), ((0 : Int), ((0 : Int), (0 : Int)))))).2).2).2).1) (((((List.getD x28 (Int.toNat x30) ((0 : Int), (([] : List (Int × Int)), ((0 : Int), ((0 : Int), (0 : Int)))))).2).2).2).2) fun r34 =>
      bif !r34 then
        kret false x25 x26 x27 x31 x32 x33
      else
        bif ((List.getD x28 (Int.toNat x30) ((0 : Int), (([] : List (Int × Int)), ((0 : Int), ((0 : Int), (0 : Int)))))).1) == 5 then
          bif Nat.ble (List.length x33 + List.length [((((List.getD x28 (Int.toNat x30) ((0 : Int), (([] : List (Int × Int)), ((0 : Int), ((0 : Int), (0 : Int)))))).2).2).2).2]) (bigOf 8) then
            next x25 x26 x27 x28 x29 (wrapK .i64 (x30 + 1)) x31 x32 (x33 ++ [((((List.getD x28 (Int.toNat x30) ((0 : Int), (([] : List (Int × Int)), ((0 : Int), ((0 : Int), (0 : Int)))))).2).2).2).2])
          else
            none
        else
          next x25 x26 x27 x28 x29 (wrapK .i64 (x30 + 1)) x31 x32 x33
    else
      none
  else
    ke4 x25 x26 x27 x31 x32 x33
def F.spec_RuleOK_l4 {R : Type} (N : Nat) : Nat → (List (Bool × (Bool × (List (Int × ((List (Int × Int)) × (Int × (Int × Int)))))))) → Int → Int → (List (Int × ((List (Int × Int)) × (Int × (Int × Int))))) → Int → Int → (List (Bool × (Bool × (List (Int × ((List (Int × Int)) × (Int × (Int × Int)))))))) → Int → (List Int) → ((List (Bool × (Bool × (List (Int × ((List (Int × Int)) × (Int × (Int × Int)))))))) → Int → Int → (List (Bool × (Bool × (List (Int × ((List (Int × Int)) × (Int × (Int × Int)))))))) → Int → (List Int) → Option R) → (Bool → (List (Bool × (Bool × (List (Int × ((List (Int × Int)) × (Int × (Int × Int)))))))) → Int → Int → (List (Bool × (Bool × (List (Int × ((List (Int × Int)) × (Int × (Int × Int)))))))) → Int → (List Int) → Option R) → Option R
  | 0, _, _, _, _, _, _, _, _, _, _, _ => none
  | n + 1, x25, x26, x27, x28, x29, x30, x31, x32, x33, ke4, kret => F.spec_RuleOK_l4_s N x25 x26 x27 x28 x29 x30 x31 x32 x33 (fun x25 x26 x27 x28 x29 x30 x31 x32 x33 => F.spec_RuleOK_l4 N n x25 x26 x27 x28 x29 x30 x31 x32 x33 ke4 kret) ke4 kret
def F.spec_RuleOK_l2_s {R : Type} (N : Nat) (x16 : List (Bool × (Bool × (List (Int × ((List (Int × Int)) × (Int × (Int × Int)))))))) (x17 : Int) (x18 : Int) (x19 : List (Bool × (Bool × (List (Int × ((List (Int × Int)) × (Int × (Int × Int)))))))) (x20 : Int) (x21 : List Int) (next : (List (Bool × (Bool × (List (Int × ((List (Int × Int)) × (Int × (Int × Int)))))))) → Int → Int → (List (Bool × (Bool × (List (Int × ((List (Int × Int)) × (Int × (Int × Int)))))))) → Int → (List Int) → Option R) (ke2 : (List (Bool × (Bool × (List (Int × ((List (Int × Int)) × (Int × (Int × Int)))))))) → Int → (List Int) → Option R) (kret : Bool → (List (Bool × (Bool × (List (Int × ((List (Int × Int)) × (Int × (Int × Int)))))))) → Int → (List Int) → Option R) : Option R :=
  bif decide (x18 < x17) then
    bif inB x18 (List.length x16) then
      F.spec_l1Kids N (((List.getD x16 (Int.toNat x18) (false, (false, ([] : List (Int × ((List (Int × Int)) × (Int × (Int × Int)))))))).2).2) fun r22 r23 r24 =>
      bif !r22 then
        kret false x19 x20 x21
      else
        F.spec_RuleOK_l4 N N x16 x17 x18 (((List.getD x16 (Int.toNat x18) (false, (false, ([] : List (Int × ((List (Int × Int)) × (Int × (Int × Int)))))))).2).2) (List.length (((List.getD x16 (Int.toNat x18) (false, (false, ([] : List (Int × ((List (Int × Int)) × (Int × (Int × Int)))))))).2).2) : Int) 0 x19 x20 x21
          (fun y35 y36 y37 y38 y39 y40 =>
            next y35 y36 (wrapK .i64 (y37 + 1)) y38 y39 y40)
          (fun y41 y42 y43 y44 y45 y46 y47 =>
            kret y41 y45 y46 y47)
    else
      none
  else
    ke2 x19 x20 x21
def F.spec_RuleOK_l2 {R : Type} (N : Nat) : Nat → (List (Bool × (Bool × (List (Int × ((List (Int × Int)) × (Int × (Int × Int)))))))) → Int → Int → (List (Bool × (Bool × (List (Int × ((List (Int × Int)) × (Int × (Int × Int)))))))) → Int → (List Int) → ((List (Bool × (Bool × (List (Int × ((List (Int × Int)) × (Int × (Int × Int)))))))) → Int → (List Int) → Option R) → (Bool → (List (Bool × (Bool × (List (Int × ((List (Int × Int)) × (Int × (Int × Int)))))))) → Int → (List Int) → Option R) → Option R
  | 0, _, _, _, _, _, _, _, _ => none
  | n + 1, x16, x17, x18, x19, x20, x21, ke2, kret => F.spec_RuleOK_l2_s N x16 x17 x18 x19 x20 x21 (fun x16 x17 x18 x19 x20 x21 => F.spec_RuleOK_l2 N n x16 x17 x18 x19 x20 x21 ke2 kret) ke2 kret
def F.spec_RuleOK_l8_s {R : Type} (N : Nat) (x55 : Int) (x56 : Int) (x57 : Int) (x58 : Int) (x59 : List (Bool × (Bool × (List (Int × ((List (Int × Int)) × (Int × (Int × Int)))))))) (x60 : Int) (x61 : List Int) (next : Int → Int → Int → Int → (List (Bool × (Bool × (List (Int × ((List (Int × Int)) × (Int × (Int × Int)))))))) → Int → (List Int) → Option R) (ke8 : Int → Int → (List (Bool × (Bool × (List (Int × ((List (Int × Int)) × (Int × (Int × Int)))))))) → Int → (List Int) → Option R) : Option R :=
  bif decide (x58 < x57) then
    bif inB x58 (List.length x61) then
      bif (List.getD x61 (Int.toNat x58) (0 : Int)) == x55 then
        next x55 (wrapK .i64 (x56 + 1)) x57 (wrapK .i64 (x58 + 1)) x59 x60 x61
      else
        next x55 x56 x57 (wrapK .i64 (x58 + 1)) x59 x60 x61
    else
      none
  else
    ke8 x55 x56 x59 x60 x61
def F.spec_RuleOK_l8 {R : Type} (N : Nat) : Nat → Int → Int → Int → Int → (List (Bool × (Bool × (List (Int × ((List (Int × Int)) × (Int × (Int × Int)))))))) → Int → (List Int) → (Int → Int → (List (Bool × (Bool × (List (Int × ((List (Int × Int)) × (Int × (Int × Int)))))))) → Int → (List Int) → Option R) → Option R
  | 0, _, _, _, _, _, _, _, _ => none
  | n + 1, x55, x56, x57, x58, x59, x60, x61, ke8 => F.spec_RuleOK_l8_s N x55 x56 x57 x58 x59 x60 x61 (fun x55 x56 x57 x58 x59 x60 x61 => F.spec_RuleOK_l8 N n x55 x56 x57 x58 x59 x60 x61 ke8) ke8
def F.spec_RuleOK_l6_s {R : Type} (N : Nat) (x51 : Int) (x52 : List (Bool × (Bool × (List (Int × ((List (Int × Int)) × (Int × (Int × Int)))))))) (x53 : Int) (x54 : List Int) (next : Int → (List (Bool × (Bool × (List (Int × ((List (Int × Int)) × (Int × (Int × Int)))))))) → Int → (List Int) → Option R) (ke6 : (List (Bool × (Bool × (List (Int × ((List (Int × Int)) × (Int × (Int × Int)))))))) → Int → Option R) (kret : Bool → (List (Bool × (Bool × (List (Int × ((List (Int × Int)) × (Int × (Int × Int)))))))) → Int → Option R) : Option R :=
  bif decide (x51 ≤ x53) then
    F.spec_RuleOK_l8 N N x51 0 (List.length x54 : Int) 0 x52 x53 x54
      (fun y62 y63 y64 y65 y66 =>
        bif y63 != 1 then
          kret false y64 y65
        else
          next (wrapK .i64 (y62 + 1)) y64 y65 y66)
  else
    ke6 x52 x53
def F.spec_RuleOK_l6 {R : Type} (N : Nat) : Nat → Int → (List (Bool × (Bool × (List (Int × ((List (Int × Int)) × (Int × (Int × Int)))))))) → Int → (List Int) → ((List (Bool × (Bool × (List (Int × ((List (Int × Int)) × (Int × (Int × Int)))))))) → Int → Option R) → (Bool → (List (Bool × (Bool × (List (Int × ((List (Int × Int)) × (Int × (Int × Int)))))))) → Int → Option R) → Option R
  | 0, _, _, _, _, _, _ => none
  | n + 1, x51, x52, x53, x54, ke6, kret => F.spec_RuleOK_l6_s N x51 x52 x53 x54 (fun x51 x52 x53 x54 => F.spec_RuleOK_l6 N n x51 x52 x53 x54 ke6 kret) ke6 kret
def F.spec_RuleOK {R : Type} (N : Nat) (x1 : List (Bool × (Bool × (List (Int × ((List (Int × Int)) × (Int × (Int × Int)))))))) (x2 : Int) (k : Bool → Option R) : Option R :=
  F.spec_l1Between (List.length x1 : Int) 1 2000 fun r3 =>
  bif !r3 then
    k false
  else
    F.spec_l1Between x2 0 500 fun r4 =>
    bif !r4 then
      k false
    else
      F.spec_RuleOK_l0 N N 0 x1 (List.length x1 : Int) 0 x1 x2 ([] : List Int)
        (fun y12 y13 y14 y15 =>
          bif decide (y12 > 5000) then
            k false
          else
            F.spec_RuleOK_l2 N N y13 (List.length y13 : Int) 0 y13 y14 y15
              (fun y48 y49 y50 =>
                bif (List.length y50 : Int) != y49 then
                  k false
                else
                  F.spec_RuleOK_l6 N N 1 y48 y49 y50
                    (fun y67 y68 =>
                      F.spec_l1RuleWeight N y67 y68 fun r69 =>
                      k (decide (r69 ≤ 2000)))
                    (fun y70 y71 y72 =>
                      k y70))
              (fun y73 y74 y75 y76 =>
                k y73))
/-! ### loop.example/s0007/spec.l1SpanOK -/
def F.spec_l1SpanOK {R : Type} (N : Nat) (x1 : List (Bool × (Bool × (List (Int × ((List (Int × Int)) × (Int × (Int × Int)))))))) (x2 : Int) (x3 : List UInt8) (x4 : Int) (x5 : Int) (k : Bool → Option R) : Option R :=
  F.spec_RuleOK N x1 x2 fun r6 =>
  bif r6 then
    bif decide ((List.length x3 : Int) ≤ 4096) then
      bif decide (0 ≤ x4) then
        bif decide (x4 ≤ x5) then
          k (decide (x5 ≤ (List.length x3 : Int)))
        else
          k false
      else
        k false
    else
      k false
  else
    k false
/-! ### loop.example/s0007/spec.l1Placed -/
def F.spec_l1Placed {R : Type} (x1 : Bool) (x2 : Bool) (x3 : List (Int × ((List (Int × Int)) × (Int × (Int × Int))))) (x4 : List UInt8) (x5 : Int) (x6 : Int) (x7 : Bool) (k : Bool → Option R) : Option R :=
  bif x1 then
    bif x5 != 0 then
      k false
    else
      bif !x2 then
        k true
      else
        bif x7 then
          k (x6 == (List.length x4 : Int))
        else
          k false
  else
    bif !x2 then
      k true
    else
      bif x7 then
        k (x6 == (List.length x4 : Int))
      else
        k false
/-! ### loop.example/s0007/spec.l1Ready -/
def F.spec_l1Ready {R : Type} (N : Nat) (x1 : Bool) (x2 : Bool) (x3 : List (Int × ((List (Int × Int)) × (Int × (Int × Int))))) (x4 : List UInt8) (k : (List (Int × ((List (Int × Int)) × (Int × (Int × Int))))) → (List UInt8) → (List Int) → (List Int) → Option R) : Option R :=
  F.spec_l1Kids N x3 fun r5 r6 r7 =>
  k x3 x4 r6 r7
/-! ### loop.example/s0007/spec.l1Only -/
def F.spec_l1Only {R : Type} (x1 : Int) (x2 : Int) (k : (List Bool) → Option R) : Option R :=
  bif decide (0 ≤ (wrapK .i64 (x1 + 1))) then
    bif Nat.ble (Int.toNat (wrapK .i64 (x1 + 1))) (bigOf 1) then
      bif inB x2 (List.length (List.replicate (Int.toNat (wrapK .i64 (x1 + 1))) false)) then
        k (List.set (List.replicate (Int.toNat (wrapK .i64 (x1 + 1))) false) (Int.toNat x2) true)
      else
        none
    else
      none
  else
    none
/-! ### loop.example/s0007/spec.l1Has -/
def F.spec_l1Has_l0_s {R : Type} (N : Nat) (x3 : Int) (x4 : List (Int × Int)) (x5 : Int) (x6 : Int) (next : Int → (List (Int × Int)) → Int → Int → Option R) (ke0 : Unit → Option R) (kret : Bool → Option R) : Option R :=
  bif decide (x6 < x5) then
    bif inB x6 (List.length x4) then
      F.spec_l1Between (wrapK .i64 x3) ((List.getD x4 (Int.toNat x6) ((0 : Int), (0 : Int))).1) ((List.getD x4 (Int.toNat x6) ((0 : Int), (0 : Int))).2) fun r7 =>
      bif r7 then
        kret true
      else
        next x3 x4 x5 (wrapK .i64 (x6 + 1))
    else
      none
  else
    ke0 ()
def F.spec_l1Has_l0 {R : Type} (N : Nat) : Nat → Int → (List (Int × Int)) → Int → Int → (Unit → Option R) → (Bool → Option R) → Option R
  | 0, _, _, _, _, _, _ => none
  | n + 1, x3, x4, x5, x6, ke0, kret => F.spec_l1Has_l0_s N x3 x4 x5 x6 (fun x3 x4 x5 x6 => F.spec_l1Has_l0 N n x3 x4 x5 x6 ke0 kret) ke0 kret
def F.spec_l1Has {R : Type} (N : Nat) (x1 : List (Int × Int)) (x2 : Int) (k : Bool → Option R) : Option R :=
  F.spec_l1Has_l0 N N x2 x1 (List.length x1 : Int) 0
    (fun _ =>
      k false)
    (fun y8 =>
      k y8)
/-! ### loop.example/s0007/spec.l1Or -/
def F.spec_l1Or_l0_s {R : Type} (N : Nat) (x3 : List Bool) (x4 : List Bool) (x5 : Int) (x6 : Int) (x7 : List Bool) (next : (List Bool) → (List Bool) → Int → Int → (List Bool) → Option R) (ke0 : (List Bool) → Option R) : Option R :=
  bif decide (x6 < x5) then
    bif inB x6 (List.length x3) then
      bif List.getD x3 (Int.toNat x6) false then
        bif inB x6 (List.length x7) then
          next x3 x4 x5 (wrapK .i64 (x6 + 1)) (List.set x7 (Int.toNat x6) true)
        else
          none
      else
        bif inB x6 (List.length x4) then
          bif inB x6 (List.length x7) then
            next x3 x4 x5 (wrapK .i64 (x6 + 1)) (List.set x7 (Int.toNat x6) (List.getD x4 (Int.toNat x6) false))
          else
            none
        else
          none
    else
      none
  else
    ke0 x7
def F.spec_l1Or_l0 {R : Type} (N : Nat) : Nat → (List Bool) → (List Bool) → Int → Int → (List Bool) → ((List Bool) → Option R) → Option R
  | 0, _, _, _, _, _, _ => none
  | n + 1, x3, x4, x5, x6, x7, ke0 => F.spec_l1Or_l0_s N x3 x4 x5 x6 x7 (fun x3 x4 x5 x6 x7 => F.spec_l1Or_l0 N n x3 x4 x5 x6 x7 ke0) ke0
def F.spec_l1Or {R : Type} (N : Nat) (x1 : List Bool) (x2 : List Bool) (k : (List Bool) → Option R) : Option R :=
  bif decide (0 ≤ (List.length x1 : Int)) then
    bif Nat.ble (Int.toNat (List.length x1 : Int)) (bigOf 1) then
      F.spec_l1Or_l0 N N x1 x2 (List.length x1 : Int) 0 (List.replicate (Int.toNat (List.length x1 : Int)) false)
        (fun y8 =>
          k y8)
    else
      none
  else
    none
/-! ### loop.example/s0007/spec.l1Adds -/
def F.spec_l1Adds_l0_s {R : Type} (N : Nat) (x3 : List Bool) (x4 : List Bool) (x5 : Int) (x6 : Int) (next : (List Bool) → (List Bool) → Int → Int → Option R) (ke0 : Unit → Option R) (kret : Bool → Option R) : Option R :=
  bif decide (x6 < x5) then
    bif inB x6 (List.length x4) then
      bif List.getD x4 (Int.toNat x6) false then
        bif inB x6 (List.length x3) then
          bif !(List.getD x3 (Int.toNat x6) false) then
            kret true
          else
            next x3 x4 x5 (wrapK .i64 (x6 + 1))
        else
          none
      else
        next x3 x4 x5 (wrapK .i64 (x6 + 1))
    else
      none
  else
    ke0 ()
def F.spec_l1Adds_l0 {R : Type} (N : Nat) : Nat → (List Bool) → (List Bool) → Int → Int → (Unit → Option R) → (Bool → Option R) → Option R
  | 0, _, _, _, _, _, _ => none
  | n + 1, x3, x4, x5, x6, ke0, kret => F.spec_l1Adds_l0_s N x3 x4 x5 x6 (fun x3 x4 x5 x6 => F.spec_l1Adds_l0 N n x3 x4 x5 x6 ke0 kret) ke0 kret
def F.spec_l1Adds {R : Type} (N : Nat) (x1 : List Bool) (x2 : List Bool) (k : Bool → Option R) : Option R :=
  F.spec_l1Adds_l0 N N x1 x2 (List.length x1 : Int) 0
    (fun _ =>
      k false)
    (fun y7 =>
      k y7)
/-! ### loop.example/s0007/spec.l1Copied -/
def F.spec_l1Copied_l0_s {R : Type} (N : Nat) (rw_spec_l1Ends_v1 : (List (Int × ((List (Int × Int)) × (Int × (Int × Int))))) → (List Int) → (List Int) → (List UInt8) → Int → (List Bool) → ((List Bool) → Option R) → Option R) (x9 : Int) (x10 : Int) (x11 : Int) (x12 : List Bool) (x13 : Int) (x14 : List (Int × ((List (Int × Int)) × (Int × (Int × Int))))) (x15 : List Int) (x16 : List Int) (x17 : List UInt8) (next : Int → Int → Int → (List Bool) → Int → (List (Int × ((List (Int × Int)) × (Int × (Int × Int))))) → (List Int) → (List Int) → (List UInt8) → Option R) (ke0 : Int → Int → Int → (List Bool) → (List (Int × ((List (Int × Int)) × (Int × (Int × Int))))) → (List Int) → (List Int) → (List UInt8) → Option R) : Option R :=
  bif decide (x13 < x10) then
    rw_spec_l1Ends_v1 x14 x15 x16 x17 x9 x12 fun r18 =>
    next x9 x10 x11 r18 (wrapK .i64 (x13 + 1)) x14 x15 x16 x17
  else
    ke0 x9 x10 x11 x12 x14 x15 x16 x17
def F.spec_l1Copied_l0 {R : Type} (N : Nat) (rw_spec_l1Ends_v1 : (List (Int × ((List (Int × Int)) × (Int × (Int × Int))))) → (List Int) → (List Int) → (List UInt8) → Int → (List Bool) → ((List Bool) → Option R) → Option R) : Nat → Int → Int → Int → (List Bool) → Int → (List (Int × ((List (Int × Int)) × (Int × (Int × Int))))) → (List Int) → (List Int) → (List UInt8) → (Int → Int → Int → (List Bool) → (List (Int × ((List (Int × Int)) × (Int × (Int × Int))))) → (List Int) → (List Int) → (List UInt8) → Option R) → Option R
  | 0, _, _, _, _, _, _, _, _, _, _ => none
  | n + 1, x9, x10, x11, x12, x13, x14, x15, x16, x17, ke0 => F.spec_l1Copied_l0_s N rw_spec_l1Ends_v1 x9 x10 x11 x12 x13 x14 x15 x16 x17 (fun x9 x10 x11 x12 x13 x14 x15 x16 x17 => F.spec_l1Copied_l0 N rw_spec_l1Ends_v1 n x9 x10 x11 x12 x13 x14 x15 x16 x17 ke0) ke0
def F.spec_l1Copied_l2_s {R : Type} (N : Nat) (rw_spec_l1Ends_v1 : (List (Int × ((List (Int × Int)) × (Int × (Int × Int))))) → (List Int) → (List Int) → (List UInt8) → Int → (List Bool) → ((List Bool) → Option R) → Option R) (x27 : Int) (x28 : Int) (x29 : List Bool) (x30 : List Bool) (x31 : Int) (x32 : List (Int × ((List (Int × Int)) × (Int × (Int × Int))))) (x33 : List Int) (x34 : List Int) (x35 : List UInt8) (next : Int → Int → (List Bool) → (List Bool) → Int → (List (Int × ((List (Int × Int)) × (Int × (Int × Int))))) → (List Int) → (List Int) → (List UInt8) → Option R) (ke2 : (List Bool) → Option R) (kret : (List Bool) → (List Bool) → Option R) : Option R :=
  bif x28 == (-1) then
    rw_spec_l1Ends_v1 x32 x33 x34 x35 x27 x29 fun r36 =>
    F.spec_l1Adds N x30 r36 fun r37 =>
    bif !r37 then
      kret x30 x30
    else
      F.spec_l1Or N x30 r36 fun r38 =>
      next x27 x28 r36 r38 (wrapK .i64 (x31 + 1)) x32 x33 x34 x35
  else
    bif decide (x31 < x28) then
      rw_spec_l1Ends_v1 x32 x33 x34 x35 x27 x29 fun r39 =>
      F.spec_l1Adds N x30 r39 fun r40 =>
      bif !r40 then
        kret x30 x30
      else
        F.spec_l1Or N x30 r39 fun r41 =>
        next x27 x28 r39 r41 (wrapK .i64 (x31 + 1)) x32 x33 x34 x35
    else
      ke2 x30
def F.spec_l1Copied_l2 {R : Type} (N : Nat) (rw_spec_l1Ends_v1 : (List (Int × ((List (Int × Int)) × (Int × (Int × Int))))) → (List Int) → (List Int) → (List UInt8) → Int → (List Bool) → ((List Bool) → Option R) → Option R) : Nat → Int → Int → (List Bool) → (List Bool) → Int → (List (Int × ((List (Int × Int)) × (Int × (Int × Int))))) → (List Int) → (List Int) → (List UInt8) → ((List Bool) → Option R) → ((List Bool) → (List Bool) → Option R) → Option R
  | 0, _, _, _, _, _, _, _, _, _, _, _ => none
  | n + 1, x27, x28, x29, x30, x31, x32, x33, x34, x35, ke2, kret => F.spec_l1Copied_l2_s N rw_spec_l1Ends_v1 x27 x28 x29 x30 x31 x32 x33 x34 x35 (fun x27 x28 x29 x30 x31 x32 x33 x34 x35 => F.spec_l1Copied_l2 N rw_spec_l1Ends_v1 n x27 x28 x29 x30 x31 x32 x33 x34 x35 ke2 kret) ke2 kret
def F.spec_l1Copied {R : Type} (N : Nat) (rw_spec_l1Ends_v1 : (List (Int × ((List (Int × Int)) × (Int × (Int × Int))))) → (List Int) → (List Int) → (List UInt8) → Int → (List Bool) → ((List Bool) → Option R) → Option R) (x1 : List (Int × ((List (Int × Int)) × (Int × (Int × Int))))) (x2 : List Int) (x3 : List Int) (x4 : List UInt8) (x5 : Int) (x6 : Int) (x7 : Int) (x8 : List Bool) (k : (List Bool) → Option R) : Option R :=
  F.spec_l1Copied_l0 N rw_spec_l1Ends_v1 N x5 x6 x7 x8 0 x1 x2 x3 x4
    (fun y19 y20 y21 y22 y23 y24 y25 y26 =>
      F.spec_l1Copied_l2 N rw_spec_l1Ends_v1 N y19 y21 y22 y22 y20 y23 y24 y25 y26
        (fun y42 =>
          k y42)
        (fun y43 y44 =>
          k y43))
/-! ### loop.example/s0007/spec.l1Ends -/
def F.spec_l1Ends_v1_l1_s {R : Type} (N : Nat) (rw_spec_l1Ends_v1 : (List (Int × ((List (Int × Int)) × (Int × (Int × Int))))) → (List Int) → (List Int) → (List UInt8) → Int → (List Bool) → ((List Bool) → Option R) → Option R) (x7 : List Bool) (x8 : Int) (x9 : List (Int × ((List (Int × Int)) × (Int × (Int × Int))))) (x10 : List Int) (x11 : List Int) (x12 : List UInt8) (x13 : Int) (x14 : List (Int × Int)) (x15 : Int) (x16 : Int) (x17 : Int) (x18 : List Bool) (next : (List Bool) → Int → (List (Int × ((List (Int × Int)) × (Int × (Int × Int))))) → (List Int) → (List Int) → (List UInt8) → Int → (List (Int × Int)) → Int → Int → Int → (List Bool) → Option R) (ke1 : (List Bool) → Option R) : Option R :=
  bif decide (x8 < (List.length x12 : Int)) then
    bif inB x8 (List.length x7) then
      bif List.getD x7 (Int.toNat x8) false then
        bif inB x8 (List.length x12) then
          F.spec_l1Has N x14 (byteAt x12 x8) fun r19 =>
          bif r19 then
            bif inB (wrapK .i64 (x8 + 1)) (List.length x18) then
              next x7 (wrapK .i64 (x8 + 1)) x9 x10 x11 x12 x13 x14 x15 x16 x17 (List.set x18 (Int.toNat (wrapK .i64 (x8 + 1))) true)
            else
              none
          else
            next x7 (wrapK .i64 (x8 + 1)) x9 x10 x11 x12 x13 x14 x15 x16 x17 x18
        else
          none
      else
        next x7 (wrapK .i64 (x8 + 1)) x9 x10 x11 x12 x13 x14 x15 x16 x17 x18
    else
      none
  else
    ke1 x18
def F.spec_l1Ends_v1_l1 {R : Type} (N : Nat) (rw_spec_l1Ends_v1 : (List (Int × ((List (Int × Int)) × (Int × (Int × Int))))) → (List Int) → (List Int) → (List UInt8) → Int → (List Bool) → ((List Bool) → Option R) → Option R) : Nat → (List Bool) → Int → (List (Int × ((List (Int × Int)) × (Int × (Int × Int))))) → (List Int) → (List Int) → (List UInt8) → Int → (List (Int × Int)) → Int → Int → Int → (List Bool) → ((List Bool) → Option R) → Option R
  | 0, _, _, _, _, _, _, _, _, _, _, _, _, _ => none
  | n + 1, x7, x8, x9, x10, x11, x12, x13, x14, x15, x16, x17, x18, ke1 => F.spec_l1Ends_v1_l1_s N rw_spec_l1Ends_v1 x7 x8 x9 x10 x11 x12 x13 x14 x15 x16 x17 x18 (fun x7 x8 x9 x10 x11 x12 x13 x14 x15 x16 x17 x18 => F.spec_l1Ends_v1_l1 N rw_spec_l1Ends_v1 n x7 x8 x9 x10 x11 x12 x13 x14 x15 x16 x17 x18 ke1) ke1
def F.spec_l1Ends_v1_s {R : Type} (N : Nat) (rw_spec_l1Ends_v1 : (List (Int × ((List (Int × Int)) × (Int × (Int × Int))))) → (List Int) → (List Int) → (List UInt8) → Int → (List Bool) → ((List Bool) → Option R) → Option R) (x1 : List (Int × ((List (Int × Int)) × (Int × (Int × Int))))) (x2 : List Int) (x3 : List Int) (x4 : List UInt8) (x5 : Int) (x6 : List Bool) (k : (List Bool) → Option R) : Option R :=
  bif inB x5 (List.length x1) then
    bif ((List.getD x1 (Int.toNat x5) ((0 : Int), (([] : List (Int × Int)), ((0 : Int), ((0 : Int), (0 : Int)))))).1) == 1 then
      bif decide (0 ≤ (List.length x6 : Int)) then
        bif Nat.ble (Int.toNat (List.length x6 : Int)) (bigOf 1) then
          F.spec_l1Ends_v1_l1 N rw_spec_l1Ends_v1 N x6 0 x1 x2 x3 x4 ((List.getD x1 (Int.toNat x5) ((0 : Int), (([] : List (Int × Int)), ((0 : Int), ((0 : Int), (0 : Int)))))).1) (((List.getD x1 (Int.toNat x5) ((0 : Int), (([] : List (Int × Int)), ((0 : Int), ((0 : Int), (0 : Int)))))).2).1) ((((List.getD x1 (Int.toNat x5) ((0 : Int), (([] : List (Int × Int)), ((0 : Int), ((0 : Int), (0 : Int)))))).2).2).1) (((((List.getD x1 (Int.toNat x5) ((0 : Int), (([] : List (Int × Int)), ((0 : Int), ((0 : Int), (0 : Int)))))).2).2).2).1) (((((List.getD x1 (Int.toNat x5) ((0 : Int), (([] : List (Int × Int)), ((0 : Int), ((0 : Int), (0 : Int)))))).2).2).2).2) (List.replicate (Int.toNat (List.length x6 : Int)) false)
            (fun y20 =>
              k y20)
        else
          none
      else
        none
    else
      bif ((List.getD x1 (Int.toNat x5) ((0 : Int), (([] : List (Int × Int)), ((0 : Int), ((0 : Int), (0 : Int)))))).1) == 2 then
        bif inB x5 (List.length x3) then
          bif inB x5 (List.length x2) then
            rw_spec_l1Ends_v1 x1 x2 x3 x4 (List.getD x2 (Int.toNat x5) (0 : Int)) x6 fun r21 =>
            rw_spec_l1Ends_v1 x1 x2 x3 x4 (List.getD x3 (Int.toNat x5) (0 : Int)) r21 fun r22 =>
            k r22
          else
            none
        else
          none
      else
        bif ((List.getD x1 (Int.toNat x5) ((0 : Int), (([] : List (Int × Int)), ((0 : Int), ((0 : Int), (0 : Int)))))).1) == 3 then
          bif inB x5 (List.length x2) then
            rw_spec_l1Ends_v1 x1 x2 x3 x4 (List.getD x2 (Int.toNat x5) (0 : Int)) x6 fun r23 =>
            bif inB x5 (List.length x3) then
              rw_spec_l1Ends_v1 x1 x2 x3 x4 (List.getD x3 (Int.toNat x5) (0 : Int)) x6 fun r24 =>
              F.spec_l1Or N r23 r24 fun r25 =>
              k r25
            else
              none
          else
            none
        else
          bif ((List.getD x1 (Int.toNat x5) ((0 : Int), (([] : List (Int × Int)), ((0 : Int), ((0 : Int), (0 : Int)))))).1) == 4 then
            bif inB x5 (List.length x2) then
              F.spec_l1Copied N rw_spec_l1Ends_v1 x1 x2 x3 x4 (List.getD x2 (Int.toNat x5) (0 : Int)) ((((List.getD x1 (Int.toNat x5) ((0 : Int), (([] : List (Int × Int)), ((0 : Int), ((0 : Int), (0 : Int)))))).2).2).1) (((((List.getD x1 (Int.toNat x5) ((0 : Int), (([] : List (Int × Int)), ((0 : Int), ((0 : Int), (0 : Int)))))).2).2).2).1) x6 fun r26 =>
              k r26
            else
              none
          else
            bif inB x5 (List.length x2) then
              rw_spec_l1Ends_v1 x1 x2 x3 x4 (List.getD x2 (Int.toNat x5) (0 : Int)) x6 fun r27 =>
              k r27
            else
              none
  else
    none
def F.spec_l1Ends_v1 {R : Type} (N : Nat) : Nat → (List (Int × ((List (Int × Int)) × (Int × (Int × Int))))) → (List Int) → (List Int) → (List UInt8) → Int → (List Bool) → ((List Bool) → Option R) → Option R
  | 0, _, _, _, _, _, _, _ => none
  | n + 1, x1, x2, x3, x4, x5, x6, k => F.spec_l1Ends_v1_s N (F.spec_l1Ends_v1 N n) x1 x2 x3 x4 x5 x6 k
/-! ### loop.example/s0007/spec.l1Ends -/
def F.spec_l1Ends_l1_s {R : Type} (N : Nat) (x7 : List Bool) (x8 : Int) (x9 : List (Int × ((List (Int × Int)) × (Int × (Int × Int))))) (x10 : List Int) (x11 : List Int) (x12 : List UInt8) (x13 : Int) (x14 : List (Int × Int)) (x15 : Int) (x16 : Int) (x17 : Int) (x18 : List Bool) (next : (List Bool) → Int → (List (Int × ((List (Int × Int)) × (Int × (Int × Int))))) → (List Int) → (List Int) → (List UInt8) → Int → (List (Int × Int)) → Int → Int → Int → (List Bool) → Option R) (ke1 : (List Bool) → Option R) : Option R :=
  bif decide (x8 < (List.length x12 : Int)) then
    bif inB x8 (List.length x7) then
      bif List.getD x7 (Int.toNat x8) false then
        bif inB x8 (List.length x12) then
          F.spec_l1Has N x14 (byteAt x12 x8) fun r19 =>
          bif r19 then
            bif inB (wrapK .i64 (x8 + 1)) (List.length x18) then
              next x7 (wrapK .i64 (x8 + 1)) x9 x10 x11 x12 x13 x14 x15 x16 x17 (List.set x18 (Int.toNat (wrapK .i64 (x8 + 1))) true)
            else
              none
          else
            next x7 (wrapK .i64 (x8 + 1)) x9 x10 x11 x12 x13 x14 x15 x16 x17 x18
        else
          none
      else
        next x7 (wrapK .i64 (x8 + 1)) x9 x10 x11 x12 x13 x14 x15 x16 x17 x18
    else
      none
  else
    ke1 x18
def F.spec_l1Ends_l1 {R : Type} (N : Nat) : Nat → (List Bool) → Int → (List (Int × ((List (Int × Int)) × (Int × (Int × Int))))) → (List Int) → (List Int) → (List UInt8) → Int → (List (Int × Int)) → Int → Int → Int → (List Bool) → ((List Bool) → Option R) → Option R
  | 0, _, _, _, _, _, _, _, _, _, _, _, _, _ => none
  | n + 1, x7, x8, x9, x10, x11, x12, x13, x14, x15, x16, x17, x18, ke1 => F.spec_l1Ends_l1_s N x7 x8 x9 x10 x11 x12 x13 x14 x15 x16 x17 x18 (fun x7 x8 x9 x10 x11 x12 x13 x14 x15 x16 x17 x18 => F.spec_l1Ends_l1 N n x7 x8 x9 x10 x11 x12 x13 x14 x15 x16 x17 x18 ke1) ke1
def F.spec_l1Ends {R : Type} (N : Nat) (x1 : List (Int × ((List (Int × Int)) × (Int × (Int × Int))))) (x2 : List Int) (x3 : List Int) (x4 : List UInt8) (x5 : Int) (x6 : List Bool) (k : (List Bool) → Option R) : Option R :=
  bif inB x5 (List.length x1) then
    bif ((List.getD x1 (Int.toNat x5) ((0 : Int), (([] : List (Int × Int)), ((0 : Int), ((0 : Int), (0 : Int)))))).1) == 1 then
      bif decide (0 ≤ (List.length x6 : Int)) then
        bif Nat.ble (Int.toNat (List.length x6 : Int)) (bigOf 1) then
          F.spec_l1Ends_l1 N N x6 0 x1 x2 x3 x4 ((List.getD x1 (Int.toNat x5) ((0 : Int), (([] : List (Int × Int)), ((0 : Int), ((0 : Int), (0 : Int)))))).1) (((List.getD x1 (Int.toNat x5) ((0 : Int), (([] : List (Int × Int)), ((0 : Int), ((0 : Int), (0 : Int)))))).2).1) ((((List.getD x1 (Int.toNat x5) ((0 : Int), (([] : List (Int × Int)), ((0 : Int), ((0 : Int), (0 : Int)))))).2).2).1) (((((List.getD x1 (Int.toNat x5) ((0 : Int), (([] : List (Int × Int)), ((0 : Int), ((0 : Int), (0 : Int)))))).2).2).2).1) (((((List.getD x1 (Int.toNat x5) ((0 : Int), (([] : List (Int × Int)), ((0 : Int), ((0 : Int), (0 : Int)))))).2).2).2).2) (List.replicate (Int.toNat (List.length x6 : Int)) false)
            (fun y20 =>
              k y20)
        else
          none
      else
        none
    else
      bif ((List.getD x1 (Int.toNat x5) ((0 : Int), (([] : List (Int × Int)), ((0 : Int), ((0 : Int), (0 : Int)))))).1) == 2 then
        bif inB x5 (List.length x3) then
          bif inB x5 (List.length x2) then
            F.spec_l1Ends_v1 N N x1 x2 x3 x4 (List.getD x2 (Int.toNat x5) (0 : Int)) x6 fun r21 =>
            F.spec_l1Ends_v1 N N x1 x2 x3 x4 (List.getD x3 (Int.toNat x5) (0 : Int)) r21 fun r22 =>
            k r22
          else
            none
        else
          none
      else
        bif ((List.getD x1 (Int.toNat x5) ((0 : Int), (([] : List (Int × Int)), ((0 : Int), ((0 : Int), (0 : Int)))))).1) == 3 then
          bif inB x5 (List.length x2) then
            F.spec_l1Ends_v1 N N x1 x2 x3 x4 (List.getD x2 (Int.toNat x5) (0 : Int)) x6 fun r23 =>
            bif inB x5 (List.length x3) then
              F.spec_l1Ends_v1 N N x1 x2 x3 x4 (List.getD x3 (Int.toNat x5) (0 : Int)) x6 fun r24 =>
              F.spec_l1Or N r23 r24 fun r25 =>
              k r25
            else
              none
          else
            none
        else
          bif ((List.getD x1 (Int.toNat x5) ((0 : Int), (([] : List (Int × Int)), ((0 : Int), ((0 : Int), (0 : Int)))))).1) == 4 then
            bif inB x5 (List.length x2) then
              F.spec_l1Copied N (F.spec_l1Ends_v1 N N) x1 x2 x3 x4 (List.getD x2 (Int.toNat x5) (0 : Int)) ((((List.getD x1 (Int.toNat x5) ((0 : Int), (([] : List (Int × Int)), ((0 : Int), ((0 : Int), (0 : Int)))))).2).2).1) (((((List.getD x1 (Int.toNat x5) ((0 : Int), (([] : List (Int × Int)), ((0 : Int), ((0 : Int), (0 : Int)))))).2).2).2).1) x6 fun r26 =>
              k r26
            else
              none
          else
            bif inB x5 (List.length x2) then
              F.spec_l1Ends_v1 N N x1 x2 x3 x4 (List.getD x2 (Int.toNat x5) (0 : Int)) x6 fun r27 =>
              k r27
            else
              none
  else
    none
/-! ### loop.example/s0007/spec.l1Belongs -/
def F.spec_l1Belongs {R : Type} (N : Nat) (x1 : Bool) (x2 : Bool) (x3 : List (Int × ((List (Int × Int)) × (Int × (Int × Int))))) (x4 : List UInt8) (x5 : Int) (x6 : Int) (x7 : Bool) (k : Bool → Option R) : Option R :=
  F.spec_l1Placed x1 x2 x3 x4 x5 x6 x7 fun r8 =>
  bif !r8 then
    k false
  else
    F.spec_l1Ready N x1 x2 x3 x4 fun r9 r10 r11 r12 =>
    F.spec_l1Only (List.length x4 : Int) x5 fun r13 =>
    F.spec_l1Ends N r9 r11 r12 r10 (wrapK .i64 ((List.length x3 : Int) - 1)) r13 fun r14 =>
    bif inB x6 (List.length r14) then
      k (List.getD r14 (Int.toNat x6) false)
    else
      none
/-! ### loop.example/s0007/spec.MatchSpan -/
def F.spec_MatchSpan_l0_s {R : Type} (N : Nat) (x8 : List UInt8) (x9 : Int) (x10 : Int) (x11 : Bool) (x12 : List (Bool × (Bool × (List (Int × ((List (Int × Int)) × (Int × (Int × Int)))))))) (x13 : Int) (x14 : Int) (next : (List UInt8) → Int → Int → Bool → (List (Bool × (Bool × (List (Int × ((List (Int × Int)) × (Int × (Int × Int)))))))) → Int → Int → Option R) (ke0 : Unit → Option R) (kret : Bool → Option R) : Option R :=
  bif decide (x14 < x13) then
    bif inB x14 (List.length x12) then
      F.spec_l1Belongs N ((List.getD x12 (Int.toNat x14) (false, (false, ([] : List (Int × ((List (Int × Int)) × (Int × (Int × Int)))))))).1) (((List.getD x12 (Int.toNat x14) (false, (false, ([] : List (Int × ((List (Int × Int)) × (Int × (Int × Int)))))))).2).1) (((List.getD x12 (Int.toNat x14) (false, (false, ([] : List (Int × ((List (Int × Int)) × (Int × (Int × Int)))))))).2).2) x8 x9 x10 x11 fun r15 =>
      bif r15 then
        kret true
      else
        next x8 x9 x10 x11 x12 x13 (wrapK .i64 (x14 + 1))
    else
      none
  else
    ke0 ()
def F.spec_MatchSpan_l0 {R : Type} (N : Nat) : Nat → (List UInt8) → Int → Int → Bool → (List (Bool × (Bool × (List (Int × ((List (Int × Int)) × (Int × (Int × Int)))))))) → Int → Int → (Unit → Option R) → (Bool → Option R) → Option R
  | 0, _, _, _, _, _, _, _, _, _ => none
  | n + 1, x8, x9, x10, x11, x12, x13, x14, ke0, kret => F.spec_MatchSpan_l0_s N x8 x9 x10 x11 x12 x13 x14 (fun x8 x9 x10 x11 x12 x13 x14 => F.spec_MatchSpan_l0 N n x8 x9 x10 x11 x12 x13 x14 ke0 kret) ke0 kret
def F.spec_MatchSpan {R : Type} (N : Nat) (x1 : List (Bool × (Bool × (List (Int × ((List (Int × Int)) × (Int × (Int × Int)))))))) (x2 : Int) (x3 : List UInt8) (x4 : Int) (x5 : Int) (x6 : Bool) (k : Bool → Option R) : Option R :=
  F.spec_l1SpanOK N x1 x2 x3 x4 x5 fun r7 =>
  bif !r7 then
    k false
  else
    F.spec_MatchSpan_l0 N N x3 x4 x5 x6 x1 (List.length x1 : Int) 0
      (fun _ =>
        k false)
      (fun y16 =>
        k y16)
/-! ### loop.example/s0007/impl.setOk -/
def F.impl_setOk_l0_s {R : Type} (N : Nat) (x2 : Int) (x3 : List (Int × Int)) (x4 : Int) (x5 : Int) (next : Int → (List (Int × Int)) → Int → Int → Option R) (ke0 : Unit → Option R) (kret : Bool → Option R) : Option R :=
  bif decide (x5 < x4) then
    bif inB x5 (List.length x3) then
      bif decide (((List.getD x3 (Int.toNat x5) ((0 : Int), (0 : Int))).1) < (wrapK .i64 (x2 + 2))) then
        kret false
      else
        bif decide (((List.getD x3 (Int.toNat x5) ((0 : Int), (0 : Int))).1) > ((List.getD x3 (Int.toNat x5) ((0 : Int), (0 : Int))).2)) then
          kret false
        else
          bif decide (((List.getD x3 (Int.toNat x5) ((0 : Int), (0 : Int))).2) > 255) then
            kret false
          else
            next ((List.getD x3 (Int.toNat x5) ((0 : Int), (0 : Int))).2) x3 x4 (wrapK .i64 (x5 + 1))
    else
      none
  else
    ke0 ()
def F.impl_setOk_l0 {R : Type} (N : Nat) : Nat → Int → (List (Int × Int)) → Int → Int → (Unit → Option R) → (Bool → Option R) → Option R
  | 0, _, _, _, _, _, _ => none
  | n + 1, x2, x3, x4, x5, ke0, kret => F.impl_setOk_l0_s N x2 x3 x4 x5 (fun x2 x3 x4 x5 => F.impl_setOk_l0 N n x2 x3 x4 x5 ke0 kret) ke0 kret
def F.impl_setOk {R : Type} (N : Nat) (x1 : List (Int × Int)) (k : Bool → Option R) : Option R :=
  F.impl_setOk_l0 N N (-2) x1 (List.length x1 : Int) 0
    (fun _ =>
      k true)
    (fun y6 =>
      k y6)
/-! ### (loop.example/s0007/impl.Node).ok -/
def F.impl_Node_ok {R : Type} (N : Nat) (x1 : Int) (x2 : List (Int × Int)) (x3 : Int) (x4 : Int) (x5 : Int) (k : Bool → Option R) : Option R :=
  bif x1 != 1 then
    bif decide ((List.length x2 : Int) > 0) then
      k false
    else
      bif x1 != 4 then
        bif x3 != 0 then
          k false
        else
          bif x4 != 0 then
            k false
          else
            bif x1 != 5 then
              bif x5 != 0 then
                k false
              else
                bif x1 == 1 then
                  F.impl_setOk N x2 fun r6 =>
                  k r6
                else
                  bif x1 == 4 then
                    bif decide (x3 ≥ 0) then
                      bif decide (x3 ≤ 255) then
                        bif x4 == (-1) then
                          k true
                        else
                          bif decide (x4 ≥ x3) then
                            k (decide (x4 ≤ 255))
                          else
                            k false
                      else
                        k false
                    else
                      k false
                  else
                    bif x1 == 2 then
                      bif x1 == 2 then
                        k true
                      else
                        k false
                    else
                      bif x1 == 3 then
                        bif x1 == 3 then
                          k true
                        else
                          k false
                      else
                        bif x1 == 5 then
                          k true
                        else
                          k false
            else
              bif x1 == 1 then
                F.impl_setOk N x2 fun r7 =>
                k r7
              else
                bif x1 == 4 then
                  bif decide (x3 ≥ 0) then
                    bif decide (x3 ≤ 255) then
                      bif x4 == (-1) then
                        k true
                      else
                        bif decide (x4 ≥ x3) then
                          k (decide (x4 ≤ 255))
                        else
                          k false
                    else
                      k false
                  else
                    k false
                else
                  bif x1 == 2 then
                    bif x1 == 2 then
                      k true
                    else
                      k false
                  else
                    bif x1 == 3 then
                      bif x1 == 3 then
                        k true
                      else
                        k false
                    else
                      bif x1 == 5 then
                        k true
                      else
                        k false
      else
        bif x1 != 5 then
          bif x5 != 0 then
            k false
          else
            bif x1 == 1 then
              F.impl_setOk N x2 fun r8 =>
              k r8
            else
              bif x1 == 4 then
                bif decide (x3 ≥ 0) then
                  bif decide (x3 ≤ 255) then
                    bif x4 == (-1) then
                      k true
                    else
                      bif decide (x4 ≥ x3) then
                        k (decide (x4 ≤ 255))
                      else
                        k false
                  else
                    k false
                else
                  k false
              else
                bif x1 == 2 then
                  bif x1 == 2 then
                    k true
                  else
                    k false
                else
                  bif x1 == 3 then
                    bif x1 == 3 then
                      k true
                    else
                      k false
                  else
                    bif x1 == 5 then
                      k true
                    else
                      k false
        else
          bif x1 == 1 then
            F.impl_setOk N x2 fun r9 =>
            k r9
          else
            bif x1 == 4 then
              bif decide (x3 ≥ 0) then
                bif decide (x3 ≤ 255) then
                  bif x4 == (-1) then
                    k true
                  else
                    bif decide (x4 ≥ x3) then
                      k (decide (x4 ≤ 255))
                    else
                      k false
                else
                  k false
              else
                k false
            else
              bif x1 == 2 then
                bif x1 == 2 then
                  k true
                else
                  k false
              else
                bif x1 == 3 then
                  bif x1 == 3 then
                    k true
                  else
                    k false
                else
                  bif x1 == 5 then
                    k true
                  else
                    k false
  else
    bif x1 != 4 then
      bif x3 != 0 then
        k false
      else
        bif x4 != 0 then
          k false
        else
          bif x1 != 5 then
            bif x5 != 0 then
              k false
            else
              bif x1 == 1 then
                F.impl_setOk N x2 fun r10 =>
                k r10
              else
                bif x1 == 4 then
                  bif decide (x3 ≥ 0) then
                    bif decide (x3 ≤ 255) then
                      bif x4 == (-1) then
                        k true
                      else
                        bif decide (x4 ≥ x3) then
                          k (decide (x4 ≤ 255))
                        else
                          k false
                    else
                      k false
                  else
                    k false
                else
                  bif x1 == 2 then
                    bif x1 == 2 then
                      k true
                    else
                      k false
                  else
                    bif x1 == 3 then
                      bif x1 == 3 then
                        k true
                      else
                        k false
                    else
                      bif x1 == 5 then
                        k true
                      else
                        k false
          else
            bif x1 == 1 then
              F.impl_setOk N x2 fun r11 =>
              k r11
            else
              bif x1 == 4 then
                bif decide (x3 ≥ 0) then
                  bif decide (x3 ≤ 255) then
                    bif x4 == (-1) then
                      k true
                    else
                      bif decide (x4 ≥ x3) then
                        k (decide (x4 ≤ 255))
                      else
                        k false
                  else
                    k false
                else
                  k false
              else
                bif x1 == 2 then
                  bif x1 == 2 then
                    k true
                  else
                    k false
                else
                  bif x1 == 3 then
                    bif x1 == 3 then
                      k true
                    else
                      k false
                  else
                    bif x1 == 5 then
                      k true
                    else
                      k false
    else
      bif x1 != 5 then
        bif x5 != 0 then
          k false
        else
          bif x1 == 1 then
            F.impl_setOk N x2 fun r12 =>
            k r12
          else
            bif x1 == 4 then
              bif decide (x3 ≥ 0) then
                bif decide (x3 ≤ 255) then
                  bif x4 == (-1) then
                    k true
                  else
                    bif decide (x4 ≥ x3) then
                      k (decide (x4 ≤ 255))
                    else
                      k false
                else
                  k false
              else
                k false
            else
              bif x1 == 2 then
                bif x1 == 2 then
                  k true
                else
                  k false
              else
                bif x1 == 3 then
                  bif x1 == 3 then
                    k true
                  else
                    k false
                else
                  bif x1 == 5 then
                    k true
                  else
                    k false
      else
        bif x1 == 1 then
          F.impl_setOk N x2 fun r13 =>
          k r13
        else
          bif x1 == 4 then
            bif decide (x3 ≥ 0) then
              bif decide (x3 ≤ 255) then
                bif x4 == (-1) then
                  k true
                else
                  bif decide (x4 ≥ x3) then
                    k (decide (x4 ≤ 255))
                  else
                    k false
              else
                k false
            else
              k false
          else
            bif x1 == 2 then
              bif x1 == 2 then
                k true
              else
                k false
            else
              bif x1 == 3 then
                bif x1 == 3 then
                  k true
                else
                  k false
              else
                bif x1 == 5 then
                  k true
                else
                  k false
/-! ### (loop.example/s0007/impl.Node).copies -/
def F.impl_Node_copies {R : Type} (x1 : Int) (x2 : List (Int × Int)) (x3 : Int) (x4 : Int) (x5 : Int) (k : Int → Option R) : Option R :=
  bif x4 == (-1) then
    k (wrapK .i64 (x3 + 1))
  else
    k (bif decide (1 > x4) then 1 else x4)
/-! ### (loop.example/s0007/impl.Branch).weigh -/
def F.impl_Branch_weigh_l0_s {R : Type} (N : Nat) (x4 : List (Int × ((List (Int × Int)) × (Int × (Int × Int))))) (x5 : Int) (x6 : Int) (x7 : List Int) (next : (List (Int × ((List (Int × Int)) × (Int × (Int × Int))))) → Int → Int → (List Int) → Option R) (ke0 : (List Int) → Option R) (kret : Int → Bool → (List Int) → Option R) : Option R :=
  bif decide (x6 < x5) then
    bif inB x6 (List.length x4) then
      bif ((List.getD x4 (Int.toNat x6) ((0 : Int), (([] : List (Int × Int)), ((0 : Int), ((0 : Int), (0 : Int)))))).1) == 1 then
        bif Nat.ble (List.length x7 + List.length [1]) (bigOf 8) then
          next x4 x5 (wrapK .i64 (x6 + 1)) (x7 ++ [1])
        else
          none
      else
        bif ((List.getD x4 (Int.toNat x6) ((0 : Int), (([] : List (Int × Int)), ((0 : Int), ((0 : Int), (0 : Int)))))).1) == 2 then
          bif ((List.getD x4 (Int.toNat x6) ((0 : Int), (([] : List (Int × Int)), ((0 : Int), ((0 : Int), (0 : Int)))))).1) == 2 then
            bif decide ((List.length x7 : Int) < 2) then
              kret 0 false x7
            else
              bif inB (wrapK .i64 ((List.length x7 : Int) - 2)) (List.length x7) then
                bif inB (wrapK .i64 ((List.length x7 : Int) - 1)) (List.length x7) then
                  bif inB (wrapK .i64 ((List.length x7 : Int) - 2)) (List.length x7) then
                    bif decide (0 ≤ (wrapK .i64 ((List.length x7 : Int) - 1))) && decide ((wrapK .i64 ((List.length x7 : Int) - 1)) ≤ (List.length (List.set x7 (Int.toNat (wrapK .i64 ((List.length x7 : Int) - 2))) (bif decide (2001 < (wrapK .i64 ((List.getD x7 (Int.toNat (wrapK .i64 ((List.length x7 : Int) - 2))) (0 : Int)) + (List.getD x7 (Int.toNat (wrapK .i64 ((List.length x7 : Int) - 1))) (0 : Int))))) then 2001 else wrapK .i64 ((List.getD x7 (Int.toNat (wrapK .i64 ((List.length x7 : Int) - 2))) (0 : Int)) + (List.getD x7 (Int.toNat (wrapK .i64 ((List.length x7 : Int) - 1))) (0 : Int))))) : Int)) then
                      next x4 x5 (wrapK .i64 (x6 + 1)) (List.take ((Int.toNat (wrapK .i64 ((List.length x7 : Int) - 1))) - 0) (List.drop 0 (List.set x7 (Int.toNat (wrapK .i64 ((List.length x7 : Int) - 2))) (bif decide (2001 < (wrapK .i64 ((List.getD x7 (Int.toNat (wrapK .i64 ((List.length x7 : Int) - 2))) (0 : Int)) + (List.getD x7 (Int.toNat (wrapK .i64 ((List.length x7 : Int) - 1))) (0 : Int))))) then 2001 else wrapK .i64 ((List.getD x7 (Int.toNat (wrapK .i64 ((List.length x7 : Int) - 2))) (0 : Int)) + (List.getD x7 (Int.toNat (wrapK .i64 ((List.length x7 : Int) - 1))) (0 : Int)))))))
                    else
                      none
                  else
                    none
                else
                  none
              else
                none
          else
            bif ((List.getD x4 (Int.toNat x6) ((0 : Int), (([] : List (Int × Int)), ((0 : Int), ((0 : Int), (0 : Int)))))).1) == 4 then
              bif decide ((List.length x7 : Int) < 1) then
                kret 0 false x7
              else
                bif inB (wrapK .i64 ((List.length x7 : Int) - 1)) (List.length x7) then
                  F.impl_Node_copies ((List.getD x4 (Int.toNat x6) ((0 : Int), (([] : List (Int × Int)), ((0 : Int), ((0 : Int), (0 : Int)))))).1) (((List.getD x4 (Int.toNat x6) ((0 : Int), (([] : List (Int × Int)), ((0 : Int), ((0 : Int), (0 : Int)))))).2).1) ((((List.getD x4 (Int.toNat x6) ((0 : Int), (([] : List (Int × Int)), ((0 : Int), ((0 : Int), (0 : Int)))))).2).2).1) (((((List.getD x4 (Int.toNat x6) ((0 : Int), (([] : List (Int × Int)), ((0 : Int), ((0 : Int), (0 : Int)))))).2).2).2).1) (((((List.getD x4 (Int.toNat x6) ((0 : Int), (([] : List (Int × Int)), ((0 : Int), ((0 : Int), (0 : Int)))))).2).2).2).2) fun r8 =>
                  bif inB (wrapK .i64 ((List.length x7 : Int) - 1)) (List.length x7) then
                    next x4 x5 (wrapK .i64 (x6 + 1)) (List.set x7 (Int.toNat (wrapK .i64 ((List.length x7 : Int) - 1))) (bif decide (2001 < (wrapK .i64 ((List.getD x7 (Int.toNat (wrapK .i64 ((List.length x7 : Int) - 1))) (0 : Int)) * r8))) then 2001 else wrapK .i64 ((List.getD x7 (Int.toNat (wrapK .i64 ((List.length x7 : Int) - 1))) (0 : Int)) * r8)))
                  else
                    none
                else
                  none
            else
              bif ((List.getD x4 (Int.toNat x6) ((0 : Int), (([] : List (Int × Int)), ((0 : Int), ((0 : Int), (0 : Int)))))).1) == 5 then
                bif decide ((List.length x7 : Int) < 1) then
                  kret 0 false x7
                else
                  next x4 x5 (wrapK .i64 (x6 + 1)) x7
              else
                next x4 x5 (wrapK .i64 (x6 + 1)) x7
        else
          bif ((List.getD x4 (Int.toNat x6) ((0 : Int), (([] : List (Int × Int)), ((0 : Int), ((0 : Int), (0 : Int)))))).1) == 3 then
            bif decide ((List.length x7 : Int) < 2) then
              kret 0 false x7
            else
              bif inB (wrapK .i64 ((List.length x7 : Int) - 2)) (List.length x7) then
                bif inB (wrapK .i64 ((List.length x7 : Int) - 1)) (List.length x7) then
                  bif inB (wrapK .i64 ((List.length x7 : Int) - 2)) (List.length x7) then
                    bif decide (0 ≤ (wrapK .i64 ((List.length x7 : Int) - 1))) && decide ((wrapK .i64 ((List.length x7 : Int) - 1)) ≤ (List.length (List.set x7 (Int.toNat (wrapK .i64 ((List.length x7 : Int) - 2))) (bif decide (2001 < (wrapK .i64 ((List.getD x7 (Int.toNat (wrapK .i64 ((List.length x7 : Int) - 2))) (0 : Int)) + (List.getD x7 (Int.toNat (wrapK .i64 ((List.length x7 : Int) - 1))) (0 : Int))))) then 2001 else wrapK .i64 ((List.getD x7 (Int.toNat (wrapK .i64 ((List.length x7 : Int) - 2))) (0 : Int)) + (List.getD x7 (Int.toNat (wrapK .i64 ((List.length x7 : Int) - 1))) (0 : Int))))) : Int)) then
                      next x4 x5 (wrapK .i64 (x6 + 1)) (List.take ((Int.toNat (wrapK .i64 ((List.length x7 : Int) - 1))) - 0) (List.drop 0 (List.set x7 (Int.toNat (wrapK .i64 ((List.length x7 : Int) - 2))) (bif decide (2001 < (wrapK .i64 ((List.getD x7 (Int.toNat (wrapK .i64 ((List.length x7 : Int) - 2))) (0 : Int)) + (List.getD x7 (Int.toNat (wrapK .i64 ((List.length x7 : Int) - 1))) (0 : Int))))) then 2001 else wrapK .i64 ((List.getD x7 (Int.toNat (wrapK .i64 ((List.length x7 : Int) - 2))) (0 : Int)) + (List.getD x7 (Int.toNat (wrapK .i64 ((List.length x7 : Int) - 1))) (0 : Int)))))))
                    else
                      none
                  else
                    none
                else
                  none
              else
                none
          else
            bif ((List.getD x4 (Int.toNat x6) ((0 : Int), (([] : List (Int × Int)), ((0 : Int), ((0 : Int), (0 : Int)))))).1) == 4 then
              bif decide ((List.length x7 : Int) < 1) then
                kret 0 false x7
              else
                bif inB (wrapK .i64 ((List.length x7 : Int) - 1)) (List.length x7) then
                  F.impl_Node_copies ((List.getD x4 (Int.toNat x6) ((0 : Int), (([] : List (Int × Int)), ((0 : Int), ((0 : Int), (0 : Int)))))).1) (((List.getD x4 (Int.toNat x6) ((0 : Int), (([] : List (Int × Int)), ((0 : Int), ((0 : Int), (0 : Int)))))).2).1) ((((List.getD x4 (Int.toNat x6) ((0 : Int), (([] : List (Int × Int)), ((0 : Int), ((0 : Int), (0 : Int)))))).2).2).1) (((((List.getD x4 (Int.toNat x6) ((0 : Int), (([] : List (Int × Int)), ((0 : Int), ((0 : Int), (0 : Int)))))).2).2).2).1) (((((List.getD x4 (Int.toNat x6) ((0 : Int), (([] : List (Int × Int)), ((0 : Int), ((0 : Int), (0 : Int)))))).2).2).2).2) fun r9 =>
                  bif inB (wrapK .i64 ((List.length x7 : Int) - 1)) (List.length x7) then
                    next x4 x5 (wrapK .i64 (x6 + 1)) (List.set x7 (Int.toNat (wrapK .i64 ((List.length x7 : Int) - 1))) (bif decide (2001 < (wrapK .i64 ((List.getD x7 (Int.toNat (wrapK .i64 ((List.length x7 : Int) - 1))) (0 : Int)) * r9))) then 2001 else wrapK .i64 ((List.getD x7 (Int.toNat (wrapK .i64 ((List.length x7 : Int) - 1))) (0 : Int)) * r9)))
                  else
                    none
                else
                  none
            else
              bif ((List.getD x4 (Int.toNat x6) ((0 : Int), (([] : List (Int × Int)), ((0 : Int), ((0 : Int), (0 : Int)))))).1) == 5 then
                bif decide ((List.length x7 : Int) < 1) then
                  kret 0 false x7
                else
                  next x4 x5 (wrapK .i64 (x6 + 1)) x7
              else
                next x4 x5 (wrapK .i64 (x6 + 1)) x7
    else
      none
  else
    ke0 x7
def F.impl_Branch_weigh_l0 {R : Type} (N : Nat) : Nat → (List (Int × ((List (Int × Int)) × (Int × (Int × Int))))) → Int → Int → (List Int) → ((List Int) → Option R) → (Int → Bool → (List Int) → Option R) → Option R
  | 0, _, _, _, _, _, _ => none
  | n + 1, x4, x5, x6, x7, ke0, kret => F.impl_Branch_weigh_l0_s N x4 x5 x6 x7 (fun x4 x5 x6 x7 => F.impl_Branch_weigh_l0 N n x4 x5 x6 x7 ke0 kret) ke0 kret
def F.impl_Branch_weigh {R : Type} (N : Nat) (x1 : Bool) (x2 : Bool) (x3 : List (Int × ((List (Int × Int)) × (Int × (Int × Int))))) (k : Int → Bool → Option R) : Option R :=
  F.impl_Branch_weigh_l0 N N x3 (List.length x3 : Int) 0 ([] : List Int)
    (fun y10 =>
      bif (List.length y10 : Int) != 1 then
        k 0 false
      else
        bif inB 0 (List.length y10) then
          k (List.getD y10 (Int.toNat 0) (0 : Int)) true
        else
          none)
    (fun y11 y12 y13 =>
      k y11 y12)
/-! ### (loop.example/s0007/impl.Rule).weigh -/
def F.impl_Rule_weigh_l0_s {R : Type} (N : Nat) (x3 : Int) (x4 : List (Bool × (Bool × (List (Int × ((List (Int × Int)) × (Int × (Int × Int)))))))) (x5 : Int) (x6 : Int) (next : Int → (List (Bool × (Bool × (List (Int × ((List (Int × Int)) × (Int × (Int × Int)))))))) → Int → Int → Option R) (ke0 : Int → Option R) (kret : Int → Bool → Int → Option R) : Option R :=
  bif decide (x6 < x5) then
    bif inB x6 (List.length x4) then
      F.impl_Branch_weigh N ((List.getD x4 (Int.toNat x6) (false, (false, ([] : List (Int × ((List (Int × Int)) × (Int × (Int × Int)))))))).1) (((List.getD x4 (Int.toNat x6) (false, (false, ([] : List (Int × ((List (Int × Int)) × (Int × (Int × Int)))))))).2).1) (((List.getD x4 (Int.toNat x6) (false, (false, ([] : List (Int × ((List (Int × Int)) × (Int × (Int × Int)))))))).2).2) fun r7 r8 =>
      bif !r8 then
        kret 0 false x3
      else
        next (bif decide (2001 < (wrapK .i64 (x3 + r7))) then 2001 else wrapK .i64 (x3 + r7)) x4 x5 (wrapK .i64 (x6 + 1))
    else
      none
  else
    ke0 x3
def F.impl_Rule_weigh_l0 {R : Type} (N : Nat) : Nat → Int → (List (Bool × (Bool × (List (Int × ((List (Int × Int)) × (Int × (Int × Int)))))))) → Int → Int → (Int → Option R) → (Int → Bool → Int → Option R) → Option R
  | 0, _, _, _, _, _, _ => none
  | n + 1, x3, x4, x5, x6, ke0, kret => F.impl_Rule_weigh_l0_s N x3 x4 x5 x6 (fun x3 x4 x5 x6 => F.impl_Rule_weigh_l0 N n x3 x4 x5 x6 ke0 kret) ke0 kret
def F.impl_Rule_weigh {R : Type} (N : Nat) (x1 : List (Bool × (Bool × (List (Int × ((List (Int × Int)) × (Int × (Int × Int)))))))) (x2 : Int) (k : Int → Bool → Option R) : Option R :=
  F.impl_Rule_weigh_l0 N N 0 x1 (List.length x1 : Int) 0
    (fun y9 =>
      k y9 true)
    (fun y10 y11 y12 =>
      k y10 y11)
/-! ### loop.example/s0007/impl.RuleOK -/
def F.impl_RuleOK_l2_s {R : Type} (N : Nat) (x10 : Int) (x11 : List (Bool × (Bool × (List (Int × ((List (Int × Int)) × (Int × (Int × Int)))))))) (x12 : Int) (x13 : Int) (x14 : List (Int × ((List (Int × Int)) × (Int × (Int × Int))))) (x15 : Int) (x16 : Int) (x17 : List (Bool × (Bool × (List (Int × ((List (Int × Int)) × (Int × (Int × Int)))))))) (x18 : Int) (x19 : List (Int × Bool)) (next : Int → (List (Bool × (Bool × (List (Int × ((List (Int × Int)) × (Int × (Int × Int)))))))) → Int → Int → (List (Int × ((List (Int × Int)) × (Int × (Int × Int))))) → Int → Int → (List (Bool × (Bool × (List (Int × ((List (Int × Int)) × (Int × (Int × Int)))))))) → Int → (List (Int × Bool)) → Option R) (ke2 : Int → (List (Bool × (Bool × (List (Int × ((List (Int × Int)) × (Int × (Int × Int)))))))) → Int → Int → (List (Bool × (Bool × (List (Int × ((List (Int × Int)) × (Int × (Int × Int)))))))) → Int → (List (Int × Bool)) → Option R) (kret : Bool → Int → (List (Bool × (Bool × (List (Int × ((List (Int × Int)) × (Int × (Int × Int)))))))) → Int → Int → (List (Bool × (Bool × (List (Int × ((List (Int × Int)) × (Int × (Int × Int)))))))) → Int → (List (Int × Bool)) → Option R) : Option R :=
  bif decide (x16 < x15) then
    bif inB x16 (List.length x14) then
      F.impl_Node_ok N ((List.getD x14 (Int.toNat x16) ((0 : Int), (([] : List (Int × Int)), ((0 : Int), ((0 : Int), (0 : Int)))))).1) (((List.getD x14 (Int.toNat x16) ((0 : Int), (([] : List (Int × Int)), ((0 : Int), ((0 : Int), (0 : Int)))))).2).1) ((((List.getD x14 (Int.toNat x16) ((0 : Int), (([] : List (Int × Int)), ((0 : Int), ((0 : Int), (0 : Int)))))).2).2).1) (((((List.getD x14 (Int.toNat x16) ((0 : Int), (([] : List (Int × Int)), ((0 : Int), ((0 : Int), (0 : Int)))))).2).2).2).1) (((((List.getD x14 (Int.toNat x16) ((0 : Int), (([] : List (Int × Int)), ((0 : Int), ((0 : Int), (0 : Int)))))).2).2).2).2) fun r20 =>
      bif !r20 then
        kret false x10 x11 x12 x13 x17 x18 x19
      else
        bif ((List.getD x14 (Int.toNat x16) ((0 : Int), (([] : List (Int × Int)), ((0 : Int), ((0 : Int), (0 : Int)))))).1) == 5 then
          bif mget eqI (((((List.getD x14 (Int.toNat x16) ((0 : Int), (([] : List (Int × Int)), ((0 : Int), ((0 : Int), (0 : Int)))))).2).2).2).2) false x19 then
            kret false x10 x11 x12 x13 x17 x18 x19
          else
            bif decide ((((((List.getD x14 (Int.toNat x16) ((0 : Int), (([] : List (Int × Int)), ((0 : Int), ((0 : Int), (0 : Int)))))).2).2).2).2) < 1) then
              kret false x10 x11 x12 x13 x17 x18 x19
            else
              bif decide ((((((List.getD x14 (Int.toNat x16) ((0 : Int), (([] : List (Int × Int)), ((0 : Int), ((0 : Int), (0 : Int)))))).2).2).2).2) > x18) then
                kret false x10 x11 x12 x13 x17 x18 x19
              else
                next x10 x11 x12 x13 x14 x15 (wrapK .i64 (x16 + 1)) x17 x18 (mset eqI (((((List.getD x14 (Int.toNat x16) ((0 : Int), (([] : List (Int × Int)), ((0 : Int), ((0 : Int), (0 : Int)))))).2).2).2).2) true x19)
        else
          next x10 x11 x12 x13 x14 x15 (wrapK .i64 (x16 + 1)) x17 x18 x19
    else
      none
  else
    ke2 x10 x11 x12 x13 x17 x18 x19
def F.impl_RuleOK_l2 {R : Type} (N : Nat) : Nat → Int → (List (Bool × (Bool × (List (Int × ((List (Int × Int)) × (Int × (Int × Int)))))))) → Int → Int → (List (Int × ((List (Int × Int)) × (Int × (Int × Int))))) → Int → Int → (List (Bool × (Bool × (List (Int × ((List (Int × Int)) × (Int × (Int × Int)))))))) → Int → (List (Int × Bool)) → (Int → (List (Bool × (Bool × (List (Int × ((List (Int × Int)) × (Int × (Int × Int)))))))) → Int → Int → (List (Bool × (Bool × (List (Int × ((List (Int × Int)) × (Int × (Int × Int)))))))) → Int → (List (Int × Bool)) → Option R) → (Bool → Int → (List (Bool × (Bool × (List (Int × ((List (Int × Int)) × (Int × (Int × Int)))))))) → Int → Int → (List (Bool × (Bool × (List (Int × ((List (Int × Int)) × (Int × (Int × Int)))))))) → Int → (List (Int × Bool)) → Option R) → Option R
  | 0, _, _, _, _, _, _, _, _, _, _, _, _ => none
  | n + 1, x10, x11, x12, x13, x14, x15, x16, x17, x18, x19, ke2, kret => F.impl_RuleOK_l2_s N x10 x11 x12 x13 x14 x15 x16 x17 x18 x19 (fun x10 x11 x12 x13 x14 x15 x16 x17 x18 x19 => F.impl_RuleOK_l2 N n x10 x11 x12 x13 x14 x15 x16 x17 x18 x19 ke2 kret) ke2 kret
def F.impl_RuleOK_l0_s {R : Type} (N : Nat) (x3 : Int) (x4 : List (Bool × (Bool × (List (Int × ((List (Int × Int)) × (Int × (Int × Int)))))))) (x5 : Int) (x6 : Int) (x7 : List (Bool × (Bool × (List (Int × ((List (Int × Int)) × (Int × (Int × Int)))))))) (x8 : Int) (x9 : List (Int × Bool)) (next : Int → (List (Bool × (Bool × (List (Int × ((List (Int × Int)) × (Int × (Int × Int)))))))) → Int → Int → (List (Bool × (Bool × (List (Int × ((List (Int × Int)) × (Int × (Int × Int)))))))) → Int → (List (Int × Bool)) → Option R) (ke0 : (List (Bool × (Bool × (List (Int × ((List (Int × Int)) × (Int × (Int × Int)))))))) → Int → (List (Int × Bool)) → Option R) (kret : Bool → (List (Bool × (Bool × (List (Int × ((List (Int × Int)) × (Int × (Int × Int)))))))) → Int → (List (Int × Bool)) → Option R) : Option R :=
  bif decide (x6 < x5) then
    bif inB x6 (List.length x4) then
      bif decide ((wrapK .i64 (x3 + (List.length (((List.getD x4 (Int.toNat x6) (false, (false, ([] : List (Int × ((List (Int × Int)) × (Int × (Int × Int)))))))).2).2) : Int))) > 5000) then
        kret false x7 x8 x9
      else
        F.impl_RuleOK_l2 N N (wrapK .i64 (x3 + (List.length (((List.getD x4 (Int.toNat x6) (false, (false, ([] : List (Int × ((List (Int × Int)) × (Int × (Int × Int)))))))).2).2) : Int))) x4 x5 x6 (((List.getD x4 (Int.toNat x6) (false, (false, ([] : List (Int × ((List (Int × Int)) × (Int × (Int × Int)))))))).2).2) (List.length (((List.getD x4 (Int.toNat x6) (false, (false, ([] : List (Int × ((List (Int × Int)) × (Int × (Int × Int)))))))).2).2) : Int) 0 x7 x8 x9
          (fun y21 y22 y23 y24 y25 y26 y27 =>
            next y21 y22 y23 (wrapK .i64 (y24 + 1)) y25 y26 y27)
          (fun y28 y29 y30 y31 y32 y33 y34 y35 =>
            kret y28 y33 y34 y35)
    else
      none
  else
    ke0 x7 x8 x9
def F.impl_RuleOK_l0 {R : Type} (N : Nat) : Nat → Int → (List (Bool × (Bool × (List (Int × ((List (Int × Int)) × (Int × (Int × Int)))))))) → Int → Int → (List (Bool × (Bool × (List (Int × ((List (Int × Int)) × (Int × (Int × Int)))))))) → Int → (List (Int × Bool)) → ((List (Bool × (Bool × (List (Int × ((List (Int × Int)) × (Int × (Int × Int)))))))) → Int → (List (Int × Bool)) → Option R) → (Bool → (List (Bool × (Bool × (List (Int × ((List (Int × Int)) × (Int × (Int × Int)))))))) → Int → (List (Int × Bool)) → Option R) → Option R
  | 0, _, _, _, _, _, _, _, _, _ => none
  | n + 1, x3, x4, x5, x6, x7, x8, x9, ke0, kret => F.impl_RuleOK_l0_s N x3 x4 x5 x6 x7 x8 x9 (fun x3 x4 x5 x6 x7 x8 x9 => F.impl_RuleOK_l0 N n x3 x4 x5 x6 x7 x8 x9 ke0 kret) ke0 kret
def F.impl_RuleOK {R : Type} (N : Nat) (x1 : List (Bool × (Bool × (List (Int × ((List (Int × Int)) × (Int × (Int × Int)))))))) (x2 : Int) (k : Bool → Option R) : Option R :=
  bif decide ((List.length x1 : Int) < 1) then
    k false
  else
    bif decide ((List.length x1 : Int) > 2000) then
      k false
    else
      bif decide (x2 < 0) then
        k false
      else
        bif decide (x2 > 500) then
          k false
        else
          F.impl_RuleOK_l0 N N 0 x1 (List.length x1 : Int) 0 x1 x2 ([] : List (Int × Bool))
            (fun y36 y37 y38 =>
              F.impl_Rule_weigh N y36 y37 fun r39 r40 =>
              bif r40 then
                bif (List.length y38 : Int) == y37 then
                  k (decide (r39 ≤ 2000))
                else
                  k false
              else
                k false)
            (fun y41 y42 y43 y44 =>
              k y41)
/-! ### loop.example/s0007/impl.spanOk -/
def F.impl_spanOk {R : Type} (N : Nat) (x1 : List (Bool × (Bool × (List (Int × ((List (Int × Int)) × (Int × (Int × Int)))))))) (x2 : Int) (x3 : List UInt8) (x4 : Int) (x5 : Int) (k : Bool → Option R) : Option R :=
  F.impl_RuleOK N x1 x2 fun r6 =>
  bif r6 then
    bif decide ((List.length x3 : Int) ≤ 4096) then
      bif decide (0 ≤ x4) then
        bif decide (x4 ≤ x5) then
          k (decide (x5 ≤ (List.length x3 : Int)))
        else
          k false
      else
        k false
    else
      k false
  else
    k false
/-! ### (loop.example/s0007/impl.Branch).stands -/
def F.impl_Branch_stands {R : Type} (x1 : Bool) (x2 : Bool) (x3 : List (Int × ((List (Int × Int)) × (Int × (Int × Int))))) (x4 : List UInt8) (x5 : Int) (x6 : Int) (x7 : Bool) (k : Bool → Option R) : Option R :=
  bif !x1 then
    bif !x2 then
      k true
    else
      bif x7 then
        k (x6 == (List.length x4 : Int))
      else
        k false
  else
    bif x5 == 0 then
      bif !x2 then
        k true
      else
        bif x7 then
          k (x6 == (List.length x4 : Int))
        else
          k false
    else
      k false
/-! ### (*loop.example/s0007/impl.marks).add -/
def F.impl_marks_add_l0_s {R : Type} (N : Nat) (x4 : Int) (x5 : Int) (x6 : List Bool) (next : Int → Int → (List Bool) → Option R) (ke0 : (List Bool) → Option R) : Option R :=
  bif decide (x5 ≤ x4) then
    bif inB x5 256 then
      next x4 (wrapK .i64 (x5 + 1)) (List.set x6 (Int.toNat x5) true)
    else
      none
  else
    ke0 x6
def F.impl_marks_add_l0 {R : Type} (N : Nat) : Nat → Int → Int → (List Bool) → ((List Bool) → Option R) → Option R
  | 0, _, _, _, _ => none
  | n + 1, x4, x5, x6, ke0 => F.impl_marks_add_l0_s N x4 x5 x6 (fun x4 x5 x6 => F.impl_marks_add_l0 N n x4 x5 x6 ke0) ke0
def F.impl_marks_add {R : Type} (N : Nat) (x1 : Int) (x2 : Int) (x3 : List Bool) (k : (List Bool) → Option R) : Option R :=
  F.impl_marks_add_l0 N N x2 x1 x3
    (fun y7 =>
      k y7)
/-! ### (loop.example/s0007/impl.Branch).lift -/
def F.impl_Branch_lift_l3_s {R : Type} (N : Nat) (x8 : List (Int × ((List (Int × Int)) × (Int × (Int × Int))))) (x9 : Int) (x10 : Int) (x11 : List (Int × Int)) (x12 : Int) (x13 : Int) (x14 : List Tr) (x15 : List Bool) (next : (List (Int × ((List (Int × Int)) × (Int × (Int × Int))))) → Int → Int → (List (Int × Int)) → Int → Int → (List Tr) → (List Bool) → Option R) (ke3 : (List (Int × ((List (Int × Int)) × (Int × (Int × Int))))) → Int → Int → (List Tr) → (List Bool) → Option R) : Option R :=
  bif decide (x13 < x12) then
    bif inB x13 (List.length x11) then
      F.impl_marks_add N ((List.getD x11 (Int.toNat x13) ((0 : Int), (0 : Int))).1) ((List.getD x11 (Int.toNat x13) ((0 : Int), (0 : Int))).2) x15 fun r16 =>
      next x8 x9 x10 x11 x12 (wrapK .i64 (x13 + 1)) x14 r16
    else
      none
  else
    ke3 x8 x9 x10 x14 x15
def F.impl_Branch_lift_l3 {R : Type} (N : Nat) : Nat → (List (Int × ((List (Int × Int)) × (Int × (Int × Int))))) → Int → Int → (List (Int × Int)) → Int → Int → (List Tr) → (List Bool) → ((List (Int × ((List (Int × Int)) × (Int × (Int × Int))))) → Int → Int → (List Tr) → (List Bool) → Option R) → Option R
  | 0, _, _, _, _, _, _, _, _, _ => none
  | n + 1, x8, x9, x10, x11, x12, x13, x14, x15, ke3 => F.impl_Branch_lift_l3_s N x8 x9 x10 x11 x12 x13 x14 x15 (fun x8 x9 x10 x11 x12 x13 x14 x15 => F.impl_Branch_lift_l3 N n x8 x9 x10 x11 x12 x13 x14 x15 ke3) ke3
def F.impl_Branch_lift_l0_s {R : Type} (N : Nat) (x4 : List (Int × ((List (Int × Int)) × (Int × (Int × Int))))) (x5 : Int) (x6 : Int) (x7 : List Tr) (next : (List (Int × ((List (Int × Int)) × (Int × (Int × Int))))) → Int → Int → (List Tr) → Option R) (ke0 : (List Tr) → Option R) : Option R :=
  bif decide (x6 < x5) then
    bif inB x6 (List.length x4) then
      bif ((List.getD x4 (Int.toNat x6) ((0 : Int), (([] : List (Int × Int)), ((0 : Int), ((0 : Int), (0 : Int)))))).1) == 1 then
        F.impl_Branch_lift_l3 N N x4 x5 x6 (((List.getD x4 (Int.toNat x6) ((0 : Int), (([] : List (Int × Int)), ((0 : Int), ((0 : Int), (0 : Int)))))).2).1) (List.length (((List.getD x4 (Int.toNat x6) ((0 : Int), (([] : List (Int × Int)), ((0 : Int), ((0 : Int), (0 : Int)))))).2).1) : Int) 0 x7 (List.replicate 256 false)
          (fun y17 y18 y19 y20 y21 =>
            bif Nat.ble (List.length y20 + List.length [Tr.nd 0 101 y21 0 0 .nil .nil]) (bigOf 16) then
              next y17 y18 (wrapK .i64 (y19 + 1)) (y20 ++ [Tr.nd 0 101 y21 0 0 .nil .nil])
            else
              none)
      else
        bif ((List.getD x4 (Int.toNat x6) ((0 : Int), (([] : List (Int × Int)), ((0 : Int), ((0 : Int), (0 : Int)))))).1) == 2 then
          bif decide (0 ≤ (wrapK .i64 ((List.length x7 : Int) - 2))) && decide ((wrapK .i64 ((List.length x7 : Int) - 2)) ≤ (List.length x7 : Int)) then
            bif inB (wrapK .i64 ((List.length x7 : Int) - 2)) (List.length x7) then
              bif inB (wrapK .i64 ((List.length x7 : Int) - 1)) (List.length x7) then
                bif Nat.ble (List.length (List.take ((Int.toNat (wrapK .i64 ((List.length x7 : Int) - 2))) - 0) (List.drop 0 x7)) + List.length [Tr.nd 1 109 [] 0 0 (List.getD x7 (Int.toNat (wrapK .i64 ((List.length x7 : Int) - 2))) Tr.nil) (List.getD x7 (Int.toNat (wrapK .i64 ((List.length x7 : Int) - 1))) Tr.nil)]) (bigOf 16) then
                  next x4 x5 (wrapK .i64 (x6 + 1)) ((List.take ((Int.toNat (wrapK .i64 ((List.length x7 : Int) - 2))) - 0) (List.drop 0 x7)) ++ [Tr.nd 1 109 [] 0 0 (List.getD x7 (Int.toNat (wrapK .i64 ((List.length x7 : Int) - 2))) Tr.nil) (List.getD x7 (Int.toNat (wrapK .i64 ((List.length x7 : Int) - 1))) Tr.nil)])
                else
                  none
              else
                none
            else
              none
          else
            none
        else
          bif ((List.getD x4 (Int.toNat x6) ((0 : Int), (([] : List (Int × Int)), ((0 : Int), ((0 : Int), (0 : Int)))))).1) == 3 then
            bif decide (0 ≤ (wrapK .i64 ((List.length x7 : Int) - 2))) && decide ((wrapK .i64 ((List.length x7 : Int) - 2)) ≤ (List.length x7 : Int)) then
              bif inB (wrapK .i64 ((List.length x7 : Int) - 2)) (List.length x7) then
                bif inB (wrapK .i64 ((List.length x7 : Int) - 1)) (List.length x7) then
                  bif Nat.ble (List.length (List.take ((Int.toNat (wrapK .i64 ((List.length x7 : Int) - 2))) - 0) (List.drop 0 x7)) + List.length [Tr.nd 1 112 [] 0 0 (List.getD x7 (Int.toNat (wrapK .i64 ((List.length x7 : Int) - 2))) Tr.nil) (List.getD x7 (Int.toNat (wrapK .i64 ((List.length x7 : Int) - 1))) Tr.nil)]) (bigOf 16) then
                    next x4 x5 (wrapK .i64 (x6 + 1)) ((List.take ((Int.toNat (wrapK .i64 ((List.length x7 : Int) - 2))) - 0) (List.drop 0 x7)) ++ [Tr.nd 1 112 [] 0 0 (List.getD x7 (Int.toNat (wrapK .i64 ((List.length x7 : Int) - 2))) Tr.nil) (List.getD x7 (Int.toNat (wrapK .i64 ((List.length x7 : Int) - 1))) Tr.nil)])
                  else
                    none
                else
                  none
              else
                none
            else
              none
          else
            bif ((List.getD x4 (Int.toNat x6) ((0 : Int), (([] : List (Int × Int)), ((0 : Int), ((0 : Int), (0 : Int)))))).1) == 4 then
              bif inB (wrapK .i64 ((List.length x7 : Int) - 1)) (List.length x7) then
                bif inB (wrapK .i64 ((List.length x7 : Int) - 1)) (List.length x7) then
                  next x4 x5 (wrapK .i64 (x6 + 1)) (List.set x7 (Int.toNat (wrapK .i64 ((List.length x7 : Int) - 1))) (Tr.nd 3 114 [] ((((List.getD x4 (Int.toNat x6) ((0 : Int), (([] : List (Int × Int)), ((0 : Int), ((0 : Int), (0 : Int)))))).2).2).1) (((((List.getD x4 (Int.toNat x6) ((0 : Int), (([] : List (Int × Int)), ((0 : Int), ((0 : Int), (0 : Int)))))).2).2).2).1) (List.getD x7 (Int.toNat (wrapK .i64 ((List.length x7 : Int) - 1))) Tr.nil) .nil))
                else
                  none
              else
                none
            else
              bif ((List.getD x4 (Int.toNat x6) ((0 : Int), (([] : List (Int × Int)), ((0 : Int), ((0 : Int), (0 : Int)))))).1) == 5 then
                bif inB (wrapK .i64 ((List.length x7 : Int) - 1)) (List.length x7) then
                  bif inB (wrapK .i64 ((List.length x7 : Int) - 1)) (List.length x7) then
                    next x4 x5 (wrapK .i64 (x6 + 1)) (List.set x7 (Int.toNat (wrapK .i64 ((List.length x7 : Int) - 1))) (Tr.nd 2 117 [] (((((List.getD x4 (Int.toNat x6) ((0 : Int), (([] : List (Int × Int)), ((0 : Int), ((0 : Int), (0 : Int)))))).2).2).2).2) 0 (List.getD x7 (Int.toNat (wrapK .i64 ((List.length x7 : Int) - 1))) Tr.nil) .nil))
                  else
                    none
                else
                  none
              else
                next x4 x5 (wrapK .i64 (x6 + 1)) x7
    else
      none
  else
    ke0 x7
def F.impl_Branch_lift_l0 {R : Type} (N : Nat) : Nat → (List (Int × ((List (Int × Int)) × (Int × (Int × Int))))) → Int → Int → (List Tr) → ((List Tr) → Option R) → Option R
  | 0, _, _, _, _, _ => none
  | n + 1, x4, x5, x6, x7, ke0 => F.impl_Branch_lift_l0_s N x4 x5 x6 x7 (fun x4 x5 x6 x7 => F.impl_Branch_lift_l0 N n x4 x5 x6 x7 ke0) ke0
def F.impl_Branch_lift {R : Type} (N : Nat) (x1 : Bool) (x2 : Bool) (x3 : List (Int × ((List (Int × Int)) × (Int × (Int × Int))))) (k : Tr → Option R) : Option R :=
  F.impl_Branch_lift_l0 N N x3 (List.length x3 : Int) 0 ([] : List Tr)
    (fun y22 =>
      bif inB 0 (List.length y22) then
        k (List.getD y22 (Int.toNat 0) Tr.nil)
      else
        none)
/-! ### loop.example/s0007/impl.at -/
def F.impl_at {R : Type} (x1 : Int) (x2 : Int) (k : (List Bool) → Option R) : Option R :=
  bif decide (0 ≤ (wrapK .i64 (x1 + 1))) then
    bif Nat.ble (Int.toNat (wrapK .i64 (x1 + 1))) (bigOf 1) then
      bif inB x2 (List.length (List.replicate (Int.toNat (wrapK .i64 (x1 + 1))) false)) then
        k (List.set (List.replicate (Int.toNat (wrapK .i64 (x1 + 1))) false) (Int.toNat x2) true)
      else
        none
    else
      none
  else
    none
/-! ### (loop.example/s0007/impl.spots).join -/
def F.impl_spots_join_l0_s {R : Type} (N : Nat) (x3 : List Bool) (x4 : Int) (x5 : Int) (x6 : List Bool) (next : (List Bool) → Int → Int → (List Bool) → Option R) (ke0 : (List Bool) → Option R) : Option R :=
  bif decide (x5 < x4) then
    bif inB x5 (List.length x3) then
      bif inB x5 (List.length x6) then
        bif List.getD x6 (Int.toNat x5) false then
          bif inB x5 (List.length x6) then
            next x3 x4 (wrapK .i64 (x5 + 1)) (List.set x6 (Int.toNat x5) true)
          else
            none
        else
          bif inB x5 (List.length x6) then
            next x3 x4 (wrapK .i64 (x5 + 1)) (List.set x6 (Int.toNat x5) (List.getD x3 (Int.toNat x5) false))
          else
            none
      else
        none
    else
      none
  else
    ke0 x6
def F.impl_spots_join_l0 {R : Type} (N : Nat) : Nat → (List Bool) → Int → Int → (List Bool) → ((List Bool) → Option R) → Option R
  | 0, _, _, _, _, _ => none
  | n + 1, x3, x4, x5, x6, ke0 => F.impl_spots_join_l0_s N x3 x4 x5 x6 (fun x3 x4 x5 x6 => F.impl_spots_join_l0 N n x3 x4 x5 x6 ke0) ke0
def F.impl_spots_join {R : Type} (N : Nat) (x1 : List Bool) (x2 : List Bool) (k : (List Bool) → Option R) : Option R :=
  F.impl_spots_join_l0 N N x1 (List.length x1 : Int) 0 x2
    (fun y7 =>
      k y7)
/-! ### (loop.example/s0007/impl.spots).copied -/
def F.impl_spots_copied {R : Type} (x1 : List Bool) (k : (List Bool) → Option R) : Option R :=
  bif Nat.ble (List.length ([] : List Bool) + List.length x1) (bigOf 1) then
    k (([] : List Bool) ++ x1)
  else
    none
/-! ### (loop.example/s0007/impl.spots).less -/
def F.impl_spots_less_l0_s {R : Type} (N : Nat) (x3 : Bool) (x4 : List Bool) (x5 : Int) (x6 : Int) (x7 : List Bool) (next : Bool → (List Bool) → Int → Int → (List Bool) → Option R) (ke0 : Bool → (List Bool) → Option R) : Option R :=
  bif decide (x6 < x5) then
    bif inB x6 (List.length x4) then
      bif inB x6 (List.length x7) then
        bif List.getD x7 (Int.toNat x6) false then
          bif inB x6 (List.length x7) then
            bif x3 then
              next true x4 x5 (wrapK .i64 (x6 + 1)) (List.set x7 (Int.toNat x6) (!(List.getD x4 (Int.toNat x6) false)))
            else
              bif inB x6 (List.length (List.set x7 (Int.toNat x6) (!(List.getD x4 (Int.toNat x6) false)))) then
                next (List.getD (List.set x7 (Int.toNat x6) (!(List.getD x4 (Int.toNat x6) false))) (Int.toNat x6) false) x4 x5 (wrapK .i64 (x6 + 1)) (List.set x7 (Int.toNat x6) (!(List.getD x4 (Int.toNat x6) false)))
              else
                none
          else
            none
        else
          bif inB x6 (List.length x7) then
            bif x3 then
              next true x4 x5 (wrapK .i64 (x6 + 1)) (List.set x7 (Int.toNat x6) false)
            else
              bif inB x6 (List.length (List.set x7 (Int.toNat x6) false)) then
                next (List.getD (List.set x7 (Int.toNat x6) false) (Int.toNat x6) false) x4 x5 (wrapK .i64 (x6 + 1)) (List.set x7 (Int.toNat x6) false)
              else
                none
          else
            none
      else
        none
    else
      none
  else
    ke0 x3 x7
def F.impl_spots_less_l0 {R : Type} (N : Nat) : Nat → Bool → (List Bool) → Int → Int → (List Bool) → (Bool → (List Bool) → Option R) → Option R
  | 0, _, _, _, _, _, _ => none
  | n + 1, x3, x4, x5, x6, x7, ke0 => F.impl_spots_less_l0_s N x3 x4 x5 x6 x7 (fun x3 x4 x5 x6 x7 => F.impl_spots_less_l0 N n x3 x4 x5 x6 x7 ke0) ke0
def F.impl_spots_less {R : Type} (N : Nat) (x1 : List Bool) (x2 : List Bool) (k : Bool → (List Bool) → Option R) : Option R :=
  F.impl_spots_less_l0 N N false x1 (List.length x1 : Int) 0 x2
    (fun y8 y9 =>
      k y8 y9)
/-! ### (*loop.example/s0007/impl.repPart).walk -/
def F.impl_repPart_walk_l0_s {R : Type} (N : Nat) (rw_impl_walk_v1 : Tr → (List UInt8) → (List Bool) → Bool → ((List Bool) → Option R) → Option R) (x7 : Tr) (x8 : Int) (x9 : Int) (x10 : List UInt8) (x11 : Bool) (x12 : List Bool) (x13 : Int) (x14 : Int) (next : Tr → Int → Int → (List UInt8) → Bool → (List Bool) → Int → Int → Option R) (ke0 : Tr → Int → Int → (List UInt8) → Bool → (List Bool) → Option R) : Option R :=
  bif decide (x14 < x13) then
    rw_impl_walk_v1 x7 x10 x12 x11 fun r15 =>
    next x7 x8 x9 x10 x11 r15 x13 (wrapK .i64 (x14 + 1))
  else
    ke0 x7 x8 x9 x10 x11 x12
def F.impl_repPart_walk_l0 {R : Type} (N : Nat) (rw_impl_walk_v1 : Tr → (List UInt8) → (List Bool) → Bool → ((List Bool) → Option R) → Option R) : Nat → Tr → Int → Int → (List UInt8) → Bool → (List Bool) → Int → Int → (Tr → Int → Int → (List UInt8) → Bool → (List Bool) → Option R) → Option R
  | 0, _, _, _, _, _, _, _, _, _ => none
  | n + 1, x7, x8, x9, x10, x11, x12, x13, x14, ke0 => F.impl_repPart_walk_l0_s N rw_impl_walk_v1 x7 x8 x9 x10 x11 x12 x13 x14 (fun x7 x8 x9 x10 x11 x12 x13 x14 => F.impl_repPart_walk_l0 N rw_impl_walk_v1 n x7 x8 x9 x10 x11 x12 x13 x14 ke0) ke0
def F.impl_repPart_walk_l2_s {R : Type} (N : Nat) (rw_impl_walk_v1 : Tr → (List UInt8) → (List Bool) → Bool → ((List Bool) → Option R) → Option R) (x23 : Tr) (x24 : Int) (x25 : Int) (x26 : List UInt8) (x27 : Bool) (x28 : List Bool) (x29 : Int) (x30 : List Bool) (next : Tr → Int → Int → (List UInt8) → Bool → (List Bool) → Int → (List Bool) → Option R) (ke2 : (List Bool) → Option R) : Option R :=
  bif x25 == (-1) then
    rw_impl_walk_v1 x23 x26 x28 x27 fun r31 =>
    F.impl_spots_less N x30 r31 fun r32 r33 =>
    bif !r32 then
      ke2 x30
    else
      F.impl_spots_join N r33 x30 fun r34 =>
      next x23 x24 x25 x26 x27 r33 (wrapK .i64 (x29 + 1)) r34
  else
    bif decide (x29 < x25) then
      rw_impl_walk_v1 x23 x26 x28 x27 fun r35 =>
      F.impl_spots_less N x30 r35 fun r36 r37 =>
      bif !r36 then
        ke2 x30
      else
        F.impl_spots_join N r37 x30 fun r38 =>
        next x23 x24 x25 x26 x27 r37 (wrapK .i64 (x29 + 1)) r38
    else
      ke2 x30
def F.impl_repPart_walk_l2 {R : Type} (N : Nat) (rw_impl_walk_v1 : Tr → (List UInt8) → (List Bool) → Bool → ((List Bool) → Option R) → Option R) : Nat → Tr → Int → Int → (List UInt8) → Bool → (List Bool) → Int → (List Bool) → ((List Bool) → Option R) → Option R
  | 0, _, _, _, _, _, _, _, _, _ => none
  | n + 1, x23, x24, x25, x26, x27, x28, x29, x30, ke2 => F.impl_repPart_walk_l2_s N rw_impl_walk_v1 x23 x24 x25 x26 x27 x28 x29 x30 (fun x23 x24 x25 x26 x27 x28 x29 x30 => F.impl_repPart_walk_l2 N rw_impl_walk_v1 n x23 x24 x25 x26 x27 x28 x29 x30 ke2) ke2
def F.impl_repPart_walk {R : Type} (N : Nat) (rw_impl_walk_v1 : Tr → (List UInt8) → (List Bool) → Bool → ((List Bool) → Option R) → Option R) (x1 : Tr) (x2 : Int) (x3 : Int) (x4 : List UInt8) (x5 : List Bool) (x6 : Bool) (k : (List Bool) → Option R) : Option R :=
  F.impl_repPart_walk_l0 N rw_impl_walk_v1 N x1 x2 x3 x4 x6 x5 x2 0
    (fun y16 y17 y18 y19 y20 y21 =>
      F.impl_spots_copied y21 fun r22 =>
      F.impl_repPart_walk_l2 N rw_impl_walk_v1 N y16 y17 y18 y19 y20 y21 y17 r22
        (fun y39 =>
          k y39))
/-! ### loop.example/s0007/impl.walk -/
def F.impl_walk_v1_l1_s {R : Type} (N : Nat) (rw_impl_walk : Tr → (List UInt8) → (List Bool) → Bool → ((List Bool) → Option R) → Option R) (rw_impl_walk_v1 : Tr → (List UInt8) → (List Bool) → Bool → ((List Bool) → Option R) → Option R) (x5 : List UInt8) (x6 : List Bool) (x7 : Bool) (x8 : List Bool) (x9 : Int) (x10 : Int) (x11 : List Bool) (next : (List UInt8) → (List Bool) → Bool → (List Bool) → Int → Int → (List Bool) → Option R) (ke1 : (List Bool) → Option R) : Option R :=
  bif decide (x10 < x9) then
    bif inB x10 (List.length x5) then
      bif inB (byteAt x5 x10) 256 then
        bif List.getD x8 (Int.toNat (byteAt x5 x10)) false then
          bif x7 then
            bif inB (wrapK .i64 (x10 + 1)) (List.length x6) then
              bif inB x10 (List.length x11) then
                next x5 x6 x7 x8 x9 (wrapK .i64 (x10 + 1)) (List.set x11 (Int.toNat x10) (List.getD x6 (Int.toNat (wrapK .i64 (x10 + 1))) false))
              else
                none
            else
              none
          else
            bif inB x10 (List.length x6) then
              bif inB (wrapK .i64 (x10 + 1)) (List.length x11) then
                next x5 x6 x7 x8 x9 (wrapK .i64 (x10 + 1)) (List.set x11 (Int.toNat (wrapK .i64 (x10 + 1))) (List.getD x6 (Int.toNat x10) false))
              else
                none
            else
              none
        else
          next x5 x6 x7 x8 x9 (wrapK .i64 (x10 + 1)) x11
      else
        none
    else
      none
  else
    ke1 x11
def F.impl_walk_v1_l1 {R : Type} (N : Nat) (rw_impl_walk : Tr → (List UInt8) → (List Bool) → Bool → ((List Bool) → Option R) → Option R) (rw_impl_walk_v1 : Tr → (List UInt8) → (List Bool) → Bool → ((List Bool) → Option R) → Option R) : Nat → (List UInt8) → (List Bool) → Bool → (List Bool) → Int → Int → (List Bool) → ((List Bool) → Option R) → Option R
  | 0, _, _, _, _, _, _, _, _ => none
  | n + 1, x5, x6, x7, x8, x9, x10, x11, ke1 => F.impl_walk_v1_l1_s N rw_impl_walk rw_impl_walk_v1 x5 x6 x7 x8 x9 x10 x11 (fun x5 x6 x7 x8 x9 x10 x11 => F.impl_walk_v1_l1 N rw_impl_walk rw_impl_walk_v1 n x5 x6 x7 x8 x9 x10 x11 ke1) ke1
def F.impl_walk_v1_s {R : Type} (N : Nat) (rw_impl_walk : Tr → (List UInt8) → (List Bool) → Bool → ((List Bool) → Option R) → Option R) (rw_impl_walk_v1 : Tr → (List UInt8) → (List Bool) → Bool → ((List Bool) → Option R) → Option R) (x1 : Tr) (x2 : List UInt8) (x3 : List Bool) (x4 : Bool) (k : (List Bool) → Option R) : Option R :=
  bif Tr.is 101 x1 then
    bif Nat.beq (Tr.lay x1) 0 then
      bif decide (0 ≤ (List.length x3 : Int)) then
        bif Nat.ble (Int.toNat (List.length x3 : Int)) (bigOf 1) then
          F.impl_walk_v1_l1 N rw_impl_walk rw_impl_walk_v1 N x2 x3 x4 (Tr.bs x1) (List.length x2 : Int) 0 (List.replicate (Int.toNat (List.length x3 : Int)) false)
            (fun y12 =>
              k y12)
        else
          none
      else
        none
    else
      none
  else
    bif Tr.is 109 x1 then
      bif Nat.beq (Tr.lay x1) 1 then
        bif x4 then
          rw_impl_walk_v1 (Tr.r x1) x2 x3 x4 fun r13 =>
          rw_impl_walk (Tr.l x1) x2 r13 x4 fun r14 =>
          k r14
        else
          rw_impl_walk_v1 (Tr.l x1) x2 x3 x4 fun r15 =>
          rw_impl_walk (Tr.r x1) x2 r15 x4 fun r16 =>
          k r16
      else
        none
    else
      bif Tr.is 112 x1 then
        bif Nat.beq (Tr.lay x1) 1 then
          rw_impl_walk_v1 (Tr.l x1) x2 x3 x4 fun r17 =>
          rw_impl_walk_v1 (Tr.r x1) x2 x3 x4 fun r18 =>
          F.impl_spots_join N r18 r17 fun r19 =>
          k r19
        else
          none
      else
        bif Tr.is 117 x1 then
          bif Nat.beq (Tr.lay x1) 2 then
            rw_impl_walk_v1 (Tr.l x1) x2 x3 x4 fun r20 =>
            k r20
          else
            none
        else
          bif Tr.is 114 x1 then
            bif Nat.beq (Tr.lay x1) 3 then
              F.impl_repPart_walk N rw_impl_walk_v1 (Tr.l x1) (Tr.i x1) (Tr.j x1) x2 x3 x4 fun r21 =>
              k r21
            else
              none
          else
            k ([] : List Bool)
def F.impl_walk_v1 {R : Type} (N : Nat) (rw_impl_walk : Tr → (List UInt8) → (List Bool) → Bool → ((List Bool) → Option R) → Option R) : Nat → Tr → (List UInt8) → (List Bool) → Bool → ((List Bool) → Option R) → Option R
  | 0, _, _, _, _, _ => none
  | n + 1, x1, x2, x3, x4, k => F.impl_walk_v1_s N rw_impl_walk (F.impl_walk_v1 N rw_impl_walk n) x1 x2 x3 x4 k
/-! ### loop.example/s0007/impl.walk -/
def F.impl_walk_l1_s {R : Type} (N : Nat) (rw_impl_walk : Tr → (List UInt8) → (List Bool) → Bool → ((List Bool) → Option R) → Option R) (x5 : List UInt8) (x6 : List Bool) (x7 : Bool) (x8 : List Bool) (x9 : Int) (x10 : Int) (x11 : List Bool) (next : (List UInt8) → (List Bool) → Bool → (List Bool) → Int → Int → (List Bool) → Option R) (ke1 : (List Bool) → Option R) : Option R :=
  bif decide (x10 < x9) then
    bif inB x10 (List.length x5) then
      bif inB (byteAt x5 x10) 256 then
        bif List.getD x8 (Int.toNat (byteAt x5 x10)) false then
          bif x7 then
            bif inB (wrapK .i64 (x10 + 1)) (List.length x6) then
              bif inB x10 (List.length x11) then
                next x5 x6 x7 x8 x9 (wrapK .i64 (x10 + 1)) (List.set x11 (Int.toNat x10) (List.getD x6 (Int.toNat (wrapK .i64 (x10 + 1))) false))
              else
                none
            else
              none
          else
            bif inB x10 (List.length x6) then
              bif inB (wrapK .i64 (x10 + 1)) (List.length x11) then
                next x5 x6 x7 x8 x9 (wrapK .i64 (x10 + 1)) (List.set x11 (Int.toNat (wrapK .i64 (x10 + 1))) (List.getD x6 (Int.toNat x10) false))
              else
                none
            else
              none
        else
          next x5 x6 x7 x8 x9 (wrapK .i64 (x10 + 1)) x11
      else
        none
    else
      none
  else
    ke1 x11
def F.impl_walk_l1 {R : Type} (N : Nat) (rw_impl_walk : Tr → (List UInt8) → (List Bool) → Bool → ((List Bool) → Option R) → Option R) : Nat → (List UInt8) → (List Bool) → Bool → (List Bool) → Int → Int → (List Bool) → ((List Bool) → Option R) → Option R
  | 0, _, _, _, _, _, _, _, _ => none
  | n + 1, x5, x6, x7, x8, x9, x10, x11, ke1 => F.impl_walk_l1_s N rw_impl_walk x5 x6 x7 x8 x9 x10 x11 (fun x5 x6 x7 x8 x9 x10 x11 => F.impl_walk_l1 N rw_impl_walk n x5 x6 x7 x8 x9 x10 x11 ke1) ke1
def F.impl_walk_s {R : Type} (N : Nat) (rw_impl_walk : Tr → (List UInt8) → (List Bool) → Bool → ((List Bool) → Option R) → Option R) (x1 : Tr) (x2 : List UInt8) (x3 : List Bool) (x4 : Bool) (k : (List Bool) → Option R) : Option R :=
  bif Tr.is 101 x1 then
    bif Nat.beq (Tr.lay x1) 0 then
      bif decide (0 ≤ (List.length x3 : Int)) then
        bif Nat.ble (Int.toNat (List.length x3 : Int)) (bigOf 1) then
          F.impl_walk_l1 N rw_impl_walk N x2 x3 x4 (Tr.bs x1) (List.length x2 : Int) 0 (List.replicate (Int.toNat (List.length x3 : Int)) false)
            (fun y12 =>
              k y12)
        else
          none
      else
        none
    else
      none
  else
    bif Tr.is 109 x1 then
      bif Nat.beq (Tr.lay x1) 1 then
        bif x4 then
          F.impl_walk_v1 N rw_impl_walk N (Tr.r x1) x2 x3 x4 fun r13 =>
          rw_impl_walk (Tr.l x1) x2 r13 x4 fun r14 =>
          k r14
        else
          F.impl_walk_v1 N rw_impl_walk N (Tr.l x1) x2 x3 x4 fun r15 =>
          rw_impl_walk (Tr.r x1) x2 r15 x4 fun r16 =>
          k r16
      else
        none
    else
      bif Tr.is 112 x1 then
        bif Nat.beq (Tr.lay x1) 1 then
          F.impl_walk_v1 N rw_impl_walk N (Tr.l x1) x2 x3 x4 fun r17 =>
          F.impl_walk_v1 N rw_impl_walk N (Tr.r x1) x2 x3 x4 fun r18 =>
          F.impl_spots_join N r18 r17 fun r19 =>
          k r19
        else
          none
      else
        bif Tr.is 117 x1 then
          bif Nat.beq (Tr.lay x1) 2 then
            F.impl_walk_v1 N rw_impl_walk N (Tr.l x1) x2 x3 x4 fun r20 =>
            k r20
          else
            none
        else
          bif Tr.is 114 x1 then
            bif Nat.beq (Tr.lay x1) 3 then
              F.impl_repPart_walk N (F.impl_walk_v1 N rw_impl_walk N) (Tr.l x1) (Tr.i x1) (Tr.j x1) x2 x3 x4 fun r21 =>
              k r21
            else
              none
          else
            k ([] : List Bool)
def F.impl_walk {R : Type} (N : Nat) : Nat → Tr → (List UInt8) → (List Bool) → Bool → ((List Bool) → Option R) → Option R
  | 0, _, _, _, _, _ => none
  | n + 1, x1, x2, x3, x4, k => F.impl_walk_s N (F.impl_walk N n) x1 x2 x3 x4 k
/-! ### loop.example/s0007/impl.branchOf -/
def F.impl_branchOf_l0_s {R : Type} (N : Nat) (x7 : List UInt8) (x8 : Int) (x9 : Int) (x10 : Bool) (x11 : List (Bool × (Bool × (List (Int × ((List (Int × Int)) × (Int × (Int × Int)))))))) (x12 : Int) (x13 : Int) (next : (List UInt8) → Int → Int → Bool → (List (Bool × (Bool × (List (Int × ((List (Int × Int)) × (Int × (Int × Int)))))))) → Int → Int → Option R) (ke0 : Unit → Option R) (kret : Tr → Option R) : Option R :=
  bif decide (x13 < x12) then
    bif inB x13 (List.length x11) then
      F.impl_Branch_stands ((List.getD x11 (Int.toNat x13) (false, (false, ([] : List (Int × ((List (Int × Int)) × (Int × (Int × Int)))))))).1) (((List.getD x11 (Int.toNat x13) (false, (false, ([] : List (Int × ((List (Int × Int)) × (Int × (Int × Int)))))))).2).1) (((List.getD x11 (Int.toNat x13) (false, (false, ([] : List (Int × ((List (Int × Int)) × (Int × (Int × Int)))))))).2).2) x7 x8 x9 x10 fun r14 =>
      bif r14 then
        F.impl_Branch_lift N ((List.getD x11 (Int.toNat x13) (false, (false, ([] : List (Int × ((List (Int × Int)) × (Int × (Int × Int)))))))).1) (((List.getD x11 (Int.toNat x13) (false, (false, ([] : List (Int × ((List (Int × Int)) × (Int × (Int × Int)))))))).2).1) (((List.getD x11 (Int.toNat x13) (false, (false, ([] : List (Int × ((List (Int × Int)) × (Int × (Int × Int)))))))).2).2) fun r15 =>
        bif decide (0 ≤ x9) && decide (x9 ≤ (List.length x7 : Int)) then
          bif decide (0 ≤ x8) && decide (x8 ≤ x9) then
            F.impl_at (wrapK .i64 (x9 - x8)) 0 fun r16 =>
            F.impl_walk N N r15 (List.drop (Int.toNat x8) (List.take (Int.toNat x9) x7)) r16 false fun r17 =>
            bif inB (wrapK .i64 (x9 - x8)) (List.length r17) then
              bif List.getD r17 (Int.toNat (wrapK .i64 (x9 - x8))) false then
                kret r15
              else
                next x7 x8 x9 x10 x11 x12 (wrapK .i64 (x13 + 1))
            else
              none
          else
            none
        else
          none
      else
        next x7 x8 x9 x10 x11 x12 (wrapK .i64 (x13 + 1))
    else
      none
  else
    ke0 ()
def F.impl_branchOf_l0 {R : Type} (N : Nat) : Nat → (List UInt8) → Int → Int → Bool → (List (Bool × (Bool × (List (Int × ((List (Int × Int)) × (Int × (Int × Int)))))))) → Int → Int → (Unit → Option R) → (Tr → Option R) → Option R
  | 0, _, _, _, _, _, _, _, _, _ => none
  | n + 1, x7, x8, x9, x10, x11, x12, x13, ke0, kret => F.impl_branchOf_l0_s N x7 x8 x9 x10 x11 x12 x13 (fun x7 x8 x9 x10 x11 x12 x13 => F.impl_branchOf_l0 N n x7 x8 x9 x10 x11 x12 x13 ke0 kret) ke0 kret
def F.impl_branchOf {R : Type} (N : Nat) (x1 : List (Bool × (Bool × (List (Int × ((List (Int × Int)) × (Int × (Int × Int)))))))) (x2 : Int) (x3 : List UInt8) (x4 : Int) (x5 : Int) (x6 : Bool) (k : Tr → Option R) : Option R :=
  F.impl_branchOf_l0 N N x3 x4 x5 x6 x1 (List.length x1 : Int) 0
    (fun _ =>
      k Tr.nil)
    (fun y18 =>
      k y18)
/-! ### loop.example/s0007/impl.MatchSpan -/
def F.impl_MatchSpan {R : Type} (N : Nat) (x1 : List (Bool × (Bool × (List (Int × ((List (Int × Int)) × (Int × (Int × Int)))))))) (x2 : Int) (x3 : List UInt8) (x4 : Int) (x5 : Int) (x6 : Bool) (k : Bool → Option R) : Option R :=
  F.impl_spanOk N x1 x2 x3 x4 x5 fun r7 =>
  bif r7 then
    F.impl_branchOf N x1 x2 x3 x4 x5 x6 fun r8 =>
    k (!(Tr.isNil r8))
  else
    k false
/-! ### loop.example/s0007/laws.eqRange -/
def F.laws_eqRange {R : Type} (x1 : Int) (x2 : Int) (x3 : Int) (x4 : Int) (k : Bool → Option R) : Option R :=
  bif x1 != x3 then
    k false
  else
    bif x2 != x4 then
      k false
    else
      k true
/-! ### loop.example/s0007/laws.eqRangeS -/
def F.laws_eqRangeS_l0_s {R : Type} (N : Nat) (x3 : List (Int × Int)) (x4 : List (Int × Int)) (x5 : Int) (next : (List (Int × Int)) → (List (Int × Int)) → Int → Option R) (ke0 : Unit → Option R) (kret : Bool → Option R) : Option R :=
  bif decide (x5 < (List.length x3 : Int)) then
    bif inB x5 (List.length x3) then
      bif inB x5 (List.length x4) then
        F.laws_eqRange ((List.getD x3 (Int.toNat x5) ((0 : Int), (0 : Int))).1) ((List.getD x3 (Int.toNat x5) ((0 : Int), (0 : Int))).2) ((List.getD x4 (Int.toNat x5) ((0 : Int), (0 : Int))).1) ((List.getD x4 (Int.toNat x5) ((0 : Int), (0 : Int))).2) fun r6 =>
        bif !r6 then
          kret false
        else
          next x3 x4 (wrapK .i64 (x5 + 1))
      else
        none
    else
      none
  else
    ke0 ()
def F.laws_eqRangeS_l0 {R : Type} (N : Nat) : Nat → (List (Int × Int)) → (List (Int × Int)) → Int → (Unit → Option R) → (Bool → Option R) → Option R
  | 0, _, _, _, _, _ => none
  | n + 1, x3, x4, x5, ke0, kret => F.laws_eqRangeS_l0_s N x3 x4 x5 (fun x3 x4 x5 => F.laws_eqRangeS_l0 N n x3 x4 x5 ke0 kret) ke0 kret
def F.laws_eqRangeS {R : Type} (N : Nat) (x1 : List (Int × Int)) (x2 : List (Int × Int)) (k : Bool → Option R) : Option R :=
  bif (List.length x1 : Int) != (List.length x2 : Int) then
    k false
  else
    F.laws_eqRangeS_l0 N N x1 x2 0
      (fun _ =>
        k true)
      (fun y7 =>
        k y7)
/-! ### loop.example/s0007/laws.eqNode -/
def F.laws_eqNode {R : Type} (N : Nat) (x1 : Int) (x2 : List (Int × Int)) (x3 : Int) (x4 : Int) (x5 : Int) (x6 : Int) (x7 : List (Int × Int)) (x8 : Int) (x9 : Int) (x10 : Int) (k : Bool → Option R) : Option R :=
  bif x1 != x6 then
    k false
  else
    F.laws_eqRangeS N x2 x7 fun r11 =>
    bif !r11 then
      k false
    else
      bif x3 != x8 then
        k false
      else
        bif x4 != x9 then
          k false
        else
          bif x5 != x10 then
            k false
          else
            k true
/-! ### loop.example/s0007/laws.eqNodeS -/
def F.laws_eqNodeS_l0_s {R : Type} (N : Nat) (x3 : List (Int × ((List (Int × Int)) × (Int × (Int × Int))))) (x4 : List (Int × ((List (Int × Int)) × (Int × (Int × Int))))) (x5 : Int) (next : (List (Int × ((List (Int × Int)) × (Int × (Int × Int))))) → (List (Int × ((List (Int × Int)) × (Int × (Int × Int))))) → Int → Option R) (ke0 : Unit → Option R) (kret : Bool → Option R) : Option R :=
  bif decide (x5 < (List.length x3 : Int)) then
    bif inB x5 (List.length x3) then
      bif inB x5 (List.length x4) then
        F.laws_eqNode N ((List.getD x3 (Int.toNat x5) ((0 : Int), (([] : List (Int × Int)), ((0 : Int), ((0 : Int), (0 : Int)))))).1) (((List.getD x3 (Int.toNat x5) ((0 : Int), (([] : List (Int × Int)), ((0 : Int), ((0 : Int), (0 : Int)))))).2).1) ((((List.getD x3 (Int.toNat x5) ((0 : Int), (([] : List (Int × Int)), ((0 : Int), ((0 : Int), (0 : Int)))))).2).2).1) (((((List.getD x3 (Int.toNat x5) ((0 : Int), (([] : List (Int × Int)), ((0 : Int), ((0 : Int), (0 : Int)))))).2).2).2).1) (((((List.getD x3 (Int.toNat x5) ((0 : Int), (([] : List (Int × Int)), ((0 : Int), ((0 : Int), (0 : Int)))))).2).2).2).2) ((List.getD x4 (Int.toNat x5) ((0 : Int), (([] : List (Int × Int)), ((0 : Int), ((0 : Int), (0 : Int)))))).1) (((List.getD x4 (Int.toNat x5) ((0 : Int), (([] : List (Int × Int)), ((0 : Int), ((0 : Int), (0 : Int)))))).2).1) ((((List.getD x4 (Int.toNat x5) ((0 : Int), (([] : List (Int × Int)), ((0 : Int), ((0 : Int), (0 : Int)))))).2).2).1) (((((List.getD x4 (Int.toNat x5) ((0 : Int), (([] : List (Int × Int)), ((0 : Int), ((0 : Int), (0 : Int)))))).2).2).2).1) (((((List.getD x4 (Int.toNat x5) ((0 : Int), (([] : List (Int × Int)), ((0 : Int), ((0 : Int), (0 : Int)))))).2).2).2).2) fun r6 =>
        bif !r6 then
          kret false
        else
          next x3 x4 (wrapK .i64 (x5 + 1))
      else
        none
    else
      none
  else
    ke0 ()
def F.laws_eqNodeS_l0 {R : Type} (N : Nat) : Nat → (List (Int × ((List (Int × Int)) × (Int × (Int × Int))))) → (List (Int × ((List (Int × Int)) × (Int × (Int × Int))))) → Int → (Unit → Option R) → (Bool → Option R) → Option R
  | 0, _, _, _, _, _ => none
  | n + 1, x3, x4, x5, ke0, kret => F.laws_eqNodeS_l0_s N x3 x4 x5 (fun x3 x4 x5 => F.laws_eqNodeS_l0 N n x3 x4 x5 ke0 kret) ke0 kret
def F.laws_eqNodeS {R : Type} (N : Nat) (x1 : List (Int × ((List (Int × Int)) × (Int × (Int × Int))))) (x2 : List (Int × ((List (Int × Int)) × (Int × (Int × Int))))) (k : Bool → Option R) : Option R :=
  bif (List.length x1 : Int) != (List.length x2 : Int) then
    k false
  else
    F.laws_eqNodeS_l0 N N x1 x2 0
      (fun _ =>
        k true)
      (fun y7 =>
        k y7)
/-! ### loop.example/s0007/laws.eqBranch -/
def F.laws_eqBranch {R : Type} (N : Nat) (x1 : Bool) (x2 : Bool) (x3 : List (Int × ((List (Int × Int)) × (Int × (Int × Int))))) (x4 : Bool) (x5 : Bool) (x6 : List (Int × ((List (Int × Int)) × (Int × (Int × Int))))) (k : Bool → Option R) : Option R :=
  bif !(x1 == x4) then
    k false
  else
    bif !(x2 == x5) then
      k false
    else
      F.laws_eqNodeS N x3 x6 fun r7 =>
      bif !r7 then
        k false
      else
        k true
/-! ### loop.example/s0007/laws.eqBranchS -/
def F.laws_eqBranchS_l0_s {R : Type} (N : Nat) (x3 : List (Bool × (Bool × (List (Int × ((List (Int × Int)) × (Int × (Int × Int)))))))) (x4 : List (Bool × (Bool × (List (Int × ((List (Int × Int)) × (Int × (Int × Int)))))))) (x5 : Int) (next : (List (Bool × (Bool × (List (Int × ((List (Int × Int)) × (Int × (Int × Int)))))))) → (List (Bool × (Bool × (List (Int × ((List (Int × Int)) × (Int × (Int × Int)))))))) → Int → Option R) (ke0 : Unit → Option R) (kret : Bool → Option R) : Option R :=
  bif decide (x5 < (List.length x3 : Int)) then
    bif inB x5 (List.length x3) then
      bif inB x5 (List.length x4) then
        F.laws_eqBranch N ((List.getD x3 (Int.toNat x5) (false, (false, ([] : List (Int × ((List (Int × Int)) × (Int × (Int × Int)))))))).1) (((List.getD x3 (Int.toNat x5) (false, (false, ([] : List (Int × ((List (Int × Int)) × (Int × (Int × Int)))))))).2).1) (((List.getD x3 (Int.toNat x5) (false, (false, ([] : List (Int × ((List (Int × Int)) × (Int × (Int × Int)))))))).2).2) ((List.getD x4 (Int.toNat x5) (false, (false, ([] : List (Int × ((List (Int × Int)) × (Int × (Int × Int)))))))).1) (((List.getD x4 (Int.toNat x5) (false, (false, ([] : List (Int × ((List (Int × Int)) × (Int × (Int × Int)))))))).2).1) (((List.getD x4 (Int.toNat x5) (false, (false, ([] : List (Int × ((List (Int × Int)) × (Int × (Int × Int)))))))).2).2) fun r6 =>
        bif !r6 then
          kret false
        else
          next x3 x4 (wrapK .i64 (x5 + 1))
      else
        none
    else
      none
  else
    ke0 ()
def F.laws_eqBranchS_l0 {R : Type} (N : Nat) : Nat → (List (Bool × (Bool × (List (Int × ((List (Int × Int)) × (Int × (Int × Int)))))))) → (List (Bool × (Bool × (List (Int × ((List (Int × Int)) × (Int × (Int × Int)))))))) → Int → (Unit → Option R) → (Bool → Option R) → Option R
  | 0, _, _, _, _, _ => none
  | n + 1, x3, x4, x5, ke0, kret => F.laws_eqBranchS_l0_s N x3 x4 x5 (fun x3 x4 x5 => F.laws_eqBranchS_l0 N n x3 x4 x5 ke0 kret) ke0 kret
def F.laws_eqBranchS {R : Type} (N : Nat) (x1 : List (Bool × (Bool × (List (Int × ((List (Int × Int)) × (Int × (Int × Int)))))))) (x2 : List (Bool × (Bool × (List (Int × ((List (Int × Int)) × (Int × (Int × Int)))))))) (k : Bool → Option R) : Option R :=
  bif (List.length x1 : Int) != (List.length x2 : Int) then
    k false
  else
    F.laws_eqBranchS_l0 N N x1 x2 0
      (fun _ =>
        k true)
      (fun y7 =>
        k y7)
/-! ### loop.example/s0007/laws.eqRule -/
def F.laws_eqRule {R : Type} (N : Nat) (x1 : List (Bool × (Bool × (List (Int × ((List (Int × Int)) × (Int × (Int × Int)))))))) (x2 : Int) (x3 : List (Bool × (Bool × (List (Int × ((List (Int × Int)) × (Int × (Int × Int)))))))) (x4 : Int) (k : Bool → Option R) : Option R :=
  F.laws_eqBranchS N x1 x3 fun r5 =>
  bif !r5 then
    k false
  else
    bif x2 != x4 then
      k false
    else
      k true
/-! ### loop.example/s0007/laws.FnExactMatchSpan -/
def F.laws_FnExactMatchSpan {R : Type} (N : Nat) (x1 : List (Bool × (Bool × (List (Int × ((List (Int × Int)) × (Int × (Int × Int)))))))) (x2 : Int) (x3 : List UInt8) (x4 : Int) (x5 : Int) (x6 : Bool) (k : Bool → Option R) : Option R :=
  bif decide ((List.length x3 : Int) > 1048576) then
    k true
  else
    F.laws_szRule N x1 x2 1048576 fun r7 =>
    bif decide (r7 < 0) then
      k true
    else
      F.laws_toRule N x1 x2 fun r8 r9 =>
      F.spec_MatchSpan N r9 r8 x3 x4 x5 x6 fun r10 =>
      F.laws_toRule N x1 x2 fun r11 r12 =>
      F.impl_MatchSpan N r12 r11 x3 x4 x5 x6 fun r13 =>
      bif !(r13 == r10) then
        k false
      else
        F.laws_toRule N x1 x2 fun r14 r15 =>
        F.laws_eqRule N r12 r11 r15 r14 fun r16 =>
        bif !r16 then
          k false
        else
          k true
end Go.Proofs.Ytjoigbnaikepaaa.fnExactMatchSpan
