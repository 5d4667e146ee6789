/- What the Go functions that the law uses answer, as plain functions. -/
import Derived.Test.YtbbfbnediaenlaaEa
set_option linter.unusedVariables false
namespace Go.Proofs.Ytbbfbnediaenlaa.fnExactPack
open Go.Ev
/-! ### loop.example/s0007/laws.szIntS -/
def F.laws_szIntS {R : Type} (x1 : List Int) (x2 : Int) (k : Int → Option R) : Option R :=
  bif decide ((wrapK .i64 (x2 - (List.length x1 : Int))) < 0) then
    k (-1)
  else
    k (wrapK .i64 (x2 - (List.length x1 : Int)))
/-! ### loop.example/s0007/laws.szDfa -/
def F.laws_szDfa {R : Type} (x1 : List Int) (x2 : Int) (x3 : List Int) (x4 : List Int) (x5 : List Int) (x6 : Int) (k : Int → Option R) : Option R :=
  F.laws_szIntS x1 x6 fun r7 =>
  bif decide (r7 < 0) then
    k (-1)
  else
    F.laws_szIntS x3 r7 fun r8 =>
    bif decide (r8 < 0) then
      k (-1)
    else
      F.laws_szIntS x4 r8 fun r9 =>
      bif decide (r9 < 0) then
        k (-1)
      else
        F.laws_szIntS x5 r9 fun r10 =>
        bif decide (r10 < 0) then
          k (-1)
        else
          k r10
/-! ### loop.example/s0007/laws.toIntS -/
def F.laws_toIntS_l0_s {R : Type} (N : Nat) (x2 : List Int) (x3 : Int) (x4 : List Int) (next : (List Int) → Int → (List Int) → Option R) (ke0 : (List Int) → Option R) : Option R :=
  bif decide (x3 < (List.length x2 : Int)) then
    bif inB x3 (List.length x2) then
      bif inB x3 (List.length x4) then
        next x2 (wrapK .i64 (x3 + 1)) (List.set x4 (Int.toNat x3) (List.getD x2 (Int.toNat x3) (0 : Int)))
      else
        none
    else
      none
  else
    ke0 x4
def F.laws_toIntS_l0 {R : Type} (N : Nat) : Nat → (List Int) → Int → (List Int) → ((List Int) → Option R) → Option R
  | 0, _, _, _, _ => none
  | n + 1, x2, x3, x4, ke0 => F.laws_toIntS_l0_s N x2 x3 x4 (fun x2 x3 x4 => F.laws_toIntS_l0 N n x2 x3 x4 ke0) ke0
def F.laws_toIntS {R : Type} (N : Nat) (x1 : List Int) (k : (List Int) → Option R) : Option R :=
  bif decide (0 ≤ (List.length x1 : Int)) then
    bif Nat.ble (Int.toNat (List.length x1 : Int)) (bigOf 8) then
      F.laws_toIntS_l0 N N x1 0 (List.replicate (Int.toNat (List.length x1 : Int)) (0 : Int))
        (fun y5 =>
          k y5)
    else
      none
  else
    none
/-! ### loop.example/s0007/laws.toDfa -/
def F.laws_toDfa {R : Type} (N : Nat) (x1 : List Int) (x2 : Int) (x3 : List Int) (x4 : List Int) (x5 : List Int) (k : Int → (List Int) → (List Int) → (List Int) → (List Int) → Option R) : Option R :=
  F.laws_toIntS N x1 fun r6 =>
  F.laws_toIntS N x3 fun r7 =>
  F.laws_toIntS N x4 fun r8 =>
  F.laws_toIntS N x5 fun r9 =>
  k x2 r6 r7 r8 r9
/-! ### loop.example/s0007/spec.l1Between -/
def F.spec_l1Between {R : Type} (x1 : Int) (x2 : Int) (x3 : Int) (k : Bool → Option R) : Option R :=
  bif decide (x2 ≤ x1) then
    k (decide (x1 ≤ x3))
  else
    k false
/-! ### loop.example/s0007/spec.l2All -/
def F.spec_l2All_l0_s {R : Type} (N : Nat) (x4 : Int) (x5 : Int) (x6 : List Int) (x7 : Int) (x8 : Int) (next : Int → Int → (List Int) → Int → Int → Option R) (ke0 : Unit → Option R) (kret : Bool → Option R) : Option R :=
  bif decide (x8 < x7) then
    bif inB x8 (List.length x6) then
      F.spec_l1Between (List.getD x6 (Int.toNat x8) (0 : Int)) x4 x5 fun r9 =>
      bif !r9 then
        kret false
      else
        next x4 x5 x6 x7 (wrapK .i64 (x8 + 1))
    else
      none
  else
    ke0 ()
def F.spec_l2All_l0 {R : Type} (N : Nat) : Nat → Int → Int → (List Int) → Int → Int → (Unit → Option R) → (Bool → Option R) → Option R
  | 0, _, _, _, _, _, _, _ => none
  | n + 1, x4, x5, x6, x7, x8, ke0, kret => F.spec_l2All_l0_s N x4 x5 x6 x7 x8 (fun x4 x5 x6 x7 x8 => F.spec_l2All_l0 N n x4 x5 x6 x7 x8 ke0 kret) ke0 kret
def F.spec_l2All {R : Type} (N : Nat) (x1 : List Int) (x2 : Int) (x3 : Int) (k : Bool → Option R) : Option R :=
  F.spec_l2All_l0 N N x2 x3 x1 (List.length x1 : Int) 0
    (fun _ =>
      k true)
    (fun y10 =>
      k y10)
/-! ### loop.example/s0007/spec.DfaOK -/
def F.spec_DfaOK {R : Type} (N : Nat) (x1 : List Int) (x2 : Int) (x3 : List Int) (x4 : List Int) (x5 : List Int) (k : Bool → Option R) : Option R :=
  bif (List.length x1 : Int) != 256 then
    k false
  else
    F.spec_l1Between x2 1 256 fun r6 =>
    bif !r6 then
      k false
    else
      F.spec_l1Between (List.length x4 : Int) 1 4000 fun r7 =>
      bif !r7 then
        k false
      else
        bif (List.length x5 : Int) != (List.length x4 : Int) then
          k false
        else
          bif (List.length x3 : Int) != (wrapK .i64 ((List.length x4 : Int) * x2)) then
            k false
          else
            F.spec_l2All N x1 0 (wrapK .i64 (x2 - 1)) fun r8 =>
            bif r8 then
              F.spec_l2All N x3 0 (wrapK .i64 ((List.length x4 : Int) - 1)) fun r9 =>
              bif r9 then
                F.spec_l2All N x4 (-1) 99 fun r10 =>
                bif r10 then
                  F.spec_l2All N x5 (-1) 99 fun r11 =>
                  k r11
                else
                  k false
              else
                k false
            else
              k false
/-! ### loop.example/s0007/spec.l3Default -/
def F.spec_l3Default_l2_s {R : Type} (N : Nat) (x8 : List Int) (x9 : Int) (x10 : Int) (x11 : Int) (x12 : Int) (x13 : List Int) (x14 : Int) (x15 : Int) (x16 : List Int) (x17 : Int) (x18 : Int) (next : (List Int) → Int → Int → Int → Int → (List Int) → Int → Int → (List Int) → Int → Int → Option R) (ke2 : (List Int) → Int → Int → Int → Int → (List Int) → Int → Int → Option R) : Option R :=
  bif decide (x18 < x17) then
    bif inB x18 (List.length x16) then
      bif x11 == (List.getD x16 (Int.toNat x18) (0 : Int)) then
        next x8 x9 x10 x11 (wrapK .i64 (x12 + 1)) x13 x14 x15 x16 x17 (wrapK .i64 (x18 + 1))
      else
        next x8 x9 x10 x11 x12 x13 x14 x15 x16 x17 (wrapK .i64 (x18 + 1))
    else
      none
  else
    ke2 x8 x9 x10 x11 x12 x13 x14 x15
def F.spec_l3Default_l2 {R : Type} (N : Nat) : Nat → (List Int) → Int → Int → Int → Int → (List Int) → Int → Int → (List Int) → Int → Int → ((List Int) → Int → Int → Int → Int → (List Int) → Int → Int → Option R) → Option R
  | 0, _, _, _, _, _, _, _, _, _, _, _, _ => none
  | n + 1, x8, x9, x10, x11, x12, x13, x14, x15, x16, x17, x18, ke2 => F.spec_l3Default_l2_s N x8 x9 x10 x11 x12 x13 x14 x15 x16 x17 x18 (fun x8 x9 x10 x11 x12 x13 x14 x15 x16 x17 x18 => F.spec_l3Default_l2 N n x8 x9 x10 x11 x12 x13 x14 x15 x16 x17 x18 ke2) ke2
def F.spec_l3Default_l0_s {R : Type} (N : Nat) (x2 : List Int) (x3 : Int) (x4 : Int) (x5 : List Int) (x6 : Int) (x7 : Int) (next : (List Int) → Int → Int → (List Int) → Int → Int → Option R) (ke0 : Int → Option R) : Option R :=
  bif decide (x7 < x6) then
    bif inB x7 (List.length x5) then
      F.spec_l3Default_l2 N N x2 x3 x4 (List.getD x5 (Int.toNat x7) (0 : Int)) 0 x5 x6 x7 x2 (List.length x2 : Int) 0
        (fun y19 y20 y21 y22 y23 y24 y25 y26 =>
          bif decide (y23 > y21) then
            next y19 y22 y23 y24 y25 (wrapK .i64 (y26 + 1))
          else
            bif y23 == y21 then
              bif decide (y22 < y20) then
                next y19 y22 y23 y24 y25 (wrapK .i64 (y26 + 1))
              else
                next y19 y20 y21 y24 y25 (wrapK .i64 (y26 + 1))
            else
              next y19 y20 y21 y24 y25 (wrapK .i64 (y26 + 1)))
    else
      none
  else
    ke0 x3
def F.spec_l3Default_l0 {R : Type} (N : Nat) : Nat → (List Int) → Int → Int → (List Int) → Int → Int → (Int → Option R) → Option R
  | 0, _, _, _, _, _, _, _ => none
  | n + 1, x2, x3, x4, x5, x6, x7, ke0 => F.spec_l3Default_l0_s N x2 x3 x4 x5 x6 x7 (fun x2 x3 x4 x5 x6 x7 => F.spec_l3Default_l0 N n x2 x3 x4 x5 x6 x7 ke0) ke0
def F.spec_l3Default {R : Type} (N : Nat) (x1 : List Int) (k : Int → Option R) : Option R :=
  F.spec_l3Default_l0 N N x1 (-1) 0 x1 (List.length x1 : Int) 0
    (fun y27 =>
      k y27)
/-! ### loop.example/s0007/spec.l3Free -/
def F.spec_l3Free {R : Type} (x1 : List Int) (x2 : Int) (k : Bool → Option R) : Option R :=
  bif decide (x2 ≥ (List.length x1 : Int)) then
    k true
  else
    bif inB x2 (List.length x1) then
      k ((List.getD x1 (Int.toNat x2) (0 : Int)) == (-1))
    else
      none
/-! ### loop.example/s0007/spec.Pack -/
def F.spec_Pack_l2_s {R : Type} (N : Nat) (x31 : Int) (x32 : List Int) (x33 : Int) (x34 : Int) (x35 : Int) (x36 : List Int) (x37 : Int) (x38 : Int) (x39 : List Int) (x40 : Int) (x41 : List Int) (x42 : List Int) (x43 : List Int) (x44 : Int) (x45 : Int) (x46 : List Int) (x47 : List Int) (x48 : List Int) (x49 : List Int) (x50 : List Int) (x51 : List Int) (x52 : List Int) (x53 : List Int) (x54 : List Int) (x55 : List Int) (x56 : List Int) (x57 : List Int) (x58 : List Int) (x59 : List Int) (x60 : List Int) (next : Int → (List Int) → Int → Int → Int → (List Int) → Int → Int → (List Int) → Int → (List Int) → (List Int) → (List Int) → Int → Int → (List Int) → (List Int) → (List Int) → (List Int) → (List Int) → (List Int) → (List Int) → (List Int) → (List Int) → (List Int) → (List Int) → (List Int) → (List Int) → (List Int) → (List Int) → Option R) (ke2 : Int → (List Int) → Int → Int → (List Int) → Int → (List Int) → (List Int) → (List Int) → Int → Int → (List Int) → (List Int) → (List Int) → (List Int) → (List Int) → (List Int) → (List Int) → (List Int) → (List Int) → (List Int) → (List Int) → (List Int) → (List Int) → (List Int) → (List Int) → Option R) : Option R :=
  bif decide (x38 < x37) then
    bif inB x38 (List.length x36) then
      bif (List.getD x36 (Int.toNat x38) (0 : Int)) != x33 then
        bif Nat.ble (List.length x46 + List.length [x38]) (bigOf 8) then
          next x31 x32 x33 x34 x35 x36 x37 (wrapK .i64 (x38 + 1)) x39 x40 x41 x42 x43 x44 x45 (x46 ++ [x38]) x47 x48 x49 x50 x51 x52 x53 x54 x55 x56 x57 x58 x59 x60
        else
          none
      else
        next x31 x32 x33 x34 x35 x36 x37 (wrapK .i64 (x38 + 1)) x39 x40 x41 x42 x43 x44 x45 x46 x47 x48 x49 x50 x51 x52 x53 x54 x55 x56 x57 x58 x59 x60
    else
      none
  else
    ke2 x31 x32 x34 x35 x39 x40 x41 x42 x43 x44 x45 x46 x47 x48 x49 x50 x51 x52 x53 x54 x55 x56 x57 x58 x59 x60
def F.spec_Pack_l2 {R : Type} (N : Nat) : Nat → Int → (List Int) → Int → Int → Int → (List Int) → Int → Int → (List Int) → Int → (List Int) → (List Int) → (List Int) → Int → Int → (List Int) → (List Int) → (List Int) → (List Int) → (List Int) → (List Int) → (List Int) → (List Int) → (List Int) → (List Int) → (List Int) → (List Int) → (List Int) → (List Int) → (List Int) → (Int → (List Int) → Int → Int → (List Int) → Int → (List Int) → (List Int) → (List Int) → Int → Int → (List Int) → (List Int) → (List Int) → (List Int) → (List Int) → (List Int) → (List Int) → (List Int) → (List Int) → (List Int) → (List Int) → (List Int) → (List Int) → (List Int) → (List Int) → Option R) → Option R
  | 0, _, _, _, _, _, _, _, _, _, _, _, _, _, _, _, _, _, _, _, _, _, _, _, _, _, _, _, _, _, _, _ => none
  | n + 1, x31, x32, x33, x34, x35, x36, x37, x38, x39, x40, x41, x42, x43, x44, x45, x46, x47, x48, x49, x50, x51, x52, x53, x54, x55, x56, x57, x58, x59, x60, ke2 => F.spec_Pack_l2_s N x31 x32 x33 x34 x35 x36 x37 x38 x39 x40 x41 x42 x43 x44 x45 x46 x47 x48 x49 x50 x51 x52 x53 x54 x55 x56 x57 x58 x59 x60 (fun x31 x32 x33 x34 x35 x36 x37 x38 x39 x40 x41 x42 x43 x44 x45 x46 x47 x48 x49 x50 x51 x52 x53 x54 x55 x56 x57 x58 x59 x60 => F.spec_Pack_l2 N n x31 x32 x33 x34 x35 x36 x37 x38 x39 x40 x41 x42 x43 x44 x45 x46 x47 x48 x49 x50 x51 x52 x53 x54 x55 x56 x57 x58 x59 x60 ke2) ke2
def F.spec_Pack_l6_s {R : Type} (N : Nat) (x115 : Int) (x116 : List Int) (x117 : Int) (x118 : Bool) (x119 : Int) (x120 : Int) (x121 : Int) (x122 : Int) (x123 : List Int) (x124 : Int) (x125 : List Int) (x126 : List Int) (x127 : List Int) (x128 : Int) (x129 : Int) (x130 : List Int) (x131 : List Int) (x132 : List Int) (x133 : List Int) (x134 : List Int) (x135 : List Int) (x136 : List Int) (x137 : List Int) (x138 : List Int) (x139 : List Int) (x140 : List Int) (x141 : List Int) (x142 : List Int) (x143 : List Int) (x144 : List Int) (next : Int → (List Int) → Int → Bool → Int → Int → Int → Int → (List Int) → Int → (List Int) → (List Int) → (List Int) → Int → Int → (List Int) → (List Int) → (List Int) → (List Int) → (List Int) → (List Int) → (List Int) → (List Int) → (List Int) → (List Int) → (List Int) → (List Int) → (List Int) → (List Int) → (List Int) → Option R) (ke6 : Int → (List Int) → Int → Bool → Int → Int → (List Int) → Int → (List Int) → (List Int) → (List Int) → Int → Int → (List Int) → (List Int) → (List Int) → (List Int) → (List Int) → (List Int) → (List Int) → (List Int) → (List Int) → (List Int) → (List Int) → (List Int) → (List Int) → (List Int) → (List Int) → Option R) : Option R :=
  bif decide (x122 < x121) then
    bif inB x122 (List.length x130) then
      F.spec_l3Free x144 (wrapK .i64 (x117 + (List.getD x130 (Int.toNat x122) (0 : Int)))) fun r145 =>
      bif !r145 then
        ke6 x115 x116 x117 false x119 x120 x123 x124 x125 x126 x127 x128 x129 x130 x131 x132 x133 x134 x135 x136 x137 x138 x139 x140 x141 x142 x143 x144
      else
        next x115 x116 x117 x118 x119 x120 x121 (wrapK .i64 (x122 + 1)) x123 x124 x125 x126 x127 x128 x129 x130 x131 x132 x133 x134 x135 x136 x137 x138 x139 x140 x141 x142 x143 x144
    else
      none
  else
    ke6 x115 x116 x117 x118 x119 x120 x123 x124 x125 x126 x127 x128 x129 x130 x131 x132 x133 x134 x135 x136 x137 x138 x139 x140 x141 x142 x143 x144
def F.spec_Pack_l6 {R : Type} (N : Nat) : Nat → Int → (List Int) → Int → Bool → Int → Int → Int → Int → (List Int) → Int → (List Int) → (List Int) → (List Int) → Int → Int → (List Int) → (List Int) → (List Int) → (List Int) → (List Int) → (List Int) → (List Int) → (List Int) → (List Int) → (List Int) → (List Int) → (List Int) → (List Int) → (List Int) → (List Int) → (Int → (List Int) → Int → Bool → Int → Int → (List Int) → Int → (List Int) → (List Int) → (List Int) → Int → Int → (List Int) → (List Int) → (List Int) → (List Int) → (List Int) → (List Int) → (List Int) → (List Int) → (List Int) → (List Int) → (List Int) → (List Int) → (List Int) → (List Int) → (List Int) → Option R) → Option R
  | 0, _, _, _, _, _, _, _, _, _, _, _, _, _, _, _, _, _, _, _, _, _, _, _, _, _, _, _, _, _, _, _ => none
  | n + 1, x115, x116, x117, x118, x119, x120, x121, x122, x123, x124, x125, x126, x127, x128, x129, x130, x131, x132, x133, x134, x135, x136, x137, x138, x139, x140, x141, x142, x143, x144, ke6 => F.spec_Pack_l6_s N x115 x116 x117 x118 x119 x120 x121 x122 x123 x124 x125 x126 x127 x128 x129 x130 x131 x132 x133 x134 x135 x136 x137 x138 x139 x140 x141 x142 x143 x144 (fun x115 x116 x117 x118 x119 x120 x121 x122 x123 x124 x125 x126 x127 x128 x129 x130 x131 x132 x133 x134 x135 x136 x137 x138 x139 x140 x141 x142 x143 x144 => F.spec_Pack_l6 N n x115 x116 x117 x118 x119 x120 x121 x122 x123 x124 x125 x126 x127 x128 x129 x130 x131 x132 x133 x134 x135 x136 x137 x138 x139 x140 x141 x142 x143 x144 ke6) ke6
def F.spec_Pack_l4_s {R : Type} (N : Nat) (x87 : Int) (x88 : List Int) (x89 : Int) (x90 : Bool) (x91 : Int) (x92 : Int) (x93 : List Int) (x94 : Int) (x95 : List Int) (x96 : List Int) (x97 : List Int) (x98 : Int) (x99 : Int) (x100 : List Int) (x101 : List Int) (x102 : List Int) (x103 : List Int) (x104 : List Int) (x105 : List Int) (x106 : List Int) (x107 : List Int) (x108 : List Int) (x109 : List Int) (x110 : List Int) (x111 : List Int) (x112 : List Int) (x113 : List Int) (x114 : List Int) (next : Int → (List Int) → Int → Bool → Int → Int → (List Int) → Int → (List Int) → (List Int) → (List Int) → Int → Int → (List Int) → (List Int) → (List Int) → (List Int) → (List Int) → (List Int) → (List Int) → (List Int) → (List Int) → (List Int) → (List Int) → (List Int) → (List Int) → (List Int) → (List Int) → Option R) (ke4 : Int → (List Int) → Int → Int → Int → (List Int) → Int → (List Int) → (List Int) → (List Int) → Int → Int → (List Int) → (List Int) → (List Int) → (List Int) → (List Int) → (List Int) → (List Int) → (List Int) → (List Int) → (List Int) → (List Int) → (List Int) → (List Int) → (List Int) → (List Int) → Option R) : Option R :=
  bif !x90 then
    F.spec_Pack_l6 N N x87 x88 x89 true x91 x92 (List.length x100 : Int) 0 x93 x94 x95 x96 x97 x98 x99 x100 x101 x102 x103 x104 x105 x106 x107 x108 x109 x110 x111 x112 x113 x114
      (fun y146 y147 y148 y149 y150 y151 y152 y153 y154 y155 y156 y157 y158 y159 y160 y161 y162 y163 y164 y165 y166 y167 y168 y169 y170 y171 y172 y173 =>
        bif !y149 then
          next y146 y147 (wrapK .i64 (y148 + 1)) y149 y150 y151 y152 y153 y154 y155 y156 y157 y158 y159 y160 y161 y162 y163 y164 y165 y166 y167 y168 y169 y170 y171 y172 y173
        else
          next y146 y147 y148 y149 y150 y151 y152 y153 y154 y155 y156 y157 y158 y159 y160 y161 y162 y163 y164 y165 y166 y167 y168 y169 y170 y171 y172 y173)
  else
    ke4 x87 x88 x89 x91 x92 x93 x94 x95 x96 x97 x98 x99 x100 x101 x102 x103 x104 x105 x106 x107 x108 x109 x110 x111 x112 x113 x114
def F.spec_Pack_l4 {R : Type} (N : Nat) : Nat → Int → (List Int) → Int → Bool → Int → Int → (List Int) → Int → (List Int) → (List Int) → (List Int) → Int → Int → (List Int) → (List Int) → (List Int) → (List Int) → (List Int) → (List Int) → (List Int) → (List Int) → (List Int) → (List Int) → (List Int) → (List Int) → (List Int) → (List Int) → (List Int) → (Int → (List Int) → Int → Int → Int → (List Int) → Int → (List Int) → (List Int) → (List Int) → Int → Int → (List Int) → (List Int) → (List Int) → (List Int) → (List Int) → (List Int) → (List Int) → (List Int) → (List Int) → (List Int) → (List Int) → (List Int) → (List Int) → (List Int) → (List Int) → Option R) → Option R
  | 0, _, _, _, _, _, _, _, _, _, _, _, _, _, _, _, _, _, _, _, _, _, _, _, _, _, _, _, _, _ => none
  | n + 1, x87, x88, x89, x90, x91, x92, x93, x94, x95, x96, x97, x98, x99, x100, x101, x102, x103, x104, x105, x106, x107, x108, x109, x110, x111, x112, x113, x114, ke4 => F.spec_Pack_l4_s N x87 x88 x89 x90 x91 x92 x93 x94 x95 x96 x97 x98 x99 x100 x101 x102 x103 x104 x105 x106 x107 x108 x109 x110 x111 x112 x113 x114 (fun x87 x88 x89 x90 x91 x92 x93 x94 x95 x96 x97 x98 x99 x100 x101 x102 x103 x104 x105 x106 x107 x108 x109 x110 x111 x112 x113 x114 => F.spec_Pack_l4 N n x87 x88 x89 x90 x91 x92 x93 x94 x95 x96 x97 x98 x99 x100 x101 x102 x103 x104 x105 x106 x107 x108 x109 x110 x111 x112 x113 x114 ke4) ke4
def F.spec_Pack_l10_s {R : Type} (N : Nat) (x230 : Int) (x231 : List Int) (x232 : Int) (x233 : Int) (x234 : Int) (x235 : Int) (x236 : Int) (x237 : Int) (x238 : List Int) (x239 : Int) (x240 : List Int) (x241 : List Int) (x242 : List Int) (x243 : Int) (x244 : Int) (x245 : List Int) (x246 : List Int) (x247 : List Int) (x248 : List Int) (x249 : List Int) (x250 : List Int) (x251 : List Int) (x252 : List Int) (x253 : List Int) (x254 : List Int) (x255 : List Int) (x256 : List Int) (x257 : List Int) (x258 : List Int) (x259 : List Int) (next : Int → (List Int) → Int → Int → Int → Int → Int → Int → (List Int) → Int → (List Int) → (List Int) → (List Int) → Int → Int → (List Int) → (List Int) → (List Int) → (List Int) → (List Int) → (List Int) → (List Int) → (List Int) → (List Int) → (List Int) → (List Int) → (List Int) → (List Int) → (List Int) → (List Int) → Option R) (ke10 : Int → (List Int) → Int → Int → Int → Int → Int → Int → (List Int) → Int → (List Int) → (List Int) → (List Int) → Int → Int → (List Int) → (List Int) → (List Int) → (List Int) → (List Int) → (List Int) → (List Int) → (List Int) → (List Int) → (List Int) → (List Int) → (List Int) → (List Int) → (List Int) → (List Int) → Option R) : Option R :=
  bif decide ((List.length x259 : Int) ≤ (wrapK .i64 (x232 + x233))) then
    bif Nat.ble (List.length x258 + List.length [0]) (bigOf 8) then
      bif Nat.ble (List.length x259 + List.length [(-1)]) (bigOf 8) then
        next x230 x231 x232 x233 x234 x235 x236 x237 x238 x239 x240 x241 x242 x243 x244 x245 x246 x247 x248 x249 x250 x251 x252 x253 x254 x255 x256 x257 (x258 ++ [0]) (x259 ++ [(-1)])
      else
        none
    else
      none
  else
    ke10 x230 x231 x232 x233 x234 x235 x236 x237 x238 x239 x240 x241 x242 x243 x244 x245 x246 x247 x248 x249 x250 x251 x252 x253 x254 x255 x256 x257 x258 x259
def F.spec_Pack_l10 {R : Type} (N : Nat) : Nat → Int → (List Int) → Int → Int → Int → Int → Int → Int → (List Int) → Int → (List Int) → (List Int) → (List Int) → Int → Int → (List Int) → (List Int) → (List Int) → (List Int) → (List Int) → (List Int) → (List Int) → (List Int) → (List Int) → (List Int) → (List Int) → (List Int) → (List Int) → (List Int) → (List Int) → (Int → (List Int) → Int → Int → Int → Int → Int → Int → (List Int) → Int → (List Int) → (List Int) → (List Int) → Int → Int → (List Int) → (List Int) → (List Int) → (List Int) → (List Int) → (List Int) → (List Int) → (List Int) → (List Int) → (List Int) → (List Int) → (List Int) → (List Int) → (List Int) → (List Int) → Option R) → Option R
  | 0, _, _, _, _, _, _, _, _, _, _, _, _, _, _, _, _, _, _, _, _, _, _, _, _, _, _, _, _, _, _, _ => none
  | n + 1, x230, x231, x232, x233, x234, x235, x236, x237, x238, x239, x240, x241, x242, x243, x244, x245, x246, x247, x248, x249, x250, x251, x252, x253, x254, x255, x256, x257, x258, x259, ke10 => F.spec_Pack_l10_s N x230 x231 x232 x233 x234 x235 x236 x237 x238 x239 x240 x241 x242 x243 x244 x245 x246 x247 x248 x249 x250 x251 x252 x253 x254 x255 x256 x257 x258 x259 (fun x230 x231 x232 x233 x234 x235 x236 x237 x238 x239 x240 x241 x242 x243 x244 x245 x246 x247 x248 x249 x250 x251 x252 x253 x254 x255 x256 x257 x258 x259 => F.spec_Pack_l10 N n x230 x231 x232 x233 x234 x235 x236 x237 x238 x239 x240 x241 x242 x243 x244 x245 x246 x247 x248 x249 x250 x251 x252 x253 x254 x255 x256 x257 x258 x259 ke10) ke10
def F.spec_Pack_l8_s {R : Type} (N : Nat) (x201 : Int) (x202 : List Int) (x203 : Int) (x204 : Int) (x205 : Int) (x206 : Int) (x207 : Int) (x208 : List Int) (x209 : Int) (x210 : List Int) (x211 : List Int) (x212 : List Int) (x213 : Int) (x214 : Int) (x215 : List Int) (x216 : List Int) (x217 : List Int) (x218 : List Int) (x219 : List Int) (x220 : List Int) (x221 : List Int) (x222 : List Int) (x223 : List Int) (x224 : List Int) (x225 : List Int) (x226 : List Int) (x227 : List Int) (x228 : List Int) (x229 : List Int) (next : Int → (List Int) → Int → Int → Int → Int → Int → (List Int) → Int → (List Int) → (List Int) → (List Int) → Int → Int → (List Int) → (List Int) → (List Int) → (List Int) → (List Int) → (List Int) → (List Int) → (List Int) → (List Int) → (List Int) → (List Int) → (List Int) → (List Int) → (List Int) → (List Int) → Option R) (ke8 : Int → Int → (List Int) → Int → (List Int) → (List Int) → (List Int) → Int → Int → (List Int) → (List Int) → (List Int) → (List Int) → (List Int) → (List Int) → (List Int) → (List Int) → (List Int) → (List Int) → (List Int) → (List Int) → (List Int) → (List Int) → Option R) (kret : Int → Int → Int → (List Int) → Int → (List Int) → (List Int) → (List Int) → Int → Int → (List Int) → (List Int) → (List Int) → (List Int) → (List Int) → (List Int) → (List Int) → (List Int) → (List Int) → (List Int) → (List Int) → (List Int) → (List Int) → (List Int) → Option R) : Option R :=
  bif decide (x207 < x206) then
    bif inB x207 (List.length x215) then
      bif decide ((wrapK .i64 (x203 + (List.getD x215 (Int.toNat x207) (0 : Int)))) ≥ 60000) then
        kret 2 x204 x205 x208 x209 x210 x211 x212 0 x214 ([] : List Int) ([] : List Int) ([] : List Int) ([] : List Int) ([] : List Int) ([] : List Int) ([] : List Int) x223 x224 x225 x226 x227 x228 x229
      else
        F.spec_Pack_l10 N N x201 x202 x203 (List.getD x215 (Int.toNat x207) (0 : Int)) x204 x205 x206 x207 x208 x209 x210 x211 x212 x213 x214 x215 x216 x217 x218 x219 x220 x221 x222 x223 x224 x225 x226 x227 x228 x229
          (fun y260 y261 y262 y263 y264 y265 y266 y267 y268 y269 y270 y271 y272 y273 y274 y275 y276 y277 y278 y279 y280 y281 y282 y283 y284 y285 y286 y287 y288 y289 =>
            bif inB y263 (List.length y261) then
              bif inB (wrapK .i64 (y262 + y263)) (List.length y288) then
                bif inB (wrapK .i64 (y262 + y263)) (List.length y289) then
                  next y260 y261 y262 y264 y265 y266 (wrapK .i64 (y267 + 1)) y268 y269 y270 y271 y272 y273 y274 y275 y276 y277 y278 y279 y280 y281 y282 y283 y284 y285 y286 y287 (List.set y288 (Int.toNat (wrapK .i64 (y262 + y263))) (List.getD y261 (Int.toNat y263) (0 : Int))) (List.set y289 (Int.toNat (wrapK .i64 (y262 + y263))) y260)
                else
                  none
              else
                none
            else
              none)
    else
      none
  else
    ke8 x204 x205 x208 x209 x210 x211 x212 x213 x214 x216 x217 x218 x219 x220 x221 x222 x223 x224 x225 x226 x227 x228 x229
def F.spec_Pack_l8 {R : Type} (N : Nat) : Nat → Int → (List Int) → Int → Int → Int → Int → Int → (List Int) → Int → (List Int) → (List Int) → (List Int) → Int → Int → (List Int) → (List Int) → (List Int) → (List Int) → (List Int) → (List Int) → (List Int) → (List Int) → (List Int) → (List Int) → (List Int) → (List Int) → (List Int) → (List Int) → (List Int) → (Int → Int → (List Int) → Int → (List Int) → (List Int) → (List Int) → Int → Int → (List Int) → (List Int) → (List Int) → (List Int) → (List Int) → (List Int) → (List Int) → (List Int) → (List Int) → (List Int) → (List Int) → (List Int) → (List Int) → (List Int) → Option R) → (Int → Int → Int → (List Int) → Int → (List Int) → (List Int) → (List Int) → Int → Int → (List Int) → (List Int) → (List Int) → (List Int) → (List Int) → (List Int) → (List Int) → (List Int) → (List Int) → (List Int) → (List Int) → (List Int) → (List Int) → (List Int) → Option R) → Option R
  | 0, _, _, _, _, _, _, _, _, _, _, _, _, _, _, _, _, _, _, _, _, _, _, _, _, _, _, _, _, _, _, _ => none
  | n + 1, x201, x202, x203, x204, x205, x206, x207, x208, x209, x210, x211, x212, x213, x214, x215, x216, x217, x218, x219, x220, x221, x222, x223, x224, x225, x226, x227, x228, x229, ke8, kret => F.spec_Pack_l8_s N x201 x202 x203 x204 x205 x206 x207 x208 x209 x210 x211 x212 x213 x214 x215 x216 x217 x218 x219 x220 x221 x222 x223 x224 x225 x226 x227 x228 x229 (fun x201 x202 x203 x204 x205 x206 x207 x208 x209 x210 x211 x212 x213 x214 x215 x216 x217 x218 x219 x220 x221 x222 x223 x224 x225 x226 x227 x228 x229 => F.spec_Pack_l8 N n x201 x202 x203 x204 x205 x206 x207 x208 x209 x210 x211 x212 x213 x214 x215 x216 x217 x218 x219 x220 x221 x222 x223 x224 x225 x226 x227 x228 x229 ke8 kret) ke8 kret
def F.spec_Pack_l0_s {R : Type} (N : Nat) (x7 : Int) (x8 : Int) (x9 : List Int) (x10 : Int) (x11 : List Int) (x12 : List Int) (x13 : List Int) (x14 : Int) (x15 : Int) (x16 : List Int) (x17 : List Int) (x18 : List Int) (x19 : List Int) (x20 : List Int) (x21 : List Int) (x22 : List Int) (x23 : List Int) (x24 : List Int) (x25 : List Int) (x26 : List Int) (x27 : List Int) (x28 : List Int) (x29 : List Int) (next : Int → Int → (List Int) → Int → (List Int) → (List Int) → (List Int) → Int → Int → (List Int) → (List Int) → (List Int) → (List Int) → (List Int) → (List Int) → (List Int) → (List Int) → (List Int) → (List Int) → (List Int) → (List Int) → (List Int) → (List Int) → Option R) (ke0 : Int → Int → (List Int) → (List Int) → (List Int) → (List Int) → (List Int) → (List Int) → (List Int) → (List Int) → (List Int) → (List Int) → (List Int) → (List Int) → (List Int) → (List Int) → Option R) (kret : Int → Int → Int → (List Int) → (List Int) → (List Int) → (List Int) → (List Int) → (List Int) → (List Int) → (List Int) → (List Int) → (List Int) → (List Int) → (List Int) → (List Int) → (List Int) → Option R) : Option R :=
  bif decide (x8 < x7) then
    bif decide (0 ≤ (wrapK .i64 ((wrapK .i64 (x8 + 1)) * x10))) && decide ((wrapK .i64 ((wrapK .i64 (x8 + 1)) * x10)) ≤ (List.length x11 : Int)) then
      bif decide (0 ≤ (wrapK .i64 (x8 * x10))) && decide ((wrapK .i64 (x8 * x10)) ≤ (wrapK .i64 ((wrapK .i64 (x8 + 1)) * x10))) then
        F.spec_l3Default N (List.drop (Int.toNat (wrapK .i64 (x8 * x10))) (List.take (Int.toNat (wrapK .i64 ((wrapK .i64 (x8 + 1)) * x10))) x11)) fun r30 =>
        bif Nat.ble (List.length x25 + List.length [r30]) (bigOf 8) then
          F.spec_Pack_l2 N N x8 (List.drop (Int.toNat (wrapK .i64 (x8 * x10))) (List.take (Int.toNat (wrapK .i64 ((wrapK .i64 (x8 + 1)) * x10))) x11)) r30 x7 x8 (List.drop (Int.toNat (wrapK .i64 (x8 * x10))) (List.take (Int.toNat (wrapK .i64 ((wrapK .i64 (x8 + 1)) * x10))) x11)) (List.length (List.drop (Int.toNat (wrapK .i64 (x8 * x10))) (List.take (Int.toNat (wrapK .i64 ((wrapK .i64 (x8 + 1)) * x10))) x11)) : Int) 0 x9 x10 x11 x12 x13 x14 x15 ([] : List Int) x16 x17 x18 x19 x20 x21 x22 x23 x24 (x25 ++ [r30]) x26 x27 x28 x29
            (fun y61 y62 y63 y64 y65 y66 y67 y68 y69 y70 y71 y72 y73 y74 y75 y76 y77 y78 y79 y80 y81 y82 y83 y84 y85 y86 =>
              bif (List.length y72 : Int) == 0 then
                bif Nat.ble (List.length y81 + List.length [0]) (bigOf 8) then
                  next y63 (wrapK .i64 (y64 + 1)) y65 y66 y67 y68 y69 y70 y71 y73 y74 y75 y76 y77 y78 y79 y80 (y81 ++ [0]) y82 y83 y84 y85 y86
                else
                  none
              else
                F.spec_Pack_l4 N N y61 y62 0 false y63 y64 y65 y66 y67 y68 y69 y70 y71 y72 y73 y74 y75 y76 y77 y78 y79 y80 y81 y82 y83 y84 y85 y86
                  (fun y174 y175 y176 y177 y178 y179 y180 y181 y182 y183 y184 y185 y186 y187 y188 y189 y190 y191 y192 y193 y194 y195 y196 y197 y198 y199 y200 =>
                    bif Nat.ble (List.length y195 + List.length [y176]) (bigOf 8) then
                      F.spec_Pack_l8 N N y174 y175 y176 y177 y178 (List.length y186 : Int) 0 y179 y180 y181 y182 y183 y184 y185 y186 y187 y188 y189 y190 y191 y192 y193 y194 (y195 ++ [y176]) y196 y197 y198 y199 y200
                        (fun y290 y291 y292 y293 y294 y295 y296 y297 y298 y299 y300 y301 y302 y303 y304 y305 y306 y307 y308 y309 y310 y311 y312 =>
                          next y290 (wrapK .i64 (y291 + 1)) y292 y293 y294 y295 y296 y297 y298 y299 y300 y301 y302 y303 y304 y305 y306 y307 y308 y309 y310 y311 y312)
                        (fun y313 y314 y315 y316 y317 y318 y319 y320 y321 y322 y323 y324 y325 y326 y327 y328 y329 y330 y331 y332 y333 y334 y335 y336 =>
                          kret y313 y321 y322 y323 y324 y325 y326 y327 y328 y329 y330 y331 y332 y333 y334 y335 y336)
                    else
                      none))
        else
          none
      else
        none
    else
      none
  else
    ke0 x14 x15 x16 x17 x18 x19 x20 x21 x22 x23 x24 x25 x26 x27 x28 x29
def F.spec_Pack_l0 {R : Type} (N : Nat) : Nat → Int → Int → (List Int) → Int → (List Int) → (List Int) → (List Int) → Int → Int → (List Int) → (List Int) → (List Int) → (List Int) → (List Int) → (List Int) → (List Int) → (List Int) → (List Int) → (List Int) → (List Int) → (List Int) → (List Int) → (List Int) → (Int → Int → (List Int) → (List Int) → (List Int) → (List Int) → (List Int) → (List Int) → (List Int) → (List Int) → (List Int) → (List Int) → (List Int) → (List Int) → (List Int) → (List Int) → Option R) → (Int → Int → Int → (List Int) → (List Int) → (List Int) → (List Int) → (List Int) → (List Int) → (List Int) → (List Int) → (List Int) → (List Int) → (List Int) → (List Int) → (List Int) → (List Int) → Option R) → Option R
  | 0, _, _, _, _, _, _, _, _, _, _, _, _, _, _, _, _, _, _, _, _, _, _, _, _, _ => none
  | n + 1, x7, x8, x9, x10, x11, x12, x13, x14, x15, x16, x17, x18, x19, x20, x21, x22, x23, x24, x25, x26, x27, x28, x29, ke0, kret => F.spec_Pack_l0_s N x7 x8 x9 x10 x11 x12 x13 x14 x15 x16 x17 x18 x19 x20 x21 x22 x23 x24 x25 x26 x27 x28 x29 (fun x7 x8 x9 x10 x11 x12 x13 x14 x15 x16 x17 x18 x19 x20 x21 x22 x23 x24 x25 x26 x27 x28 x29 => F.spec_Pack_l0 N n x7 x8 x9 x10 x11 x12 x13 x14 x15 x16 x17 x18 x19 x20 x21 x22 x23 x24 x25 x26 x27 x28 x29 ke0 kret) ke0 kret
def F.spec_Pack {R : Type} (N : Nat) (x1 : List Int) (x2 : Int) (x3 : List Int) (x4 : List Int) (x5 : List Int) (k : Int → Int → (List Int) → (List Int) → (List Int) → (List Int) → (List Int) → (List Int) → (List Int) → Option R) : Option R :=
  F.spec_DfaOK N x1 x2 x3 x4 x5 fun r6 =>
  bif !r6 then
    k 0 1 ([] : List Int) ([] : List Int) ([] : List Int) ([] : List Int) ([] : List Int) ([] : List Int) ([] : List Int)
  else
    bif Nat.ble (List.length ([] : List Int) + List.length x1) (bigOf 8) then
      bif Nat.ble (List.length ([] : List Int) + List.length x4) (bigOf 8) then
        bif Nat.ble (List.length ([] : List Int) + List.length x5) (bigOf 8) then
          F.spec_Pack_l0 N N (List.length x4 : Int) 0 x1 x2 x3 x4 x5 0 x2 ([] : List Int) ([] : List Int) ([] : List Int) ([] : List Int) ([] : List Int) ([] : List Int) ([] : List Int) (([] : List Int) ++ x1) ([] : List Int) ([] : List Int) (([] : List Int) ++ x4) (([] : List Int) ++ x5) ([] : List Int) ([] : List Int)
            (fun y337 y338 y339 y340 y341 y342 y343 y344 y345 y346 y347 y348 y349 y350 y351 y352 =>
              k y338 0 y346 y347 y348 y349 y350 y351 y352)
            (fun y353 y354 y355 y356 y357 y358 y359 y360 y361 y362 y363 y364 y365 y366 y367 y368 y369 =>
              k y354 y353 y356 y357 y358 y359 y360 y361 y362)
        else
          none
      else
        none
    else
      none
/-! ### loop.example/s0007/impl.DfaOK$1$1 -/
def F.impl_DfaOK_1_1 {R : Type} (x1 : Int) (x2 : Int) (x3 : Int) (k : Bool → Option R) : Option R :=
  bif decide (x1 < x2) then
    k true
  else
    k (decide (x1 > x3))
/-! ### slices.IndexFunc[[]int,int] -/
def F.slices_IndexFunc_l0_s {R : Type} (N : Nat) (x4 : List Int) (x5 : Int) (x6 : Int) (x7 : Int) (x8 : Int) (next : (List Int) → Int → Int → Int → Int → Option R) (ke0 : Int → Int → Option R) (kret : Int → Int → Int → Option R) : Option R :=
  bif decide (x6 < x5) then
    bif inB x6 (List.length x4) then
      F.impl_DfaOK_1_1 (List.getD x4 (Int.toNat x6) (0 : Int)) x7 x8 fun r9 =>
      bif r9 then
        kret x6 x7 x8
      else
        next x4 x5 (wrapK .i64 (x6 + 1)) x7 x8
    else
      none
  else
    ke0 x7 x8
def F.slices_IndexFunc_l0 {R : Type} (N : Nat) : Nat → (List Int) → Int → Int → Int → Int → (Int → Int → Option R) → (Int → Int → Int → Option R) → Option R
  | 0, _, _, _, _, _, _, _ => none
  | n + 1, x4, x5, x6, x7, x8, ke0, kret => F.slices_IndexFunc_l0_s N x4 x5 x6 x7 x8 (fun x4 x5 x6 x7 x8 => F.slices_IndexFunc_l0 N n x4 x5 x6 x7 x8 ke0 kret) ke0 kret
def F.slices_IndexFunc {R : Type} (N : Nat) (x1 : List Int) (x2 : Int) (x3 : Int) (k : Int → Int → Int → Option R) : Option R :=
  F.slices_IndexFunc_l0 N N x1 (List.length x1 : Int) 0 x2 x3
    (fun y10 y11 =>
      k (-1) y10 y11)
    (fun y12 y13 y14 =>
      k y12 y13 y14)
/-! ### slices.ContainsFunc[[]int,int] -/
def F.slices_ContainsFunc {R : Type} (N : Nat) (x1 : List Int) (x2 : Int) (x3 : Int) (k : Bool → Int → Int → Option R) : Option R :=
  F.slices_IndexFunc N x1 x2 x3 fun r4 r5 r6 =>
  k (decide (r4 ≥ 0)) r5 r6
/-! ### loop.example/s0007/impl.DfaOK$1 -/
def F.impl_DfaOK_1 {R : Type} (N : Nat) (x1 : List Int) (x2 : Int) (x3 : Int) (k : Bool → Option R) : Option R :=
  F.slices_ContainsFunc N x1 x2 x3 fun r4 r5 r6 =>
  k (!r4)
/-! ### loop.example/s0007/impl.DfaOK -/
def F.impl_DfaOK {R : Type} (N : Nat) (x1 : List Int) (x2 : Int) (x3 : List Int) (x4 : List Int) (x5 : List Int) (k : Bool → Option R) : Option R :=
  bif (List.length x1 : Int) != 256 then
    k false
  else
    bif decide (x2 < 1) then
      k false
    else
      bif decide (x2 > 256) then
        k false
      else
        bif decide ((List.length x4 : Int) < 1) then
          k false
        else
          bif decide ((List.length x4 : Int) > 4000) then
            k false
          else
            bif (List.length x5 : Int) != (List.length x4 : Int) then
              k false
            else
              bif (List.length x3 : Int) != (wrapK .i64 ((List.length x4 : Int) * x2)) then
                k false
              else
                F.impl_DfaOK_1 N x1 0 (wrapK .i64 (x2 - 1)) fun r6 =>
                bif r6 then
                  F.impl_DfaOK_1 N x3 0 (wrapK .i64 ((List.length x4 : Int) - 1)) fun r7 =>
                  bif r7 then
                    F.impl_DfaOK_1 N x4 (-1) 99 fun r8 =>
                    bif r8 then
                      F.impl_DfaOK_1 N x5 (-1) 99 fun r9 =>
                      k r9
                    else
                      k false
                  else
                    k false
                else
                  k false
/-! ### loop.example/s0007/impl.commonest -/
def F.impl_commonest_l0_s {R : Type} (N : Nat) (x2 : Int) (x3 : List Int) (x4 : Int) (x5 : Int) (x6 : List (Int × Int)) (next : Int → (List Int) → Int → Int → (List (Int × Int)) → Option R) (ke0 : Int → (List (Int × Int)) → Option R) : Option R :=
  bif decide (x5 < x4) then
    bif inB x5 (List.length x3) then
      next x2 x3 x4 (wrapK .i64 (x5 + 1)) (mset eqI (List.getD x3 (Int.toNat x5) (0 : Int)) (wrapK .i64 ((mget eqI (List.getD x3 (Int.toNat x5) (0 : Int)) (0 : Int) x6) + 1)) x6)
    else
      none
  else
    ke0 x2 x6
def F.impl_commonest_l0 {R : Type} (N : Nat) : Nat → Int → (List Int) → Int → Int → (List (Int × Int)) → (Int → (List (Int × Int)) → Option R) → Option R
  | 0, _, _, _, _, _, _ => none
  | n + 1, x2, x3, x4, x5, x6, ke0 => F.impl_commonest_l0_s N x2 x3 x4 x5 x6 (fun x2 x3 x4 x5 x6 => F.impl_commonest_l0 N n x2 x3 x4 x5 x6 ke0) ke0
def F.impl_commonest_l2_s {R : Type} (N : Nat) (x9 : Int) (x10 : List (Int × Int)) (x11 : Nat) (x12 : List Nat) (x13 : Nat) (next : Int → (List (Int × Int)) → Nat → (List Nat) → Nat → Option R) (ke2 : Int → Option R) : Option R :=
  bif commOk x9 x10 x11 x12 x13 then
    ke2 (commF x10)
  else
    none
def F.impl_commonest_l2 {R : Type} (N : Nat) : Nat → Int → (List (Int × Int)) → Nat → (List Nat) → Nat → (Int → Option R) → Option R
  | 0, _, _, _, _, _, _ => none
  | n + 1, x9, x10, x11, x12, x13, ke2 => F.impl_commonest_l2_s N x9 x10 x11 x12 x13 (fun x9 x10 x11 x12 x13 => F.impl_commonest_l2 N n x9 x10 x11 x12 x13 ke2) ke2
def F.impl_commonest {R : Type} (N : Nat) (x1 : List Int) (k : Int → Option R) : Option R :=
  F.impl_commonest_l0 N N (-1) x1 (List.length x1 : Int) 0 ([] : List (Int × Int))
    (fun y7 y8 =>
      F.impl_commonest_l2 N N y7 y8 (List.length y8) (List.range (List.length y8)) 0
        (fun y14 =>
          k y14))
/-! ### (*loop.example/s0007/impl.laying).taken -/
def F.impl_laying_taken {R : Type} (x1 : List Int) (x2 : Int) (x3 : List Int) (x4 : List Int) (x5 : List Int) (x6 : List Int) (x7 : List Int) (x8 : List Int) (x9 : Int) (x10 : Int) (k : Bool → Option R) : Option R :=
  bif decide (x10 < (List.length x8 : Int)) then
    bif inB x10 (List.length x8) then
      k (decide ((List.getD x8 (Int.toNat x10) (0 : Int)) ≥ 0))
    else
      none
  else
    k false
/-! ### (*loop.example/s0007/impl.laying).fits -/
def F.impl_laying_fits_l0_s {R : Type} (N : Nat) (x12 : List Int) (x13 : Int) (x14 : List Int) (x15 : List Int) (x16 : List Int) (x17 : List Int) (x18 : List Int) (x19 : List Int) (x20 : Int) (x21 : Int) (x22 : List Int) (x23 : Int) (x24 : Int) (next : (List Int) → Int → (List Int) → (List Int) → (List Int) → (List Int) → (List Int) → (List Int) → Int → Int → (List Int) → Int → Int → Option R) (ke0 : Unit → Option R) (kret : Bool → Option R) : Option R :=
  bif decide (x24 < x23) then
    bif inB x24 (List.length x22) then
      F.impl_laying_taken x12 x13 x14 x15 x16 x17 x18 x19 x20 (wrapK .i64 (x21 + (List.getD x22 (Int.toNat x24) (0 : Int)))) fun r25 =>
      bif r25 then
        kret false
      else
        next x12 x13 x14 x15 x16 x17 x18 x19 x20 x21 x22 x23 (wrapK .i64 (x24 + 1))
    else
      none
  else
    ke0 ()
def F.impl_laying_fits_l0 {R : Type} (N : Nat) : Nat → (List Int) → Int → (List Int) → (List Int) → (List Int) → (List Int) → (List Int) → (List Int) → Int → Int → (List Int) → Int → Int → (Unit → Option R) → (Bool → Option R) → Option R
  | 0, _, _, _, _, _, _, _, _, _, _, _, _, _, _, _ => none
  | n + 1, x12, x13, x14, x15, x16, x17, x18, x19, x20, x21, x22, x23, x24, ke0, kret => F.impl_laying_fits_l0_s N x12 x13 x14 x15 x16 x17 x18 x19 x20 x21 x22 x23 x24 (fun x12 x13 x14 x15 x16 x17 x18 x19 x20 x21 x22 x23 x24 => F.impl_laying_fits_l0 N n x12 x13 x14 x15 x16 x17 x18 x19 x20 x21 x22 x23 x24 ke0 kret) ke0 kret
def F.impl_laying_fits {R : Type} (N : Nat) (x1 : List Int) (x2 : Int) (x3 : List Int) (x4 : List Int) (x5 : List Int) (x6 : List Int) (x7 : List Int) (x8 : List Int) (x9 : Int) (x10 : Int) (x11 : List Int) (k : Bool → Option R) : Option R :=
  F.impl_laying_fits_l0 N N x1 x2 x3 x4 x5 x6 x7 x8 x9 x10 x11 (List.length x11 : Int) 0
    (fun _ =>
      k true)
    (fun y26 =>
      k y26)
/-! ### (*loop.example/s0007/impl.laying).lay -/
def F.impl_laying_lay_l0_s {R : Type} (N : Nat) (x13 : Int) (x14 : List Int) (x15 : Int) (x16 : List Int) (x17 : Int) (x18 : Int) (x19 : Int) (x20 : Int) (x21 : List Int) (x22 : List Int) (x23 : List Int) (x24 : List Int) (x25 : List Int) (x26 : List Int) (x27 : List Int) (x28 : List Int) (next : Int → (List Int) → Int → (List Int) → Int → Int → Int → Int → (List Int) → (List Int) → (List Int) → (List Int) → (List Int) → (List Int) → (List Int) → (List Int) → Option R) (ke0 : Int → (List Int) → Int → Int → (List Int) → (List Int) → (List Int) → (List Int) → (List Int) → (List Int) → (List Int) → (List Int) → Option R) : Option R :=
  bif decide (x18 < x17) then
    bif inB x18 (List.length x16) then
      bif (List.getD x16 (Int.toNat x18) (0 : Int)) != x15 then
        bif Nat.ble (List.length x21 + List.length [x18]) (bigOf 8) then
          next x13 x14 x15 x16 x17 (wrapK .i64 (x18 + 1)) x19 x20 (x21 ++ [x18]) x22 x23 x24 x25 x26 x27 x28
        else
          none
      else
        next x13 x14 x15 x16 x17 (wrapK .i64 (x18 + 1)) x19 x20 x21 x22 x23 x24 x25 x26 x27 x28
    else
      none
  else
    ke0 x13 x14 x19 x20 x21 x22 x23 x24 x25 x26 x27 x28
def F.impl_laying_lay_l0 {R : Type} (N : Nat) : Nat → Int → (List Int) → Int → (List Int) → Int → Int → Int → Int → (List Int) → (List Int) → (List Int) → (List Int) → (List Int) → (List Int) → (List Int) → (List Int) → (Int → (List Int) → Int → Int → (List Int) → (List Int) → (List Int) → (List Int) → (List Int) → (List Int) → (List Int) → (List Int) → Option R) → Option R
  | 0, _, _, _, _, _, _, _, _, _, _, _, _, _, _, _, _, _ => none
  | n + 1, x13, x14, x15, x16, x17, x18, x19, x20, x21, x22, x23, x24, x25, x26, x27, x28, ke0 => F.impl_laying_lay_l0_s N x13 x14 x15 x16 x17 x18 x19 x20 x21 x22 x23 x24 x25 x26 x27 x28 (fun x13 x14 x15 x16 x17 x18 x19 x20 x21 x22 x23 x24 x25 x26 x27 x28 => F.impl_laying_lay_l0 N n x13 x14 x15 x16 x17 x18 x19 x20 x21 x22 x23 x24 x25 x26 x27 x28 ke0) ke0
def F.impl_laying_lay_l2_s {R : Type} (N : Nat) (x41 : Int) (x42 : List Int) (x43 : Int) (x44 : Int) (x45 : Int) (x46 : List Int) (x47 : List Int) (x48 : List Int) (x49 : List Int) (x50 : List Int) (x51 : List Int) (x52 : List Int) (x53 : List Int) (next : Int → (List Int) → Int → Int → Int → (List Int) → (List Int) → (List Int) → (List Int) → (List Int) → (List Int) → (List Int) → (List Int) → Option R) (ke2 : Int → (List Int) → Int → Int → Int → (List Int) → (List Int) → (List Int) → (List Int) → (List Int) → (List Int) → (List Int) → (List Int) → Option R) : Option R :=
  F.impl_laying_fits N x47 x44 x48 x49 x50 x51 x52 x53 x45 x43 x46 fun r54 =>
  bif !r54 then
    next x41 x42 (wrapK .i64 (x43 + 1)) x44 x45 x46 x47 x48 x49 x50 x51 x52 x53
  else
    ke2 x41 x42 x43 x44 x45 x46 x47 x48 x49 x50 x51 x52 x53
def F.impl_laying_lay_l2 {R : Type} (N : Nat) : Nat → Int → (List Int) → Int → Int → Int → (List Int) → (List Int) → (List Int) → (List Int) → (List Int) → (List Int) → (List Int) → (List Int) → (Int → (List Int) → Int → Int → Int → (List Int) → (List Int) → (List Int) → (List Int) → (List Int) → (List Int) → (List Int) → (List Int) → Option R) → Option R
  | 0, _, _, _, _, _, _, _, _, _, _, _, _, _, _ => none
  | n + 1, x41, x42, x43, x44, x45, x46, x47, x48, x49, x50, x51, x52, x53, ke2 => F.impl_laying_lay_l2_s N x41 x42 x43 x44 x45 x46 x47 x48 x49 x50 x51 x52 x53 (fun x41 x42 x43 x44 x45 x46 x47 x48 x49 x50 x51 x52 x53 => F.impl_laying_lay_l2 N n x41 x42 x43 x44 x45 x46 x47 x48 x49 x50 x51 x52 x53 ke2) ke2
def F.impl_laying_lay_l6_s {R : Type} (N : Nat) (x83 : Int) (x84 : List Int) (x85 : Int) (x86 : Int) (x87 : Int) (x88 : Int) (x89 : Int) (x90 : Int) (x91 : List Int) (x92 : List Int) (x93 : List Int) (x94 : List Int) (x95 : List Int) (x96 : List Int) (x97 : List Int) (x98 : List Int) (next : Int → (List Int) → Int → Int → Int → Int → Int → Int → (List Int) → (List Int) → (List Int) → (List Int) → (List Int) → (List Int) → (List Int) → (List Int) → Option R) (ke6 : Int → (List Int) → Int → Int → Int → Int → Int → Int → (List Int) → (List Int) → (List Int) → (List Int) → (List Int) → (List Int) → (List Int) → (List Int) → Option R) : Option R :=
  bif decide ((List.length x98 : Int) ≤ (wrapK .i64 (x85 + x86))) then
    bif Nat.ble (List.length x98 + List.length [(-1)]) (bigOf 8) then
      bif Nat.ble (List.length x97 + List.length [0]) (bigOf 8) then
        next x83 x84 x85 x86 x87 x88 x89 x90 x91 x92 x93 x94 x95 x96 (x97 ++ [0]) (x98 ++ [(-1)])
      else
        none
    else
      none
  else
    ke6 x83 x84 x85 x86 x87 x88 x89 x90 x91 x92 x93 x94 x95 x96 x97 x98
def F.impl_laying_lay_l6 {R : Type} (N : Nat) : Nat → Int → (List Int) → Int → Int → Int → Int → Int → Int → (List Int) → (List Int) → (List Int) → (List Int) → (List Int) → (List Int) → (List Int) → (List Int) → (Int → (List Int) → Int → Int → Int → Int → Int → Int → (List Int) → (List Int) → (List Int) → (List Int) → (List Int) → (List Int) → (List Int) → (List Int) → Option R) → Option R
  | 0, _, _, _, _, _, _, _, _, _, _, _, _, _, _, _, _, _ => none
  | n + 1, x83, x84, x85, x86, x87, x88, x89, x90, x91, x92, x93, x94, x95, x96, x97, x98, ke6 => F.impl_laying_lay_l6_s N x83 x84 x85 x86 x87 x88 x89 x90 x91 x92 x93 x94 x95 x96 x97 x98 (fun x83 x84 x85 x86 x87 x88 x89 x90 x91 x92 x93 x94 x95 x96 x97 x98 => F.impl_laying_lay_l6 N n x83 x84 x85 x86 x87 x88 x89 x90 x91 x92 x93 x94 x95 x96 x97 x98 ke6) ke6
def F.impl_laying_lay_l4_s {R : Type} (N : Nat) (x68 : Int) (x69 : List Int) (x70 : Int) (x71 : Int) (x72 : Int) (x73 : Int) (x74 : Int) (x75 : List Int) (x76 : List Int) (x77 : List Int) (x78 : List Int) (x79 : List Int) (x80 : List Int) (x81 : List Int) (x82 : List Int) (next : Int → (List Int) → Int → Int → Int → Int → Int → (List Int) → (List Int) → (List Int) → (List Int) → (List Int) → (List Int) → (List Int) → (List Int) → Option R) (ke4 : Int → Int → Int → (List Int) → (List Int) → (List Int) → (List Int) → (List Int) → (List Int) → (List Int) → Option R) : Option R :=
  bif decide (x72 < x71) then
    bif inB x72 (List.length x75) then
      F.impl_laying_lay_l6 N N x68 x69 x70 (List.getD x75 (Int.toNat x72) (0 : Int)) x71 x72 x73 x74 x75 x76 x77 x78 x79 x80 x81 x82
        (fun y99 y100 y101 y102 y103 y104 y105 y106 y107 y108 y109 y110 y111 y112 y113 y114 =>
          bif inB (wrapK .i64 (y101 + y102)) (List.length y114) then
            bif inB y102 (List.length y100) then
              bif inB (wrapK .i64 (y101 + y102)) (List.length y113) then
                next y99 y100 y101 y103 (wrapK .i64 (y104 + 1)) y105 y106 y107 y108 y109 y110 y111 y112 (List.set y113 (Int.toNat (wrapK .i64 (y101 + y102))) (List.getD y100 (Int.toNat y102) (0 : Int))) (List.set y114 (Int.toNat (wrapK .i64 (y101 + y102))) y99)
              else
                none
            else
              none
          else
            none)
    else
      none
  else
    ke4 x70 x73 x74 x76 x77 x78 x79 x80 x81 x82
def F.impl_laying_lay_l4 {R : Type} (N : Nat) : Nat → Int → (List Int) → Int → Int → Int → Int → Int → (List Int) → (List Int) → (List Int) → (List Int) → (List Int) → (List Int) → (List Int) → (List Int) → (Int → Int → Int → (List Int) → (List Int) → (List Int) → (List Int) → (List Int) → (List Int) → (List Int) → Option R) → Option R
  | 0, _, _, _, _, _, _, _, _, _, _, _, _, _, _, _, _ => none
  | n + 1, x68, x69, x70, x71, x72, x73, x74, x75, x76, x77, x78, x79, x80, x81, x82, ke4 => F.impl_laying_lay_l4_s N x68 x69 x70 x71 x72 x73 x74 x75 x76 x77 x78 x79 x80 x81 x82 (fun x68 x69 x70 x71 x72 x73 x74 x75 x76 x77 x78 x79 x80 x81 x82 => F.impl_laying_lay_l4 N n x68 x69 x70 x71 x72 x73 x74 x75 x76 x77 x78 x79 x80 x81 x82 ke4) ke4
def F.impl_laying_lay_l8_s {R : Type} (N : Nat) (x125 : Int) (x126 : Int) (x127 : Int) (x128 : List Int) (x129 : List Int) (x130 : List Int) (x131 : List Int) (x132 : List Int) (x133 : List Int) (x134 : List Int) (next : Int → Int → Int → (List Int) → (List Int) → (List Int) → (List Int) → (List Int) → (List Int) → (List Int) → Option R) (ke8 : Int → Int → Int → (List Int) → (List Int) → (List Int) → (List Int) → (List Int) → (List Int) → (List Int) → Option R) : Option R :=
  F.impl_laying_taken x128 x126 x129 x130 x131 x132 x133 x134 x127 x127 fun r135 =>
  bif r135 then
    next x125 x126 (wrapK .i64 (x127 + 1)) x128 x129 x130 x131 x132 x133 x134
  else
    ke8 x125 x126 x127 x128 x129 x130 x131 x132 x133 x134
def F.impl_laying_lay_l8 {R : Type} (N : Nat) : Nat → Int → Int → Int → (List Int) → (List Int) → (List Int) → (List Int) → (List Int) → (List Int) → (List Int) → (Int → Int → Int → (List Int) → (List Int) → (List Int) → (List Int) → (List Int) → (List Int) → (List Int) → Option R) → Option R
  | 0, _, _, _, _, _, _, _, _, _, _, _ => none
  | n + 1, x125, x126, x127, x128, x129, x130, x131, x132, x133, x134, ke8 => F.impl_laying_lay_l8_s N x125 x126 x127 x128 x129 x130 x131 x132 x133 x134 (fun x125 x126 x127 x128 x129 x130 x131 x132 x133 x134 => F.impl_laying_lay_l8 N n x125 x126 x127 x128 x129 x130 x131 x132 x133 x134 ke8) ke8
def F.impl_laying_lay {R : Type} (N : Nat) (x1 : Int) (x2 : List Int) (x3 : Int) (x4 : Int) (x5 : List Int) (x6 : List Int) (x7 : List Int) (x8 : List Int) (x9 : List Int) (x10 : List Int) (x11 : List Int) (k : Bool → Int → Int → (List Int) → (List Int) → (List Int) → (List Int) → (List Int) → (List Int) → (List Int) → Option R) : Option R :=
  F.impl_commonest N x2 fun r12 =>
  bif Nat.ble (List.length x7 + List.length [r12]) (bigOf 8) then
    F.impl_laying_lay_l0 N N x1 x2 r12 x2 (List.length x2 : Int) 0 x3 x4 ([] : List Int) x5 x6 (x7 ++ [r12]) x8 x9 x10 x11
      (fun y29 y30 y31 y32 y33 y34 y35 y36 y37 y38 y39 y40 =>
        bif decide ((List.length y33 : Int) > 0) then
          bif inB 0 (List.length y33) then
            F.impl_laying_lay_l2 N N y29 y30 (bif decide ((wrapK .i64 (y32 - (List.getD y33 (Int.toNat 0) (0 : Int)))) > 0) then wrapK .i64 (y32 - (List.getD y33 (Int.toNat 0) (0 : Int))) else 0) y31 y32 y33 y34 y35 y36 y37 y38 y39 y40
              (fun y55 y56 y57 y58 y59 y60 y61 y62 y63 y64 y65 y66 y67 =>
                bif inB (wrapK .i64 ((List.length y60 : Int) - 1)) (List.length y60) then
                  bif decide ((wrapK .i64 (y57 + (List.getD y60 (Int.toNat (wrapK .i64 ((List.length y60 : Int) - 1))) (0 : Int)))) ≥ 60000) then
                    k false y58 y59 y61 y62 y63 y64 y65 y66 y67
                  else
                    F.impl_laying_lay_l4 N N y55 y56 y57 (List.length y60 : Int) 0 y58 y59 y60 y61 y62 y63 y64 y65 y66 y67
                      (fun y115 y116 y117 y118 y119 y120 y121 y122 y123 y124 =>
                        F.impl_laying_lay_l8 N N y115 y116 y117 y118 y119 y120 y121 y122 y123 y124
                          (fun y136 y137 y138 y139 y140 y141 y142 y143 y144 y145 =>
                            bif Nat.ble (List.length y140 + List.length [y136]) (bigOf 8) then
                              k true y137 y138 y139 (y140 ++ [y136]) y141 y142 y143 y144 y145
                            else
                              none))
                else
                  none)
          else
            none
        else
          F.impl_laying_lay_l4 N N y29 y30 0 (List.length y33 : Int) 0 y31 y32 y33 y34 y35 y36 y37 y38 y39 y40
            (fun y146 y147 y148 y149 y150 y151 y152 y153 y154 y155 =>
              F.impl_laying_lay_l8 N N y146 y147 y148 y149 y150 y151 y152 y153 y154 y155
                (fun y156 y157 y158 y159 y160 y161 y162 y163 y164 y165 =>
                  bif Nat.ble (List.length y160 + List.length [y156]) (bigOf 8) then
                    k true y157 y158 y159 (y160 ++ [y156]) y161 y162 y163 y164 y165
                  else
                    none)))
  else
    none
/-! ### loop.example/s0007/impl.Pack -/
def F.impl_Pack_l0_s {R : Type} (N : Nat) (x7 : Int) (x8 : Int) (x9 : List Int) (x10 : Int) (x11 : List Int) (x12 : List Int) (x13 : List Int) (x14 : Int) (x15 : Int) (x16 : Int) (x17 : List Int) (x18 : List Int) (x19 : List Int) (x20 : List Int) (x21 : List Int) (x22 : List Int) (x23 : List Int) (x24 : List Int) (x25 : List Int) (x26 : List Int) (x27 : List Int) (x28 : List Int) (x29 : List Int) (x30 : List Int) (next : Int → Int → (List Int) → Int → (List Int) → (List Int) → (List Int) → Int → Int → Int → (List Int) → (List Int) → (List Int) → (List Int) → (List Int) → (List Int) → (List Int) → (List Int) → (List Int) → (List Int) → (List Int) → (List Int) → (List Int) → (List Int) → Option R) (ke0 : Int → Int → Int → (List Int) → (List Int) → (List Int) → (List Int) → (List Int) → (List Int) → (List Int) → (List Int) → (List Int) → (List Int) → (List Int) → (List Int) → (List Int) → (List Int) → Option R) (kret : Int → Int → Int → Int → (List Int) → (List Int) → (List Int) → (List Int) → (List Int) → (List Int) → (List Int) → (List Int) → (List Int) → (List Int) → (List Int) → (List Int) → (List Int) → (List Int) → Option R) : Option R :=
  bif decide (x8 < x7) then
    bif decide (0 ≤ (wrapK .i64 ((wrapK .i64 (x8 + 1)) * x10))) && decide ((wrapK .i64 ((wrapK .i64 (x8 + 1)) * x10)) ≤ (List.length x11 : Int)) then
      bif decide (0 ≤ (wrapK .i64 (x8 * x10))) && decide ((wrapK .i64 (x8 * x10)) ≤ (wrapK .i64 ((wrapK .i64 (x8 + 1)) * x10))) then
        F.impl_laying_lay N x8 (List.drop (Int.toNat (wrapK .i64 (x8 * x10))) (List.take (Int.toNat (wrapK .i64 ((wrapK .i64 (x8 + 1)) * x10))) x11)) x15 x16 x24 x25 x26 x27 x28 x29 x30 fun r31 r32 r33 r34 r35 r36 r37 r38 r39 r40 =>
        bif !r31 then
          kret 2 0 r32 r33 ([] : List Int) ([] : List Int) ([] : List Int) ([] : List Int) ([] : List Int) ([] : List Int) ([] : List Int) r34 r35 r36 r37 r38 r39 r40
        else
          next x7 (wrapK .i64 (x8 + 1)) x9 x10 x11 x12 x13 x14 r32 r33 x17 x18 x19 x20 x21 x22 x23 r34 r35 r36 r37 r38 r39 r40
      else
        none
    else
      none
  else
    ke0 x14 x15 x16 x17 x18 x19 x20 x21 x22 x23 x24 x25 x26 x27 x28 x29 x30
def F.impl_Pack_l0 {R : Type} (N : Nat) : Nat → Int → Int → (List Int) → Int → (List Int) → (List Int) → (List Int) → Int → Int → Int → (List Int) → (List Int) → (List Int) → (List Int) → (List Int) → (List Int) → (List Int) → (List Int) → (List Int) → (List Int) → (List Int) → (List Int) → (List Int) → (List Int) → (Int → Int → Int → (List Int) → (List Int) → (List Int) → (List Int) → (List Int) → (List Int) → (List Int) → (List Int) → (List Int) → (List Int) → (List Int) → (List Int) → (List Int) → (List Int) → Option R) → (Int → Int → Int → Int → (List Int) → (List Int) → (List Int) → (List Int) → (List Int) → (List Int) → (List Int) → (List Int) → (List Int) → (List Int) → (List Int) → (List Int) → (List Int) → (List Int) → Option R) → Option R
  | 0, _, _, _, _, _, _, _, _, _, _, _, _, _, _, _, _, _, _, _, _, _, _, _, _, _, _ => none
  | n + 1, x7, x8, x9, x10, x11, x12, x13, x14, x15, x16, x17, x18, x19, x20, x21, x22, x23, x24, x25, x26, x27, x28, x29, x30, ke0, kret => F.impl_Pack_l0_s N x7 x8 x9 x10 x11 x12 x13 x14 x15 x16 x17 x18 x19 x20 x21 x22 x23 x24 x25 x26 x27 x28 x29 x30 (fun x7 x8 x9 x10 x11 x12 x13 x14 x15 x16 x17 x18 x19 x20 x21 x22 x23 x24 x25 x26 x27 x28 x29 x30 => F.impl_Pack_l0 N n x7 x8 x9 x10 x11 x12 x13 x14 x15 x16 x17 x18 x19 x20 x21 x22 x23 x24 x25 x26 x27 x28 x29 x30 ke0 kret) ke0 kret
def F.impl_Pack {R : Type} (N : Nat) (x1 : List Int) (x2 : Int) (x3 : List Int) (x4 : List Int) (x5 : List Int) (k : Int → Int → (List Int) → (List Int) → (List Int) → (List Int) → (List Int) → (List Int) → (List Int) → Option R) : Option R :=
  F.impl_DfaOK N x1 x2 x3 x4 x5 fun r6 =>
  bif !r6 then
    k 0 1 ([] : List Int) ([] : List Int) ([] : List Int) ([] : List Int) ([] : List Int) ([] : List Int) ([] : List Int)
  else
    bif Nat.ble (List.length ([] : List Int) + List.length x1) (bigOf 8) then
      bif Nat.ble (List.length ([] : List Int) + List.length x4) (bigOf 8) then
        bif Nat.ble (List.length ([] : List Int) + List.length x5) (bigOf 8) then
          F.impl_Pack_l0 N N (List.length x4 : Int) 0 x1 x2 x3 x4 x5 0 x2 0 ([] : List Int) ([] : List Int) ([] : List Int) ([] : List Int) ([] : List Int) ([] : List Int) ([] : List Int) (([] : List Int) ++ x1) ([] : List Int) ([] : List Int) (([] : List Int) ++ x4) (([] : List Int) ++ x5) ([] : List Int) ([] : List Int)
            (fun y41 y42 y43 y44 y45 y46 y47 y48 y49 y50 y51 y52 y53 y54 y55 y56 y57 =>
              k y42 0 y51 y52 y53 y54 y55 y56 y57)
            (fun y58 y59 y60 y61 y62 y63 y64 y65 y66 y67 y68 y69 y70 y71 y72 y73 y74 y75 =>
              k y59 y58 y62 y63 y64 y65 y66 y67 y68)
        else
          none
      else
        none
    else
      none
/-! ### loop.example/s0007/laws.eqIntS -/
def F.laws_eqIntS_l0_s {R : Type} (N : Nat) (x3 : List Int) (x4 : List Int) (x5 : Int) (next : (List Int) → (List Int) → Int → Option R) (ke0 : Unit → Option R) (kret : Bool → Option R) : Option R :=
  bif decide (x5 < (List.length x3 : Int)) then
    bif inB x5 (List.length x3) then
      bif inB x5 (List.length x4) then
        bif (List.getD x3 (Int.toNat x5) (0 : Int)) != (List.getD x4 (Int.toNat x5) (0 : Int)) then
          kret false
        else
          next x3 x4 (wrapK .i64 (x5 + 1))
      else
        none
    else
      none
  else
    ke0 ()
def F.laws_eqIntS_l0 {R : Type} (N : Nat) : Nat → (List Int) → (List Int) → Int → (Unit → Option R) → (Bool → Option R) → Option R
  | 0, _, _, _, _, _ => none
  | n + 1, x3, x4, x5, ke0, kret => F.laws_eqIntS_l0_s N x3 x4 x5 (fun x3 x4 x5 => F.laws_eqIntS_l0 N n x3 x4 x5 ke0 kret) ke0 kret
def F.laws_eqIntS {R : Type} (N : Nat) (x1 : List Int) (x2 : List Int) (k : Bool → Option R) : Option R :=
  bif (List.length x1 : Int) != (List.length x2 : Int) then
    k false
  else
    F.laws_eqIntS_l0 N N x1 x2 0
      (fun _ =>
        k true)
      (fun y6 =>
        k y6)
/-! ### loop.example/s0007/laws.eqTable -/
def F.laws_eqTable {R : Type} (N : Nat) (x1 : List Int) (x2 : Int) (x3 : List Int) (x4 : List Int) (x5 : List Int) (x6 : List Int) (x7 : List Int) (x8 : List Int) (x9 : List Int) (x10 : Int) (x11 : List Int) (x12 : List Int) (x13 : List Int) (x14 : List Int) (x15 : List Int) (x16 : List Int) (k : Bool → Option R) : Option R :=
  F.laws_eqIntS N x1 x9 fun r17 =>
  bif !r17 then
    k false
  else
    bif x2 != x10 then
      k false
    else
      F.laws_eqIntS N x3 x11 fun r18 =>
      bif !r18 then
        k false
      else
        F.laws_eqIntS N x4 x12 fun r19 =>
        bif !r19 then
          k false
        else
          F.laws_eqIntS N x5 x13 fun r20 =>
          bif !r20 then
            k false
          else
            F.laws_eqIntS N x6 x14 fun r21 =>
            bif !r21 then
              k false
            else
              F.laws_eqIntS N x7 x15 fun r22 =>
              bif !r22 then
                k false
              else
                F.laws_eqIntS N x8 x16 fun r23 =>
                bif !r23 then
                  k false
                else
                  k true
/-! ### loop.example/s0007/laws.eqDfa -/
def F.laws_eqDfa {R : Type} (N : Nat) (x1 : List Int) (x2 : Int) (x3 : List Int) (x4 : List Int) (x5 : List Int) (x6 : List Int) (x7 : Int) (x8 : List Int) (x9 : List Int) (x10 : List Int) (k : Bool → Option R) : Option R :=
  F.laws_eqIntS N x1 x6 fun r11 =>
  bif !r11 then
    k false
  else
    bif x2 != x7 then
      k false
    else
      F.laws_eqIntS N x3 x8 fun r12 =>
      bif !r12 then
        k false
      else
        F.laws_eqIntS N x4 x9 fun r13 =>
        bif !r13 then
          k false
        else
          F.laws_eqIntS N x5 x10 fun r14 =>
          bif !r14 then
            k false
          else
            k true
/-! ### loop.example/s0007/laws.markIntS -/
def F.laws_markIntS_l0_s {R : Type} (N : Nat) (x3 : Int) (x4 : Int) (x5 : List Int) (next : Int → Int → (List Int) → Option R) (ke0 : Int → (List Int) → Option R) : Option R :=
  bif decide (x4 < (List.length x5 : Int)) then
    bif inB x4 (List.length x5) then
      next (wrapK .i64 (x3 + 1)) (wrapK .i64 (x4 + 1)) (List.set x5 (Int.toNat x4) x3)
    else
      none
  else
    ke0 x3 x5
def F.laws_markIntS_l0 {R : Type} (N : Nat) : Nat → Int → Int → (List Int) → (Int → (List Int) → Option R) → Option R
  | 0, _, _, _, _ => none
  | n + 1, x3, x4, x5, ke0 => F.laws_markIntS_l0_s N x3 x4 x5 (fun x3 x4 x5 => F.laws_markIntS_l0 N n x3 x4 x5 ke0) ke0
def F.laws_markIntS {R : Type} (N : Nat) (x1 : Int) (x2 : List Int) (k : Int → (List Int) → Option R) : Option R :=
  F.laws_markIntS_l0 N N x1 0 x2
    (fun y6 y7 =>
      k y6 y7)
/-! ### loop.example/s0007/laws.markDfa -/
def F.laws_markDfa {R : Type} (N : Nat) (x1 : Int) (x2 : Int) (x3 : List Int) (x4 : List Int) (x5 : List Int) (x6 : List Int) (k : Int → (List Int) → (List Int) → (List Int) → (List Int) → Option R) : Option R :=
  F.laws_markIntS N x2 x3 fun r7 r8 =>
  F.laws_markIntS N r7 x4 fun r9 r10 =>
  F.laws_markIntS N r9 x5 fun r11 r12 =>
  F.laws_markIntS N r11 x6 fun r13 r14 =>
  k r13 r8 r10 r12 r14
/-! ### loop.example/s0007/laws.markTable -/
def F.laws_markTable {R : Type} (N : Nat) (x1 : Int) (x2 : Int) (x3 : List Int) (x4 : List Int) (x5 : List Int) (x6 : List Int) (x7 : List Int) (x8 : List Int) (x9 : List Int) (k : Int → (List Int) → (List Int) → (List Int) → (List Int) → (List Int) → (List Int) → (List Int) → Option R) : Option R :=
  F.laws_markIntS N x2 x3 fun r10 r11 =>
  F.laws_markIntS N r10 x4 fun r12 r13 =>
  F.laws_markIntS N r12 x5 fun r14 r15 =>
  F.laws_markIntS N r14 x6 fun r16 r17 =>
  F.laws_markIntS N r16 x7 fun r18 r19 =>
  F.laws_markIntS N r18 x8 fun r20 r21 =>
  F.laws_markIntS N r20 x9 fun r22 r23 =>
  k r22 r11 r13 r15 r17 r19 r21 r23
/-! ### loop.example/s0007/laws.heldIntS -/
def F.laws_heldIntS_l0_s {R : Type} (N : Nat) (x3 : List Int) (x4 : Int) (x5 : Int) (next : (List Int) → Int → Int → Option R) (ke0 : Int → Option R) (kret : Int → Int → Option R) : Option R :=
  bif decide (x5 < (List.length x3 : Int)) then
    bif inB x5 (List.length x3) then
      bif (List.getD x3 (Int.toNat x5) (0 : Int)) != x4 then
        kret x4 (-1)
      else
        next x3 (wrapK .i64 (x4 + 1)) (wrapK .i64 (x5 + 1))
    else
      none
  else
    ke0 x4
def F.laws_heldIntS_l0 {R : Type} (N : Nat) : Nat → (List Int) → Int → Int → (Int → Option R) → (Int → Int → Option R) → Option R
  | 0, _, _, _, _, _ => none
  | n + 1, x3, x4, x5, ke0, kret => F.laws_heldIntS_l0_s N x3 x4 x5 (fun x3 x4 x5 => F.laws_heldIntS_l0 N n x3 x4 x5 ke0 kret) ke0 kret
def F.laws_heldIntS {R : Type} (N : Nat) (x1 : List Int) (x2 : Int) (k : Int → Option R) : Option R :=
  F.laws_heldIntS_l0 N N x1 x2 0
    (fun y6 =>
      k y6)
    (fun y7 y8 =>
      k y8)
/-! ### loop.example/s0007/laws.heldTable -/
def F.laws_heldTable {R : Type} (N : Nat) (x1 : List Int) (x2 : Int) (x3 : List Int) (x4 : List Int) (x5 : List Int) (x6 : List Int) (x7 : List Int) (x8 : List Int) (x9 : Int) (k : Int → Option R) : Option R :=
  F.laws_heldIntS N x1 x9 fun r10 =>
  bif decide (r10 < 0) then
    k (-1)
  else
    F.laws_heldIntS N x3 r10 fun r11 =>
    bif decide (r11 < 0) then
      k (-1)
    else
      F.laws_heldIntS N x4 r11 fun r12 =>
      bif decide (r12 < 0) then
        k (-1)
      else
        F.laws_heldIntS N x5 r12 fun r13 =>
        bif decide (r13 < 0) then
          k (-1)
        else
          F.laws_heldIntS N x6 r13 fun r14 =>
          bif decide (r14 < 0) then
            k (-1)
          else
            F.laws_heldIntS N x7 r14 fun r15 =>
            bif decide (r15 < 0) then
              k (-1)
            else
              F.laws_heldIntS N x8 r15 fun r16 =>
              bif decide (r16 < 0) then
                k (-1)
              else
                k r16
/-! ### loop.example/s0007/laws.FnExactPack -/
def F.laws_FnExactPack {R : Type} (N : Nat) (x1 : List Int) (x2 : Int) (x3 : List Int) (x4 : List Int) (x5 : List Int) (k : Bool → Option R) : Option R :=
  F.laws_szDfa x1 x2 x3 x4 x5 1048576 fun r6 =>
  bif decide (r6 < 0) then
    k true
  else
    F.laws_toDfa N x1 x2 x3 x4 x5 fun r7 r8 r9 r10 r11 =>
    F.spec_Pack N r8 r7 r9 r10 r11 fun r12 r13 r14 r15 r16 r17 r18 r19 r20 =>
    F.laws_toDfa N x1 x2 x3 x4 x5 fun r21 r22 r23 r24 r25 =>
    F.impl_Pack N r22 r21 r23 r24 r25 fun r26 r27 r28 r29 r30 r31 r32 r33 r34 =>
    F.laws_eqTable N r28 r26 r29 r30 r31 r32 r33 r34 r14 r12 r15 r16 r17 r18 r19 r20 fun r35 =>
    bif !r35 then
      k false
    else
      bif r27 != r13 then
        k false
      else
        F.laws_toDfa N x1 x2 x3 x4 x5 fun r36 r37 r38 r39 r40 =>
        F.laws_eqDfa N r22 r21 r23 r24 r25 r37 r36 r38 r39 r40 fun r41 =>
        bif !r41 then
          k false
        else
          F.laws_markDfa N r21 1 r22 r23 r24 r25 fun r42 r43 r44 r45 r46 =>
          bif decide (r42 < 0) then
            k false
          else
            F.laws_eqTable N r28 r26 r29 r30 r31 r32 r33 r34 r14 r12 r15 r16 r17 r18 r19 r20 fun r47 =>
            bif !r47 then
              k false
            else
              bif r27 != r13 then
                k false
              else
                F.laws_markTable N r26 1 r28 r29 r30 r31 r32 r33 r34 fun r48 r49 r50 r51 r52 r53 r54 r55 =>
                F.laws_heldTable N r49 r26 r50 r51 r52 r53 r54 r55 1 fun r56 =>
                bif decide (r56 < 0) then
                  k false
                else
                  bif r56 != r48 then
                    k false
                  else
                    F.laws_toDfa N x1 x2 x3 x4 x5 fun r57 r58 r59 r60 r61 =>
                    F.impl_Pack N r58 r57 r59 r60 r61 fun r62 r63 r64 r65 r66 r67 r68 r69 r70 =>
                    F.laws_eqTable N r64 r62 r65 r66 r67 r68 r69 r70 r14 r12 r15 r16 r17 r18 r19 r20 fun r71 =>
                    bif !r71 then
                      k false
                    else
                      bif r63 != r13 then
                        k false
                      else
                        k true
end Go.Proofs.Ytbbfbnediaenlaa.fnExactPack
