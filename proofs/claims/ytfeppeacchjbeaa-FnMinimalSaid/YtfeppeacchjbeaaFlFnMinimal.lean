/- These plain functions are what the Go functions answer. -/
import Derived.Test.YtfeppeacchjbeaaFkFnMinimal
import Derived.Test.YtfeppeacchjbeaaChecked
import Derived.KernelRfl
import Derived.Eval
set_option maxRecDepth 100000
set_option maxHeartbeats 4000000
set_option linter.unusedVariables false
set_option linter.unusedSimpArgs false
namespace Go.Proofs.Ytfeppeacchjbeaa.fnMinimal
open Go.Ev Go.Ev.Enc
variable{R:Type}
abbrev E.q88_l4_i:Enc St:=sT 12 (lU V3 rfl (lU K7 rfl (lU Jm rfl (lU Aaa rfl (lC Ce (lC He (lC Ff (lC Hg (lC (kY 13 bB) (lC (kY 139 (iN .i64)) (lO (kY 140 (iN .i64))))))))))))) (lC (kY 0 O0) Th)
abbrev E.q88_l4_oe4:Enc St:=sT 12 (lU Kc rfl (lU V3 rfl (lU K7 rfl (lU Jm rfl (lU Aaa rfl (lC Ce (lC He (lC Ff (lC Hg (lO (kY 13 bB))))))))))) (lC (kY 0 O0) Th)
abbrev E.q88_l4_oret:Enc St:=sT 12 (lC Kz (lU V3 rfl (lU K7 rfl (lU Jm rfl (lU Aaa rfl (lC Ce (lC He (lC Ff (lC Hg (lO (kY 13 bB))))))))))) (lC (kY 0 O0) Th)
abbrev E.q88_l2_i:Enc St:=sT 12 (lU V3 rfl (lU K7 rfl (lU Jm rfl (lU Aaa rfl (lC Ce (lO He)))))) (lC (kY 0 O0) Th)
abbrev E.q88_l2_oe2:Enc St:=sT 12 (lU Kc rfl Akc) (lC (kY 0 O0) Th)
abbrev E.q88_l2_oret:Enc St:=sT 12 (lC Kz Akc) (lC (kY 0 O0) Th)
abbrev E.q88_l0_i:Enc St:=sT 12 Akc (lC (kY 0 O0) Th)
abbrev E.q88_l0_oe0:Enc St:=sR 6 (lU Kc rfl (lU O1 rfl (lU Aab rfl (lN (Nat×AV))))) rfl Aac
abbrev E.q88_l0_oret:Enc St:=sT 6 (lR Kz (lU O1 rfl (lU Aab rfl (lN (Nat×AV)))) rfl) Aac
abbrev E.q88_l8_i:Enc St:=sT 6 (lU O1 rfl (lU Aab rfl (lC Vw (lC (kY 16 bB) (lC Akd (lC Ake (lU (kY 172 (sL 1)) rfl (lC (kY 173 (iN .i64)) (lO (kY 174 (iN .i64))))))))))) Aac
abbrev E.q88_l8_oe8:Enc St:=sT 6 (lU O1 rfl (lU Aab rfl (lC (kY 16 bB) (lC Akd (lO Ake))))) Aac
abbrev E.q88_l6_i:Enc St:=sT 6 (lU O1 rfl (lU Aab rfl (lC Akd (lO Ake)))) Aac
abbrev E.q88_l6_oe6:Enc St:=sR 5 (lU Kc rfl Afe) rfl (lC (kY 0 Ti) Tj)
abbrev E.q88_l6_oret:Enc St:=sT 5 (lR Kz Afe rfl) (lC (kY 0 Ti) Tj)
abbrev E.q88_l12_i:Enc St:=sT 5 (lU O1 rfl (lC Rf (lC (kY 20 bB) (lO Vu)))) (lC (kY 0 Ti) Tj)
abbrev E.q88_l12_oe12:Enc St:=sT 5 (lU O1 rfl (lC Rf (lO (kY 20 bB)))) (lC (kY 0 Ti) Tj)
abbrev E.q88_l10_i:Enc St:=sT 5 (lU O1 rfl (lO Rf)) (lC (kY 0 Ti) Tj)
abbrev E.q88_l10_oe10:Enc St:=sR 5 (lU Kc rfl Afe) rfl (lC (kY 0 Ti) Tj)
abbrev E.q88_l10_oret:Enc St:=sT 5 (lR Kz Afe rfl) (lC (kY 0 Ti) Tj)
abbrev E.q88_j14:Enc St:=sT 10 (lU V3 rfl (lU K7 rfl (lO (kY 55 bB)))) Ae7
abbrev E.q88_j2:Enc St:=sQ 0 (lC (kY 0 en0) (lO (kY 29 bB))) (lN (Nat×Blk)) rfl
abbrev E.q88_a:Enc (List AV×List Blk):=bQ (lC en0 (lO en0)) (lN Blk) rfl
abbrev E.q88_r:Enc (AV×List (Option Blk)×List Blk):=bQ bB (bS (lN (Option Blk)) rfl (lN Blk)) rfl
def T.q88(N:Nat):Au R:={f:=3,arg:=E.q88_a,res:=E.q88_r,fn:=F.ru N}
def H.q88:A4:={lp:=[(0,[5,6,7,8,9],[4,6,8]),(2,[5,6,7,8,9,10],[4,5,6,7,8,9]),(4,[5,6,7,8,9,10,11,12,13,139,140],[4,5,6,7,8,9,10,11,12,13]),(6,[6,8,168,169],[4,6]),(8,[6,8,15,16,168,169,172,173,174],[6,8,16,168,169]),(10,[6,19],[4,6]),(12,[6,19,20,21],[6,19,20])],jn:=[(14,[5,6,55],E.q88_j14),(2,[0,29],E.q88_j2)]}
theorem WF.f3:Bb Try.prog 3 Try.f3:=Aq Try.func3 (by decide) (by kernel_rfl)
def TL.q88_l4(N:Nat):Am R:={b:=4,st:=E.q88_l4_i,fn:=λ d k=>lp (F.fe N) N d (λ y=>k (.exit 4) (E.q88_l4_oe4.to y),λ y=>k .ret (E.q88_l4_oret.to y))}
theorem LK.q88_l4(N:Nat):Ah Try.prog 0 Try.f3.ntmps (bodyOf Try.f3) (TL.q88_l4 (R:=R) N):=
 Ai (i:=[5,6,7,8,9,10,11,12,13,139,140]) (o:=[4,5,6,7,8,9,10,11,12,13]) (h:=H.q88) hC hm Ac WF.f3 Ab (by kernel_rfl) (λ d=>Aj rfl) N (F.fe N) _ (λ _ _=>rfl) (λ _ _ _=>by kernel_rfl)
def TL.q88_l2(N:Nat):Am R:={b:=2,st:=E.q88_l2_i,fn:=λ d k=>lp (F.ff N) N d (λ y=>k (.exit 2) (E.q88_l2_oe2.to y),λ y=>k .ret (E.q88_l2_oret.to y))}
theorem LK.q88_l2(N:Nat):Ah Try.prog 0 Try.f3.ntmps (bodyOf Try.f3) (TL.q88_l2 (R:=R) N):=
 Ai (i:=[5,6,7,8,9,10]) (o:=[4,5,6,7,8,9]) (h:=H.q88) hC hm Ac WF.f3 (Af (LK.q88_l4 N) Ab) (by kernel_rfl) (λ d=>Aj rfl) N (F.ff N) _ (λ _ _=>rfl) (λ _ _ _=>by kernel_rfl)
def TL.q88_l0(N:Nat):Am R:={b:=0,st:=E.q88_l0_i,fn:=λ d k=>lp (F.fg N) N d (λ y=>k (.exit 0) (E.q88_l0_oe0.to y),λ y=>k .ret (E.q88_l0_oret.to y))}
theorem LK.q88_l0(N:Nat):Ah Try.prog 0 Try.f3.ntmps (bodyOf Try.f3) (TL.q88_l0 (R:=R) N):=
 Ai (i:=[5,6,7,8,9]) (o:=[4,6,8]) (h:=H.q88) hC hm Ac WF.f3 (Af (LK.q88_l2 N) Ab) (by kernel_rfl) (λ d=>Aj rfl) N (F.fg N) _ (λ _ _=>rfl) (λ _ _ _=>by kernel_rfl)
def TL.q88_l8(N:Nat):Am R:={b:=8,st:=E.q88_l8_i,fn:=λ d k=>lp (F.fh N) N d (λ y=>k (.exit 8) (E.q88_l8_oe8.to y))}
theorem LK.q88_l8(N:Nat):Ah Try.prog 0 Try.f3.ntmps (bodyOf Try.f3) (TL.q88_l8 (R:=R) N):=
 Ai (i:=[6,8,15,16,168,169,172,173,174]) (o:=[6,8,16,168,169]) (h:=H.q88) hC hm Ac WF.f3 Ab (by kernel_rfl) (λ d=>Aj rfl) N (F.fh N) _ (λ _ _=>rfl) (λ _ _ _=>by kernel_rfl)
def TL.q88_l6(N:Nat):Am R:={b:=6,st:=E.q88_l6_i,fn:=λ d k=>lp (F.fj N) N d (λ y=>k (.exit 6) (E.q88_l6_oe6.to y),λ y=>k .ret (E.q88_l6_oret.to y))}
theorem LK.q88_l6(N:Nat):Ah Try.prog 0 Try.f3.ntmps (bodyOf Try.f3) (TL.q88_l6 (R:=R) N):=
 Ai (i:=[6,8,168,169]) (o:=[4,6]) (h:=H.q88) hC hm Ac WF.f3 (Af (LK.q88_l8 N) Ab) (by kernel_rfl) (λ d=>Aj rfl) N (F.fj N) _ (λ _ _=>rfl) (λ _ _ _=>by kernel_rfl)
def TL.q88_l12(N:Nat):Am R:={b:=12,st:=E.q88_l12_i,fn:=λ d k=>lp (F.ct N) N d (λ y=>k (.exit 12) (E.q88_l12_oe12.to y))}
theorem LK.q88_l12(N:Nat):Ah Try.prog 0 Try.f3.ntmps (bodyOf Try.f3) (TL.q88_l12 (R:=R) N):=
 Ai (i:=[6,19,20,21]) (o:=[6,19,20]) (h:=H.q88) hC hm Ac WF.f3 Ab (by kernel_rfl) (λ d=>Aj rfl) N (F.ct N) _ (λ _ _=>rfl) (λ _ _ _=>by kernel_rfl)
def TL.q88_l10(N:Nat):Am R:={b:=10,st:=E.q88_l10_i,fn:=λ d k=>lp (F.cv N) N d (λ y=>k (.exit 10) (E.q88_l10_oe10.to y),λ y=>k .ret (E.q88_l10_oret.to y))}
theorem LK.q88_l10(N:Nat):Ah Try.prog 0 Try.f3.ntmps (bodyOf Try.f3) (TL.q88_l10 (R:=R) N):=
 Ai (i:=[6,19]) (o:=[4,6]) (h:=H.q88) hC hm Ac WF.f3 (Af (LK.q88_l12 N) Ab) (by kernel_rfl) (λ d=>Aj rfl) N (F.cv N) _ (λ _ _=>rfl) (λ _ _ _=>by kernel_rfl)
theorem TK.q88(N:Nat):Ak Try.prog (T.q88 (R:=R) N):=
 Al (h:=H.q88) hC hm (Ae (TK.q69 N) (Ae (TK.q84 N) (Ae (TK.q56 N) (Ae (TK.q85 N) (Ae (TK.q87 N) Ac))))) WF.f3 (λ d=>(Af (LK.q88_l0 N) (Af (LK.q88_l6 N) (Af (LK.q88_l10 N) Ab)))) (λ _ _=>by kernel_rfl)
end Go.Proofs.Ytfeppeacchjbeaa.fnMinimal
