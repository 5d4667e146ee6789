/- These plain functions are what the Go functions answer. -/
import Derived.Test.YtlnfickaejikoaaEe
import Derived.Test.YtlnfickaejikoaaFdFnImage
import Derived.Test.YtlnfickaejikoaaChecked
import Derived.KernelRfl
import Derived.Eval
open List renaming length->z8,getD->z9,range->zB
open Bool renaming and_eq_true->zA
open Nat renaming ble->zC,ble_eq->zD
set_option maxRecDepth 100000
set_option maxHeartbeats 4000000
set_option linter.unusedVariables false
set_option linter.unusedSimpArgs false
namespace Go.Proofs.Ytlnfickaejikoaa.fnImage
open Go.Ev Go.Ev.Enc
variable{R:Type}
abbrev ki0:Ki:=(.pair (.int .i64) (.int .i64))
abbrev ki3:Ki:=(.pair (.int .i64) (.pair (.fl ki0) (.pair (.int .i64) ki0)))
abbrev ki5:Ki:=(.pair .bool (.pair .bool (.lst ki3)))
abbrev ki8:Ki:=(.pair (.int .u8) (.pair (.int .i64) (.pair (.fl .bool) ki0)))
abbrev ki9:Ki:=(.pair (.lst ki5) (.int .i64))
abbrev Acc:Ki:=(.pair (.int .u8) (.pair (.int .i64) (.pair (.int .i64) (.fl ki0))))
abbrev Zt:Ki:=(.pair (.int .i64) (.pair .bool (.pair .bool (.int .i64))))
abbrev I5:Ki:=(.lst (.int .i64))
abbrev Aey:Ki:=(.lst (.int .u8))
abbrev Awa:Ki:=(.pair I5 (.pair (.int .i64) (.pair I5 (.pair I5 (.pair I5 (.pair I5 (.pair I5 I5)))))))
abbrev en0:Enc AV:=(fZ (.int .u8))
abbrev en5:Enc Blk:=(cE (vA [(rW (.int .i64))]))
abbrev Alf:Enc AV:=(rO 0 (.lst ki3))
abbrev Bw:Enc AV:=(rO 0 (.int .i64))
abbrev D4:Enc AV:=(rO 1 (.int .i64))
abbrev Uq:Enc AV:=(Enc.nz (.int .i64))
abbrev Abh:Enc (List AV):=(lU (pB 0 0) rfl (lO (iN .i64)))
abbrev Hl:Enc (List AV):=(lC (iN .i64) (lO (iN .i64)))
abbrev A7:Enc Blk:=(cE (lC en0 Hl))
abbrev Ps:Enc Blk:=(cE (lO (rW ki3)))
abbrev As0:Enc (List AV):=(lC Bw (lC Bw (lO tR)))
abbrev As1:Enc AV:=(aG (lC (fZ ki3) As0))
abbrev Pt:Enc Blk:=(cE (lO (rW Acc)))
abbrev Pu:Enc Blk:=(cE (lO (rW Zt)))
abbrev Ak7:Enc (List Blk):=(lU (cE (lU (sL 1) rfl (lU (sL 2) rfl (lN AV)))) rfl (lC Pt (lO Pu)))
abbrev As2:Enc (List AV):=(lU (sL 3) rfl (lU (sL 4) rfl (lN AV)))
abbrev Xh:Enc (List (Option Blk)):=(lU (nO Blk) rfl (lN (Option Blk)))
abbrev Ak8:Enc (List (Option Blk)):=(lU (sM (cE As2)) rfl (lU (nO Blk) rfl Xh))
abbrev Ut:Enc (List AV):=(lC (rO 0 Acc) (lO (rO 0 Zt)))
abbrev Dh:Enc Blk:=(cE (lO (rW .bool)))
abbrev Agd:Enc AV:=(tP (lN AV))
abbrev Bp:Enc (Nat×AV):=(kY 0 (pB 0 0))
abbrev Bt:Enc (Nat×AV):=(kY 2 (pB 1 0))
abbrev Bu:Enc (Nat×AV):=(kY 3 (iN .i64))
abbrev Dn:Enc (Nat×AV):=(kY 4 (pB 2 0))
abbrev B1:Enc (Nat×AV):=(kY 5 (iN .i64))
abbrev As3:Enc (List AV):=(lU (sL 5) rfl (lU (sL 6) rfl (lN AV)))
abbrev Ak9:Enc Blk:=(cE (lU (sL 3) rfl (lR (iN .i64) (lU (sL 4) rfl As3) rfl)))
abbrev Ala:Enc (List AV):=(lU (sL 9) rfl (lU (sL 10) rfl (lN AV)))
abbrev Am:Enc Blk:=(cE (lO (rW (.int .i64))))
abbrev Pv:Enc (Nat×Blk):=(kY 10 Am)
abbrev Gv:Enc (List (Nat×Blk)):=(lC (kY 1 Ak9) (lC (kY 2 (cE (lU (sL 7) rfl (lR (iN .i64) (lU (sL 8) rfl Ala) rfl)))) (lC (kY 3 Am) (lC (kY 4 Am) (lC (kY 5 Am) (lC (kY 6 Am) (lC (kY 7 Am) (lC (kY 8 Am) (lC (kY 9 Am) (lO Pv))))))))))
abbrev Age:Enc (List (Nat×AV)):=(lU Dn rfl (lN (Nat×AV)))
abbrev Alb:Enc (List (Nat×AV)):=(lU Bt rfl (lR Bu Age rfl))
abbrev Bv:Enc (Nat×AV):=(kY 7 (iN .i64))
abbrev Ep:Enc (Nat×AV):=(kY 8 (iN .i64))
abbrev Di:Enc (Nat×AV):=(kY 9 (iN .i64))
abbrev As4:Enc (List AV):=(lR (iN .i64) (lU (sL 2) rfl As2) rfl)
abbrev Xi:Enc AV:=(aG (lU (sL 1) rfl As4))
abbrev Lf:Enc (List Blk):=(lC Am (lC Am (lO Am)))
abbrev Lg:Enc (Nat×AV):=(kY 3 (sL 2))
abbrev C6:Enc (Nat×AV):=(kY 4 (iN .i64))
abbrev Cb:Enc (Nat×AV):=(kY 6 (iN .i64))
abbrev Alc:Enc (List AV):=(lU (sL 3) rfl (lO (iN .i64)))
abbrev Lh:Enc Blk:=(cE (lO (rW ki5)))
abbrev Nj:Enc (List (Nat×Blk)):=(lC (kY 0 A7) (lC (kY 1 (cE Alc)) (lC (kY 2 Ps) (lO (kY 3 Lh)))))
abbrev Ald:Enc (List (Nat×AV)):=(lU Bp rfl (lU Bt rfl (lU Lg rfl (lC C6 (lO B1)))))
abbrev Ale:Enc (List AV):=(lU (sL 1) rfl (lO (iN .i64)))
abbrev Jh:Enc (Nat×AV):=(kY 5 (sL 0))
abbrev Fq:Enc (Nat×AV):=(kY 6 (sL 1))
abbrev Sl:Enc (Nat×AV):=(kY 7 (sL 2))
abbrev Kw:Enc (Nat×AV):=(kY 16 (iN .i64))
abbrev J2:Enc (Nat×AV):=(kY 17 (iN .i64))
abbrev As5:Enc (List (Nat×AV)):=(lC (kY 15 (rO 0 ki3)) (lC Kw (lO J2)))
abbrev Hm:Enc (List (Nat×Blk)):=(lC (kY 1 Am) (lO (kY 2 Am)))
abbrev Nk:Enc (Nat×AV):=(kY 2 uN)
abbrev Uu:Enc (Nat×AV):=(kY 3 uN)
abbrev Sn:Enc (Nat×AV):=(kY 4 uN)
abbrev Pw:Enc (Nat×AV):=(kY 4 bB)
abbrev Uv:Enc (Nat×AV):=(kY 9 (pB 3 0))
abbrev Li:Enc (Nat×AV):=(kY 10 (iN .i64))
abbrev C7:Enc (Nat×AV):=(kY 11 (iN .i64))
abbrev As6:Enc (List AV):=(lC (fZ ki0) (lC (iN .i64) Hl))
abbrev Xj:Enc Blk:=(cE (lC (iN .i64) As6))
abbrev As7:Enc (List (Nat×Blk)):=(lC (kY 0 Am) (lC (kY 1 Am) (lC (kY 2 Am) (lO (kY 3 Xj)))))
abbrev As8:Enc AV:=(tP (lU (sL 0) rfl (lU (sL 1) rfl (lO bB))))
abbrev As9:Enc AV:=(aG (lC (iN .i64) As6))
abbrev Alg:Enc (Nat×AV):=(kY 0 (rO 0 ki3))
abbrev Ji:Enc (Nat×AV):=(kY 3 (sL 0))
abbrev Gw:Enc (Nat×AV):=(kY 4 (sL 1))
abbrev Agf:Enc (Nat×AV):=(kY 6 (sL 2))
abbrev Abi:Enc (Nat×AV):=(kY 21 (iN .i64))
abbrev Alh:Enc (Nat×AV):=(kY 22 (iN .i64))
abbrev Ata:Enc (List (Nat×AV)):=(lC (kY 20 (rO 0 ki3)) (lC Abi (lO Alh)))
abbrev Hn:Enc (Nat×AV):=(kY 6 (sL 0))
abbrev Agg:Enc (List (Nat×AV)):=(lU Hn rfl (lN (Nat×AV)))
abbrev Dx:Enc (Nat×AV):=(kY 1 (iN .i64))
abbrev Lj:Enc (Nat×AV):=(kY 5 tR)
abbrev Atb:Enc (List (Nat×AV)):=(lC Lj (lC Cb (lO Bv)))
abbrev Ali:Enc (List (Nat×AV)):=(lU Bp rfl (lC Lj (lO Cb)))
abbrev Fk:Enc (Nat×AV):=(kY 0 tR)
abbrev Uw:Enc (Nat×AV):=(kY 2 (iN .i64))
abbrev Atc:Enc (List (Nat×AV)):=(lC Fk (lC Dx (lO Bv)))
abbrev Agh:Enc (List AV):=(lC tR (lO (iN .i64)))
abbrev J3:Enc (Nat×AV):=(kY 8 bB)
abbrev Ho:Enc (Nat×AV):=(kY 12 (iN .i64))
abbrev Alj:Enc (List (Nat×AV)):=(lC J3 (lC Di (lO Ho)))
abbrev Alk:Enc (Nat×AV):=(kY 123 (iN .i64))
abbrev Alm:Enc (Nat×AV):=(kY 124 (iN .i64))
abbrev Abj:Enc (Nat×AV):=(kY 19 (iN .i64))
abbrev So:Enc (Nat×AV):=(kY 18 (iN .i64))
abbrev Abk:Enc (Nat×AV):=(kY 20 (iN .i64))
abbrev Atd:Enc (List AV):=(lU (sL 0) rfl (lO (iN .i64)))
abbrev Abl:Enc (List (Nat×AV)):=(lU Jh rfl (lN (Nat×AV)))
abbrev Abm:Enc (List (Nat×AV)):=(lU Nk rfl (lN (Nat×AV)))
abbrev Nl:Enc (Nat×AV):=(kY 2 bB)
abbrev Agi:Enc Blk:=(cE (lO (rW ki8)))
abbrev Agj:Enc (List AV):=(lC (fZ ki8) (lO (iN .i64)))
abbrev Kx:Enc (Nat×AV):=(kY 0 (fZ ki8))
abbrev Ate:Enc (List (Nat×AV)):=(lC Dx (lC B1 (lO Cb)))
abbrev Sp:Enc (List (Nat×AV)):=(lU Sn rfl (lN (Nat×AV)))
abbrev Ux:Enc Blk:=(cE (lO (rW (.fl ki8))))
abbrev Atf:Enc (List (Nat×AV)):=(lC Kx (lU Ji rfl (lO C6)))
abbrev Aln:Enc (Nat×AV):=(kY 0 (fZ .bool))
abbrev Agk:Enc Blk:=(cE (lO (rW ki0)))
abbrev Alo:Enc (List (Nat×AV)):=(lU Ji rfl (lN (Nat×AV)))
abbrev Atg:Enc (List (Nat×AV)):=(lU Ji rfl (lC C6 (lO Cb)))
abbrev Px:Enc Blk:=(cE (lO (rW (.lst ki3))))
abbrev Agl:Enc (List (Nat×AV)):=(lU (kY 41 (sL 2)) rfl (lC (kY 42 (iN .i64)) (lO (kY 43 (iN .i64)))))
abbrev C8:Enc (Nat×AV):=(kY 2 (pB 0 0))
abbrev Uy:Enc (Nat×AV):=(kY 5 (fZ ki8))
abbrev Xk:Enc (List (Nat×Blk)):=(lC (kY 0 (cE Ale)) (lO (kY 1 Lh)))
abbrev Ath:Enc (List (Nat×AV)):=(lU C8 rfl (lC Uy (lO C7)))
abbrev Abn:Enc (Nat×AV):=(kY 12 (pB 1 0))
abbrev Alp:Enc (List (Nat×Blk)):=(lC (kY 0 (cE (lU (sL 2) rfl (lO (iN .i64))))) (lC (kY 1 (cE Alc)) (lC (kY 2 Lh) (lO (kY 3 Lh)))))
abbrev Ati:Enc (List AV):=(lU (sL 4) rfl (lO (iN .i64)))
abbrev Agm:Enc (List (Nat×AV)):=(lU (kY 118 (sL 3)) rfl (lC (kY 119 (iN .i64)) (lO (kY 120 (iN .i64)))))
abbrev Atj:Enc (List (Nat×Blk)):=(lC (kY 0 A7) (lO (kY 1 (cE (lO (rW ki9))))))
abbrev Atk:Enc (List (Nat×AV)):=(lC (kY 15 (fZ ki3)) (lC Kw (lO J2)))
abbrev A5:Enc (Nat×AV):=(kY 1 (pB 0 0))
abbrev Alq:Enc (Nat×AV):=(kY 59 (iN .i64))
abbrev Sq:Enc (Nat×AV):=(kY 4 (pB 1 0))
abbrev Alr:Enc (Nat×AV):=(kY 0 (fZ ki3))
abbrev Atl:Enc (List (Nat×AV)):=(lC (kY 20 (fZ ki3)) (lC Abi (lO Alh)))
abbrev Als:Enc (List AV):=(lC (fZ ki5) (lO (iN .i64)))
abbrev Agn:Enc (Nat×Blk):=(kY 0 (cE Als))
abbrev Lk:Enc (List (Nat×Blk)):=(lC Agn (lO (kY 1 Am)))
abbrev Alu:Enc (List (Nat×AV)):=(lU Gw rfl (lN (Nat×AV)))
abbrev Alv:Enc (List (Nat×AV)):=(lC (kY 46 (fZ ki5)) (lC (kY 47 (iN .i64)) (lO (kY 48 (iN .i64)))))
abbrev Uz:Enc (Nat×AV):=(kY 14 (iN .i64))
abbrev Sr:Enc (Nat×AV):=(kY 15 (iN .i64))
abbrev Alw:Enc (List AV):=(lU (sL 4) rfl (lU (sL 5) rfl (lN AV)))
abbrev Atm:Enc (List (Nat×Blk)):=(lC (kY 4 Pt) (lO (kY 5 Pu)))
abbrev Atn:Enc (List (Nat×Blk)):=(lU (kY 0 (cE Alw)) rfl (lC (kY 3 (cE (lC (fZ ki3) As0))) Atm))
abbrev Jj:Enc (Nat×AV):=(kY 3 (pB 1 0))
abbrev Nm:Enc (Nat×AV):=(kY 13 (iN .i64))
abbrev Ato:Enc (List AV):=(lU (sL 2) rfl (lU (sL 3) rfl (lN AV)))
abbrev Ago:Enc (List (Nat×Blk)):=(lU (kY 0 (cE Ato)) rfl (lU (kY 1 (cE Alw)) rfl (lC (kY 2 Pt) (lC (kY 3 Pu) Atm))))
abbrev Alx:Enc (List (Nat×AV)):=(lU Jj rfl (lN (Nat×AV)))
abbrev Atp:Enc (List AV):=(lU (sL 0) rfl (lU (sL 1) rfl (lN AV)))
abbrev Py:Enc (Nat×AV):=(kY 5 (sL 2))
abbrev Aly:Enc (Nat×AV):=(kY 29 (iN .i64))
abbrev U0:Enc (Nat×Blk):=(kY 0 (cE Ut))
abbrev Atq:Enc (List (Nat×AV)):=(lU (kY 19 (sL 2)) rfl (lC Abk (lO Abi)))
abbrev Pz:Enc (Nat×AV):=(kY 4 (pB 0 0))
abbrev Atr:Enc (List (Nat×AV)):=(lC (kY 9 Bw) (lC Li (lO C7)))
abbrev Ats:Enc (List AV):=(lC Bw (lC Bw (lO Bw)))
abbrev Nn:Enc (List AV):=(lC Bw (lC (iN .i64) Ats))
abbrev Co:Enc (Nat×Blk):=(kY 0 (cE Nn))
abbrev Abo:Enc (List AV):=(lC Bw (lO (iN .i64)))
abbrev Abp:Enc (List (Nat×Blk)):=(lC Co (lO (kY 1 Am)))
abbrev Att:Enc (List (Nat×AV)):=(lU A5 rfl (lU (kY 3 (sL 1)) rfl (lO C6)))
abbrev Gx:Enc (Nat×AV):=(kY 9 (sL 2))
abbrev P0:Enc (Nat×AV):=(kY 11 (sL 3))
abbrev Abq:Enc Blk:=(cE (lO (rW (.lst .bool))))
abbrev Atu:Enc (List (Nat×Blk)):=(lC (kY 1 Am) (lC (kY 2 Am) (lC (kY 3 Abq) (lO (kY 4 Dh)))))
abbrev P1:Enc (List (Nat×Blk)):=(lC Co (lC (kY 1 Am) (lC (kY 2 Am) (lO (kY 3 Abq)))))
abbrev Abr:Enc (Nat×AV):=(kY 15 bB)
abbrev Atv:Enc (List (Nat×AV)):=(lC (kY 1 Bw) (lU C8 rfl (lC B1 (lU Fq rfl (lU Gx rfl (lU P0 rfl (lC Abr (lC Kw (lO J2)))))))))
abbrev Atw:Enc (List (Nat×AV)):=(lC (kY 1 Bw) (lU C8 rfl (lC B1 (lU Fq rfl (lU Gx rfl (lU P0 rfl (lO Abr)))))))
abbrev Atx:Enc (List AV):=(lU (sL 7) rfl (lU (sL 8) rfl (lN AV)))
abbrev Aty:Enc (List AV):=(lR (iN .i64) (lU (sL 6) rfl Atx) rfl)
abbrev Alz:Enc Blk:=(cE (lU (sL 5) rfl Aty))
abbrev Al0:Enc (List (Nat×Blk)):=(lC (kY 5 Am) (lC (kY 6 Am) (lC (kY 7 Am) (lO (kY 8 Am)))))
abbrev Al1:Enc (List (Nat×Blk)):=(lC (kY 1 Alz) (lC (kY 2 Am) (lC (kY 3 Abq) (lC (kY 4 Am) Al0))))
abbrev Ss:Enc (Nat×AV):=(kY 10 (sL 4))
abbrev Atz:Enc (List AV):=(lU (sL 8) rfl (lU (sL 9) rfl (lN AV)))
abbrev Xl:Enc Blk:=(cE (lU (sL 6) rfl (lR (iN .i64) (lU (sL 7) rfl Atz) rfl)))
abbrev Abs:Enc Blk:=(cE (lO (rW I5)))
abbrev At0:Enc (List (Nat×Blk)):=(lC (kY 6 Am) (lC (kY 7 Am) (lC (kY 8 Am) (lO (kY 9 Am)))))
abbrev At1:Enc (List (Nat×Blk)):=(lC Co (lC (kY 1 Xl) (lC (kY 2 Am) (lC (kY 3 Am) (lC (kY 4 Abs) (lC (kY 5 Am) At0))))))
abbrev U1:Enc (Nat×AV):=(kY 10 (sL 3))
abbrev At2:Enc Blk:=(cE (lU (sL 4) rfl (lR (iN .i64) (lU (sL 5) rfl (lU (sL 6) rfl (lU (sL 7) rfl (lN AV)))) rfl)))
abbrev Xm:Enc (Nat×AV):=(kY 15 (pB 4 0))
abbrev Xn:Enc (Nat×AV):=(kY 16 (sL 5))
abbrev At3:Enc (List AV):=(lU (sL 12) rfl (lU (sL 13) rfl (lN AV)))
abbrev At4:Enc Blk:=(cE (lU (sL 10) rfl (lR (iN .i64) (lU (sL 11) rfl At3) rfl)))
abbrev P2:Enc (Nat×Blk):=(kY 11 Am)
abbrev P3:Enc (Nat×Blk):=(kY 12 Am)
abbrev Su:Enc (Nat×Blk):=(kY 13 Am)
abbrev At5:Enc (List (Nat×Blk)):=(lC (kY 5 Am) (lC (kY 6 Am) (lC (kY 7 Am) (lC (kY 8 Am) (lC (kY 9 Am) (lC Pv (lC P2 (lC P3 (lO Su)))))))))
abbrev Xo:Enc (List (Nat×Blk)):=(lC (kY 1 Xl) (lC (kY 2 Am) (lC (kY 3 Abs) (lC (kY 4 At4) At5))))
abbrev At6:Enc (List (Nat×AV)):=(lU (kY 115 (sL 5)) rfl (lC (kY 116 (iN .i64)) (lO (kY 117 (iN .i64)))))
abbrev Al2:Enc (Nat×AV):=(kY 15 (pB 3 0))
abbrev Al3:Enc (List (Nat×Blk)):=(lC (kY 1 Xl) (lC (kY 2 Abs) (lC (kY 3 At4) (lC (kY 4 Am) At5))))
abbrev At7:Enc (List (Nat×AV)):=(lU (kY 158 (sL 5)) rfl (lC (kY 159 (iN .i64)) (lO (kY 160 (iN .i64)))))
abbrev At8:Enc Blk:=(cE (lU (sL 2) rfl (lR (iN .i64) (lU (sL 3) rfl Alw) rfl)))
abbrev Al4:Enc (List (Nat×Blk)):=(lC (kY 0 At8) (lC (kY 1 Xl) (lC (kY 2 Am) (lC (kY 3 Am) (lC (kY 4 Am) (lC (kY 5 Am) At0))))))
abbrev Al5:Enc AV:=(aG (lU (sL 0) rfl (lR (iN .i64) (lU (sL 1) rfl Ato) rfl)))
abbrev Abt:Enc (Nat×AV):=(kY 6 (pB 1 0))
abbrev Abu:Enc (Nat×AV):=(kY 8 (sL 2))
abbrev Al6:Enc (List (Nat×AV)):=(lU (kY 73 (sL 2)) rfl (lC (kY 74 (iN .i64)) (lO (kY 75 (iN .i64)))))
abbrev At9:Enc (List AV):=(lU (sL 10) rfl (lU (sL 11) rfl (lN AV)))
abbrev Aua:Enc (List AV):=(lU (sL 14) rfl (lU (sL 15) rfl (lN AV)))
abbrev U2:Enc (Nat×Blk):=(kY 14 Am)
abbrev Abv:Enc (Nat×Blk):=(kY 15 Am)
abbrev Aub:Enc (List (Nat×Blk)):=(lU (kY 1 (cE At9)) rfl (lC (kY 2 Am) (lC (kY 3 (cE (lU (sL 12) rfl (lR (iN .i64) (lU (sL 13) rfl Aua) rfl)))) (lC (kY 4 (cE (lO (rW (.fl .bool))))) (lC (kY 5 Dh) (lC (kY 6 Am) (lC (kY 7 Am) (lC (kY 8 Am) (lC (kY 9 Am) (lC (kY 10 Pt) (lC (kY 11 Pu) (lC P3 (lC Su (lC U2 (lO Abv)))))))))))))))
abbrev Al7:Enc (List (Nat×Blk)):=(lC (kY 0 Alz) (lU (kY 1 (cE Ala)) rfl (lC (kY 2 Am) (lC (kY 3 (cE (lU (sL 11) rfl (lR (iN .i64) (lU (sL 12) rfl (lU (sL 13) rfl (lU (sL 14) rfl (lN AV)))) rfl)))) (lC (kY 4 (cE (lO (rW (.fl .bool))))) (lC (kY 5 Am) (lC (kY 6 Am) (lC (kY 7 Am) (lC (kY 8 Am) (lC (kY 9 Pt) (lC (kY 10 Pu) (lC P2 (lC P3 (lC Su (lO U2)))))))))))))))
abbrev U3:Enc (Nat×AV):=(kY 7 (pB 3 0))
abbrev U4:Enc (List (Nat×Blk)):=(lC (kY 1 (cE Nn)) (lC (kY 2 At2) (lC (kY 3 (cE (lU (sL 8) rfl (lR (iN .i64) (lU (sL 9) rfl At9) rfl)))) (lC (kY 4 Am) (lC (kY 5 Am) (lC (kY 6 Am) (lC (kY 7 Am) (lC (kY 8 Am) (lC (kY 9 Am) (lC Pv (lO P2)))))))))))
abbrev Auc:Enc (List (Option Blk)):=(lC (sM Am) (lC (sM Am) (lC (sM Am) (lO (sM Am)))))
abbrev Aud:Enc (List (Nat×AV)):=(lC (kY 10 Bw) (lC C7 (lO Ho)))
abbrev Xp:Enc (Nat×AV):=(kY 8 (sL 3))
abbrev No:Enc (Nat×AV):=(kY 44 (iN .i64))
abbrev Np:Enc (Nat×AV):=(kY 45 (iN .i64))
abbrev P4:Enc (List (Nat×Blk)):=(lC (kY 1 (cE (lU (sL 4) rfl (lR (iN .i64) (lU (sL 5) rfl (lU (sL 6) rfl (lU (sL 7) rfl (lU (sL 8) rfl Ala)))) rfl)))) (lC (kY 2 (cE (lU (sL 11) rfl (lR (iN .i64) (lU (sL 12) rfl (lU (sL 13) rfl (lU (sL 14) rfl (lU (sL 15) rfl (lU (sL 16) rfl (lU (sL 17) rfl (lN AV))))))) rfl)))) (lC (kY 3 Am) (lC (kY 4 Am) (lC (kY 5 Am) (lC (kY 6 Am) (lC (kY 7 Am) (lC (kY 8 Am) (lC (kY 9 Am) (lC Pv (lC P2 (lC P3 (lC Su (lC U2 (lC Abv (lC (kY 16 Am) (lO (kY 17 Am))))))))))))))))))
abbrev Agp:Enc (List (Nat×AV)):=(lU Dn rfl (lC No (lO Np)))
abbrev Al8:Enc (List AV):=(lU (sL 3) rfl (lR (iN .i64) (lU (sL 4) rfl (lU (sL 5) rfl (lU (sL 6) rfl (lU (sL 7) rfl Atz)))) rfl))
abbrev Akq:Enc (List (Nat×Blk)):=(lC (kY 4 Am) (lC (kY 5 Am) (lC (kY 6 Am) (lC (kY 7 Am) (lC (kY 8 Am) (lC (kY 9 Am) (lC Pv (lC P2 (lC P3 (lC Su (lC U2 (lC Abv (lO (kY 16 Am))))))))))))))
abbrev Aem:Enc (List (Nat×Blk)):=(lC Co (lC (kY 1 (cE Al8)) (lC (kY 2 (cE (lU (sL 10) rfl (lR (iN .i64) (lU (sL 11) rfl (lU (sL 12) rfl (lU (sL 13) rfl (lU (sL 14) rfl (lU (sL 15) rfl (lU (sL 16) rfl (lN AV))))))) rfl)))) (lC (kY 3 Am) Akq))))
abbrev Aen:Enc (List AV):=(lU (sL 2) rfl (lR (iN .i64) (lU (sL 3) rfl (lU (sL 4) rfl (lU (sL 5) rfl (lU (sL 6) rfl Atx)))) rfl))
abbrev Ze:Enc (Nat×Blk):=(kY 0 (cE Aen))
abbrev Akr:Enc (List (Nat×Blk)):=(lC (kY 9 Am) (lC Pv (lC P2 (lC P3 (lC Su (lC U2 (lO Abv)))))))
abbrev Aks:Enc (List (Nat×Blk)):=(lC (kY 3 Am) (lC (kY 4 Am) (lC (kY 5 Am) (lC (kY 6 Am) (lC (kY 7 Am) (lC (kY 8 Am) Akr))))))
abbrev Akt:Enc (List (Nat×Blk)):=(lC (kY 1 (cE (lU (sL 9) rfl (lR (iN .i64) (lU (sL 10) rfl (lU (sL 11) rfl (lU (sL 12) rfl (lU (sL 13) rfl Aua)))) rfl)))) (lC (kY 2 Am) Aks))
abbrev Aku:Enc (List AV):=(lC (aG (lU (sL 0) rfl (lR (iN .i64) (lU (sL 1) rfl (lU (sL 2) rfl (lU (sL 3) rfl (lU (sL 4) rfl As3)))) rfl))) (lO (iN .i64)))
abbrev Lc:Enc (List Blk):=(lC Am (lC Am (lC Am (lC Am Lf))))
abbrev Hz:Enc Blk:=(cE (lO (iN .i64)))
abbrev Akv:Enc (List AV):=(lR D4 (lU (fN 40 (lU (pB 0 0) rfl (lU (pB 1 0) rfl (lN AV)))) rfl (lN AV)) rfl)
abbrev Akw:Enc (List (Option Blk)):=(lC (sM Hz) (lO (sM Hz)))
abbrev Akx:Enc (List AV):=(lC D4 (lC D4 (lO D4)))
abbrev Aky:Enc (List AV):=(lC D4 (lC (iN .i64) Akx))
abbrev Aeo:Enc Blk:=(mA (.int .i64) (.int .i64))
abbrev Akz:Enc Blk:=(cE (lU (sL 9) rfl (lC (iN .i64) (lU (sL 10) rfl (lU (sL 11) rfl (lU (sL 12) rfl (lU (sL 13) rfl (lU (sL 14) rfl (lU (sL 15) rfl (lO (iN .i64)))))))))))
abbrev Ld:Enc (List (Nat×Blk)):=(lC (kY 0 Akz) (lC (kY 8 Am) Akr))
abbrev Aep:Enc (List (Nat×AV)):=(lU Bp rfl (lC Dx (lC (kY 2 D4) (lU (kY 8 (sL 8)) rfl (lO C7)))))
abbrev Ak0:Enc (List (Nat×AV)):=(lU (kY 71 (sL 8)) rfl (lC (kY 72 (iN .i64)) (lO (kY 73 (iN .i64)))))
abbrev Ak1:Enc (List (Nat×AV)):=(lC Dx (lC (kY 2 D4) (lC C7 (lC Nm Ak0))))
abbrev Zf:Enc Blk:=(cE (lU (sL 8) rfl (lC (iN .i64) (lU (sL 9) rfl (lU (sL 10) rfl (lU (sL 11) rfl (lU (sL 12) rfl (lU (sL 13) rfl (lU (sL 14) rfl (lO (iN .i64)))))))))))
abbrev Aeq:Enc (List (Nat×Blk)):=(lC (kY 8 Am) (lC (kY 9 Am) (lC Pv (lC P2 (lC P3 (lC Su (lO U2)))))))
abbrev Ak2:Enc (List (Nat×Blk)):=(lC (kY 1 Akz) (lC (kY 2 Am) Aks))
abbrev Ak3:Enc (List AV):=(lC D4 (lC (iN .i64) (lC Bw (lC D4 (lO D4)))))
abbrev Rm:Enc (List AV):=(lC Bw (lC (iN .i64) (lC Bw (lC Bw (lC Bw Ats)))))
abbrev Le:Enc (Nat×Blk):=(kY 0 (cE Rm))
abbrev Aer:Enc (List AV):=(lC (iN .i64) (lC D4 (lC D4 (lC D4 Akx))))
abbrev Rn:Enc (Nat×Blk):=(kY 0 (cE (lC D4 Aer)))
abbrev Ur:Enc Blk:=(cE (lU (sL 2) rfl (lN AV)))
abbrev Fm:Enc Blk:=(cE (lO (rW (.int .u8))))
abbrev Aes:Enc Blk:=(cE (lU (sL 1) rfl (lN AV)))
abbrev Us:Enc (List (Nat×Blk)):=(lC Le (lU (kY 1 Ur) rfl (lO (kY 2 Fm))))
abbrev Ak4:Enc (List AV):=(lU Uq rfl (lR (iN .i64) (lU Uq rfl (lU Uq rfl (lU Uq rfl (lU Uq rfl (lU Uq rfl (lU Uq rfl (lN AV))))))) rfl))
abbrev Zg:Enc Blk:=(cE (lU (sL 1) rfl Aen))
abbrev Ak5:Enc Blk:=(cE (lU (sL 9) rfl Aen))
abbrev Ak6:Enc (List (Option Blk)):=(lU (nO Blk) rfl (lC (sM Am) (lC (sM Am) (lC (sM Am) Auc))))
abbrev Oj:Enc (Nat×Blk):=(kY 0 Zg)
abbrev Ok:Enc (List (Nat×Blk)):=(lC (kY 1 Fm) (lC (kY 2 Am) (lC (kY 3 Am) (lC (kY 4 Am) Al0))))
abbrev Ol:Enc (Nat×AV):=(kY 5 (pB 0 0))
abbrev Zh:Enc (Nat×AV):=(kY 11 (pB 1 0))
abbrev Om:Enc (List (Nat×Blk)):=(lC (kY 0 At8) (lC (kY 1 (cE (lU (sL 6) rfl (lR (iN .i64) (lU (sL 7) rfl (lU (sL 8) rfl (lU (sL 9) rfl (lU (sL 10) rfl (lU (sL 11) rfl (lU (sL 12) rfl (lN AV))))))) rfl)))) (lC (kY 2 Am) (lC (kY 3 Am) (lC (kY 4 Am) (lC (kY 5 Am) (lC (kY 6 Am) (lC (kY 7 Am) (lC (kY 8 Am) (lC (kY 9 Am) (lC Pv (lC P2 (lO P3)))))))))))))
abbrev Aet:Enc (List (Nat×AV)):=(lU Ol rfl (lU Zh rfl (lC Nm (lC Uz (lO Sr)))))
def cfg:Cfg:={ty:=[
 (3,{sz:=1,cls:=0,offs:=[],elem:=0,alen:=0,bytes:=8,zero:=[.int .i64 0],ki:=some (.int .i64)}),
 (4,{sz:=1,cls:=0,offs:=[],elem:=0,alen:=0,bytes:=1,zero:=[.bool false],ki:=some .bool}),
 (5,{sz:=1,cls:=0,offs:=[],elem:=0,alen:=0,bytes:=1,zero:=[.int .u8 0],ki:=some (.int .u8)}),
 (9,{sz:=1,cls:=0,offs:=[],elem:=0,alen:=0,bytes:=16,zero:=[.str []],ki:=some .str}),
 (20,{sz:=1,cls:=0,offs:=[],elem:=0,alen:=0,bytes:=16,zero:=[.nili],ki:=none}),
 (22,{sz:=1,cls:=0,offs:=[],elem:=5,alen:=0,bytes:=24,zero:=[.nz (.int .u8)],ki:=some Aey}),
 (23,{sz:=1,cls:=0,offs:=[],elem:=3,alen:=0,bytes:=24,zero:=[.nz (.int .i64)],ki:=some I5}),
 (25,{sz:=5,cls:=1,offs:=[0,1,2,3,4],elem:=0,alen:=0,bytes:=104,zero:=[.nz (.int .i64),.int .i64 0,.nz (.int .i64),.nz (.int .i64),.nz (.int .i64)],ki:=some (.pair I5 (.pair (.int .i64) (.pair I5 (.pair I5 I5))))}),
 (28,{sz:=8,cls:=1,offs:=[0,1,2,3,4,5,6,7],elem:=0,alen:=0,bytes:=176,zero:=[.nz (.int .i64),.int .i64 0,.nz (.int .i64),.nz (.int .i64),.nz (.int .i64),.nz (.int .i64),.nz (.int .i64),.nz (.int .i64)],ki:=some Awa}),
 (41,{sz:=3,cls:=1,offs:=[0,1,2],elem:=0,alen:=0,bytes:=40,zero:=[.nz (.int .u8),.int .i64 0,.int .i64 0],ki:=some (.pair Aey ki0)}),
 (51,{sz:=9,cls:=1,offs:=[0,8],elem:=0,alen:=0,bytes:=184,zero:=[.nz (.int .i64),.int .i64 0,.nz (.int .i64),.nz (.int .i64),.nz (.int .i64),.nz (.int .i64),.nz (.int .i64),.nz (.int .i64),.int .i64 0],ki:=some (.pair Awa (.int .i64))}),
 (55,{sz:=1,cls:=1,offs:=[0],elem:=0,alen:=0,bytes:=24,zero:=[.nz (.int .u8)],ki:=some Aey}),
 (57,{sz:=1,cls:=1,offs:=[0],elem:=0,alen:=0,bytes:=24,zero:=[.nz (.int .u8)],ki:=some Aey}),
 (60,{sz:=1,cls:=0,offs:=[],elem:=0,alen:=0,bytes:=8,zero:=[.int .i64 0],ki:=some (.int .i64)}),
 (63,{sz:=9,cls:=1,offs:=[0,1],elem:=0,alen:=0,bytes:=200,zero:=[.nz (.int .u8),.nz (.int .i64),.int .i64 0,.nz (.int .i64),.nz (.int .i64),.nz (.int .i64),.nz (.int .i64),.nz (.int .i64),.nz (.int .i64)],ki:=some (.pair Aey Awa)}),
 (87,{sz:=1,cls:=0,offs:=[],elem:=4,alen:=0,bytes:=24,zero:=[.nz .bool],ki:=some (.lst .bool)}),
 (88,{sz:=1,cls:=0,offs:=[],elem:=87,alen:=0,bytes:=24,zero:=[.nz (.lst .bool)],ki:=some (.lst (.lst .bool))}),
 (102,{sz:=1,cls:=0,offs:=[],elem:=3,alen:=3,bytes:=8,zero:=[.nilm],ki:=none}),
 (123,{sz:=1,cls:=0,offs:=[],elem:=23,alen:=0,bytes:=24,zero:=[.nz I5],ki:=some (.lst I5)})],wr:=[(14,[0]),(15,[0,1]),(16,[0]),(17,[0]),(18,[0]),(19,[0]),(24,[0]),(25,[0]),(28,[0]),(31,[0]),(32,[0]),(33,[0]),(34,[0]),(35,[0]),(45,[0]),(46,[0]),(48,[0]),(54,[0]),(56,[0]),(60,[0]),(65,[5]),(71,[0]),(81,[0]),(82,[0]),(84,[0]),(93,[0]),(94,[0]),(95,[0])],wk:=[4,14,15,16,17,18,19,20,21,22,30,31,32,33,34,35,36,37,47,48,49,50,51,52,53,54,55,56,57,59,60,61,62,63,64,65,66,67,68,69,70,71,72,73,74,75,76,77,78,79,80,81,82,83,84,85,86,87,88,89,90,91,92,93,94,95,96,97,98]}
theorem hC:Bk Try.prog cfg=true:=by kernel_rfl
def Sj:Cfg:={ty:=[
 (3,{sz:=1,cls:=0,offs:=[],elem:=0,alen:=0,bytes:=8,zero:=[.int .i64 0],ki:=some (.int .i64)}),
 (4,{sz:=1,cls:=0,offs:=[],elem:=0,alen:=0,bytes:=1,zero:=[.bool false],ki:=some .bool}),
 (5,{sz:=1,cls:=0,offs:=[],elem:=0,alen:=0,bytes:=1,zero:=[.int .u8 0],ki:=some (.int .u8)}),
 (9,{sz:=1,cls:=0,offs:=[],elem:=0,alen:=0,bytes:=16,zero:=[.str []],ki:=some .str}),
 (22,{sz:=1,cls:=0,offs:=[],elem:=5,alen:=0,bytes:=24,zero:=[.nz (.int .u8)],ki:=some Aey}),
 (23,{sz:=1,cls:=0,offs:=[],elem:=3,alen:=0,bytes:=24,zero:=[.nz (.int .i64)],ki:=some I5}),
 (25,{sz:=5,cls:=1,offs:=[0,1,2,3,4],elem:=0,alen:=0,bytes:=104,zero:=[.nz (.int .i64),.int .i64 0,.nz (.int .i64),.nz (.int .i64),.nz (.int .i64)],ki:=some (.pair I5 (.pair (.int .i64) (.pair I5 (.pair I5 I5))))}),
 (41,{sz:=3,cls:=1,offs:=[0,1,2],elem:=0,alen:=0,bytes:=40,zero:=[.nz (.int .u8),.int .i64 0,.int .i64 0],ki:=some (.pair Aey ki0)}),
 (69,{sz:=1,cls:=0,offs:=[],elem:=95,alen:=0,bytes:=24,zero:=[.nz ki9],ki:=some (.lst ki9)}),
 (80,{sz:=1,cls:=0,offs:=[],elem:=116,alen:=0,bytes:=24,zero:=[.nz Acc],ki:=some (.lst Acc)}),
 (81,{sz:=1,cls:=0,offs:=[],elem:=113,alen:=0,bytes:=24,zero:=[.nz Zt],ki:=some (.lst Zt)}),
 (83,{sz:=2,cls:=1,offs:=[0,1],elem:=0,alen:=0,bytes:=48,zero:=[.nz Acc,.nz Zt],ki:=some (.pair (.lst Acc) (.lst Zt))}),
 (87,{sz:=1,cls:=0,offs:=[],elem:=4,alen:=0,bytes:=24,zero:=[.nz .bool],ki:=some (.fl .bool)}),
 (88,{sz:=1,cls:=0,offs:=[],elem:=87,alen:=0,bytes:=24,zero:=[.nz (.fl .bool)],ki:=some (.lst (.fl .bool))}),
 (93,{sz:=1,cls:=0,offs:=[],elem:=107,alen:=0,bytes:=24,zero:=[.nz ki5],ki:=some (.lst ki5)}),
 (95,{sz:=2,cls:=1,offs:=[0,1],elem:=0,alen:=0,bytes:=32,zero:=[.nz ki5,.int .i64 0],ki:=some ki9}),
 (105,{sz:=1,cls:=0,offs:=[],elem:=127,alen:=0,bytes:=24,zero:=[.nz ki3],ki:=some (.lst ki3)}),
 (107,{sz:=3,cls:=1,offs:=[0,1,2],elem:=0,alen:=0,bytes:=32,zero:=[.bool false,.bool false,.nz ki3],ki:=some ki5}),
 (110,{sz:=4,cls:=1,offs:=[0,1,2,3],elem:=0,alen:=0,bytes:=88,zero:=[.nz ki3,.nz (.int .i64),.nz (.int .i64),.str []],ki:=some (.pair (.lst ki3) (.pair I5 (.pair I5 .str)))}),
 (113,{sz:=4,cls:=1,offs:=[0,1,2,3],elem:=0,alen:=0,bytes:=24,zero:=[.int .i64 0,.bool false,.bool false,.int .i64 0],ki:=some Zt}),
 (114,{sz:=1,cls:=0,offs:=[],elem:=129,alen:=0,bytes:=24,zero:=[.nz ki0],ki:=some (.fl ki0)}),
 (116,{sz:=4,cls:=1,offs:=[0,1,2,3],elem:=0,alen:=0,bytes:=48,zero:=[.int .u8 0,.int .i64 0,.int .i64 0,.nz ki0],ki:=some Acc}),
 (127,{sz:=5,cls:=1,offs:=[0,1,2,3,4],elem:=0,alen:=0,bytes:=56,zero:=[.int .i64 0,.nz ki0,.int .i64 0,.int .i64 0,.int .i64 0],ki:=some ki3}),
 (129,{sz:=2,cls:=1,offs:=[0,1],elem:=0,alen:=0,bytes:=16,zero:=[.int .i64 0,.int .i64 0],ki:=some ki0}),
 (132,{sz:=1,cls:=0,offs:=[],elem:=137,alen:=0,bytes:=24,zero:=[.nz ki8],ki:=some (.fl ki8)}),
 (137,{sz:=5,cls:=1,offs:=[0,1,2,3,4],elem:=0,alen:=0,bytes:=56,zero:=[.int .u8 0,.int .i64 0,.nz .bool,.int .i64 0,.int .i64 0],ki:=some ki8}),
 (140,{sz:=1,cls:=0,offs:=[],elem:=132,alen:=0,bytes:=24,zero:=[.nz (.fl ki8)],ki:=some (.lst (.fl ki8))}),
 (155,{sz:=1,cls:=0,offs:=[],elem:=105,alen:=0,bytes:=24,zero:=[.nz (.lst ki3)],ki:=some (.lst (.lst ki3))}),
 (160,{sz:=1,cls:=0,offs:=[],elem:=9,alen:=0,bytes:=24,zero:=[.nz .str],ki:=some (.lst .str)})],wr:=[(14,[0]),(15,[0,1]),(16,[0]),(17,[0]),(18,[0]),(19,[0]),(24,[0]),(25,[0]),(28,[0]),(31,[0]),(32,[0]),(33,[0]),(34,[0]),(35,[0]),(45,[0]),(46,[0]),(48,[0]),(54,[0]),(56,[0]),(60,[0]),(65,[5]),(71,[0]),(81,[0]),(82,[0]),(84,[0]),(93,[0]),(94,[0]),(95,[0])],wk:=[4,14,15,16,17,18,19,20,21,22,30,31,32,33,34,35,36,37,47,48,49,50,51,52,53,54,55,56,57,59,60,61,62,63,64,65,66,67,68,69,70,71,72,73,74,75,76,77,78,79,80,81,82,83,84,85,86,87,88,89,90,91,92,93,94,95,96,97,98]}
theorem A9:Bk Try.prog Sj=true:=by kernel_rfl
theorem hm:Try.prog.follows .mixedOrders=true:=Checked.mixed Try.checked
abbrev E.q13_a:Enc (List AV×List Blk):=bO Abh (lO A7)
abbrev E.q13_r:Enc (AV×List (Option Blk)×List Blk):=bO tR (bQ (lO (sM A7)) (lN Blk) rfl)
def T.q13_r(rw:E9->(Em->Option R)->Option R):As R:={f:=84,arg:=E.q13_a,res:=E.q13_r,fn:=rw}
abbrev E.q32_a:Enc (List AV×List Blk):=bQ (lO (fZ ki8)) (lN Blk) rfl
abbrev E.q32_r:Enc (AV×List (Option Blk)×List Blk):=bS (sL 0) rfl (bS (lN (Option Blk)) rfl (lO Ps))
def T.q32_r(rw:(List ty7)->((List ty2)->Option R)->Option R):As R:={f:=78,arg:=E.q32_a,res:=E.q32_r,fn:=rw}
abbrev E.q44_a:Enc (List AV×List Blk):=bO (lU (pB 0 0) rfl (lC As1 (lC (iN .i64) Hl))) Ak7
abbrev E.q44_r:Enc (AV×List (Option Blk)×List Blk):=bO (iN .i64) (bS Ak8 rfl (lC Pt (lO Pu)))
def T.q44_r(rw:Tb->(Eh->Option R)->Option R):As R:={f:=82,arg:=E.q44_a,res:=E.q44_r,fn:=rw}
abbrev E.q45_a:Enc (List AV×List Blk):=bO (lU (pB 0 0) rfl (lC As1 (lO (iN .i64)))) Ak7
abbrev E.q45_r:Enc (AV×List (Option Blk)×List Blk):=bO (iN .i64) (bS Ak8 rfl (lC Pt (lO Pu)))
def T.q45_r(rw:Jl->(Eh->Option R)->Option R):As R:={f:=60,arg:=E.q45_a,res:=E.q45_r,fn:=rw}
abbrev E.q49_a:Enc (List AV×List Blk):=bQ (lC (aG Ut) (lO (iN .i64))) (lN Blk) rfl
abbrev E.q49_r:Enc (AV×List (Option Blk)×List Blk):=bQ bB (bS (lN (Option Blk)) rfl (lN Blk)) rfl
def T.q49_r(rw:Ys->(Bool->Option R)->Option R):As R:={f:=64,arg:=E.q49_a,res:=E.q49_r,fn:=rw}
abbrev E.q50_a:Enc (List AV×List Blk):=bQ (lC (aG Ut) (lC (iN .i64) (lO (fZ .bool)))) (lN Blk) rfl
abbrev E.q50_r:Enc (AV×List (Option Blk)×List Blk):=bQ bB (bS (lN (Option Blk)) rfl (lN Blk)) rfl
def T.q50_r(rw:Yt->(Bool->Option R)->Option R):As R:={f:=63,arg:=E.q50_a,res:=E.q50_r,fn:=rw}
abbrev E.q52_a:Enc (List AV×List Blk):=bO (lC (aG Ut) (lC (iN .i64) (lC bB (lC (fZ .bool) (lR (iN .u8) (lU (sL 0) rfl (lN AV)) rfl))))) (lO Dh)
abbrev E.q52_r:Enc (AV×List (Option Blk)×List Blk):=bS Agd rfl (bQ (lO (sM Dh)) (lN Blk) rfl)
def T.q52_r(rw:Yu->((List Bool)->Option R)->Option R):As R:={f:=65,arg:=E.q52_a,res:=E.q52_r,fn:=rw}
abbrev E.q0_a:Enc (List AV×List Blk):=bS (lU (pB 0 0) rfl (lN AV)) rfl (lO A7)
abbrev E.q0_r:Enc (AV×List (Option Blk)×List Blk):=bO (iN .i64) (bQ (lO (sM A7)) (lN Blk) rfl)
def T.q0:As R:={f:=35,arg:=E.q0_a,res:=E.q0_r,fn:=F.ja}
def H.q0:A1:={lp:=[]}
theorem WF.f35:Bc Try.prog 35 Try.f35:=Ap Try.func35 (by decide) (by kernel_rfl)
theorem TK.q0:Aj Try.prog (T.q0 (R:=R)):=
 Al (h:=H.q0) A9 hm Ac WF.f35 (λ d=>Ab) (λ _ _=>by kernel_rfl)
abbrev E.q1_a:Enc (List AV×List Blk):=bO Abh (lO A7)
abbrev E.q1_r:Enc (AV×List (Option Blk)×List Blk):=bO (iN .i64) (bQ (lO (sM A7)) (lN Blk) rfl)
def T.q1:As R:={f:=17,arg:=E.q1_a,res:=E.q1_r,fn:=F.aa}
def H.q1:A1:={lp:=[]}
theorem WF.f17:Bc Try.prog 17 Try.f17:=Ap Try.func17 (by decide) (by kernel_rfl)
theorem TK.q1:Aj Try.prog (T.q1 (R:=R)):=
 Al (h:=H.q1) A9 hm (Ad TK.q0 Ac) WF.f17 (λ d=>Ab) (λ _ _=>by kernel_rfl)
abbrev E.q2_a:Enc (List AV×List Blk):=bS (lU (pB 0 0) rfl (lN AV)) rfl (lO A7)
abbrev E.q2_r:Enc (AV×List (Option Blk)×List Blk):=bO (iN .i64) (bQ (lO (sM A7)) (lN Blk) rfl)
def T.q2:As R:={f:=14,arg:=E.q2_a,res:=E.q2_r,fn:=F.pz}
def H.q2:A1:={lp:=[]}
theorem WF.f14:Bc Try.prog 14 Try.f14:=Ap Try.func14 (by decide) (by kernel_rfl)
theorem TK.q2:Aj Try.prog (T.q2 (R:=R)):=
 Al (h:=H.q2) A9 hm (Ad TK.q1 Ac) WF.f14 (λ d=>Ab) (λ _ _=>by kernel_rfl)
abbrev E.q3_l0_i:Enc St:=sT 11 (lU Bp rfl (lU Bt rfl (lC Bu (lU Dn rfl (lO B1))))) (lC (kY 0 A7) Gv)
abbrev E.q3_l0_oe0:Enc St:=sT 11 (lU Bp rfl Alb) (lC (kY 0 A7) Gv)
abbrev E.q3_l4_i:Enc St:=sT 11 (lU Bp rfl (lU Bt rfl (lC Bu (lU Dn rfl (lC Bv (lO Ep)))))) (lC (kY 0 A7) Gv)
abbrev E.q3_l4_oe4:Enc St:=sT 11 (lU Bp rfl (lU Bt rfl (lC Bu (lU Dn rfl (lO Bv))))) (lC (kY 0 A7) Gv)
abbrev E.q3_l2_i:Enc St:=sT 11 (lU Bp rfl (lU Bt rfl (lC Bu (lU Dn rfl (lO Bv))))) (lC (kY 0 A7) Gv)
abbrev E.q3_l2_oe2:Enc St:=sR 11 (lU Bt rfl Age) rfl (lC (kY 0 A7) Gv)
abbrev E.q3_j137:Enc St:=sT 11 (lU Bp rfl (lU Bt rfl (lC Bu (lU Dn rfl (lC Bv (lO Di)))))) (lC (kY 0 A7) Gv)
abbrev E.q3_a:Enc (List AV×List Blk):=bS (lU (pB 0 0) rfl (lN AV)) rfl (lO A7)
abbrev E.q3_r:Enc (AV×List (Option Blk)×List Blk):=bO Xi (bO (lO (sM A7)) (lC Am Lf))
def T.q3(N:Nat):As R:={f:=31,arg:=E.q3_a,res:=E.q3_r,fn:=F.dw N}
def H.q3:A1:={lp:=[(0,[0,2,3,4,5],[0,2,3,4]),(2,[0,2,3,4,7],[2,4]),(4,[0,2,3,4,7,8],[0,2,3,4,7])],jn:=[(137,[0,2,3,4,7,9],E.q3_j137)]}
theorem WF.f31:Bc Try.prog 31 Try.f31:=Ap Try.func31 (by decide) (by kernel_rfl)
def TL.q3_l0(N:Nat):An R:={b:=0,st:=E.q3_l0_i,fn:=λ d k=>lp (F.gi N) N d (λ y=>k (.exit 0) (E.q3_l0_oe0.to y))}
theorem LK.q3_l0(N:Nat):Ai Try.prog 1 Try.f31.ntmps (bodyOf Try.f31) (TL.q3_l0 (R:=R) N):=
 Ah (i:=[0,2,3,4,5]) (o:=[0,2,3,4]) (h:=H.q3) hC hm (Ad TK.q1 Ac) WF.f31 Ab (by kernel_rfl) (λ d=>Ak rfl) N (F.gi N) _ (λ _ _=>rfl) (λ _ _ _=>by kernel_rfl)
def TL.q3_l4(N:Nat):An R:={b:=4,st:=E.q3_l4_i,fn:=λ d k=>lp (F.gj N) N d (λ y=>k (.exit 4) (E.q3_l4_oe4.to y))}
theorem LK.q3_l4(N:Nat):Ai Try.prog 1 Try.f31.ntmps (bodyOf Try.f31) (TL.q3_l4 (R:=R) N):=
 Ah (i:=[0,2,3,4,7,8]) (o:=[0,2,3,4,7]) (h:=H.q3) hC hm (Ad TK.q1 Ac) WF.f31 Ab (by kernel_rfl) (λ d=>Ak rfl) N (F.gj N) _ (λ _ _=>rfl) (λ _ _ _=>by kernel_rfl)
def TL.q3_l2(N:Nat):An R:={b:=2,st:=E.q3_l2_i,fn:=λ d k=>lp (F.gk N) N d (λ y=>k (.exit 2) (E.q3_l2_oe2.to y))}
theorem LK.q3_l2(N:Nat):Ai Try.prog 1 Try.f31.ntmps (bodyOf Try.f31) (TL.q3_l2 (R:=R) N):=
 Ah (i:=[0,2,3,4,7]) (o:=[2,4]) (h:=H.q3) hC hm (Ad TK.q1 Ac) WF.f31 (Ag (LK.q3_l4 N) Ab) (by kernel_rfl) (λ d=>Ak rfl) N (F.gk N) _ (λ _ _=>rfl) (λ _ _ _=>by kernel_rfl)
theorem TK.q3(N:Nat):Aj Try.prog (T.q3 (R:=R) N):=
 Al (h:=H.q3) hC hm (Ad TK.q1 Ac) WF.f31 (λ d=>(Ag (LK.q3_l0 N) (Ag (LK.q3_l2 N) Ab))) (λ _ _=>by kernel_rfl)
abbrev E.q4_l0_i:Enc St:=sT 4 (lU Bp rfl (lU Bt rfl (lU Lg rfl (lC C6 (lC B1 (lC Cb (lO Bv))))))) Nj
abbrev E.q4_l0_oe0:Enc St:=sT 4 Ald Nj
abbrev E.q4_l2_i:Enc St:=sT 4 Ald Nj
abbrev E.q4_l2_oe2:Enc St:=sT 4 Ald Nj
abbrev E.q4_j40:Enc St:=sT 4 (lU Bp rfl (lU Bt rfl (lU Lg rfl (lC C6 (lC B1 (lC Cb (lC Bv (lO (kY 84 bB))))))))) Nj
abbrev E.q4_j36:Enc St:=sT 4 (lU Bp rfl (lU Bt rfl (lU Lg rfl (lC C6 (lC B1 (lC Cb (lC Bv (lC Ep (lO (kY 72 bB)))))))))) Nj
abbrev E.q4_j30:Enc St:=sT 4 (lU Bp rfl (lU Bt rfl (lU Lg rfl (lC C6 (lC B1 (lC Cb (lC Bv (lC Ep (lO (kY 55 bB)))))))))) Nj
abbrev E.q4_j24:Enc St:=sT 4 (lU Bp rfl (lU Bt rfl (lU Lg rfl (lC C6 (lC B1 (lC Cb (lC Bv (lC Ep (lO (kY 43 bB)))))))))) Nj
abbrev E.q4_j18:Enc St:=sT 4 (lU Bp rfl (lU Bt rfl (lU Lg rfl (lC C6 (lC B1 (lC Cb (lC Bv (lC Ep (lO (kY 31 bB)))))))))) Nj
abbrev E.q4_j243:Enc St:=sT 4 (lU Bp rfl (lU Bt rfl (lU Lg rfl (lO B1)))) Nj
abbrev E.q4_a:Enc (List AV×List Blk):=bS (lU (pB 0 0) rfl (lN AV)) rfl (lO A7)
abbrev E.q4_r:Enc (AV×List (Option Blk)×List Blk):=bO (aG Ale) (bO (lO (sM A7)) (lO Lh))
def T.q4(N:Nat):As R:={f:=54,arg:=E.q4_a,res:=E.q4_r,fn:=F.qa N}
def H.q4:A1:={lp:=[(0,[0,2,3,4,5,6,7],[0,2,3,4,5]),(2,[0,2,3,4,5],[0,2,3,4,5])],jn:=[(40,[0,2,3,4,5,6,7,84],E.q4_j40),(36,[0,2,3,4,5,6,7,8,72],E.q4_j36),(30,[0,2,3,4,5,6,7,8,55],E.q4_j30),(24,[0,2,3,4,5,6,7,8,43],E.q4_j24),(18,[0,2,3,4,5,6,7,8,31],E.q4_j18),(243,[0,2,3,5],E.q4_j243)]}
theorem WF.f54:Bc Try.prog 54 Try.f54:=Ap Try.func54 (by decide) (by kernel_rfl)
def TL.q4_l0(N:Nat):An R:={b:=0,st:=E.q4_l0_i,fn:=λ d k=>lp (F.cg N) N d (λ y=>k (.exit 0) (E.q4_l0_oe0.to y))}
theorem LK.q4_l0(N:Nat):Ai Try.prog 1 Try.f54.ntmps (bodyOf Try.f54) (TL.q4_l0 (R:=R) N):=
 Ah (i:=[0,2,3,4,5,6,7]) (o:=[0,2,3,4,5]) (h:=H.q4) A9 hm (Ad TK.q1 Ac) WF.f54 Ab (by kernel_rfl) (λ d=>Ak rfl) N (F.cg N) _ (λ _ _=>rfl) (λ _ _ _=>by kernel_rfl)
def TL.q4_l2(N:Nat):An R:={b:=2,st:=E.q4_l2_i,fn:=λ d k=>lp (F.cj N) N d (λ y=>k (.exit 2) (E.q4_l2_oe2.to y))}
theorem LK.q4_l2(N:Nat):Ai Try.prog 1 Try.f54.ntmps (bodyOf Try.f54) (TL.q4_l2 (R:=R) N):=
 Ah (i:=[0,2,3,4,5]) (o:=[0,2,3,4,5]) (h:=H.q4) A9 hm (Ad TK.q1 Ac) WF.f54 Ab (by kernel_rfl) (λ d=>Ak rfl) N (F.cj N) _ (λ _ _=>rfl) (λ _ _ _=>by kernel_rfl)
theorem TK.q4(N:Nat):Aj Try.prog (T.q4 (R:=R) N):=
 Al (h:=H.q4) A9 hm (Ad TK.q1 Ac) WF.f54 (λ d=>(Ag (LK.q4_l0 N) (Ag (LK.q4_l2 N) Ab))) (λ _ _=>by kernel_rfl)
abbrev E.q5_a:Enc (List AV×List Blk):=bQ (lO (iN .i64)) (lN Blk) rfl
abbrev E.q5_r:Enc (AV×List (Option Blk)×List Blk):=bQ (iN .i64) (bS (lN (Option Blk)) rfl (lN Blk)) rfl
def T.q5:As R:={f:=92,arg:=E.q5_a,res:=E.q5_r,fn:=F.oh}
def H.q5:A1:={lp:=[]}
theorem WF.f92:Bc Try.prog 92 Try.f92:=Ap Try.func92 (by decide) (by kernel_rfl)
theorem TK.q5:Aj Try.prog (T.q5 (R:=R)):=
 Al (h:=H.q5) A9 hm Ac WF.f92 (λ d=>Ab) (λ _ _=>by kernel_rfl)
abbrev E.q6_l0_i:Enc St:=sT 3 (lU Jh rfl (lU Fq rfl (lU Sl rfl As5))) (lC (kY 0 Am) Hm)
abbrev E.q6_l0_oe0:Enc St:=sR 3 (lU Nk rfl (lU Uu rfl (lU Sn rfl (lU Jh rfl (lU Fq rfl (lU Sl rfl (lN (Nat×AV)))))))) rfl (lC (kY 0 Am) Hm)
abbrev E.q6_l0_oret:Enc St:=sT 3 (lU (kY 2 (sL 0)) rfl (lU (kY 3 (sL 1)) rfl (lR Pw (lU Jh rfl (lU Fq rfl (lU Sl rfl (lN (Nat×AV))))) rfl))) (lC (kY 0 Am) Hm)
abbrev E.q6_j67:Enc St:=sT 4 (lU Jh rfl (lU Fq rfl (lU Sl rfl (lC Ep (lU Uv rfl (lC Li (lC C7 As5))))))) As7
abbrev E.q6_a:Enc (List AV×List Blk):=bQ (lO (rO 0 ki3)) (lN Blk) rfl
abbrev E.q6_r:Enc (AV×List (Option Blk)×List Blk):=bO As8 (bS (lN (Option Blk)) rfl (lC Am (lO Am)))
def T.q6(N:Nat):As R:={f:=79,arg:=E.q6_a,res:=E.q6_r,fn:=F.ao N}
def H.q6:A1:={lp:=[(0,[5,6,7,15,16,17],[2,3,4,5,6,7])],jn:=[(67,[5,6,7,8,9,10,11,15,16,17],E.q6_j67)]}
theorem WF.f79:Bc Try.prog 79 Try.f79:=Ap Try.func79 (by decide) (by kernel_rfl)
def TL.q6_l0(N:Nat):An R:={b:=0,st:=E.q6_l0_i,fn:=λ d k=>lp (F.bq N) N d (λ y=>k (.exit 0) (E.q6_l0_oe0.to y),λ y=>k .ret (E.q6_l0_oret.to y))}
theorem LK.q6_l0(N:Nat):Ai Try.prog 0 Try.f79.ntmps (bodyOf Try.f79) (TL.q6_l0 (R:=R) N):=
 Ah (i:=[5,6,7,15,16,17]) (o:=[2,3,4,5,6,7]) (h:=H.q6) A9 hm (Ad TK.q5 Ac) WF.f79 Ab (by kernel_rfl) (λ d=>Ak rfl) N (F.bq N) _ (λ _ _=>rfl) (λ _ _ _=>by kernel_rfl)
theorem TK.q6(N:Nat):Aj Try.prog (T.q6 (R:=R) N):=
 Al (h:=H.q6) A9 hm Ac WF.f79 (λ d=>(Ag (LK.q6_l0 N) Ab)) (λ _ _=>by kernel_rfl)
abbrev E.q7_a:Enc (List AV×List Blk):=bQ (lO As9) (lN Blk) rfl
abbrev E.q7_r:Enc (AV×List (Option Blk)×List Blk):=bQ (iN .i64) (bS (lN (Option Blk)) rfl (lN Blk)) rfl
def T.q7:As R:={f:=83,arg:=E.q7_a,res:=E.q7_r,fn:=F.pm}
def H.q7:A1:={lp:=[]}
theorem WF.f83:Bc Try.prog 83 Try.f83:=Ap Try.func83 (by decide) (by kernel_rfl)
theorem TK.q7:Aj Try.prog (T.q7 (R:=R)):=
 Al (h:=H.q7) A9 hm Ac WF.f83 (λ d=>Ab) (λ _ _=>by kernel_rfl)
abbrev E.q8_l0_i:Enc St:=sT 3 (lC Alg (lU Ji rfl (lU Gw rfl (lU Agf rfl Ata)))) (lC (kY 0 Am) Hm)
abbrev E.q8_l0_oe0:Enc St:=sT 1 (lR Alg Agg rfl) (lO (kY 0 Am))
abbrev E.q8_j59:Enc St:=sT 3 (lC Alg (lU Ji rfl (lU Gw rfl (lU Agf rfl (lC Bv Ata))))) (lC (kY 0 Am) Hm)
abbrev E.q8_a:Enc (List AV×List Blk):=bQ (lO (rO 0 ki3)) (lN Blk) rfl
abbrev E.q8_r:Enc (AV×List (Option Blk)×List Blk):=bQ (iN .i64) (bS (lN (Option Blk)) rfl (lN Blk)) rfl
def T.q8(N:Nat):As R:={f:=70,arg:=E.q8_a,res:=E.q8_r,fn:=F.pp N}
def H.q8:A1:={lp:=[(0,[0,3,4,6,20,21,22],[0,6])],jn:=[(59,[0,3,4,6,7,20,21,22],E.q8_j59)]}
theorem WF.f70:Bc Try.prog 70 Try.f70:=Ap Try.func70 (by decide) (by kernel_rfl)
def TL.q8_l0(N:Nat):An R:={b:=0,st:=E.q8_l0_i,fn:=λ d k=>lp (F.be N) N d (λ y=>k (.exit 0) (E.q8_l0_oe0.to y))}
theorem LK.q8_l0(N:Nat):Ai Try.prog 0 Try.f70.ntmps (bodyOf Try.f70) (TL.q8_l0 (R:=R) N):=
 Ah (i:=[0,3,4,6,20,21,22]) (o:=[0,6]) (h:=H.q8) A9 hm (Ad TK.q7 Ac) WF.f70 Ab (by kernel_rfl) (λ d=>Ak rfl) N (F.be N) _ (λ _ _=>rfl) (λ _ _ _=>by kernel_rfl)
theorem TK.q8(N:Nat):Aj Try.prog (T.q8 (R:=R) N):=
 Al (h:=H.q8) A9 hm (Ad (TK.q6 N) Ac) WF.f70 (λ d=>(Ag (LK.q8_l0 N) Ab)) (λ _ _=>by kernel_rfl)
abbrev E.q9_l0_i:Enc St:=sQ 0 (lC Bu (lC (kY 7 (rO 0 ki5)) (lC Ep (lO Di)))) (lN (Nat×Blk)) rfl
abbrev E.q9_l0_oe0:Enc St:=sQ 0 (lO Bu) (lN (Nat×Blk)) rfl
abbrev E.q9_a:Enc (List AV×List Blk):=bQ (lO (aG (lC (rO 0 ki5) (lO (iN .i64))))) (lN Blk) rfl
abbrev E.q9_r:Enc (AV×List (Option Blk)×List Blk):=bQ (iN .i64) (bS (lN (Option Blk)) rfl (lN Blk)) rfl
def T.q9(N:Nat):As R:={f:=55,arg:=E.q9_a,res:=E.q9_r,fn:=F.ak N}
def H.q9:A1:={lp:=[(0,[3,7,8,9],[3])]}
theorem WF.f55:Bc Try.prog 55 Try.f55:=Ap Try.func55 (by decide) (by kernel_rfl)
def TL.q9_l0(N:Nat):An R:={b:=0,st:=E.q9_l0_i,fn:=λ d k=>lp (F.ap N) N d (λ y=>k (.exit 0) (E.q9_l0_oe0.to y))}
theorem LK.q9_l0(N:Nat):Ai Try.prog 0 Try.f55.ntmps (bodyOf Try.f55) (TL.q9_l0 (R:=R) N):=
 Ah (i:=[3,7,8,9]) (o:=[3]) (h:=H.q9) A9 hm (Ad (TK.q8 N) Ac) WF.f55 Ab (by kernel_rfl) (λ d=>Ak rfl) N (F.ap N) _ (λ _ _=>rfl) (λ _ _ _=>by kernel_rfl)
theorem TK.q9(N:Nat):Aj Try.prog (T.q9 (R:=R) N):=
 Al (h:=H.q9) A9 hm Ac WF.f55 (λ d=>(Ag (LK.q9_l0 N) Ab)) (λ _ _=>by kernel_rfl)
abbrev E.q10_l0_i:Enc St:=sT 1 (lU Bp rfl (lC Dx (lO Lj))) (lO (kY 0 A7))
abbrev E.q10_l0_oe0:Enc St:=sT 1 (lO Lj) (lO (kY 0 A7))
abbrev E.q10_j4:Enc St:=sT 1 (lU Bp rfl (lC Dx (lC Lj (lO (kY 18 bB))))) (lO (kY 0 A7))
abbrev E.q10_a:Enc (List AV×List Blk):=bO Abh (lO A7)
abbrev E.q10_r:Enc (AV×List (Option Blk)×List Blk):=bO tR (bQ (lO (sM A7)) (lN Blk) rfl)
def T.q10(N:Nat)(rw0:E9->(Em->Option R)->Option R):As R:={f:=93,arg:=E.q10_a,res:=E.q10_r,fn:=F.qc N rw0}
def H.q10:A1:={lp:=[(0,[0,1,5],[5])],jn:=[(4,[0,1,5,18],E.q10_j4)]}
theorem WF.f93:Bc Try.prog 93 Try.f93:=Ap Try.func93 (by decide) (by kernel_rfl)
def TL.q10_l0(N:Nat)(rw0:E9->(Em->Option R)->Option R):An R:={b:=0,st:=E.q10_l0_i,fn:=λ d k=>lp (F.cn N rw0) N d (λ y=>k (.exit 0) (E.q10_l0_oe0.to y))}
theorem LK.q10_l0(N:Nat)(rw0:E9->(Em->Option R)->Option R)(h_spec_l1DrawAlt:Aj Try.prog (T.q13_r rw0)):Ai Try.prog 1 Try.f93.ntmps (bodyOf Try.f93) (TL.q10_l0 (R:=R) N rw0):=
 Ah (i:=[0,1,5]) (o:=[5]) (h:=H.q10) A9 hm (Ad TK.q1 (Ad h_spec_l1DrawAlt Ac)) WF.f93 Ab (by kernel_rfl) (λ d=>Ak rfl) N (F.cn N rw0) _ (λ _ _=>rfl) (λ _ _ _=>by kernel_rfl)
theorem TK.q10(N:Nat)(rw0:E9->(Em->Option R)->Option R)(h_spec_l1DrawAlt:Aj Try.prog (T.q13_r rw0)):Aj Try.prog (T.q10 (R:=R) N rw0):=
 Al (h:=H.q10) A9 hm (Ad h_spec_l1DrawAlt Ac) WF.f93 (λ d=>(Ag (LK.q10_l0 N rw0 h_spec_l1DrawAlt) Ab)) (λ _ _=>by kernel_rfl)
abbrev E.q11_a:Enc (List AV×List Blk):=bS (lU (pB 0 0) rfl (lN AV)) rfl (lO A7)
abbrev E.q11_r:Enc (AV×List (Option Blk)×List Blk):=bO tR (bQ (lO (sM A7)) (lN Blk) rfl)
def T.q11:As R:={f:=94,arg:=E.q11_a,res:=E.q11_r,fn:=F.qd}
def H.q11:A1:={lp:=[]}
theorem WF.f94:Bc Try.prog 94 Try.f94:=Ap Try.func94 (by decide) (by kernel_rfl)
theorem TK.q11:Aj Try.prog (T.q11 (R:=R)):=
 Al (h:=H.q11) A9 hm (Ad TK.q1 Ac) WF.f94 (λ d=>Ab) (λ _ _=>by kernel_rfl)
abbrev E.q12_a:Enc (List AV×List Blk):=bS (lU (pB 0 0) rfl (lN AV)) rfl (lO A7)
abbrev E.q12_r:Enc (AV×List (Option Blk)×List Blk):=bO tR (bQ (lO (sM A7)) (lN Blk) rfl)
def T.q12:As R:={f:=95,arg:=E.q12_a,res:=E.q12_r,fn:=F.me}
def H.q12:A1:={lp:=[]}
theorem WF.f95:Bc Try.prog 95 Try.f95:=Ap Try.func95 (by decide) (by kernel_rfl)
theorem TK.q12:Aj Try.prog (T.q12 (R:=R)):=
 Al (h:=H.q12) A9 hm (Ad TK.q1 Ac) WF.f95 (λ d=>Ab) (λ _ _=>by kernel_rfl)
abbrev E.q13_l0_i:Enc St:=sT 1 (lU Bp rfl (lC Dx Atb)) (lO (kY 0 A7))
abbrev E.q13_l0_oe0:Enc St:=sT 1 (lO Lj) (lO (kY 0 A7))
abbrev E.q13_j14:Enc St:=sT 1 (lU Bp rfl (lC Dx (lC Lj (lC Cb (lC Bv (lO (kY 47 bB))))))) (lO (kY 0 A7))
abbrev E.q13_j8:Enc St:=sT 1 (lU Bp rfl (lC Dx (lC Lj (lC Cb (lC Bv (lO (kY 24 bB))))))) (lO (kY 0 A7))
def H.q13:A1:={lp:=[(0,[0,1,5,6,7],[5])],jn:=[(14,[0,1,5,6,7,47],E.q13_j14),(8,[0,1,5,6,7,24],E.q13_j8)]}
theorem WF.f84:Bc Try.prog 84 Try.f84:=Ap Try.func84 (by decide) (by kernel_rfl)
def TL.q13_l0(N:Nat)(rw0:E9->(Em->Option R)->Option R):An R:={b:=0,st:=E.q13_l0_i,fn:=λ d k=>lp (F.ec N rw0) N d (λ y=>k (.exit 0) (E.q13_l0_oe0.to y))}
theorem LK.q13_l0(N:Nat)(rw0:E9->(Em->Option R)->Option R)(h_spec_l1DrawAlt:Aj Try.prog (T.q13_r rw0)):Ai Try.prog 1 Try.f84.ntmps (bodyOf Try.f84) (TL.q13_l0 (R:=R) N rw0):=
 Ah (i:=[0,1,5,6,7]) (o:=[5]) (h:=H.q13) A9 hm (Ad TK.q1 (Ad (TK.q10 N rw0 h_spec_l1DrawAlt) (Ad TK.q11 (Ad TK.q12 Ac)))) WF.f84 Ab (by kernel_rfl) (λ d=>Ak rfl) N (F.ec N rw0) _ (λ _ _=>rfl) (λ _ _ _=>by kernel_rfl)
def T.q13_s(N:Nat)(rw0:E9->(Em->Option R)->Option R):As R:={f:=84,arg:=E.q13_a,res:=E.q13_r,fn:=F.oz N rw0}
theorem F.xu(N:Nat)(rw0:E9->(Em->Option R)->Option R)(d:E.q13_a.D)(k:AV->List (Option Blk)->List Blk->Option R):
  Rr Sj (Fl [T.q1]) (Dk [TL.q13_l0 N rw0]) H.q13 Try.f84 (E.q13_a.to d).1 (E.q13_a.to d).2 k=(T.q13_s N rw0).fn d λ x=>k (E.q13_r.to x).1 (E.q13_r.to x).2.1 (E.q13_r.to x).2.2:=by kernel_rfl
theorem TKn.q13(N:Nat):∀n,Aj Try.prog (T.q13_r (R:=R) (F.kj N n))
 | 0=>λ d k r h=>nomatch(show(none:Option R)=some r from h)
 | n+1=>Al (h:=H.q13) A9 hm (Ad TK.q1 Ac) WF.f84 (λ d=>(Ag (LK.q13_l0 N (F.kj N n) (TKn.q13 N n)) Ab)) (F.xu N (F.kj N n))
theorem TK.q13(N:Nat):Aj Try.prog (T.q13_r (R:=R) (F.kj N N)):=TKn.q13 N N
abbrev E.q14_l0_i:Enc St:=sT 1 Ali (lO (kY 0 A7))
abbrev E.q14_l0_oe0:Enc St:=sT 1 (lU Sn rfl (lO Lj)) (lO (kY 0 A7))
abbrev E.q14_l0_oret:Enc St:=sT 1 (lC (kY 4 tR) (lO Lj)) (lO (kY 0 A7))
abbrev E.q14_j81:Enc St:=sT 1 Ali (lO (kY 0 A7))
abbrev E.q14_j24:Enc St:=sT 1 (lU Bp rfl (lC Lj (lC Cb (lO (kY 40 bB))))) (lO (kY 0 A7))
abbrev E.q14_j47:Enc St:=sT 1 (lU Bp rfl Atb) (lO (kY 0 A7))
abbrev E.q14_j35:Enc St:=sT 1 Ali (lO (kY 0 A7))
abbrev E.q14_a:Enc (List AV×List Blk):=bO Abh (lO A7)
abbrev E.q14_r:Enc (AV×List (Option Blk)×List Blk):=bO tR (bQ (lO (sM A7)) (lN Blk) rfl)
def T.q14(N:Nat):As R:={f:=71,arg:=E.q14_a,res:=E.q14_r,fn:=F.mf N}
def H.q14:A1:={lp:=[(0,[0,5,6],[4,5])],jn:=[(81,[0,5,6],E.q14_j81),(24,[0,5,6,40],E.q14_j24),(47,[0,5,6,7],E.q14_j47),(35,[0,5,6],E.q14_j35)]}
theorem WF.f71:Bc Try.prog 71 Try.f71:=Ap Try.func71 (by decide) (by kernel_rfl)
def TL.q14_l0(N:Nat):An R:={b:=0,st:=E.q14_l0_i,fn:=λ d k=>lp (F.bj N) N d (λ y=>k (.exit 0) (E.q14_l0_oe0.to y),λ y=>k .ret (E.q14_l0_oret.to y))}
theorem LK.q14_l0(N:Nat):Ai Try.prog 1 Try.f71.ntmps (bodyOf Try.f71) (TL.q14_l0 (R:=R) N):=
 Ah (i:=[0,5,6]) (o:=[4,5]) (h:=H.q14) A9 hm (Ad TK.q1 (Ad (TK.q13 N) Ac)) WF.f71 Ab (by kernel_rfl) (λ d=>Ak rfl) N (F.bj N) _ (λ _ _=>rfl) (λ _ _ _=>by kernel_rfl)
theorem TK.q14(N:Nat):Aj Try.prog (T.q14 (R:=R) N):=
 Al (h:=H.q14) A9 hm Ac WF.f71 (λ d=>(Ag (LK.q14_l0 N) Ab)) (λ _ _=>by kernel_rfl)
abbrev E.q15_a:Enc (List AV×List Blk):=bQ (lC (iN .i64) Hl) (lN Blk) rfl
abbrev E.q15_r:Enc (AV×List (Option Blk)×List Blk):=bQ bB (bS (lN (Option Blk)) rfl (lN Blk)) rfl
def T.q15:As R:={f:=36,arg:=E.q15_a,res:=E.q15_r,fn:=F.af}
def H.q15:A1:={lp:=[]}
theorem WF.f36:Bc Try.prog 36 Try.f36:=Ap Try.func36 (by decide) (by kernel_rfl)
theorem TK.q15:Aj Try.prog (T.q15 (R:=R)):=
 Al (h:=H.q15) A9 hm Ac WF.f36 (λ d=>Ab) (λ _ _=>by kernel_rfl)
abbrev E.q16_l0_i:Enc St:=sQ 0 (lC Fk (lC Bu (lO C6))) (lN (Nat×Blk)) rfl
abbrev E.q16_l0_oe0:Enc St:=sQ 0 (lU Nk rfl (lO Bu)) (lN (Nat×Blk)) rfl
abbrev E.q16_l0_oret:Enc St:=sQ 0 (lC Uw (lO Bu)) (lN (Nat×Blk)) rfl
abbrev E.q16_a:Enc (List AV×List Blk):=bQ (lO tR) (lN Blk) rfl
abbrev E.q16_r:Enc (AV×List (Option Blk)×List Blk):=bQ (iN .i64) (bS (lN (Option Blk)) rfl (lN Blk)) rfl
def T.q16(N:Nat):As R:={f:=96,arg:=E.q16_a,res:=E.q16_r,fn:=F.oi N}
def H.q16:A1:={lp:=[(0,[0,3,4],[2,3])]}
theorem WF.f96:Bc Try.prog 96 Try.f96:=Ap Try.func96 (by decide) (by kernel_rfl)
def TL.q16_l0(N:Nat):An R:={b:=0,st:=E.q16_l0_i,fn:=λ d k=>lp (F.je N) N d (λ y=>k (.exit 0) (E.q16_l0_oe0.to y),λ y=>k .ret (E.q16_l0_oret.to y))}
theorem LK.q16_l0(N:Nat):Ai Try.prog 0 Try.f96.ntmps (bodyOf Try.f96) (TL.q16_l0 (R:=R) N):=
 Ah (i:=[0,3,4]) (o:=[2,3]) (h:=H.q16) A9 hm (Ad TK.q15 Ac) WF.f96 Ab (by kernel_rfl) (λ d=>Ak rfl) N (F.je N) _ (λ _ _=>rfl) (λ _ _ _=>by kernel_rfl)
theorem TK.q16(N:Nat):Aj Try.prog (T.q16 (R:=R) N):=
 Al (h:=H.q16) A9 hm Ac WF.f96 (λ d=>(Ag (LK.q16_l0 N) Ab)) (λ _ _=>by kernel_rfl)
abbrev E.q17_l0_i:Enc St:=sQ 0 Atc (lN (Nat×Blk)) rfl
abbrev E.q17_l0_oe0:Enc St:=sQ 0 Atc (lN (Nat×Blk)) rfl
abbrev E.q17_l2_i:Enc St:=sQ 0 (lC Bv (lC (kY 8 tR) (lC Di (lO Li)))) (lN (Nat×Blk)) rfl
abbrev E.q17_l2_oe2:Enc St:=sQ 0 (lC Bv (lC (kY 8 tR) (lO Di))) (lN (Nat×Blk)) rfl
abbrev E.q17_a:Enc (List AV×List Blk):=bQ Agh (lN Blk) rfl
abbrev E.q17_r:Enc (AV×List (Option Blk)×List Blk):=bQ (tP (lC (iN .i64) Hl)) (bS (lN (Option Blk)) rfl (lN Blk)) rfl
def T.q17(N:Nat):As R:={f:=85,arg:=E.q17_a,res:=E.q17_r,fn:=F.bo N}
def H.q17:A1:={lp:=[(0,[0,1,7],[0,1,7]),(2,[7,8,9,10],[7,8,9])]}
theorem WF.f85:Bc Try.prog 85 Try.f85:=Ap Try.func85 (by decide) (by kernel_rfl)
def TL.q17_l0(N:Nat):An R:={b:=0,st:=E.q17_l0_i,fn:=λ d k=>lp (F.co N) N d (λ y=>k (.exit 0) (E.q17_l0_oe0.to y))}
theorem LK.q17_l0(N:Nat):Ai Try.prog 0 Try.f85.ntmps (bodyOf Try.f85) (TL.q17_l0 (R:=R) N):=
 Ah (i:=[0,1,7]) (o:=[0,1,7]) (h:=H.q17) A9 hm Ac WF.f85 Ab (by kernel_rfl) (λ d=>Ak rfl) N (F.co N) _ (λ _ _=>rfl) (λ _ _ _=>by kernel_rfl)
def TL.q17_l2(N:Nat):An R:={b:=2,st:=E.q17_l2_i,fn:=λ d k=>lp (F.cq N) N d (λ y=>k (.exit 2) (E.q17_l2_oe2.to y))}
theorem LK.q17_l2(N:Nat):Ai Try.prog 0 Try.f85.ntmps (bodyOf Try.f85) (TL.q17_l2 (R:=R) N):=
 Ah (i:=[7,8,9,10]) (o:=[7,8,9]) (h:=H.q17) A9 hm Ac WF.f85 Ab (by kernel_rfl) (λ d=>Ak rfl) N (F.cq N) _ (λ _ _=>rfl) (λ _ _ _=>by kernel_rfl)
theorem TK.q17(N:Nat):Aj Try.prog (T.q17 (R:=R) N):=
 Al (h:=H.q17) A9 hm (Ad (TK.q16 N) Ac) WF.f85 (λ d=>(Ag (LK.q17_l0 N) (Ag (LK.q17_l2 N) Ab))) (λ _ _=>by kernel_rfl)
abbrev E.q18_a:Enc (List AV×List Blk):=bQ Agh (lN Blk) rfl
abbrev E.q18_r:Enc (AV×List (Option Blk)×List Blk):=bQ (iN .i64) (bS (lN (Option Blk)) rfl (lN Blk)) rfl
def T.q18:As R:={f:=88,arg:=E.q18_a,res:=E.q18_r,fn:=F.dx}
def H.q18:A1:={lp:=[]}
theorem WF.f88:Bc Try.prog 88 Try.f88:=Ap Try.func88 (by decide) (by kernel_rfl)
theorem TK.q18:Aj Try.prog (T.q18 (R:=R)):=
 Al (h:=H.q18) A9 hm Ac WF.f88 (λ d=>Ab) (λ _ _=>by kernel_rfl)
abbrev E.q19_a:Enc (List AV×List Blk):=bS (lN AV) rfl (lN Blk)
abbrev E.q19_r:Enc (AV×List (Option Blk)×List Blk):=bS (sL 0) rfl (bS (lN (Option Blk)) rfl (lO (cE (lO (rW .str)))))
def T.q19:As R:={f:=97,arg:=E.q19_a,res:=E.q19_r,fn:=F.qz}
def H.q19:A1:={lp:=[]}
theorem WF.f97:Bc Try.prog 97 Try.f97:=Ap Try.func97 (by decide) (by kernel_rfl)
theorem TK.q19:Aj Try.prog (T.q19 (R:=R)):=
 Al (h:=H.q19) A9 hm Ac WF.f97 (λ d=>Ab) (λ _ _=>by kernel_rfl)
abbrev E.q20_a:Enc (List AV×List Blk):=bQ Agh (lN Blk) rfl
abbrev E.q20_r:Enc (AV×List (Option Blk)×List Blk):=bQ bB (bS (lN (Option Blk)) rfl (lN Blk)) rfl
def T.q20:As R:={f:=98,arg:=E.q20_a,res:=E.q20_r,fn:=F.qm}
def H.q20:A1:={lp:=[]}
theorem WF.f98:Bc Try.prog 98 Try.f98:=Ap Try.func98 (by decide) (by kernel_rfl)
theorem TK.q20:Aj Try.prog (T.q20 (R:=R)):=
 Al (h:=H.q20) A9 hm (Ad TK.q15 Ac) WF.f98 (λ d=>Ab) (λ _ _=>by kernel_rfl)
abbrev E.q21_l2_i:Enc St:=sT 1 (lU Hn rfl (lC Bv (lO Li))) (lO (kY 0 Dh))
abbrev E.q21_l2_oe2:Enc St:=sT 1 (lU Hn rfl (lO Bv)) (lO (kY 0 Dh))
abbrev E.q21_l4_i:Enc St:=sT 1 (lC Fk (lU Hn rfl (lC Bv Alj))) (lO (kY 0 Dh))
abbrev E.q21_l4_oe4:Enc St:=sT 1 (lC Fk (lU Hn rfl (lC Bv Alj))) (lO (kY 0 Dh))
abbrev E.q21_l6_i:Enc St:=sT 2 (lC Fk (lU Hn rfl (lC J3 (lC Di (lC Ho (lC (kY 13 tR) (lC (kY 14 bB) (lU (kY 122 (sL 1)) rfl (lC Alk (lO Alm)))))))))) (lC (kY 0 Dh) (lO (kY 1 (cE (lO (rW .str))))))
abbrev E.q21_l6_oe6:Enc St:=sT 1 (lC Fk (lU Hn rfl (lC J3 (lC Di (lC Ho (lC (kY 13 tR) (lO (kY 14 bB)))))))) (lO (kY 0 Dh))
abbrev E.q21_l8_i:Enc St:=sT 1 (lC Fk (lU Hn rfl (lC J3 (lC Di (lC Ho (lC (kY 13 tR) (lO J2))))))) (lO (kY 0 Dh))
abbrev E.q21_l8_oe8:Enc St:=sT 1 (lC Fk (lU Hn rfl Alj)) (lO (kY 0 Dh))
abbrev E.q21_l10_i:Enc St:=sT 1 (lC Fk (lU Hn rfl (lC Bv (lC J3 (lC Di (lC Abj (lO Alh))))))) (lO (kY 0 Dh))
abbrev E.q21_l10_oe10:Enc St:=sT 1 (lC Fk (lU Hn rfl (lC Bv (lC J3 (lO Di))))) (lO (kY 0 Dh))
abbrev E.q21_l0_i:Enc St:=sT 1 (lC Fk (lU Hn rfl (lC Bv (lC J3 (lO Di))))) (lO (kY 0 Dh))
abbrev E.q21_l0_oe0:Enc St:=sR 1 (lU Sn rfl (lU (kY 5 uN) rfl Agg)) rfl (lO (kY 0 Dh))
abbrev E.q21_l0_oret:Enc St:=sT 1 (lU (kY 4 (sL 0)) rfl (lR B1 Agg rfl)) (lO (kY 0 Dh))
abbrev E.q21_j331:Enc St:=sT 1 (lC Fk (lU Hn rfl (lC Bv (lC J3 (lC Di (lC So (lO Abj))))))) (lO (kY 0 Dh))
abbrev E.q21_j86:Enc St:=sT 1 (lC Fk (lU Hn rfl (lC Bv (lC J3 (lC Di (lC So (lC Abj (lC Abk (lO (kY 165 bB)))))))))) (lO (kY 0 Dh))
abbrev E.q21_j36:Enc St:=sT 1 (lC Fk (lU Hn rfl (lC Bv (lC J3 (lC Di (lC C7 (lO (kY 87 bB)))))))) (lO (kY 0 Dh))
abbrev E.q21_j32:Enc St:=sT 1 (lC Fk (lU Hn rfl (lC Bv (lC J3 (lC Di (lC C7 (lO (kY 78 bB)))))))) (lO (kY 0 Dh))
abbrev E.q21_j16:Enc St:=sT 1 (lC Fk (lU Hn rfl (lC Bv (lC J3 (lC Di (lO (kY 46 bB))))))) (lO (kY 0 Dh))
abbrev E.q21_a:Enc (List AV×List Blk):=bQ Agh (lN Blk) rfl
abbrev E.q21_r:Enc (AV×List (Option Blk)×List Blk):=bO (tP Atd) (bS (lN (Option Blk)) rfl (lO Dh))
def T.q21(N:Nat):As R:={f:=86,arg:=E.q21_a,res:=E.q21_r,fn:=F.br N}
def H.q21:A1:={lp:=[(0,[0,6,7,8,9],[4,5,6]),(2,[6,7,10],[6,7]),(4,[0,6,7,8,9,12],[0,6,7,8,9,12]),(6,[0,6,8,9,12,13,14,122,123,124],[0,6,8,9,12,13,14]),(8,[0,6,8,9,12,13,17],[0,6,8,9,12]),(10,[0,6,7,8,9,19,22],[0,6,7,8,9])],jn:=[(331,[0,6,7,8,9,18,19],E.q21_j331),(86,[0,6,7,8,9,18,19,20,165],E.q21_j86),(36,[0,6,7,8,9,11,87],E.q21_j36),(32,[0,6,7,8,9,11,78],E.q21_j32),(16,[0,6,7,8,9,46],E.q21_j16)]}
theorem WF.f86:Bc Try.prog 86 Try.f86:=Ap Try.func86 (by decide) (by kernel_rfl)
def TL.q21_l2(N:Nat):An R:={b:=2,st:=E.q21_l2_i,fn:=λ d k=>lp (F.ef N) N d (λ y=>k (.exit 2) (E.q21_l2_oe2.to y))}
theorem LK.q21_l2(N:Nat):Ai Try.prog 0 Try.f86.ntmps (bodyOf Try.f86) (TL.q21_l2 (R:=R) N):=
 Ah (i:=[6,7,10]) (o:=[6,7]) (h:=H.q21) A9 hm Ac WF.f86 Ab (by kernel_rfl) (λ d=>Ak rfl) N (F.ef N) _ (λ _ _=>rfl) (λ _ _ _=>by kernel_rfl)
def TL.q21_l4(N:Nat):An R:={b:=4,st:=E.q21_l4_i,fn:=λ d k=>lp (F.eg N) N d (λ y=>k (.exit 4) (E.q21_l4_oe4.to y))}
theorem LK.q21_l4(N:Nat):Ai Try.prog 0 Try.f86.ntmps (bodyOf Try.f86) (TL.q21_l4 (R:=R) N):=
 Ah (i:=[0,6,7,8,9,12]) (o:=[0,6,7,8,9,12]) (h:=H.q21) A9 hm Ac WF.f86 Ab (by kernel_rfl) (λ d=>Ak rfl) N (F.eg N) _ (λ _ _=>rfl) (λ _ _ _=>by kernel_rfl)
def TL.q21_l6(N:Nat):An R:={b:=6,st:=E.q21_l6_i,fn:=λ d k=>lp (F.eh N) N d (λ y=>k (.exit 6) (E.q21_l6_oe6.to y))}
theorem LK.q21_l6(N:Nat):Ai Try.prog 0 Try.f86.ntmps (bodyOf Try.f86) (TL.q21_l6 (R:=R) N):=
 Ah (i:=[0,6,8,9,12,13,14,122,123,124]) (o:=[0,6,8,9,12,13,14]) (h:=H.q21) A9 hm Ac WF.f86 Ab (by kernel_rfl) (λ d=>Ak rfl) N (F.eh N) _ (λ _ _=>rfl) (λ _ _ _=>by kernel_rfl)
def TL.q21_l8(N:Nat):An R:={b:=8,st:=E.q21_l8_i,fn:=λ d k=>lp (F.ej N) N d (λ y=>k (.exit 8) (E.q21_l8_oe8.to y))}
theorem LK.q21_l8(N:Nat):Ai Try.prog 0 Try.f86.ntmps (bodyOf Try.f86) (TL.q21_l8 (R:=R) N):=
 Ah (i:=[0,6,8,9,12,13,17]) (o:=[0,6,8,9,12]) (h:=H.q21) A9 hm (Ad TK.q20 Ac) WF.f86 Ab (by kernel_rfl) (λ d=>Ak rfl) N (F.ej N) _ (λ _ _=>rfl) (λ _ _ _=>by kernel_rfl)
def TL.q21_l10(N:Nat):An R:={b:=10,st:=E.q21_l10_i,fn:=λ d k=>lp (F.ct N) N d (λ y=>k (.exit 10) (E.q21_l10_oe10.to y))}
theorem LK.q21_l10(N:Nat):Ai Try.prog 0 Try.f86.ntmps (bodyOf Try.f86) (TL.q21_l10 (R:=R) N):=
 Ah (i:=[0,6,7,8,9,19,22]) (o:=[0,6,7,8,9]) (h:=H.q21) A9 hm Ac WF.f86 Ab (by kernel_rfl) (λ d=>Ak rfl) N (F.ct N) _ (λ _ _=>rfl) (λ _ _ _=>by kernel_rfl)
def TL.q21_l0(N:Nat):An R:={b:=0,st:=E.q21_l0_i,fn:=λ d k=>lp (F.er N) N d (λ y=>k (.exit 0) (E.q21_l0_oe0.to y),λ y=>k .ret (E.q21_l0_oret.to y))}
theorem LK.q21_l0(N:Nat):Ai Try.prog 0 Try.f86.ntmps (bodyOf Try.f86) (TL.q21_l0 (R:=R) N):=
 Ah (i:=[0,6,7,8,9]) (o:=[4,5,6]) (h:=H.q21) A9 hm (Ad TK.q18 (Ad TK.q19 Ac)) WF.f86 (Ag (LK.q21_l2 N) (Ag (LK.q21_l4 N) (Ag (LK.q21_l6 N) (Ag (LK.q21_l8 N) (Ag (LK.q21_l10 N) Ab))))) (by kernel_rfl) (λ d=>Ak rfl) N (F.er N) _ (λ _ _=>rfl) (λ _ _ _=>by kernel_rfl)
theorem TK.q21(N:Nat):Aj Try.prog (T.q21 (R:=R) N):=
 Al (h:=H.q21) A9 hm (Ad TK.q18 Ac) WF.f86 (λ d=>(Ag (LK.q21_l0 N) Ab)) (λ _ _=>by kernel_rfl)
abbrev E.q22_l0_i:Enc St:=sT 1 (lC Dx (lU Jh rfl (lO Cb))) (lO (kY 0 Dh))
abbrev E.q22_l0_oe0:Enc St:=sR 1 Abl rfl (lO (kY 0 Dh))
abbrev E.q22_a:Enc (List AV×List Blk):=bQ Hl (lN Blk) rfl
abbrev E.q22_r:Enc (AV×List (Option Blk)×List Blk):=bS (sL 0) rfl (bS (lN (Option Blk)) rfl (lO Dh))
def T.q22(N:Nat):As R:={f:=87,arg:=E.q22_a,res:=E.q22_r,fn:=F.aj N}
def H.q22:A1:={lp:=[(0,[1,5,6],[5])]}
theorem WF.f87:Bc Try.prog 87 Try.f87:=Ap Try.func87 (by decide) (by kernel_rfl)
def TL.q22_l0(N:Nat):An R:={b:=0,st:=E.q22_l0_i,fn:=λ d k=>lp (F.jf N) N d (λ y=>k (.exit 0) (E.q22_l0_oe0.to y))}
theorem LK.q22_l0(N:Nat):Ai Try.prog 0 Try.f87.ntmps (bodyOf Try.f87) (TL.q22_l0 (R:=R) N):=
 Ah (i:=[1,5,6]) (o:=[5]) (h:=H.q22) A9 hm Ac WF.f87 Ab (by kernel_rfl) (λ d=>Ak rfl) N (F.jf N) _ (λ _ _=>rfl) (λ _ _ _=>by kernel_rfl)
theorem TK.q22(N:Nat):Aj Try.prog (T.q22 (R:=R) N):=
 Al (h:=H.q22) A9 hm Ac WF.f87 (λ d=>(Ag (LK.q22_l0 N) Ab)) (λ _ _=>by kernel_rfl)
abbrev E.q23_l0_i:Enc St:=sQ 0 (lC (kY 0 (iN .i64)) (lC (kY 3 tR) (lO C6))) (lN (Nat×Blk)) rfl
abbrev E.q23_l0_oe0:Enc St:=sR 0 Abm rfl (lN (Nat×Blk))
abbrev E.q23_l0_oret:Enc St:=sQ 0 (lO Nl) (lN (Nat×Blk)) rfl
abbrev E.q23_a:Enc (List AV×List Blk):=bQ (lO (iN .i64)) (lN Blk) rfl
abbrev E.q23_r:Enc (AV×List (Option Blk)×List Blk):=bQ bB (bS (lN (Option Blk)) rfl (lN Blk)) rfl
def T.q23(N:Nat):As R:={f:=89,arg:=E.q23_a,res:=E.q23_r,fn:=F.bf N}
def H.q23:A1:={lp:=[(0,[0,3,4],[2])]}
theorem WF.f89:Bc Try.prog 89 Try.f89:=Ap Try.func89 (by decide) (by kernel_rfl)
def TL.q23_l0(N:Nat):An R:={b:=0,st:=E.q23_l0_i,fn:=λ d k=>lp (F.bu N) N d (λ y=>k (.exit 0) (E.q23_l0_oe0.to y),λ y=>k .ret (E.q23_l0_oret.to y))}
theorem LK.q23_l0(N:Nat):Ai Try.prog 0 Try.f89.ntmps (bodyOf Try.f89) (TL.q23_l0 (R:=R) N):=
 Ah (i:=[0,3,4]) (o:=[2]) (h:=H.q23) A9 hm Ac WF.f89 Ab (by kernel_rfl) (λ d=>Ak rfl) N (F.bu N) _ (λ _ _=>rfl) (λ _ _ _=>by kernel_rfl)
theorem TK.q23(N:Nat):Aj Try.prog (T.q23 (R:=R) N):=
 Al (h:=H.q23) A9 hm Ac WF.f89 (λ d=>(Ag (LK.q23_l0 N) Ab)) (λ _ _=>by kernel_rfl)
abbrev E.q24_l0_i:Enc St:=sT 1 (lC Fk (lU Jh rfl (lC Cb (lO Bv)))) (lO (kY 0 Agi))
abbrev E.q24_l0_oe0:Enc St:=sR 1 (lU Nk rfl (lU Uu rfl (lU Sn rfl Abl))) rfl (lO (kY 0 Agi))
abbrev E.q24_l0_oret:Enc St:=sT 1 (lU (kY 2 (sL 0)) rfl (lC Bu (lR C6 Abl rfl))) (lO (kY 0 Agi))
abbrev E.q24_j87:Enc St:=sT 3 (lC Fk (lU Jh rfl (lC Cb (lU (kY 9 (pB 1 0)) rfl (lO Li))))) (lC (kY 0 Agi) (lC (kY 1 (cE (lC (iN .u8) (lC (iN .i64) (lU (sL 2) rfl Hl))))) (lO (kY 2 Dh))))
abbrev E.q24_a:Enc (List AV×List Blk):=bQ (lO tR) (lN Blk) rfl
abbrev E.q24_r:Enc (AV×List (Option Blk)×List Blk):=bQ (tP (lC (fZ ki8) Hl)) (bS (lN (Option Blk)) rfl (lN Blk)) rfl
def T.q24(N:Nat):As R:={f:=72,arg:=E.q24_a,res:=E.q24_r,fn:=F.uv N}
def H.q24:A1:={lp:=[(0,[0,5,6,7],[2,3,4,5])],rz:=[(2,0)],jn:=[(87,[0,5,6,9,10],E.q24_j87)]}
theorem WF.f72:Bc Try.prog 72 Try.f72:=Ap Try.func72 (by decide) (by kernel_rfl)
def TL.q24_l0(N:Nat):An R:={b:=0,st:=E.q24_l0_i,fn:=λ d k=>lp (F.mi N) N d (λ y=>k (.exit 0) (E.q24_l0_oe0.to y),λ y=>k .ret (E.q24_l0_oret.to y))}
theorem LK.q24_l0(N:Nat):Ai Try.prog 0 Try.f72.ntmps (bodyOf Try.f72) (TL.q24_l0 (R:=R) N):=
 Ah (i:=[0,5,6,7]) (o:=[2,3,4,5]) (h:=H.q24) A9 hm (Ad (TK.q17 N) (Ad (TK.q21 N) (Ad (TK.q22 N) (Ad TK.q18 (Ad (TK.q23 N) Ac))))) WF.f72 Ab (by kernel_rfl) (λ d=>Ak rfl) N (F.mi N) _ (λ _ _=>rfl) (λ _ _ _=>by kernel_rfl)
theorem TK.q24(N:Nat):Aj Try.prog (T.q24 (R:=R) N):=
 Al (h:=H.q24) A9 hm Ac WF.f72 (λ d=>(Ag (LK.q24_l0 N) Ab)) (λ _ _=>by kernel_rfl)
abbrev E.q25_a:Enc (List AV×List Blk):=bQ Agj (lN Blk) rfl
abbrev E.q25_r:Enc (AV×List (Option Blk)×List Blk):=bQ (iN .u8) (bS (lN (Option Blk)) rfl (lN Blk)) rfl
def T.q25:As R:={f:=74,arg:=E.q25_a,res:=E.q25_r,fn:=F.nt}
def H.q25:A1:={lp:=[]}
theorem WF.f74:Bc Try.prog 74 Try.f74:=Ap Try.func74 (by decide) (by kernel_rfl)
theorem TK.q25:Aj Try.prog (T.q25 (R:=R)):=
 Al (h:=H.q25) A9 hm Ac WF.f74 (λ d=>Ab) (λ _ _=>by kernel_rfl)
abbrev E.q26_l0_i:Enc St:=sQ 0 (lC Kx Ate) (lN (Nat×Blk)) rfl
abbrev E.q26_l0_oe0:Enc St:=sQ 0 (lO B1) (lN (Nat×Blk)) rfl
abbrev E.q26_j35:Enc St:=sQ 0 (lC Kx Ate) (lN (Nat×Blk)) rfl
abbrev E.q26_a:Enc (List AV×List Blk):=bQ Agj (lN Blk) rfl
abbrev E.q26_r:Enc (AV×List (Option Blk)×List Blk):=bQ (iN .i64) (bS (lN (Option Blk)) rfl (lN Blk)) rfl
def T.q26(N:Nat):As R:={f:=75,arg:=E.q26_a,res:=E.q26_r,fn:=F.gq N}
def H.q26:A1:={lp:=[(0,[0,1,5,6],[5])],jn:=[(35,[0,1,5,6],E.q26_j35)]}
theorem WF.f75:Bc Try.prog 75 Try.f75:=Ap Try.func75 (by decide) (by kernel_rfl)
def TL.q26_l0(N:Nat):An R:={b:=0,st:=E.q26_l0_i,fn:=λ d k=>lp (F.jg N) N d (λ y=>k (.exit 0) (E.q26_l0_oe0.to y))}
theorem LK.q26_l0(N:Nat):Ai Try.prog 0 Try.f75.ntmps (bodyOf Try.f75) (TL.q26_l0 (R:=R) N):=
 Ah (i:=[0,1,5,6]) (o:=[5]) (h:=H.q26) A9 hm Ac WF.f75 Ab (by kernel_rfl) (λ d=>Ak rfl) N (F.jg N) _ (λ _ _=>rfl) (λ _ _ _=>by kernel_rfl)
theorem TK.q26(N:Nat):Aj Try.prog (T.q26 (R:=R) N):=
 Al (h:=H.q26) A9 hm Ac WF.f75 (λ d=>(Ag (LK.q26_l0 N) Ab)) (λ _ _=>by kernel_rfl)
abbrev E.q27_j8:Enc St:=sQ 0 (lC Kx (lC Dx (lC (kY 5 (iN .u8)) (lC (kY 6 (iN .u8)) (lC Bv (lO J3)))))) (lN (Nat×Blk)) rfl
abbrev E.q27_a:Enc (List AV×List Blk):=bQ Agj (lN Blk) rfl
abbrev E.q27_r:Enc (AV×List (Option Blk)×List Blk):=bQ (iN .i64) (bS (lN (Option Blk)) rfl (lN Blk)) rfl
def T.q27(N:Nat):As R:={f:=73,arg:=E.q27_a,res:=E.q27_r,fn:=F.sa N}
def H.q27:A1:={lp:=[],jn:=[(8,[0,1,5,6,7,8],E.q27_j8)]}
theorem WF.f73:Bc Try.prog 73 Try.f73:=Ap Try.func73 (by decide) (by kernel_rfl)
theorem TK.q27(N:Nat):Aj Try.prog (T.q27 (R:=R) N):=
 Al (h:=H.q27) A9 hm (Ad TK.q25 (Ad (TK.q26 N) Ac)) WF.f73 (λ d=>Ab) (λ _ _=>by kernel_rfl)
abbrev E.q28_l0_i:Enc St:=sQ 0 (lC Kx (lC Dx (lO B1))) (lN (Nat×Blk)) rfl
abbrev E.q28_l0_oe0:Enc St:=sR 0 Sp rfl (lN (Nat×Blk))
abbrev E.q28_l0_oret:Enc St:=sQ 0 (lO Pw) (lN (Nat×Blk)) rfl
abbrev E.q28_a:Enc (List AV×List Blk):=bQ Agj (lN Blk) rfl
abbrev E.q28_r:Enc (AV×List (Option Blk)×List Blk):=bQ bB (bS (lN (Option Blk)) rfl (lN Blk)) rfl
def T.q28(N:Nat):As R:={f:=76,arg:=E.q28_a,res:=E.q28_r,fn:=F.qe N}
def H.q28:A1:={lp:=[(0,[0,1,5],[4])]}
theorem WF.f76:Bc Try.prog 76 Try.f76:=Ap Try.func76 (by decide) (by kernel_rfl)
def TL.q28_l0(N:Nat):An R:={b:=0,st:=E.q28_l0_i,fn:=λ d k=>lp (F.cw N) N d (λ y=>k (.exit 0) (E.q28_l0_oe0.to y),λ y=>k .ret (E.q28_l0_oret.to y))}
theorem LK.q28_l0(N:Nat):Ai Try.prog 0 Try.f76.ntmps (bodyOf Try.f76) (TL.q28_l0 (R:=R) N):=
 Ah (i:=[0,1,5]) (o:=[4]) (h:=H.q28) A9 hm (Ad (TK.q26 N) Ac) WF.f76 Ab (by kernel_rfl) (λ d=>Ak rfl) N (F.cw N) _ (λ _ _=>rfl) (λ _ _ _=>by kernel_rfl)
theorem TK.q28(N:Nat):Aj Try.prog (T.q28 (R:=R) N):=
 Al (h:=H.q28) A9 hm Ac WF.f76 (λ d=>(Ag (LK.q28_l0 N) Ab)) (λ _ _=>by kernel_rfl)
abbrev E.q29_l0_i:Enc St:=sT 1 (lC Kx (lU Ji rfl (lC C6 (lO B1)))) (lO (kY 0 Ux))
abbrev E.q29_l0_oe0:Enc St:=sT 1 Atf (lO (kY 0 Ux))
abbrev E.q29_j12:Enc St:=sT 1 (lC Kx (lU Ji rfl (lC C6 (lC B1 (lO (kY 24 bB)))))) (lO (kY 0 Ux))
abbrev E.q29_a:Enc (List AV×List Blk):=bQ (lO (fZ ki8)) (lN Blk) rfl
abbrev E.q29_r:Enc (AV×List (Option Blk)×List Blk):=bS (sL 0) rfl (bS (lN (Option Blk)) rfl (lO Ux))
def T.q29(N:Nat):As R:={f:=77,arg:=E.q29_a,res:=E.q29_r,fn:=F.qj N}
def H.q29:A1:={lp:=[(0,[0,3,4,5],[0,3,4])],jn:=[(12,[0,3,4,5,24],E.q29_j12)]}
theorem WF.f77:Bc Try.prog 77 Try.f77:=Ap Try.func77 (by decide) (by kernel_rfl)
def TL.q29_l0(N:Nat):An R:={b:=0,st:=E.q29_l0_i,fn:=λ d k=>lp (F.jh N) N d (λ y=>k (.exit 0) (E.q29_l0_oe0.to y))}
theorem LK.q29_l0(N:Nat):Ai Try.prog 0 Try.f77.ntmps (bodyOf Try.f77) (TL.q29_l0 (R:=R) N):=
 Ah (i:=[0,3,4,5]) (o:=[0,3,4]) (h:=H.q29) A9 hm (Ad (TK.q26 N) Ac) WF.f77 Ab (by kernel_rfl) (λ d=>Ak rfl) N (F.jh N) _ (λ _ _=>rfl) (λ _ _ _=>by kernel_rfl)
theorem TK.q29(N:Nat):Aj Try.prog (T.q29 (R:=R) N):=
 Al (h:=H.q29) A9 hm Ac WF.f77 (λ d=>(Ag (LK.q29_l0 N) Ab)) (λ _ _=>by kernel_rfl)
abbrev E.q30_l0_i:Enc St:=sT 1 (lC (kY 0 Alf) (lC Dx (lU Jh rfl (lC (kY 10 Alf) (lC C7 (lO Ho)))))) (lO (kY 0 Ps))
abbrev E.q30_l0_oe0:Enc St:=sT 1 (lC (kY 0 Alf) (lR Dx Abl rfl)) (lO (kY 0 Ps))
abbrev E.q30_l2_i:Enc St:=sT 1 (lC (kY 0 Alf) (lC Dx (lU Jh rfl (lO Ep)))) (lO (kY 0 Ps))
abbrev E.q30_l2_oe2:Enc St:=sR 1 Abl rfl (lO (kY 0 Ps))
abbrev E.q30_a:Enc (List AV×List Blk):=bQ (lC Alf (lO (iN .i64))) (lN Blk) rfl
abbrev E.q30_r:Enc (AV×List (Option Blk)×List Blk):=bS (sL 0) rfl (bS (lN (Option Blk)) rfl (lO Ps))
def T.q30(N:Nat):As R:={f:=90,arg:=E.q30_a,res:=E.q30_r,fn:=F.rg N}
def H.q30:A1:={lp:=[(0,[0,1,5,10,11,12],[0,1,5]),(2,[0,1,5,8],[5])]}
theorem WF.f90:Bc Try.prog 90 Try.f90:=Ap Try.func90 (by decide) (by kernel_rfl)
def TL.q30_l0(N:Nat):An R:={b:=0,st:=E.q30_l0_i,fn:=λ d k=>lp (F.kr N) N d (λ y=>k (.exit 0) (E.q30_l0_oe0.to y))}
theorem LK.q30_l0(N:Nat):Ai Try.prog 0 Try.f90.ntmps (bodyOf Try.f90) (TL.q30_l0 (R:=R) N):=
 Ah (i:=[0,1,5,10,11,12]) (o:=[0,1,5]) (h:=H.q30) A9 hm Ac WF.f90 Ab (by kernel_rfl) (λ d=>Ak rfl) N (F.kr N) _ (λ _ _=>rfl) (λ _ _ _=>by kernel_rfl)
def TL.q30_l2(N:Nat):An R:={b:=2,st:=E.q30_l2_i,fn:=λ d k=>lp (F.kw N) N d (λ y=>k (.exit 2) (E.q30_l2_oe2.to y))}
theorem LK.q30_l2(N:Nat):Ai Try.prog 0 Try.f90.ntmps (bodyOf Try.f90) (TL.q30_l2 (R:=R) N):=
 Ah (i:=[0,1,5,8]) (o:=[5]) (h:=H.q30) A9 hm Ac WF.f90 Ab (by kernel_rfl) (λ d=>Ak rfl) N (F.kw N) _ (λ _ _=>rfl) (λ _ _ _=>by kernel_rfl)
theorem TK.q30(N:Nat):Aj Try.prog (T.q30 (R:=R) N):=
 Al (h:=H.q30) A9 hm Ac WF.f90 (λ d=>(Ag (LK.q30_l0 N) (Ag (LK.q30_l2 N) Ab))) (λ _ _=>by kernel_rfl)
abbrev E.q31_l0_i:Enc St:=sT 1 (lC Aln (lU Ji rfl (lO C6))) (lO (kY 0 Agk))
abbrev E.q31_l0_oe0:Enc St:=sR 1 Alo rfl (lO (kY 0 Agk))
abbrev E.q31_j12:Enc St:=sT 1 (lC Aln (lU Ji rfl (lC C6 (lO (kY 23 bB))))) (lO (kY 0 Agk))
abbrev E.q31_a:Enc (List AV×List Blk):=bQ (lO (fZ .bool)) (lN Blk) rfl
abbrev E.q31_r:Enc (AV×List (Option Blk)×List Blk):=bS (sL 0) rfl (bS (lN (Option Blk)) rfl (lO Agk))
def T.q31(N:Nat):As R:={f:=91,arg:=E.q31_a,res:=E.q31_r,fn:=F.ri N}
def H.q31:A1:={lp:=[(0,[0,3,4],[3])],jn:=[(12,[0,3,4,23],E.q31_j12)]}
theorem WF.f91:Bc Try.prog 91 Try.f91:=Ap Try.func91 (by decide) (by kernel_rfl)
def TL.q31_l0(N:Nat):An R:={b:=0,st:=E.q31_l0_i,fn:=λ d k=>lp (F.gt N) N d (λ y=>k (.exit 0) (E.q31_l0_oe0.to y))}
theorem LK.q31_l0(N:Nat):Ai Try.prog 0 Try.f91.ntmps (bodyOf Try.f91) (TL.q31_l0 (R:=R) N):=
 Ah (i:=[0,3,4]) (o:=[3]) (h:=H.q31) A9 hm Ac WF.f91 Ab (by kernel_rfl) (λ d=>Ak rfl) N (F.gt N) _ (λ _ _=>rfl) (λ _ _ _=>by kernel_rfl)
theorem TK.q31(N:Nat):Aj Try.prog (T.q31 (R:=R) N):=
 Al (h:=H.q31) A9 hm Ac WF.f91 (λ d=>(Ag (LK.q31_l0 N) Ab)) (λ _ _=>by kernel_rfl)
abbrev E.q32_l2_i:Enc St:=sT 1 (lC Kx Atg) (lO (kY 0 Px))
abbrev E.q32_l2_oe2:Enc St:=sT 1 (lC Kx Atg) (lO (kY 0 Px))
abbrev E.q32_l4_i:Enc St:=sT 3 (lC Kx (lU Ji rfl (lC C6 (lC Cb (lU (kY 7 (sL 1)) rfl Agl))))) (lC (kY 0 Px) (lC (kY 1 Px) (lO (kY 2 Ux))))
abbrev E.q32_l4_oe4:Enc St:=sT 2 (lC Kx (lU Ji rfl (lC C6 (lR Cb (lU (kY 7 (sL 1)) rfl (lN (Nat×AV))) rfl)))) (lC (kY 0 Px) (lO (kY 1 Px)))
abbrev E.q32_l0_i:Enc St:=sT 1 Atf (lO (kY 0 Px))
abbrev E.q32_l0_oe0:Enc St:=sR 1 Alo rfl (lO (kY 0 Px))
abbrev E.q32_j43:Enc St:=sT 2 (lC Kx (lU Ji rfl (lR C6 (lU (kY 5 (sL 1)) rfl (lN (Nat×AV))) rfl))) (lC (kY 0 Px) (lO (kY 1 Ps)))
def H.q32:A1:={lp:=[(0,[0,3,4],[3]),(2,[0,3,4,6],[0,3,4,6]),(4,[0,3,4,6,7,41,42,43],[0,3,4,6,7])],jn:=[(43,[0,3,4,5],E.q32_j43)]}
theorem WF.f78:Bc Try.prog 78 Try.f78:=Ap Try.func78 (by decide) (by kernel_rfl)
def TL.q32_l2(N:Nat)(rw1:(List ty7)->((List ty2)->Option R)->Option R):An R:={b:=2,st:=E.q32_l2_i,fn:=λ d k=>lp (F.mj N rw1) N d (λ y=>k (.exit 2) (E.q32_l2_oe2.to y))}
theorem LK.q32_l2(N:Nat)(rw1:(List ty7)->((List ty2)->Option R)->Option R)(h_spec_l1Seq:Aj Try.prog (T.q32_r rw1)):Ai Try.prog 0 Try.f78.ntmps (bodyOf Try.f78) (TL.q32_l2 (R:=R) N rw1):=
 Ah (i:=[0,3,4,6]) (o:=[0,3,4,6]) (h:=H.q32) A9 hm (Ad (TK.q26 N) Ac) WF.f78 Ab (by kernel_rfl) (λ d=>Ak rfl) N (F.mj N rw1) _ (λ _ _=>rfl) (λ _ _ _=>by kernel_rfl)
def TL.q32_l4(N:Nat)(rw1:(List ty7)->((List ty2)->Option R)->Option R):An R:={b:=4,st:=E.q32_l4_i,fn:=λ d k=>lp (F.mq N rw1) N d (λ y=>k (.exit 4) (E.q32_l4_oe4.to y))}
theorem LK.q32_l4(N:Nat)(rw1:(List ty7)->((List ty2)->Option R)->Option R)(h_spec_l1Seq:Aj Try.prog (T.q32_r rw1)):Ai Try.prog 0 Try.f78.ntmps (bodyOf Try.f78) (TL.q32_l4 (R:=R) N rw1):=
 Ah (i:=[0,3,4,6,7,41,42,43]) (o:=[0,3,4,6,7]) (h:=H.q32) A9 hm (Ad h_spec_l1Seq Ac) WF.f78 Ab (by kernel_rfl) (λ d=>Ak rfl) N (F.mq N rw1) _ (λ _ _=>rfl) (λ _ _ _=>by kernel_rfl)
def TL.q32_l0(N:Nat)(rw1:(List ty7)->((List ty2)->Option R)->Option R):An R:={b:=0,st:=E.q32_l0_i,fn:=λ d k=>lp (F.mr N rw1) N d (λ y=>k (.exit 0) (E.q32_l0_oe0.to y))}
theorem LK.q32_l0(N:Nat)(rw1:(List ty7)->((List ty2)->Option R)->Option R)(h_spec_l1Seq:Aj Try.prog (T.q32_r rw1)):Ai Try.prog 0 Try.f78.ntmps (bodyOf Try.f78) (TL.q32_l0 (R:=R) N rw1):=
 Ah (i:=[0,3,4]) (o:=[3]) (h:=H.q32) A9 hm (Ad (TK.q29 N) (Ad (TK.q30 N) (Ad (TK.q31 N) (Ad TK.q25 Ac)))) WF.f78 (Ag (LK.q32_l2 N rw1 h_spec_l1Seq) (Ag (LK.q32_l4 N rw1 h_spec_l1Seq) Ab)) (by kernel_rfl) (λ d=>Ak rfl) N (F.mr N rw1) _ (λ _ _=>rfl) (λ _ _ _=>by kernel_rfl)
def T.q32_s(N:Nat)(rw1:(List ty7)->((List ty2)->Option R)->Option R):As R:={f:=78,arg:=E.q32_a,res:=E.q32_r,fn:=F.sb N rw1}
theorem F.zf(N:Nat)(rw1:(List ty7)->((List ty2)->Option R)->Option R)(d:E.q32_a.D)(k:AV->List (Option Blk)->List Blk->Option R):
  Rr Sj (Fl [T.q30 N]) (Dk [TL.q32_l0 N rw1]) H.q32 Try.f78 (E.q32_a.to d).1 (E.q32_a.to d).2 k=(T.q32_s N rw1).fn d λ x=>k (E.q32_r.to x).1 (E.q32_r.to x).2.1 (E.q32_r.to x).2.2:=by kernel_rfl
theorem TKn.q32(N:Nat):∀n,Aj Try.prog (T.q32_r (R:=R) (F.pe N n))
 | 0=>λ d k r h=>nomatch(show(none:Option R)=some r from h)
 | n+1=>Al (h:=H.q32) A9 hm (Ad (TK.q30 N) Ac) WF.f78 (λ d=>(Ag (LK.q32_l0 N (F.pe N n) (TKn.q32 N n)) Ab)) (F.zf N (F.pe N n))
theorem TK.q32(N:Nat):Aj Try.prog (T.q32_r (R:=R) (F.pe N N)):=TKn.q32 N N
abbrev E.q33_l0_i:Enc St:=sT 2 (lC Fk (lU C8 rfl (lC Uy (lC (kY 34 (iN .i64)) (lO (kY 35 (iN .i64))))))) Xk
abbrev E.q33_l0_oe0:Enc St:=sT 2 (lC Fk (lU C8 rfl (lU Uu rfl (lU Sn rfl (lO Uy))))) Xk
abbrev E.q33_l0_oret:Enc St:=sT 2 (lC Fk (lU C8 rfl (lC Bu (lC C6 (lO Uy))))) Xk
abbrev E.q33_l2_i:Enc St:=sT 2 Ath Xk
abbrev E.q33_l2_oe2:Enc St:=sT 2 Ath Xk
abbrev E.q33_l4_i:Enc St:=sT 4 (lU C8 rfl (lC Uy (lU Abn rfl (lC (kY 103 (fZ ki8)) (lC (kY 104 (iN .i64)) (lO (kY 105 (iN .i64)))))))) Alp
abbrev E.q33_l4_oe4:Enc St:=sT 4 (lU C8 rfl (lR Uy (lU Abn rfl (lN (Nat×AV))) rfl)) Alp
abbrev E.q33_l6_i:Enc St:=sT 5 (lU C8 rfl (lU Abn rfl (lU (kY 118 (sL 2)) rfl (lC (kY 119 (iN .i64)) (lO (kY 120 (iN .i64))))))) (lC (kY 0 (cE Alc)) (lC (kY 1 (cE Ati)) (lC (kY 2 Ux) (lC (kY 3 Lh) (lO (kY 4 Lh))))))
abbrev E.q33_l6_oe6:Enc St:=sR 4 (lU C8 rfl (lU Abn rfl (lN (Nat×AV)))) rfl Alp
abbrev E.q33_j259:Enc St:=sT 7 (lU C8 rfl (lU Abn rfl (lC (kY 16 (fZ ki8)) (lU (kY 17 (pB 2 0)) rfl Agm)))) (lC (kY 0 (cE Ati)) (lC (kY 1 (cE (lU (sL 5) rfl (lO (iN .i64))))) (lC (kY 2 (cE (lC bB (lR bB (lU (sL 6) rfl (lN AV)) rfl)))) (lC (kY 3 Ux) (lC (kY 4 Lh) (lC (kY 5 Lh) (lO (kY 6 Ps))))))))
abbrev E.q33_j28:Enc St:=sT 2 (lC Fk (lU C8 rfl (lC Uy (lO (kY 70 bB))))) Xk
abbrev E.q33_a:Enc (List AV×List Blk):=bQ (lO tR) (lN Blk) rfl
abbrev E.q33_r:Enc (AV×List (Option Blk)×List Blk):=bO (tP (lC (aG Atd) Hl)) (bS (lN (Option Blk)) rfl (lO Lh))
def T.q33(N:Nat):As R:={f:=57,arg:=E.q33_a,res:=E.q33_r,fn:=F.lz N}
def H.q33:A1:={lp:=[(0,[0,2,5,34,35],[0,2,3,4,5]),(2,[2,5,11],[2,5,11]),(4,[2,5,12,103,104,105],[2,5,12]),(6,[2,12,118,119,120],[2,12])],jn:=[(259,[2,12,16,17,118,119,120],E.q33_j259),(28,[0,2,5,70],E.q33_j28)]}
theorem WF.f57:Bc Try.prog 57 Try.f57:=Ap Try.func57 (by decide) (by kernel_rfl)
def TL.q33_l0(N:Nat):An R:={b:=0,st:=E.q33_l0_i,fn:=λ d k=>lp (F.gu N) N d (λ y=>k (.exit 0) (E.q33_l0_oe0.to y),λ y=>k .ret (E.q33_l0_oret.to y))}
theorem LK.q33_l0(N:Nat):Ai Try.prog 0 Try.f57.ntmps (bodyOf Try.f57) (TL.q33_l0 (R:=R) N):=
 Ah (i:=[0,2,5,34,35]) (o:=[0,2,3,4,5]) (h:=H.q33) A9 hm (Ad (TK.q27 N) Ac) WF.f57 Ab (by kernel_rfl) (λ d=>Ak rfl) N (F.gu N) _ (λ _ _=>rfl) (λ _ _ _=>by kernel_rfl)
def TL.q33_l2(N:Nat):An R:={b:=2,st:=E.q33_l2_i,fn:=λ d k=>lp (F.gv N) N d (λ y=>k (.exit 2) (E.q33_l2_oe2.to y))}
theorem LK.q33_l2(N:Nat):Ai Try.prog 0 Try.f57.ntmps (bodyOf Try.f57) (TL.q33_l2 (R:=R) N):=
 Ah (i:=[2,5,11]) (o:=[2,5,11]) (h:=H.q33) A9 hm (Ad (TK.q28 N) Ac) WF.f57 Ab (by kernel_rfl) (λ d=>Ak rfl) N (F.gv N) _ (λ _ _=>rfl) (λ _ _ _=>by kernel_rfl)
def TL.q33_l4(N:Nat):An R:={b:=4,st:=E.q33_l4_i,fn:=λ d k=>lp (F.gw N) N d (λ y=>k (.exit 4) (E.q33_l4_oe4.to y))}
theorem LK.q33_l4(N:Nat):Ai Try.prog 0 Try.f57.ntmps (bodyOf Try.f57) (TL.q33_l4 (R:=R) N):=
 Ah (i:=[2,5,12,103,104,105]) (o:=[2,5,12]) (h:=H.q33) A9 hm Ac WF.f57 Ab (by kernel_rfl) (λ d=>Ak rfl) N (F.gw N) _ (λ _ _=>rfl) (λ _ _ _=>by kernel_rfl)
def TL.q33_l6(N:Nat):An R:={b:=6,st:=E.q33_l6_i,fn:=λ d k=>lp (F.gx N) N d (λ y=>k (.exit 6) (E.q33_l6_oe6.to y))}
theorem LK.q33_l6(N:Nat):Ai Try.prog 0 Try.f57.ntmps (bodyOf Try.f57) (TL.q33_l6 (R:=R) N):=
 Ah (i:=[2,12,118,119,120]) (o:=[2,12]) (h:=H.q33) A9 hm (Ad (TK.q32 N) Ac) WF.f57 Ab (by kernel_rfl) (λ d=>Ak rfl) N (F.gx N) _ (λ _ _=>rfl) (λ _ _ _=>by kernel_rfl)
theorem TK.q33(N:Nat):Aj Try.prog (T.q33 (R:=R) N):=
 Al (h:=H.q33) A9 hm (Ad (TK.q24 N) (Ad TK.q25 (Ad (TK.q26 N) (Ad (TK.q29 N) (Ad (TK.q9 N) Ac))))) WF.f57 (λ d=>(Ag (LK.q33_l0 N) (Ag (LK.q33_l2 N) (Ag (LK.q33_l4 N) (Ag (LK.q33_l6 N) Ab))))) (λ _ _=>by kernel_rfl)
abbrev E.q34_a:Enc (List AV×List Blk):=bO Abh (lO A7)
abbrev E.q34_r:Enc (AV×List (Option Blk)×List Blk):=bO (aG Ale) (bO (lO (sM A7)) (lO Lh))
def T.q34(N:Nat):As R:={f:=56,arg:=E.q34_a,res:=E.q34_r,fn:=F.qf N}
def H.q34:A1:={lp:=[]}
theorem WF.f56:Bc Try.prog 56 Try.f56:=Ap Try.func56 (by decide) (by kernel_rfl)
theorem TK.q34(N:Nat):Aj Try.prog (T.q34 (R:=R) N):=
 Al (h:=H.q34) A9 hm (Ad (TK.q14 N) (Ad (TK.q33 N) Ac)) WF.f56 (λ d=>Ab) (λ _ _=>by kernel_rfl)
abbrev E.q35_l0_i:Enc St:=sT 2 (lU Bp rfl (lC Uw (lU (kY 7 (sL 1)) rfl (lC Ep (lO Di))))) Atj
abbrev E.q35_l0_oe0:Enc St:=sR 2 (lU (kY 7 (sL 1)) rfl (lN (Nat×AV))) rfl Atj
abbrev E.q35_a:Enc (List AV×List Blk):=bO (lU (pB 0 0) rfl Hl) (lO A7)
abbrev E.q35_r:Enc (AV×List (Option Blk)×List Blk):=bO (fZ ki9) (bQ (lO (sM A7)) (lN Blk) rfl)
def T.q35(N:Nat):As R:={f:=33,arg:=E.q35_a,res:=E.q35_r,fn:=F.pf N}
def H.q35:A1:={lp:=[(0,[0,2,7,8,9],[7])],rz:=[(6,0)]}
theorem WF.f33:Bc Try.prog 33 Try.f33:=Ap Try.func33 (by decide) (by kernel_rfl)
def TL.q35_l0(N:Nat):An R:={b:=0,st:=E.q35_l0_i,fn:=λ d k=>lp (F.bx N) N d (λ y=>k (.exit 0) (E.q35_l0_oe0.to y))}
theorem LK.q35_l0(N:Nat):Ai Try.prog 1 Try.f33.ntmps (bodyOf Try.f33) (TL.q35_l0 (R:=R) N):=
 Ah (i:=[0,2,7,8,9]) (o:=[7]) (h:=H.q35) A9 hm (Ad TK.q1 (Ad (TK.q4 N) (Ad (TK.q9 N) (Ad (TK.q34 N) (Ad (TK.q33 N) Ac))))) WF.f33 Ab (by kernel_rfl) (λ d=>Ak rfl) N (F.bx N) _ (λ _ _=>rfl) (λ _ _ _=>by kernel_rfl)
theorem TK.q35(N:Nat):Aj Try.prog (T.q35 (R:=R) N):=
 Al (h:=H.q35) A9 hm (Ad TK.q1 Ac) WF.f33 (λ d=>(Ag (LK.q35_l0 N) Ab)) (λ _ _=>by kernel_rfl)
abbrev E.q36_l0_i:Enc St:=sT 3 (lU Jh rfl (lU Fq rfl (lU Sl rfl Atk))) (lC (kY 0 Am) Hm)
abbrev E.q36_l0_oe0:Enc St:=sR 3 (lU Nk rfl (lU Uu rfl (lU Sn rfl (lU Jh rfl (lU Fq rfl (lU Sl rfl (lN (Nat×AV)))))))) rfl (lC (kY 0 Am) Hm)
abbrev E.q36_l0_oret:Enc St:=sT 3 (lU (kY 2 (sL 0)) rfl (lU (kY 3 (sL 1)) rfl (lR Pw (lU Jh rfl (lU Fq rfl (lU Sl rfl (lN (Nat×AV))))) rfl))) (lC (kY 0 Am) Hm)
abbrev E.q36_j67:Enc St:=sT 4 (lU Jh rfl (lU Fq rfl (lU Sl rfl (lC Ep (lU Uv rfl (lC Li (lC C7 Atk))))))) As7
abbrev E.q36_a:Enc (List AV×List Blk):=bQ (lO (fZ ki3)) (lN Blk) rfl
abbrev E.q36_r:Enc (AV×List (Option Blk)×List Blk):=bO As8 (bS (lN (Option Blk)) rfl (lC Am (lO Am)))
def T.q36(N:Nat):As R:={f:=79,arg:=E.q36_a,res:=E.q36_r,fn:=F.ao N}
def H.q36:A1:={lp:=[(0,[5,6,7,15,16,17],[2,3,4,5,6,7])],jn:=[(67,[5,6,7,8,9,10,11,15,16,17],E.q36_j67)]}
def TL.q36_l0(N:Nat):An R:={b:=0,st:=E.q36_l0_i,fn:=λ d k=>lp (F.bq N) N d (λ y=>k (.exit 0) (E.q36_l0_oe0.to y),λ y=>k .ret (E.q36_l0_oret.to y))}
theorem LK.q36_l0(N:Nat):Ai Try.prog 0 Try.f79.ntmps (bodyOf Try.f79) (TL.q36_l0 (R:=R) N):=
 Ah (i:=[5,6,7,15,16,17]) (o:=[2,3,4,5,6,7]) (h:=H.q36) A9 hm (Ad TK.q5 Ac) WF.f79 Ab (by kernel_rfl) (λ d=>Ak rfl) N (F.bq N) _ (λ _ _=>rfl) (λ _ _ _=>by kernel_rfl)
theorem TK.q36(N:Nat):Aj Try.prog (T.q36 (R:=R) N):=
 Al (h:=H.q36) A9 hm Ac WF.f79 (λ d=>(Ag (LK.q36_l0 N) Ab)) (λ _ _=>by kernel_rfl)
abbrev E.q37_l0_i:Enc St:=sT 1 (lU A5 rfl (lC (kY 57 (fZ ki0)) (lC (kY 58 (iN .i64)) (lO Alq)))) (lO (kY 0 Xj))
abbrev E.q37_l0_oe0:Enc St:=sR 0 Abm rfl (lN (Nat×Blk))
abbrev E.q37_l0_oret:Enc St:=sQ 0 (lO Nl) (lN (Nat×Blk)) rfl
abbrev E.q37_j34:Enc St:=sT 2 (lU A5 rfl (lC Bu (lU Sq rfl (lC (kY 57 (fZ ki0)) (lC (kY 58 (iN .i64)) (lC Alq (lO (kY 78 bB)))))))) (lC (kY 0 Xj) (lO (kY 1 (cE Hl))))
abbrev E.q37_j65:Enc St:=sR 1 (lU A5 rfl (lN (Nat×AV))) rfl (lO (kY 0 Xj))
abbrev E.q37_j10:Enc St:=sT 1 (lU A5 rfl (lO (kY 29 bB))) (lO (kY 0 Xj))
abbrev E.q37_j2:Enc St:=sT 1 (lU A5 rfl (lO (kY 12 bB))) (lO (kY 0 Xj))
abbrev E.q37_a:Enc (List AV×List Blk):=bQ (lO As9) (lN Blk) rfl
abbrev E.q37_r:Enc (AV×List (Option Blk)×List Blk):=bQ bB (bS (lN (Option Blk)) rfl (lN Blk)) rfl
def T.q37(N:Nat):As R:={f:=80,arg:=E.q37_a,res:=E.q37_r,fn:=F.rj N}
def H.q37:A1:={lp:=[(0,[1,57,58,59],[2])],jn:=[(34,[1,3,4,57,58,59,78],E.q37_j34),(65,[1],E.q37_j65),(10,[1,29],E.q37_j10),(2,[1,12],E.q37_j2)]}
theorem WF.f80:Bc Try.prog 80 Try.f80:=Ap Try.func80 (by decide) (by kernel_rfl)
def TL.q37_l0(N:Nat):An R:={b:=0,st:=E.q37_l0_i,fn:=λ d k=>lp (F.gy N) N d (λ y=>k (.exit 0) (E.q37_l0_oe0.to y),λ y=>k .ret (E.q37_l0_oret.to y))}
theorem LK.q37_l0(N:Nat):Ai Try.prog 0 Try.f80.ntmps (bodyOf Try.f80) (TL.q37_l0 (R:=R) N):=
 Ah (i:=[1,57,58,59]) (o:=[2]) (h:=H.q37) A9 hm Ac WF.f80 Ab (by kernel_rfl) (λ d=>Ak rfl) N (F.gy N) _ (λ _ _=>rfl) (λ _ _ _=>by kernel_rfl)
theorem TK.q37(N:Nat):Aj Try.prog (T.q37 (R:=R) N):=
 Al (h:=H.q37) A9 hm (Ad TK.q15 Ac) WF.f80 (λ d=>(Ag (LK.q37_l0 N) Ab)) (λ _ _=>by kernel_rfl)
abbrev E.q38_l0_i:Enc St:=sT 3 (lC Alr (lU Ji rfl (lU Gw rfl (lU Agf rfl Atl)))) (lC (kY 0 Am) Hm)
abbrev E.q38_l0_oe0:Enc St:=sT 1 (lR Alr Agg rfl) (lO (kY 0 Am))
abbrev E.q38_j59:Enc St:=sT 3 (lC Alr (lU Ji rfl (lU Gw rfl (lU Agf rfl (lC Bv Atl))))) (lC (kY 0 Am) Hm)
abbrev E.q38_a:Enc (List AV×List Blk):=bQ (lO (fZ ki3)) (lN Blk) rfl
abbrev E.q38_r:Enc (AV×List (Option Blk)×List Blk):=bQ (iN .i64) (bS (lN (Option Blk)) rfl (lN Blk)) rfl
def T.q38(N:Nat):As R:={f:=70,arg:=E.q38_a,res:=E.q38_r,fn:=F.pp N}
def H.q38:A1:={lp:=[(0,[0,3,4,6,20,21,22],[0,6])],jn:=[(59,[0,3,4,6,7,20,21,22],E.q38_j59)]}
def TL.q38_l0(N:Nat):An R:={b:=0,st:=E.q38_l0_i,fn:=λ d k=>lp (F.be N) N d (λ y=>k (.exit 0) (E.q38_l0_oe0.to y))}
theorem LK.q38_l0(N:Nat):Ai Try.prog 0 Try.f70.ntmps (bodyOf Try.f70) (TL.q38_l0 (R:=R) N):=
 Ah (i:=[0,3,4,6,20,21,22]) (o:=[0,6]) (h:=H.q38) A9 hm (Ad TK.q7 Ac) WF.f70 Ab (by kernel_rfl) (λ d=>Ak rfl) N (F.be N) _ (λ _ _=>rfl) (λ _ _ _=>by kernel_rfl)
theorem TK.q38(N:Nat):Aj Try.prog (T.q38 (R:=R) N):=
 Al (h:=H.q38) A9 hm (Ad (TK.q36 N) Ac) WF.f70 (λ d=>(Ag (LK.q38_l0 N) Ab)) (λ _ _=>by kernel_rfl)
abbrev E.q39_l0_i:Enc St:=sQ 0 (lC Bu (lC (kY 7 (fZ ki5)) (lC Ep (lO Di)))) (lN (Nat×Blk)) rfl
abbrev E.q39_l0_oe0:Enc St:=sQ 0 (lO Bu) (lN (Nat×Blk)) rfl
abbrev E.q39_a:Enc (List AV×List Blk):=bQ (lO (aG Als)) (lN Blk) rfl
abbrev E.q39_r:Enc (AV×List (Option Blk)×List Blk):=bQ (iN .i64) (bS (lN (Option Blk)) rfl (lN Blk)) rfl
def T.q39(N:Nat):As R:={f:=55,arg:=E.q39_a,res:=E.q39_r,fn:=F.ak N}
def H.q39:A1:={lp:=[(0,[3,7,8,9],[3])]}
def TL.q39_l0(N:Nat):An R:={b:=0,st:=E.q39_l0_i,fn:=λ d k=>lp (F.ap N) N d (λ y=>k (.exit 0) (E.q39_l0_oe0.to y))}
theorem LK.q39_l0(N:Nat):Ai Try.prog 0 Try.f55.ntmps (bodyOf Try.f55) (TL.q39_l0 (R:=R) N):=
 Ah (i:=[3,7,8,9]) (o:=[3]) (h:=H.q39) A9 hm (Ad (TK.q38 N) Ac) WF.f55 Ab (by kernel_rfl) (λ d=>Ak rfl) N (F.ap N) _ (λ _ _=>rfl) (λ _ _ _=>by kernel_rfl)
theorem TK.q39(N:Nat):Aj Try.prog (T.q39 (R:=R) N):=
 Al (h:=H.q39) A9 hm Ac WF.f55 (λ d=>(Ag (LK.q39_l0 N) Ab)) (λ _ _=>by kernel_rfl)
abbrev E.q40_l0_i:Enc St:=sT 2 (lU A5 rfl (lC Bu (lU Gw rfl (lC (kY 31 (fZ ki5)) (lC (kY 32 (iN .i64)) (lO (kY 33 (iN .i64)))))))) Lk
abbrev E.q40_l0_oe0:Enc St:=sT 2 (lU A5 rfl (lR Bu Alu rfl)) Lk
abbrev E.q40_l4_i:Enc St:=sT 2 (lU A5 rfl (lU Gw rfl (lC (kY 46 (fZ ki5)) (lC (kY 47 (iN .i64)) (lC (kY 48 (iN .i64)) (lC (kY 62 (fZ ki3)) (lC (kY 63 (iN .i64)) (lO (kY 64 (iN .i64)))))))))) Lk
abbrev E.q40_l4_oe4:Enc St:=sT 2 (lU A5 rfl (lU Nk rfl (lU Gw rfl Alv))) Lk
abbrev E.q40_l4_oret:Enc St:=sT 2 (lU A5 rfl (lC Nl (lU Gw rfl Alv))) Lk
abbrev E.q40_l2_i:Enc St:=sT 2 (lU A5 rfl (lU Gw rfl Alv)) Lk
abbrev E.q40_l2_oe2:Enc St:=sR 2 (lU A5 rfl (lU Nk rfl Alu)) rfl Lk
abbrev E.q40_l2_oret:Enc St:=sT 2 (lU A5 rfl (lR Nl Alu rfl)) Lk
abbrev E.q40_l8_i:Enc St:=sT 2 (lU A5 rfl (lU Gw rfl (lC Uz (lC Sr (lU (kY 92 (sL 1)) rfl (lC (kY 93 (iN .i64)) (lO (kY 94 (iN .i64))))))))) Lk
abbrev E.q40_l8_oe8:Enc St:=sT 2 (lU A5 rfl (lU Gw rfl (lC Uz (lO Sr)))) Lk
abbrev E.q40_l6_i:Enc St:=sT 2 (lU A5 rfl (lU Gw rfl (lO Uz))) Lk
abbrev E.q40_l6_oe6:Enc St:=sR 1 (lU A5 rfl Abm) rfl (lO Agn)
abbrev E.q40_l6_oret:Enc St:=sT 1 (lU A5 rfl (lO Nl)) (lO Agn)
abbrev E.q40_j2:Enc St:=sT 1 (lU A5 rfl (lO (kY 28 bB))) (lO Agn)
abbrev E.q40_a:Enc (List AV×List Blk):=bQ (lO (aG Als)) (lN Blk) rfl
abbrev E.q40_r:Enc (AV×List (Option Blk)×List Blk):=bQ bB (bS (lN (Option Blk)) rfl (lN Blk)) rfl
def T.q40(N:Nat):As R:={f:=59,arg:=E.q40_a,res:=E.q40_r,fn:=F.ta N}
def H.q40:A1:={lp:=[(0,[1,3,4,31,32,33],[1,3,4]),(2,[1,4,46,47,48],[1,2,4]),(4,[1,4,46,47,48,62,63,64],[1,2,4,46,47,48]),(6,[1,4,14],[1,2]),(8,[1,4,14,15,92,93,94],[1,4,14,15])],jn:=[(2,[1,28],E.q40_j2)]}
theorem WF.f59:Bc Try.prog 59 Try.f59:=Ap Try.func59 (by decide) (by kernel_rfl)
def TL.q40_l0(N:Nat):An R:={b:=0,st:=E.q40_l0_i,fn:=λ d k=>lp (F.kx N) N d (λ y=>k (.exit 0) (E.q40_l0_oe0.to y))}
theorem LK.q40_l0(N:Nat):Ai Try.prog 0 Try.f59.ntmps (bodyOf Try.f59) (TL.q40_l0 (R:=R) N):=
 Ah (i:=[1,3,4,31,32,33]) (o:=[1,3,4]) (h:=H.q40) A9 hm Ac WF.f59 Ab (by kernel_rfl) (λ d=>Ak rfl) N (F.kx N) _ (λ _ _=>rfl) (λ _ _ _=>by kernel_rfl)
def TL.q40_l4(N:Nat):An R:={b:=4,st:=E.q40_l4_i,fn:=λ d k=>lp (F.ky N) N d (λ y=>k (.exit 4) (E.q40_l4_oe4.to y),λ y=>k .ret (E.q40_l4_oret.to y))}
theorem LK.q40_l4(N:Nat):Ai Try.prog 0 Try.f59.ntmps (bodyOf Try.f59) (TL.q40_l4 (R:=R) N):=
 Ah (i:=[1,4,46,47,48,62,63,64]) (o:=[1,2,4,46,47,48]) (h:=H.q40) A9 hm (Ad (TK.q37 N) Ac) WF.f59 Ab (by kernel_rfl) (λ d=>Ak rfl) N (F.ky N) _ (λ _ _=>rfl) (λ _ _ _=>by kernel_rfl)
def TL.q40_l2(N:Nat):An R:={b:=2,st:=E.q40_l2_i,fn:=λ d k=>lp (F.kz N) N d (λ y=>k (.exit 2) (E.q40_l2_oe2.to y),λ y=>k .ret (E.q40_l2_oret.to y))}
theorem LK.q40_l2(N:Nat):Ai Try.prog 0 Try.f59.ntmps (bodyOf Try.f59) (TL.q40_l2 (R:=R) N):=
 Ah (i:=[1,4,46,47,48]) (o:=[1,2,4]) (h:=H.q40) A9 hm (Ad (TK.q36 N) Ac) WF.f59 (Ag (LK.q40_l4 N) Ab) (by kernel_rfl) (λ d=>Ak rfl) N (F.kz N) _ (λ _ _=>rfl) (λ _ _ _=>by kernel_rfl)
def TL.q40_l8(N:Nat):An R:={b:=8,st:=E.q40_l8_i,fn:=λ d k=>lp (F.la N) N d (λ y=>k (.exit 8) (E.q40_l8_oe8.to y))}
theorem LK.q40_l8(N:Nat):Ai Try.prog 0 Try.f59.ntmps (bodyOf Try.f59) (TL.q40_l8 (R:=R) N):=
 Ah (i:=[1,4,14,15,92,93,94]) (o:=[1,4,14,15]) (h:=H.q40) A9 hm Ac WF.f59 Ab (by kernel_rfl) (λ d=>Ak rfl) N (F.la N) _ (λ _ _=>rfl) (λ _ _ _=>by kernel_rfl)
def TL.q40_l6(N:Nat):An R:={b:=6,st:=E.q40_l6_i,fn:=λ d k=>lp (F.lb N) N d (λ y=>k (.exit 6) (E.q40_l6_oe6.to y),λ y=>k .ret (E.q40_l6_oret.to y))}
theorem LK.q40_l6(N:Nat):Ai Try.prog 0 Try.f59.ntmps (bodyOf Try.f59) (TL.q40_l6 (R:=R) N):=
 Ah (i:=[1,4,14]) (o:=[1,2]) (h:=H.q40) A9 hm Ac WF.f59 (Ag (LK.q40_l8 N) Ab) (by kernel_rfl) (λ d=>Ak rfl) N (F.lb N) _ (λ _ _=>rfl) (λ _ _ _=>by kernel_rfl)
theorem TK.q40(N:Nat):Aj Try.prog (T.q40 (R:=R) N):=
 Al (h:=H.q40) A9 hm (Ad TK.q15 (Ad (TK.q39 N) Ac)) WF.f59 (λ d=>(Ag (LK.q40_l0 N) (Ag (LK.q40_l2 N) (Ag (LK.q40_l6 N) Ab)))) (λ _ _=>by kernel_rfl)
abbrev E.q41_l0_i:Enc St:=sQ 0 (lC Bu (lC (kY 9 (fZ ki9)) (lC Li (lO C7)))) (lN (Nat×Blk)) rfl
abbrev E.q41_l0_oe0:Enc St:=sQ 0 (lU Nk rfl (lO Bu)) (lN (Nat×Blk)) rfl
abbrev E.q41_l0_oret:Enc St:=sQ 0 (lC Nl (lO Bu)) (lN (Nat×Blk)) rfl
abbrev E.q41_a:Enc (List AV×List Blk):=bQ (lO (fZ ki9)) (lN Blk) rfl
abbrev E.q41_r:Enc (AV×List (Option Blk)×List Blk):=bQ bB (bS (lN (Option Blk)) rfl (lN Blk)) rfl
def T.q41(N:Nat):As R:={f:=47,arg:=E.q41_a,res:=E.q41_r,fn:=F.rk N}
def H.q41:A1:={lp:=[(0,[3,9,10,11],[2,3])]}
theorem WF.f47:Bc Try.prog 47 Try.f47:=Ap Try.func47 (by decide) (by kernel_rfl)
def TL.q41_l0(N:Nat):An R:={b:=0,st:=E.q41_l0_i,fn:=λ d k=>lp (F.gz N) N d (λ y=>k (.exit 0) (E.q41_l0_oe0.to y),λ y=>k .ret (E.q41_l0_oret.to y))}
theorem LK.q41_l0(N:Nat):Ai Try.prog 0 Try.f47.ntmps (bodyOf Try.f47) (TL.q41_l0 (R:=R) N):=
 Ah (i:=[3,9,10,11]) (o:=[2,3]) (h:=H.q41) A9 hm (Ad (TK.q40 N) (Ad (TK.q39 N) Ac)) WF.f47 Ab (by kernel_rfl) (λ d=>Ak rfl) N (F.gz N) _ (λ _ _=>rfl) (λ _ _ _=>by kernel_rfl)
theorem TK.q41(N:Nat):Aj Try.prog (T.q41 (R:=R) N):=
 Al (h:=H.q41) A9 hm Ac WF.f47 (λ d=>(Ag (LK.q41_l0 N) Ab)) (λ _ _=>by kernel_rfl)
abbrev E.q42_a:Enc (List AV×List Blk):=bQ (lC (aG (lC bB (lC bB (lO (fZ ki3))))) (lO tR)) (lN Blk) rfl
abbrev E.q42_r:Enc (AV×List (Option Blk)×List Blk):=bO (aG (lC (fZ ki3) (lU (sL 0) rfl (lU (sL 1) rfl (lO tR))))) (bS (lN (Option Blk)) rfl (lC Am (lO Am)))
def T.q42(N:Nat):As R:={f:=61,arg:=E.q42_a,res:=E.q42_r,fn:=F.vb N}
def H.q42:A1:={lp:=[]}
theorem WF.f61:Bc Try.prog 61 Try.f61:=Ap Try.func61 (by decide) (by kernel_rfl)
theorem TK.q42(N:Nat):Aj Try.prog (T.q42 (R:=R) N):=
 Al (h:=H.q42) A9 hm (Ad (TK.q36 N) Ac) WF.f61 (λ d=>Ab) (λ _ _=>by kernel_rfl)
abbrev E.q43_a:Enc (List AV×List Blk):=bO (lU (pB 0 0) rfl (lO (aG (lC (iN .u8) (lC (iN .i64) (lC (iN .i64) (lO (fZ ki0)))))))) Ak7
abbrev E.q43_r:Enc (AV×List (Option Blk)×List Blk):=bO (iN .i64) (bS Ak8 rfl (lC Pt (lO Pu)))
def T.q43:As R:={f:=81,arg:=E.q43_a,res:=E.q43_r,fn:=F.ag}
def H.q43:A1:={lp:=[]}
theorem WF.f81:Bc Try.prog 81 Try.f81:=Ap Try.func81 (by decide) (by kernel_rfl)
theorem TK.q43:Aj Try.prog (T.q43 (R:=R)):=
 Al (h:=H.q43) A9 hm Ac WF.f81 (λ d=>Ab) (λ _ _=>by kernel_rfl)
abbrev E.q44_j81:Enc St:=sT 6 (lU Bp rfl (lC Uw (lC Bu (lU (kY 6 (pB 3 0)) rfl (lO Ho))))) Atn
abbrev E.q44_j2:Enc St:=sT 6 (lU Bp rfl (lC Uw (lC Bu (lC C6 (lU (kY 6 (pB 3 0)) rfl (lO (kY 24 bB))))))) Atn
def H.q44:A1:={lp:=[],jn:=[(81,[0,2,3,6,12],E.q44_j81),(2,[0,2,3,4,6,24],E.q44_j2)]}
theorem WF.f82:Bc Try.prog 82 Try.f82:=Ap Try.func82 (by decide) (by kernel_rfl)
def T.q44_s(N:Nat)(rw2:Jl->(Eh->Option R)->Option R)(rw3:Tb->(Eh->Option R)->Option R):As R:={f:=82,arg:=E.q44_a,res:=E.q44_r,fn:=F.jc N rw2 rw3}
theorem F.wm(N:Nat)(rw2:Jl->(Eh->Option R)->Option R)(rw3:Tb->(Eh->Option R)->Option R)(d:E.q44_a.D)(k:AV->List (Option Blk)->List Blk->Option R):
  Rr Sj (Fl [T.q45_r rw2,T.q43,T.q44_r rw3]) (Dk []) H.q44 Try.f82 (E.q44_a.to d).1 (E.q44_a.to d).2 k=(T.q44_s N rw2 rw3).fn d λ x=>k (E.q44_r.to x).1 (E.q44_r.to x).2.1 (E.q44_r.to x).2.2:=by kernel_rfl
theorem TKn.q44(N:Nat)(rw2:Jl->(Eh->Option R)->Option R)(h_spec_l2Whole_write:Aj Try.prog (T.q45_r rw2)):∀n,Aj Try.prog (T.q44_r (R:=R) (F.aq N rw2 n))
 | 0=>λ d k r h=>nomatch(show(none:Option R)=some r from h)
 | n+1=>Al (h:=H.q44) A9 hm (Ad h_spec_l2Whole_write (Ad TK.q43 (Ad (TKn.q44 N rw2 h_spec_l2Whole_write n) Ac))) WF.f82 (λ d=>Ab) (F.wm N rw2 (F.aq N rw2 n))
theorem TK.q44(N:Nat)(rw2:Jl->(Eh->Option R)->Option R)(h_spec_l2Whole_write:Aj Try.prog (T.q45_r rw2)):Aj Try.prog (T.q44_r (R:=R) (F.aq N rw2 N)):=TKn.q44 N rw2 h_spec_l2Whole_write N
def H.q45:A1:={lp:=[]}
theorem WF.f60:Bc Try.prog 60 Try.f60:=Ap Try.func60 (by decide) (by kernel_rfl)
def T.q45_s(N:Nat)(rw2:Jl->(Eh->Option R)->Option R):As R:={f:=60,arg:=E.q45_a,res:=E.q45_r,fn:=F.kg N rw2}
theorem F.xa(N:Nat)(rw2:Jl->(Eh->Option R)->Option R)(d:E.q45_a.D)(k:AV->List (Option Blk)->List Blk->Option R):
  Rr Sj (Fl [T.q43,T.q45_r rw2,T.q44_r (F.aq N rw2 N)]) (Dk []) H.q45 Try.f60 (E.q45_a.to d).1 (E.q45_a.to d).2 k=(T.q45_s N rw2).fn d λ x=>k (E.q45_r.to x).1 (E.q45_r.to x).2.1 (E.q45_r.to x).2.2:=by kernel_rfl
theorem TKn.q45(N:Nat):∀n,Aj Try.prog (T.q45_r (R:=R) (F.bz N n))
 | 0=>λ d k r h=>nomatch(show(none:Option R)=some r from h)
 | n+1=>Al (h:=H.q45) A9 hm (Ad TK.q43 (Ad (TKn.q45 N n) (Ad (TK.q44 N (F.bz N n) (TKn.q45 N n)) Ac))) WF.f60 (λ d=>Ab) (F.xa N (F.bz N n))
theorem TK.q45(N:Nat):Aj Try.prog (T.q45_r (R:=R) (F.bz N N)):=TKn.q45 N N
abbrev E.q46_l2_i:Enc St:=sT 6 (lU C8 rfl (lU Jj rfl (lC C6 (lC (kY 11 (fZ ki9)) (lC Ho (lC Nm (lC (kY 19 (fZ ki5)) (lC Abk (lO Abi))))))))) Ago
abbrev E.q46_l2_oe2:Enc St:=sT 6 (lU C8 rfl (lU Jj rfl (lC (kY 11 (fZ ki9)) (lC Ho (lO Nm))))) Ago
abbrev E.q46_l0_i:Enc St:=sT 6 (lU C8 rfl (lU Jj rfl (lC (kY 11 (fZ ki9)) (lC Ho (lO Nm))))) Ago
abbrev E.q46_l0_oe0:Enc St:=sR 6 (lU C8 rfl Alx) rfl Ago
abbrev E.q46_a:Enc (List AV×List Blk):=bQ (lO (fZ ki9)) (lN Blk) rfl
abbrev E.q46_r:Enc (AV×List (Option Blk)×List Blk):=bS (aG Atp) rfl (bS (lN (Option Blk)) rfl (lC Pt (lO Pu)))
def T.q46(N:Nat):As R:={f:=48,arg:=E.q46_a,res:=E.q46_r,fn:=F.sd N}
def H.q46:A1:={lp:=[(0,[2,3,11,12,13],[2,3]),(2,[2,3,4,11,12,13,19,20,21],[2,3,11,12,13])]}
theorem WF.f48:Bc Try.prog 48 Try.f48:=Ap Try.func48 (by decide) (by kernel_rfl)
def TL.q46_l2(N:Nat):An R:={b:=2,st:=E.q46_l2_i,fn:=λ d k=>lp (F.jk N) N d (λ y=>k (.exit 2) (E.q46_l2_oe2.to y))}
theorem LK.q46_l2(N:Nat):Ai Try.prog 0 Try.f48.ntmps (bodyOf Try.f48) (TL.q46_l2 (R:=R) N):=
 Ah (i:=[2,3,4,11,12,13,19,20,21]) (o:=[2,3,11,12,13]) (h:=H.q46) A9 hm (Ad (TK.q42 N) (Ad (TK.q45 N) Ac)) WF.f48 Ab (by kernel_rfl) (λ d=>Ak rfl) N (F.jk N) _ (λ _ _=>rfl) (λ _ _ _=>by kernel_rfl)
def TL.q46_l0(N:Nat):An R:={b:=0,st:=E.q46_l0_i,fn:=λ d k=>lp (F.jl N) N d (λ y=>k (.exit 0) (E.q46_l0_oe0.to y))}
theorem LK.q46_l0(N:Nat):Ai Try.prog 0 Try.f48.ntmps (bodyOf Try.f48) (TL.q46_l0 (R:=R) N):=
 Ah (i:=[2,3,11,12,13]) (o:=[2,3]) (h:=H.q46) A9 hm Ac WF.f48 (Ag (LK.q46_l2 N) Ab) (by kernel_rfl) (λ d=>Ak rfl) N (F.jl N) _ (λ _ _=>rfl) (λ _ _ _=>by kernel_rfl)
theorem TK.q46(N:Nat):Aj Try.prog (T.q46 (R:=R) N):=
 Al (h:=H.q46) A9 hm Ac WF.f48 (λ d=>(Ag (LK.q46_l0 N) Ab)) (λ _ _=>by kernel_rfl)
abbrev E.q47_l0_i:Enc St:=sQ 0 (lC (kY 1 (iN .u8)) (lC (kY 7 (fZ ki0)) (lC Ep (lO Di)))) (lN (Nat×Blk)) rfl
abbrev E.q47_l0_oe0:Enc St:=sR 0 Sp rfl (lN (Nat×Blk))
abbrev E.q47_l0_oret:Enc St:=sQ 0 (lO Pw) (lN (Nat×Blk)) rfl
abbrev E.q47_a:Enc (List AV×List Blk):=bQ (lC (fZ ki0) (lO (iN .u8))) (lN Blk) rfl
abbrev E.q47_r:Enc (AV×List (Option Blk)×List Blk):=bQ bB (bS (lN (Option Blk)) rfl (lN Blk)) rfl
def T.q47(N:Nat):As R:={f:=62,arg:=E.q47_a,res:=E.q47_r,fn:=F.qp N}
def H.q47:A1:={lp:=[(0,[1,7,8,9],[4])]}
theorem WF.f62:Bc Try.prog 62 Try.f62:=Ap Try.func62 (by decide) (by kernel_rfl)
def TL.q47_l0(N:Nat):An R:={b:=0,st:=E.q47_l0_i,fn:=λ d k=>lp (F.mu N) N d (λ y=>k (.exit 0) (E.q47_l0_oe0.to y),λ y=>k .ret (E.q47_l0_oret.to y))}
theorem LK.q47_l0(N:Nat):Ai Try.prog 0 Try.f62.ntmps (bodyOf Try.f62) (TL.q47_l0 (R:=R) N):=
 Ah (i:=[1,7,8,9]) (o:=[4]) (h:=H.q47) A9 hm (Ad TK.q15 Ac) WF.f62 Ab (by kernel_rfl) (λ d=>Ak rfl) N (F.mu N) _ (λ _ _=>rfl) (λ _ _ _=>by kernel_rfl)
theorem TK.q47(N:Nat):Aj Try.prog (T.q47 (R:=R) N):=
 Al (h:=H.q47) A9 hm Ac WF.f62 (λ d=>(Ag (LK.q47_l0 N) Ab)) (λ _ _=>by kernel_rfl)
abbrev E.q48_l4_i:Enc St:=sT 3 (lU A5 rfl (lU Gw rfl (lU Py rfl (lC Cb (lC Bv (lC Ep (lC Di (lC (kY 10 bB) (lU (kY 19 (sL 2)) rfl (lC Abk (lC Abi (lC (kY 27 (rO 0 Acc)) (lC (kY 28 (iN .i64)) (lO Aly)))))))))))))) (lC U0 Hm)
abbrev E.q48_l4_oe4:Enc St:=sT 3 (lU A5 rfl (lU Gw rfl (lU Py rfl (lC Cb (lC Bv (lC Ep (lC (kY 10 bB) Atq))))))) (lC U0 Hm)
abbrev E.q48_l2_i:Enc St:=sT 3 (lU A5 rfl (lU Gw rfl (lU Py rfl (lC Cb (lC Bv Atq))))) (lC U0 Hm)
abbrev E.q48_l2_oe2:Enc St:=sT 3 (lU A5 rfl (lU Gw rfl (lU Py rfl (lC Cb (lO Bv))))) (lC U0 Hm)
abbrev E.q48_l0_i:Enc St:=sT 3 (lU A5 rfl (lU Gw rfl (lU Py rfl (lO Cb)))) (lC U0 Hm)
abbrev E.q48_l0_oe0:Enc St:=sR 2 (lU (kY 4 (sL 0)) rfl (lU (kY 5 (sL 1)) rfl (lN (Nat×AV)))) rfl (lC (kY 0 Am) (lO (kY 1 Am)))
abbrev E.q48_a:Enc (List AV×List Blk):=bQ (lO (aG Ut)) (lN Blk) rfl
abbrev E.q48_r:Enc (AV×List (Option Blk)×List Blk):=bS (tP Atp) rfl (bS (lN (Option Blk)) rfl (lC Am (lO Am)))
def T.q48(N:Nat):As R:={f:=49,arg:=E.q48_a,res:=E.q48_r,fn:=F.se N}
def H.q48:A1:={lp:=[(0,[1,4,5,6],[4,5]),(2,[1,4,5,6,7,19,20,21],[1,4,5,6,7]),(4,[1,4,5,6,7,8,9,10,19,20,21,27,28,29],[1,4,5,6,7,8,10,19,20,21])]}
theorem WF.f49:Bc Try.prog 49 Try.f49:=Ap Try.func49 (by decide) (by kernel_rfl)
def TL.q48_l4(N:Nat):An R:={b:=4,st:=E.q48_l4_i,fn:=λ d k=>lp (F.jm N) N d (λ y=>k (.exit 4) (E.q48_l4_oe4.to y))}
theorem LK.q48_l4(N:Nat):Ai Try.prog 0 Try.f49.ntmps (bodyOf Try.f49) (TL.q48_l4 (R:=R) N):=
 Ah (i:=[1,4,5,6,7,8,9,10,19,20,21,27,28,29]) (o:=[1,4,5,6,7,8,10,19,20,21]) (h:=H.q48) A9 hm (Ad (TK.q47 N) Ac) WF.f49 Ab (by kernel_rfl) (λ d=>Ak rfl) N (F.jm N) _ (λ _ _=>rfl) (λ _ _ _=>by kernel_rfl)
def TL.q48_l2(N:Nat):An R:={b:=2,st:=E.q48_l2_i,fn:=λ d k=>lp (F.jo N) N d (λ y=>k (.exit 2) (E.q48_l2_oe2.to y))}
theorem LK.q48_l2(N:Nat):Ai Try.prog 0 Try.f49.ntmps (bodyOf Try.f49) (TL.q48_l2 (R:=R) N):=
 Ah (i:=[1,4,5,6,7,19,20,21]) (o:=[1,4,5,6,7]) (h:=H.q48) A9 hm Ac WF.f49 (Ag (LK.q48_l4 N) Ab) (by kernel_rfl) (λ d=>Ak rfl) N (F.jo N) _ (λ _ _=>rfl) (λ _ _ _=>by kernel_rfl)
def TL.q48_l0(N:Nat):An R:={b:=0,st:=E.q48_l0_i,fn:=λ d k=>lp (F.jp N) N d (λ y=>k (.exit 0) (E.q48_l0_oe0.to y))}
theorem LK.q48_l0(N:Nat):Ai Try.prog 0 Try.f49.ntmps (bodyOf Try.f49) (TL.q48_l0 (R:=R) N):=
 Ah (i:=[1,4,5,6]) (o:=[4,5]) (h:=H.q48) A9 hm Ac WF.f49 (Ag (LK.q48_l2 N) Ab) (by kernel_rfl) (λ d=>Ak rfl) N (F.jp N) _ (λ _ _=>rfl) (λ _ _ _=>by kernel_rfl)
theorem TK.q48(N:Nat):Aj Try.prog (T.q48 (R:=R) N):=
 Al (h:=H.q48) A9 hm Ac WF.f49 (λ d=>(Ag (LK.q48_l0 N) Ab)) (λ _ _=>by kernel_rfl)
def H.q49:A1:={lp:=[]}
theorem WF.f64:Bc Try.prog 64 Try.f64:=Ap Try.func64 (by decide) (by kernel_rfl)
def T.q49_s(N:Nat)(rw4:Ys->(Bool->Option R)->Option R):As R:={f:=64,arg:=E.q49_a,res:=E.q49_r,fn:=F.qq N rw4}
theorem F.yq(N:Nat)(rw4:Ys->(Bool->Option R)->Option R)(d:E.q49_a.D)(k:AV->List (Option Blk)->List Blk->Option R):
  Rr Sj (Fl [T.q49_r rw4]) (Dk []) H.q49 Try.f64 (E.q49_a.to d).1 (E.q49_a.to d).2 k=(T.q49_s N rw4).fn d λ x=>k (E.q49_r.to x).1 (E.q49_r.to x).2.1 (E.q49_r.to x).2.2:=by kernel_rfl
theorem TKn.q49(N:Nat):∀n,Aj Try.prog (T.q49_r (R:=R) (F.an N n))
 | 0=>λ d k r h=>nomatch(show(none:Option R)=some r from h)
 | n+1=>Al (h:=H.q49) A9 hm (Ad (TKn.q49 N n) Ac) WF.f64 (λ d=>Ab) (F.yq N (F.an N n))
theorem TK.q49(N:Nat):Aj Try.prog (T.q49_r (R:=R) (F.an N N)):=TKn.q49 N N
def H.q50:A1:={lp:=[]}
theorem WF.f63:Bc Try.prog 63 Try.f63:=Ap Try.func63 (by decide) (by kernel_rfl)
def T.q50_s(N:Nat)(rw5:Yt->(Bool->Option R)->Option R):As R:={f:=63,arg:=E.q50_a,res:=E.q50_r,fn:=F.qr N rw5}
theorem F.yr(N:Nat)(rw5:Yt->(Bool->Option R)->Option R)(d:E.q50_a.D)(k:AV->List (Option Blk)->List Blk->Option R):
  Rr Sj (Fl [T.q50_r rw5,T.q49_r (F.an N N)]) (Dk []) H.q50 Try.f63 (E.q50_a.to d).1 (E.q50_a.to d).2 k=(T.q50_s N rw5).fn d λ x=>k (E.q50_r.to x).1 (E.q50_r.to x).2.1 (E.q50_r.to x).2.2:=by kernel_rfl
theorem TKn.q50(N:Nat):∀n,Aj Try.prog (T.q50_r (R:=R) (F.bg N n))
 | 0=>λ d k r h=>nomatch(show(none:Option R)=some r from h)
 | n+1=>Al (h:=H.q50) A9 hm (Ad (TKn.q50 N n) (Ad (TK.q49 N) Ac)) WF.f63 (λ d=>Ab) (F.yr N (F.bg N n))
theorem TK.q50(N:Nat):Aj Try.prog (T.q50_r (R:=R) (F.bg N N)):=TKn.q50 N N
abbrev E.q51_l0_i:Enc St:=sT 1 (lC (kY 1 bB) (lC (kY 2 (fZ .bool)) (lC (kY 3 bB) (lU Pz rfl (lC Di (lC (kY 14 (rO 0 Zt)) (lC Sr (lO Kw)))))))) (lO U0)
abbrev E.q51_l0_oe0:Enc St:=sQ 0 (lO Di) (lN (Nat×Blk)) rfl
abbrev E.q51_a:Enc (List AV×List Blk):=bQ (lC (aG Ut) (lC bB (lC (fZ .bool) (lO bB)))) (lN Blk) rfl
abbrev E.q51_r:Enc (AV×List (Option Blk)×List Blk):=bQ (iN .i64) (bS (lN (Option Blk)) rfl (lN Blk)) rfl
def T.q51(N:Nat):As R:={f:=50,arg:=E.q51_a,res:=E.q51_r,fn:=F.pq N}
def H.q51:A1:={lp:=[(0,[1,2,3,4,9,14,15,16],[9])]}
theorem WF.f50:Bc Try.prog 50 Try.f50:=Ap Try.func50 (by decide) (by kernel_rfl)
def TL.q51_l0(N:Nat):An R:={b:=0,st:=E.q51_l0_i,fn:=λ d k=>lp (F.ic N) N d (λ y=>k (.exit 0) (E.q51_l0_oe0.to y))}
theorem LK.q51_l0(N:Nat):Ai Try.prog 0 Try.f50.ntmps (bodyOf Try.f50) (TL.q51_l0 (R:=R) N):=
 Ah (i:=[1,2,3,4,9,14,15,16]) (o:=[9]) (h:=H.q51) A9 hm (Ad (TK.q50 N) (Ad (TK.q49 N) Ac)) WF.f50 Ab (by kernel_rfl) (λ d=>Ak rfl) N (F.ic N) _ (λ _ _=>rfl) (λ _ _ _=>by kernel_rfl)
theorem TK.q51(N:Nat):Aj Try.prog (T.q51 (R:=R) N):=
 Al (h:=H.q51) A9 hm Ac WF.f50 (λ d=>(Ag (LK.q51_l0 N) Ab)) (λ _ _=>by kernel_rfl)
def H.q52:A1:={lp:=[]}
theorem WF.f65:Bc Try.prog 65 Try.f65:=Ap Try.func65 (by decide) (by kernel_rfl)
def T.q52_s(N:Nat)(rw6:Yu->((List Bool)->Option R)->Option R):As R:={f:=65,arg:=E.q52_a,res:=E.q52_r,fn:=F.qt N rw6}
theorem F.ys(N:Nat)(rw6:Yu->((List Bool)->Option R)->Option R)(d:E.q52_a.D)(k:AV->List (Option Blk)->List Blk->Option R):
  Rr Sj (Fl [T.q47 N,T.q52_r rw6,T.q49_r (F.an N N),T.q50_r (F.bg N N)]) (Dk []) H.q52 Try.f65 (E.q52_a.to d).1 (E.q52_a.to d).2 k=(T.q52_s N rw6).fn d λ x=>k (E.q52_r.to x).1 (E.q52_r.to x).2.1 (E.q52_r.to x).2.2:=by kernel_rfl
theorem TKn.q52(N:Nat):∀n,Aj Try.prog (T.q52_r (R:=R) (F.lc N n))
 | 0=>λ d k r h=>nomatch(show(none:Option R)=some r from h)
 | n+1=>Al (h:=H.q52) A9 hm (Ad (TK.q47 N) (Ad (TKn.q52 N n) (Ad (TK.q49 N) (Ad (TK.q50 N) Ac)))) WF.f65 (λ d=>Ab) (F.ys N (F.lc N n))
theorem TK.q52(N:Nat):Aj Try.prog (T.q52_r (R:=R) (F.lc N N)):=TKn.q52 N N
abbrev E.q53_l0_i:Enc St:=sT 2 (lC (kY 1 bB) (lC (kY 2 (fZ .bool)) (lC (kY 3 (iN .u8)) (lU Pz rfl (lU (kY 9 (sL 1)) rfl (lC (kY 16 (rO 0 Zt)) (lC J2 (lO So)))))))) (lC U0 (lO (kY 1 Dh)))
abbrev E.q53_l0_oe0:Enc St:=sR 1 (lU (kY 9 (sL 0)) rfl (lN (Nat×AV))) rfl (lO (kY 0 Dh))
abbrev E.q53_a:Enc (List AV×List Blk):=bQ (lC (aG Ut) (lC bB (lC (fZ .bool) (lO (iN .u8))))) (lN Blk) rfl
abbrev E.q53_r:Enc (AV×List (Option Blk)×List Blk):=bS (sL 0) rfl (bS (lN (Option Blk)) rfl (lO Dh))
def T.q53(N:Nat):As R:={f:=51,arg:=E.q53_a,res:=E.q53_r,fn:=F.si N}
def H.q53:A1:={lp:=[(0,[1,2,3,4,9,16,17,18],[9])]}
theorem WF.f51:Bc Try.prog 51 Try.f51:=Ap Try.func51 (by decide) (by kernel_rfl)
def TL.q53_l0(N:Nat):An R:={b:=0,st:=E.q53_l0_i,fn:=λ d k=>lp (F.jq N) N d (λ y=>k (.exit 0) (E.q53_l0_oe0.to y))}
theorem LK.q53_l0(N:Nat):Ai Try.prog 0 Try.f51.ntmps (bodyOf Try.f51) (TL.q53_l0 (R:=R) N):=
 Ah (i:=[1,2,3,4,9,16,17,18]) (o:=[9]) (h:=H.q53) A9 hm (Ad (TK.q52 N) Ac) WF.f51 Ab (by kernel_rfl) (λ d=>Ak rfl) N (F.jq N) _ (λ _ _=>rfl) (λ _ _ _=>by kernel_rfl)
theorem TK.q53(N:Nat):Aj Try.prog (T.q53 (R:=R) N):=
 Al (h:=H.q53) A9 hm Ac WF.f51 (λ d=>(Ag (LK.q53_l0 N) Ab)) (λ _ _=>by kernel_rfl)
abbrev E.q54_l0_i:Enc St:=sQ 0 (lC Aln (lC (kY 1 (rO 0 .bool)) (lC Bv (lO Ep)))) (lN (Nat×Blk)) rfl
abbrev E.q54_l0_oe0:Enc St:=sR 0 Sp rfl (lN (Nat×Blk))
abbrev E.q54_l0_oret:Enc St:=sQ 0 (lO Pw) (lN (Nat×Blk)) rfl
abbrev E.q54_a:Enc (List AV×List Blk):=bQ (lC (fZ .bool) (lO (rO 0 .bool))) (lN Blk) rfl
abbrev E.q54_r:Enc (AV×List (Option Blk)×List Blk):=bQ bB (bS (lN (Option Blk)) rfl (lN Blk)) rfl
def T.q54(N:Nat):As R:={f:=52,arg:=E.q54_a,res:=E.q54_r,fn:=F.tb N}
def H.q54:A1:={lp:=[(0,[0,1,7,8],[4])]}
theorem WF.f52:Bc Try.prog 52 Try.f52:=Ap Try.func52 (by decide) (by kernel_rfl)
def TL.q54_l0(N:Nat):An R:={b:=0,st:=E.q54_l0_i,fn:=λ d k=>lp (F.ld N) N d (λ y=>k (.exit 0) (E.q54_l0_oe0.to y),λ y=>k .ret (E.q54_l0_oret.to y))}
theorem LK.q54_l0(N:Nat):Ai Try.prog 0 Try.f52.ntmps (bodyOf Try.f52) (TL.q54_l0 (R:=R) N):=
 Ah (i:=[0,1,7,8]) (o:=[4]) (h:=H.q54) A9 hm Ac WF.f52 Ab (by kernel_rfl) (λ d=>Ak rfl) N (F.ld N) _ (λ _ _=>rfl) (λ _ _ _=>by kernel_rfl)
theorem TK.q54(N:Nat):Aj Try.prog (T.q54 (R:=R) N):=
 Al (h:=H.q54) A9 hm Ac WF.f52 (λ d=>(Ag (LK.q54_l0 N) Ab)) (λ _ _=>by kernel_rfl)
abbrev E.q55_l0_i:Enc St:=sQ 0 (lC Dx (lC Uw Atr)) (lN (Nat×Blk)) rfl
abbrev E.q55_l0_oe0:Enc St:=sR 0 (lU (kY 6 uN) rfl (lN (Nat×AV))) rfl (lN (Nat×Blk))
abbrev E.q55_l0_oret:Enc St:=sQ 0 (lO (kY 6 bB)) (lN (Nat×Blk)) rfl
abbrev E.q55_a:Enc (List AV×List Blk):=bQ (lC Bw Hl) (lN Blk) rfl
abbrev E.q55_r:Enc (AV×List (Option Blk)×List Blk):=bQ bB (bS (lN (Option Blk)) rfl (lN Blk)) rfl
def T.q55(N:Nat):As R:={f:=37,arg:=E.q55_a,res:=E.q55_r,fn:=F.ph N}
def H.q55:A1:={lp:=[(0,[1,2,9,10,11],[6])]}
theorem WF.f37:Bc Try.prog 37 Try.f37:=Ap Try.func37 (by decide) (by kernel_rfl)
def TL.q55_l0(N:Nat):An R:={b:=0,st:=E.q55_l0_i,fn:=λ d k=>lp (F.mw N) N d (λ y=>k (.exit 0) (E.q55_l0_oe0.to y),λ y=>k .ret (E.q55_l0_oret.to y))}
theorem LK.q55_l0(N:Nat):Ai Try.prog 0 Try.f37.ntmps (bodyOf Try.f37) (TL.q55_l0 (R:=R) N):=
 Ah (i:=[1,2,9,10,11]) (o:=[6]) (h:=H.q55) hC hm (Ad TK.q15 Ac) WF.f37 Ab (by kernel_rfl) (λ d=>Ak rfl) N (F.mw N) _ (λ _ _=>rfl) (λ _ _ _=>by kernel_rfl)
theorem TK.q55(N:Nat):Aj Try.prog (T.q55 (R:=R) N):=
 Al (h:=H.q55) hC hm Ac WF.f37 (λ d=>(Ag (LK.q55_l0 N) Ab)) (λ _ _=>by kernel_rfl)
abbrev E.q56_j8:Enc St:=sT 1 (lU A5 rfl (lC Bu (lO (kY 36 bB)))) (lO Co)
abbrev E.q56_j4:Enc St:=sT 1 (lU A5 rfl (lC Bu (lO (kY 21 bB)))) (lO Co)
abbrev E.q56_a:Enc (List AV×List Blk):=bQ (lO (aG Nn)) (lN Blk) rfl
abbrev E.q56_r:Enc (AV×List (Option Blk)×List Blk):=bQ bB (bS (lN (Option Blk)) rfl (lN Blk)) rfl
def T.q56(N:Nat):As R:={f:=20,arg:=E.q56_a,res:=E.q56_r,fn:=F.sj N}
def H.q56:A1:={lp:=[],jn:=[(8,[1,3,36],E.q56_j8),(4,[1,3,21],E.q56_j4)]}
theorem WF.f20:Bc Try.prog 20 Try.f20:=Ap Try.func20 (by decide) (by kernel_rfl)
theorem TK.q56(N:Nat):Aj Try.prog (T.q56 (R:=R) N):=
 Al (h:=H.q56) hC hm (Ad TK.q15 (Ad (TK.q55 N) Ac)) WF.f20 (λ d=>Ab) (λ _ _=>by kernel_rfl)
abbrev E.q57_l0_i:Enc St:=sQ 0 (lC Dx (lC (kY 7 Bw) (lC Ep (lO Di)))) (lN (Nat×Blk)) rfl
abbrev E.q57_l0_oe0:Enc St:=sR 0 Sp rfl (lN (Nat×Blk))
abbrev E.q57_l0_oret:Enc St:=sQ 0 (lO C6) (lN (Nat×Blk)) rfl
abbrev E.q57_a:Enc (List AV×List Blk):=bQ Abo (lN Blk) rfl
abbrev E.q57_r:Enc (AV×List (Option Blk)×List Blk):=bQ (iN .i64) (bS (lN (Option Blk)) rfl (lN Blk)) rfl
def T.q57(N:Nat):As R:={f:=69,arg:=E.q57_a,res:=E.q57_r,fn:=F.cx N}
def H.q57:A1:={lp:=[(0,[1,7,8,9],[4])]}
theorem WF.f69:Bc Try.prog 69 Try.f69:=Ap Try.func69 (by decide) (by kernel_rfl)
def TL.q57_l0(N:Nat):An R:={b:=0,st:=E.q57_l0_i,fn:=λ d k=>lp (F.jr N) N d (λ y=>k (.exit 0) (E.q57_l0_oe0.to y),λ y=>k .ret (E.q57_l0_oret.to y))}
theorem LK.q57_l0(N:Nat):Ai Try.prog 0 Try.f69.ntmps (bodyOf Try.f69) (TL.q57_l0 (R:=R) N):=
 Ah (i:=[1,7,8,9]) (o:=[4]) (h:=H.q57) hC hm Ac WF.f69 Ab (by kernel_rfl) (λ d=>Ak rfl) N (F.jr N) _ (λ _ _=>rfl) (λ _ _ _=>by kernel_rfl)
theorem TK.q57(N:Nat):Aj Try.prog (T.q57 (R:=R) N):=
 Al (h:=H.q57) hC hm Ac WF.f69 (λ d=>(Ag (LK.q57_l0 N) Ab)) (λ _ _=>by kernel_rfl)
abbrev E.q58_l2_i:Enc St:=sT 2 (lU A5 rfl (lU (kY 3 (sL 1)) rfl (lC C6 (lO B1)))) Abp
abbrev E.q58_l2_oe2:Enc St:=sT 2 Att Abp
abbrev E.q58_l0_i:Enc St:=sT 2 Att Abp
abbrev E.q58_l0_oe0:Enc St:=sR 1 Alo rfl (lO (kY 0 Am))
abbrev E.q58_a:Enc (List AV×List Blk):=bQ (lO (aG Nn)) (lN Blk) rfl
abbrev E.q58_r:Enc (AV×List (Option Blk)×List Blk):=bS (sL 0) rfl (bS (lN (Option Blk)) rfl (lO Am))
def T.q58(N:Nat):As R:={f:=66,arg:=E.q58_a,res:=E.q58_r,fn:=F.qu N}
def H.q58:A1:={lp:=[(0,[1,3,4],[3]),(2,[1,3,4,5],[1,3,4])]}
theorem WF.f66:Bc Try.prog 66 Try.f66:=Ap Try.func66 (by decide) (by kernel_rfl)
def TL.q58_l2(N:Nat):An R:={b:=2,st:=E.q58_l2_i,fn:=λ d k=>lp (F.eu N) N d (λ y=>k (.exit 2) (E.q58_l2_oe2.to y))}
theorem LK.q58_l2(N:Nat):Ai Try.prog 0 Try.f66.ntmps (bodyOf Try.f66) (TL.q58_l2 (R:=R) N):=
 Ah (i:=[1,3,4,5]) (o:=[1,3,4]) (h:=H.q58) hC hm (Ad (TK.q57 N) Ac) WF.f66 Ab (by kernel_rfl) (λ d=>Ak rfl) N (F.eu N) _ (λ _ _=>rfl) (λ _ _ _=>by kernel_rfl)
def TL.q58_l0(N:Nat):An R:={b:=0,st:=E.q58_l0_i,fn:=λ d k=>lp (F.ew N) N d (λ y=>k (.exit 0) (E.q58_l0_oe0.to y))}
theorem LK.q58_l0(N:Nat):Ai Try.prog 0 Try.f66.ntmps (bodyOf Try.f66) (TL.q58_l0 (R:=R) N):=
 Ah (i:=[1,3,4]) (o:=[3]) (h:=H.q58) hC hm Ac WF.f66 (Ag (LK.q58_l2 N) Ab) (by kernel_rfl) (λ d=>Ak rfl) N (F.ew N) _ (λ _ _=>rfl) (λ _ _ _=>by kernel_rfl)
theorem TK.q58(N:Nat):Aj Try.prog (T.q58 (R:=R) N):=
 Al (h:=H.q58) hC hm Ac WF.f66 (λ d=>(Ag (LK.q58_l0 N) Ab)) (λ _ _=>by kernel_rfl)
abbrev E.q59_l0_i:Enc St:=sT 2 (lC (kY 1 Bw) (lU C8 rfl (lC B1 (lU Fq rfl (lC (kY 28 Bw) (lC Aly (lO (kY 30 (iN .i64))))))))) Abp
abbrev E.q59_l0_oe0:Enc St:=sT 2 (lC (kY 1 Bw) (lU C8 rfl (lR B1 (lU Fq rfl (lN (Nat×AV))) rfl))) Abp
abbrev E.q59_l2_i:Enc St:=sT 3 (lC (kY 1 Bw) (lU C8 rfl (lC B1 (lU Fq rfl (lU Gx rfl (lO Li)))))) (lC Co Hm)
abbrev E.q59_l2_oe2:Enc St:=sT 3 (lC (kY 1 Bw) (lU C8 rfl (lR B1 (lU Fq rfl (lU Gx rfl (lN (Nat×AV)))) rfl))) (lC Co Hm)
abbrev E.q59_l6_i:Enc St:=sT 5 (lC (kY 1 Bw) (lU C8 rfl (lC B1 (lU Fq rfl (lU Gx rfl (lU P0 rfl (lC Ho (lU (kY 13 (sL 4)) rfl (lO Uz))))))))) (lC Co Atu)
abbrev E.q59_l6_oe6:Enc St:=sT 5 (lC (kY 1 Bw) (lU C8 rfl (lC B1 (lU Fq rfl (lU Gx rfl (lU P0 rfl (lR Ho (lU (kY 13 (sL 4)) rfl (lN (Nat×AV))) rfl))))))) (lC Co Atu)
abbrev E.q59_l4_i:Enc St:=sT 4 (lC (kY 1 Bw) (lU C8 rfl (lC B1 (lU Fq rfl (lU Gx rfl (lU P0 rfl (lO Ho))))))) P1
abbrev E.q59_l4_oe4:Enc St:=sT 4 (lC (kY 1 Bw) (lU C8 rfl (lR B1 (lU Fq rfl (lU Gx rfl (lU P0 rfl (lN (Nat×AV))))) rfl))) P1
abbrev E.q59_l14_i:Enc St:=sT 4 (lC (kY 1 Bw) (lU C8 rfl (lC B1 (lU Fq rfl (lU Gx rfl (lU P0 rfl (lC Abr (lC Kw (lC J2 (lU (kY 130 (sL 2)) rfl (lC (kY 131 (iN .i64)) (lO (kY 132 (iN .i64)))))))))))))) P1
abbrev E.q59_l14_oe14:Enc St:=sT 4 Atv P1
abbrev E.q59_l12_i:Enc St:=sT 4 Atv P1
abbrev E.q59_l12_oe12:Enc St:=sT 4 (lC (kY 1 Bw) (lU C8 rfl (lC B1 (lU Fq rfl (lU Gx rfl (lU P0 rfl (lC Abr (lO Kw)))))))) P1
abbrev E.q59_l10_i:Enc St:=sT 4 (lC (kY 1 Bw) (lU C8 rfl (lC B1 (lU Fq rfl (lU Gx rfl (lU P0 rfl (lC Abr (lO Kw)))))))) P1
abbrev E.q59_l10_oe10:Enc St:=sT 4 Atw P1
abbrev E.q59_l8_i:Enc St:=sT 4 Atw P1
abbrev E.q59_l8_oe8:Enc St:=sR 1 (lU (kY 11 (sL 0)) rfl (lN (Nat×AV))) rfl (lO (kY 0 Abq))
abbrev E.q59_a:Enc (List AV×List Blk):=bQ (lC (aG Nn) (lO Bw)) (lN Blk) rfl
abbrev E.q59_r:Enc (AV×List (Option Blk)×List Blk):=bS (sL 0) rfl (bS (lN (Option Blk)) rfl (lO Abq))
def T.q59(N:Nat):As R:={f:=67,arg:=E.q59_a,res:=E.q59_r,fn:=F.sk N}
def H.q59:A1:={lp:=[(0,[1,2,5,6,28,29,30],[1,2,5,6]),(2,[1,2,5,6,9,10],[1,2,5,6,9]),(4,[1,2,5,6,9,11,12],[1,2,5,6,9,11]),(6,[1,2,5,6,9,11,12,13,14],[1,2,5,6,9,11,12,13]),(8,[1,2,5,6,9,11,15],[11]),(10,[1,2,5,6,9,11,15,16],[1,2,5,6,9,11,15]),(12,[1,2,5,6,9,11,15,16,17],[1,2,5,6,9,11,15,16]),(14,[1,2,5,6,9,11,15,16,17,130,131,132],[1,2,5,6,9,11,15,16,17])]}
theorem WF.f67:Bc Try.prog 67 Try.f67:=Ap Try.func67 (by decide) (by kernel_rfl)
def TL.q59_l0(N:Nat):An R:={b:=0,st:=E.q59_l0_i,fn:=λ d k=>lp (F.js N) N d (λ y=>k (.exit 0) (E.q59_l0_oe0.to y))}
theorem LK.q59_l0(N:Nat):Ai Try.prog 0 Try.f67.ntmps (bodyOf Try.f67) (TL.q59_l0 (R:=R) N):=
 Ah (i:=[1,2,5,6,28,29,30]) (o:=[1,2,5,6]) (h:=H.q59) hC hm Ac WF.f67 Ab (by kernel_rfl) (λ d=>Ak rfl) N (F.js N) _ (λ _ _=>rfl) (λ _ _ _=>by kernel_rfl)
def TL.q59_l2(N:Nat):An R:={b:=2,st:=E.q59_l2_i,fn:=λ d k=>lp (F.jt N) N d (λ y=>k (.exit 2) (E.q59_l2_oe2.to y))}
theorem LK.q59_l2(N:Nat):Ai Try.prog 0 Try.f67.ntmps (bodyOf Try.f67) (TL.q59_l2 (R:=R) N):=
 Ah (i:=[1,2,5,6,9,10]) (o:=[1,2,5,6,9]) (h:=H.q59) hC hm (Ad (TK.q57 N) Ac) WF.f67 Ab (by kernel_rfl) (λ d=>Ak rfl) N (F.jt N) _ (λ _ _=>rfl) (λ _ _ _=>by kernel_rfl)
def TL.q59_l6(N:Nat):An R:={b:=6,st:=E.q59_l6_i,fn:=λ d k=>lp (F.ju N) N d (λ y=>k (.exit 6) (E.q59_l6_oe6.to y))}
theorem LK.q59_l6(N:Nat):Ai Try.prog 0 Try.f67.ntmps (bodyOf Try.f67) (TL.q59_l6 (R:=R) N):=
 Ah (i:=[1,2,5,6,9,11,12,13,14]) (o:=[1,2,5,6,9,11,12,13]) (h:=H.q59) hC hm Ac WF.f67 Ab (by kernel_rfl) (λ d=>Ak rfl) N (F.ju N) _ (λ _ _=>rfl) (λ _ _ _=>by kernel_rfl)
def TL.q59_l4(N:Nat):An R:={b:=4,st:=E.q59_l4_i,fn:=λ d k=>lp (F.jv N) N d (λ y=>k (.exit 4) (E.q59_l4_oe4.to y))}
theorem LK.q59_l4(N:Nat):Ai Try.prog 0 Try.f67.ntmps (bodyOf Try.f67) (TL.q59_l4 (R:=R) N):=
 Ah (i:=[1,2,5,6,9,11,12]) (o:=[1,2,5,6,9,11]) (h:=H.q59) hC hm Ac WF.f67 (Ag (LK.q59_l6 N) Ab) (by kernel_rfl) (λ d=>Ak rfl) N (F.jv N) _ (λ _ _=>rfl) (λ _ _ _=>by kernel_rfl)
def TL.q59_l14(N:Nat):An R:={b:=14,st:=E.q59_l14_i,fn:=λ d k=>lp (F.ig N) N d (λ y=>k (.exit 14) (E.q59_l14_oe14.to y))}
theorem LK.q59_l14(N:Nat):Ai Try.prog 0 Try.f67.ntmps (bodyOf Try.f67) (TL.q59_l14 (R:=R) N):=
 Ah (i:=[1,2,5,6,9,11,15,16,17,130,131,132]) (o:=[1,2,5,6,9,11,15,16,17]) (h:=H.q59) hC hm Ac WF.f67 Ab (by kernel_rfl) (λ d=>Ak rfl) N (F.ig N) _ (λ _ _=>rfl) (λ _ _ _=>by kernel_rfl)
def TL.q59_l12(N:Nat):An R:={b:=12,st:=E.q59_l12_i,fn:=λ d k=>lp (F.ii N) N d (λ y=>k (.exit 12) (E.q59_l12_oe12.to y))}
theorem LK.q59_l12(N:Nat):Ai Try.prog 0 Try.f67.ntmps (bodyOf Try.f67) (TL.q59_l12 (R:=R) N):=
 Ah (i:=[1,2,5,6,9,11,15,16,17]) (o:=[1,2,5,6,9,11,15,16]) (h:=H.q59) hC hm Ac WF.f67 (Ag (LK.q59_l14 N) Ab) (by kernel_rfl) (λ d=>Ak rfl) N (F.ii N) _ (λ _ _=>rfl) (λ _ _ _=>by kernel_rfl)
def TL.q59_l10(N:Nat):An R:={b:=10,st:=E.q59_l10_i,fn:=λ d k=>lp (F.ik N) N d (λ y=>k (.exit 10) (E.q59_l10_oe10.to y))}
theorem LK.q59_l10(N:Nat):Ai Try.prog 0 Try.f67.ntmps (bodyOf Try.f67) (TL.q59_l10 (R:=R) N):=
 Ah (i:=[1,2,5,6,9,11,15,16]) (o:=[1,2,5,6,9,11,15]) (h:=H.q59) hC hm Ac WF.f67 (Ag (LK.q59_l12 N) Ab) (by kernel_rfl) (λ d=>Ak rfl) N (F.ik N) _ (λ _ _=>rfl) (λ _ _ _=>by kernel_rfl)
def TL.q59_l8(N:Nat):An R:={b:=8,st:=E.q59_l8_i,fn:=λ d k=>lp (F.jx N) N d (λ y=>k (.exit 8) (E.q59_l8_oe8.to y))}
theorem LK.q59_l8(N:Nat):Ai Try.prog 0 Try.f67.ntmps (bodyOf Try.f67) (TL.q59_l8 (R:=R) N):=
 Ah (i:=[1,2,5,6,9,11,15]) (o:=[11]) (h:=H.q59) hC hm Ac WF.f67 (Ag (LK.q59_l10 N) Ab) (by kernel_rfl) (λ d=>Ak rfl) N (F.jx N) _ (λ _ _=>rfl) (λ _ _ _=>by kernel_rfl)
theorem TK.q59(N:Nat):Aj Try.prog (T.q59 (R:=R) N):=
 Al (h:=H.q59) hC hm Ac WF.f67 (λ d=>(Ag (LK.q59_l0 N) (Ag (LK.q59_l2 N) (Ag (LK.q59_l4 N) (Ag (LK.q59_l8 N) Ab))))) (λ _ _=>by kernel_rfl)
abbrev E.q60_a:Enc (List AV×List Blk):=bQ (lC (aG Nn) Hl) (lN Blk) rfl
abbrev E.q60_r:Enc (AV×List (Option Blk)×List Blk):=bQ (iN .i64) (bS (lN (Option Blk)) rfl (lN Blk)) rfl
def T.q60:As R:={f:=68,arg:=E.q60_a,res:=E.q60_r,fn:=F.we}
def H.q60:A1:={lp:=[]}
theorem WF.f68:Bc Try.prog 68 Try.f68:=Ap Try.func68 (by decide) (by kernel_rfl)
theorem TK.q60:Aj Try.prog (T.q60 (R:=R)):=
 Al (h:=H.q60) hC hm Ac WF.f68 (λ d=>Ab) (λ _ _=>by kernel_rfl)
abbrev E.q61_l2_i:Enc St:=sT 9 (lU A5 rfl (lU Bt rfl (lU Lg rfl (lU (kY 4 (sL 3)) rfl (lU (kY 5 (sL 4)) rfl (lC Cb (lC Bv (lC Ep Agl)))))))) (lC Co Al1)
abbrev E.q61_l2_oe2:Enc St:=sT 9 (lU A5 rfl (lU Bt rfl (lU Lg rfl (lU (kY 4 (sL 3)) rfl (lU (kY 5 (sL 4)) rfl (lC Bv (lC Ep Agl))))))) (lC Co Al1)
abbrev E.q61_l0_i:Enc St:=sT 9 (lU A5 rfl (lU Bt rfl (lU Lg rfl (lU (kY 4 (sL 3)) rfl (lU (kY 5 (sL 4)) rfl Agl))))) (lC Co Al1)
abbrev E.q61_l0_oe0:Enc St:=sR 7 (lU A5 rfl (lU Bt rfl (lU Py rfl (lN (Nat×AV))))) rfl (lC Co (lC (kY 1 Ak9) (lC (kY 2 Am) (lC (kY 3 Am) (lC (kY 4 Am) (lC (kY 5 Am) (lO (kY 6 Am))))))))
abbrev E.q61_l6_i:Enc St:=sT 10 (lU A5 rfl (lU Bt rfl (lU Py rfl (lU (kY 9 (sL 3)) rfl (lU Ss rfl (lC C7 (lU (kY 12 (sL 5)) rfl (lO Nm)))))))) At1
abbrev E.q61_l6_oe6:Enc St:=sT 10 (lU A5 rfl (lU Bt rfl (lU Py rfl (lU (kY 9 (sL 3)) rfl (lU Ss rfl (lR C7 (lU (kY 12 (sL 5)) rfl (lN (Nat×AV))) rfl)))))) At1
abbrev E.q61_l4_i:Enc St:=sT 9 (lU A5 rfl (lU Bt rfl (lU Py rfl (lU (kY 9 (sL 3)) rfl (lU Ss rfl (lO C7)))))) (lC Co (lC (kY 1 Alz) (lC (kY 2 Am) (lC (kY 3 Am) (lC (kY 4 Abs) Al0)))))
abbrev E.q61_l4_oe4:Enc St:=sR 8 (lU A5 rfl (lU Bt rfl (lU Gx rfl (lU U1 rfl (lN (Nat×AV)))))) rfl (lC Co (lC (kY 1 At2) (lC (kY 2 Am) (lC (kY 3 Abs) (lC (kY 4 Am) (lC (kY 5 Am) (lC (kY 6 Am) (lO (kY 7 Am)))))))))
abbrev E.q61_l12_i:Enc St:=sT 14 (lU A5 rfl (lU Bt rfl (lU Gx rfl (lU U1 rfl (lU Xm rfl (lU Xn rfl (lC J2 (lC So (lC Abj (lC Abk (lC (kY 21 bB) (lU (kY 115 (sL 5)) rfl (lC (kY 116 (iN .i64)) (lC (kY 117 (iN .i64)) (lU (kY 122 (sL 3)) rfl (lC Alk (lO Alm))))))))))))))))) (lC Co Xo)
abbrev E.q61_l12_oe12:Enc St:=sT 14 (lU A5 rfl (lU Bt rfl (lU Gx rfl (lU U1 rfl (lU Xm rfl (lU Xn rfl (lC J2 (lC So (lC Abj (lC (kY 21 bB) At6)))))))))) (lC Co Xo)
abbrev E.q61_l10_i:Enc St:=sT 14 (lU A5 rfl (lU Bt rfl (lU Gx rfl (lU U1 rfl (lU Xm rfl (lU Xn rfl (lC J2 (lC So At6)))))))) (lC Co Xo)
abbrev E.q61_l10_oe10:Enc St:=sT 14 (lU A5 rfl (lU Bt rfl (lU Gx rfl (lU U1 rfl (lU Xm rfl (lU Xn rfl (lC J2 (lO So)))))))) (lC Co Xo)
abbrev E.q61_l8_i:Enc St:=sT 14 (lU A5 rfl (lU Bt rfl (lU Gx rfl (lU U1 rfl (lU Xm rfl (lU Xn rfl (lO J2))))))) (lC Co Xo)
abbrev E.q61_l8_oe8:Enc St:=sR 14 (lU A5 rfl (lU Bt rfl (lU Gx rfl (lU U1 rfl (lU Xm rfl (lU Xn rfl (lN (Nat×AV)))))))) rfl (lC Co Xo)
abbrev E.q61_l16_i:Enc St:=sT 14 (lU A5 rfl (lU Bt rfl (lU (kY 10 (sL 2)) rfl (lU Al2 rfl (lU (kY 16 (sL 4)) rfl (lC (kY 24 (iN .i64)) (lC (kY 25 (iN .i64)) (lU (kY 158 (sL 5)) rfl (lC (kY 159 (iN .i64)) (lC (kY 160 (iN .i64)) (lU (kY 165 (sL 4)) rfl (lC (kY 166 (iN .i64)) (lO (kY 167 (iN .i64))))))))))))))) (lC Co Al3)
abbrev E.q61_l16_oe16:Enc St:=sT 14 (lU A5 rfl (lU Bt rfl (lU (kY 10 (sL 2)) rfl (lU Al2 rfl (lU (kY 16 (sL 4)) rfl (lC (kY 25 (iN .i64)) At7)))))) (lC Co Al3)
abbrev E.q61_l14_i:Enc St:=sT 14 (lU A5 rfl (lU Bt rfl (lU (kY 10 (sL 2)) rfl (lU Al2 rfl (lU (kY 16 (sL 4)) rfl At7))))) (lC Co Al3)
abbrev E.q61_l14_oe14:Enc St:=sR 10 (lU C8 rfl (lU (kY 15 (pB 1 0)) rfl (lN (Nat×AV)))) rfl Al4
abbrev E.q61_a:Enc (List AV×List Blk):=bQ (lO (aG Nn)) (lN Blk) rfl
abbrev E.q61_r:Enc (AV×List (Option Blk)×List Blk):=bO Al5 (bS (lN (Option Blk)) rfl (lC Am Lf))
def T.q61(N:Nat):As R:={f:=53,arg:=E.q61_a,res:=E.q61_r,fn:=F.rp N}
def H.q61:A1:={lp:=[(0,[1,2,3,4,5,41,42,43],[1,2,5]),(2,[1,2,3,4,5,6,7,8,41,42,43],[1,2,3,4,5,7,8,41,42,43]),(4,[1,2,5,9,10,11],[1,2,9,10]),(6,[1,2,5,9,10,11,12,13],[1,2,5,9,10,11,12]),(8,[1,2,9,10,15,16,17],[1,2,9,10,15,16]),(10,[1,2,9,10,15,16,17,18,115,116,117],[1,2,9,10,15,16,17,18]),(12,[1,2,9,10,15,16,17,18,19,20,21,115,116,117,122,123,124],[1,2,9,10,15,16,17,18,19,21,115,116,117]),(14,[1,2,10,15,16,158,159,160],[2,15]),(16,[1,2,10,15,16,24,25,158,159,160,165,166,167],[1,2,10,15,16,25,158,159,160])]}
theorem WF.f53:Bc Try.prog 53 Try.f53:=Ap Try.func53 (by decide) (by kernel_rfl)
def TL.q61_l2(N:Nat):An R:={b:=2,st:=E.q61_l2_i,fn:=λ d k=>lp (F.il N) N d (λ y=>k (.exit 2) (E.q61_l2_oe2.to y))}
theorem LK.q61_l2(N:Nat):Ai Try.prog 0 Try.f53.ntmps (bodyOf Try.f53) (TL.q61_l2 (R:=R) N):=
 Ah (i:=[1,2,3,4,5,6,7,8,41,42,43]) (o:=[1,2,3,4,5,7,8,41,42,43]) (h:=H.q61) hC hm Ac WF.f53 Ab (by kernel_rfl) (λ d=>Ak rfl) N (F.il N) _ (λ _ _=>rfl) (λ _ _ _=>by kernel_rfl)
def TL.q61_l0(N:Nat):An R:={b:=0,st:=E.q61_l0_i,fn:=λ d k=>lp (F.im N) N d (λ y=>k (.exit 0) (E.q61_l0_oe0.to y))}
theorem LK.q61_l0(N:Nat):Ai Try.prog 0 Try.f53.ntmps (bodyOf Try.f53) (TL.q61_l0 (R:=R) N):=
 Ah (i:=[1,2,3,4,5,41,42,43]) (o:=[1,2,5]) (h:=H.q61) hC hm Ac WF.f53 (Ag (LK.q61_l2 N) Ab) (by kernel_rfl) (λ d=>Ak rfl) N (F.im N) _ (λ _ _=>rfl) (λ _ _ _=>by kernel_rfl)
def TL.q61_l6(N:Nat):An R:={b:=6,st:=E.q61_l6_i,fn:=λ d k=>lp (F.io N) N d (λ y=>k (.exit 6) (E.q61_l6_oe6.to y))}
theorem LK.q61_l6(N:Nat):Ai Try.prog 0 Try.f53.ntmps (bodyOf Try.f53) (TL.q61_l6 (R:=R) N):=
 Ah (i:=[1,2,5,9,10,11,12,13]) (o:=[1,2,5,9,10,11,12]) (h:=H.q61) hC hm (Ad TK.q60 (Ad (TK.q57 N) Ac)) WF.f53 Ab (by kernel_rfl) (λ d=>Ak rfl) N (F.io N) _ (λ _ _=>rfl) (λ _ _ _=>by kernel_rfl)
def TL.q61_l4(N:Nat):An R:={b:=4,st:=E.q61_l4_i,fn:=λ d k=>lp (F.ip N) N d (λ y=>k (.exit 4) (E.q61_l4_oe4.to y))}
theorem LK.q61_l4(N:Nat):Ai Try.prog 0 Try.f53.ntmps (bodyOf Try.f53) (TL.q61_l4 (R:=R) N):=
 Ah (i:=[1,2,5,9,10,11]) (o:=[1,2,9,10]) (h:=H.q61) hC hm Ac WF.f53 (Ag (LK.q61_l6 N) Ab) (by kernel_rfl) (λ d=>Ak rfl) N (F.ip N) _ (λ _ _=>rfl) (λ _ _ _=>by kernel_rfl)
def TL.q61_l12(N:Nat):An R:={b:=12,st:=E.q61_l12_i,fn:=λ d k=>lp (F.ey N) N d (λ y=>k (.exit 12) (E.q61_l12_oe12.to y))}
theorem LK.q61_l12(N:Nat):Ai Try.prog 0 Try.f53.ntmps (bodyOf Try.f53) (TL.q61_l12 (R:=R) N):=
 Ah (i:=[1,2,9,10,15,16,17,18,19,20,21,115,116,117,122,123,124]) (o:=[1,2,9,10,15,16,17,18,19,21,115,116,117]) (h:=H.q61) hC hm Ac WF.f53 Ab (by kernel_rfl) (λ d=>Ak rfl) N (F.ey N) _ (λ _ _=>rfl) (λ _ _ _=>by kernel_rfl)
def TL.q61_l10(N:Nat):An R:={b:=10,st:=E.q61_l10_i,fn:=λ d k=>lp (F.fe N) N d (λ y=>k (.exit 10) (E.q61_l10_oe10.to y))}
theorem LK.q61_l10(N:Nat):Ai Try.prog 0 Try.f53.ntmps (bodyOf Try.f53) (TL.q61_l10 (R:=R) N):=
 Ah (i:=[1,2,9,10,15,16,17,18,115,116,117]) (o:=[1,2,9,10,15,16,17,18]) (h:=H.q61) hC hm Ac WF.f53 (Ag (LK.q61_l12 N) Ab) (by kernel_rfl) (λ d=>Ak rfl) N (F.fe N) _ (λ _ _=>rfl) (λ _ _ _=>by kernel_rfl)
def TL.q61_l8(N:Nat):An R:={b:=8,st:=E.q61_l8_i,fn:=λ d k=>lp (F.iq N) N d (λ y=>k (.exit 8) (E.q61_l8_oe8.to y))}
theorem LK.q61_l8(N:Nat):Ai Try.prog 0 Try.f53.ntmps (bodyOf Try.f53) (TL.q61_l8 (R:=R) N):=
 Ah (i:=[1,2,9,10,15,16,17]) (o:=[1,2,9,10,15,16]) (h:=H.q61) hC hm Ac WF.f53 (Ag (LK.q61_l10 N) Ab) (by kernel_rfl) (λ d=>Ak rfl) N (F.iq N) _ (λ _ _=>rfl) (λ _ _ _=>by kernel_rfl)
def TL.q61_l16(N:Nat):An R:={b:=16,st:=E.q61_l16_i,fn:=λ d k=>lp (F.ff N) N d (λ y=>k (.exit 16) (E.q61_l16_oe16.to y))}
theorem LK.q61_l16(N:Nat):Ai Try.prog 0 Try.f53.ntmps (bodyOf Try.f53) (TL.q61_l16 (R:=R) N):=
 Ah (i:=[1,2,10,15,16,24,25,158,159,160,165,166,167]) (o:=[1,2,10,15,16,25,158,159,160]) (h:=H.q61) hC hm Ac WF.f53 Ab (by kernel_rfl) (λ d=>Ak rfl) N (F.ff N) _ (λ _ _=>rfl) (λ _ _ _=>by kernel_rfl)
def TL.q61_l14(N:Nat):An R:={b:=14,st:=E.q61_l14_i,fn:=λ d k=>lp (F.fg N) N d (λ y=>k (.exit 14) (E.q61_l14_oe14.to y))}
theorem LK.q61_l14(N:Nat):Ai Try.prog 0 Try.f53.ntmps (bodyOf Try.f53) (TL.q61_l14 (R:=R) N):=
 Ah (i:=[1,2,10,15,16,158,159,160]) (o:=[2,15]) (h:=H.q61) hC hm Ac WF.f53 (Ag (LK.q61_l16 N) Ab) (by kernel_rfl) (λ d=>Ak rfl) N (F.fg N) _ (λ _ _=>rfl) (λ _ _ _=>by kernel_rfl)
theorem TK.q61(N:Nat):Aj Try.prog (T.q61 (R:=R) N):=
 Al (h:=H.q61) hC hm (Ad (TK.q56 N) (Ad (TK.q58 N) (Ad (TK.q59 N) Ac))) WF.f53 (λ d=>(Ag (LK.q61_l0 N) (Ag (LK.q61_l4 N) (Ag (LK.q61_l8 N) (Ag (LK.q61_l14 N) Ab))))) (λ _ _=>by kernel_rfl)
abbrev E.q62_l4_i:Enc St:=sT 16 (lC Dx (lU Pz rfl (lU Abt rfl (lU Abu rfl (lU Uv rfl (lU Ss rfl (lC C7 (lU (kY 14 (sL 5)) rfl (lC Sr (lC Kw Al6)))))))))) (lC (kY 0 Xl) Aub)
abbrev E.q62_l4_oe4:Enc St:=sT 16 (lC Dx (lU Pz rfl (lU Abt rfl (lU Abu rfl (lU Uv rfl (lU Ss rfl (lC C7 (lU (kY 14 (sL 5)) rfl (lC Sr Al6))))))))) (lC (kY 0 Xl) Aub)
abbrev E.q62_l2_i:Enc St:=sT 15 (lC Dx (lU Pz rfl (lU Abt rfl (lU Abu rfl (lU Uv rfl (lU Ss rfl (lC C7 Al6))))))) Al7
abbrev E.q62_l2_oe2:Enc St:=sT 15 (lC Dx (lU Pz rfl (lU Abt rfl (lU Abu rfl (lU Uv rfl (lU Ss rfl (lO C7))))))) Al7
abbrev E.q62_l0_i:Enc St:=sT 15 (lC Dx (lU Pz rfl (lU Abt rfl (lU Abu rfl (lU Uv rfl (lU Ss rfl (lO C7))))))) Al7
abbrev E.q62_l0_oe0:Enc St:=sR 10 (lU Pz rfl (lU (kY 5 uN) rfl (lU (kY 9 (pB 1 0)) rfl (lN (Nat×AV))))) rfl Al4
abbrev E.q62_l0_oret:Enc St:=sT 10 (lU Pz rfl (lR B1 (lU (kY 9 (pB 1 0)) rfl (lN (Nat×AV))) rfl)) Al4
abbrev E.q62_a:Enc (List AV×List Blk):=bQ (lC (fZ ki9) (lO (iN .i64))) (lN Blk) rfl
abbrev E.q62_r:Enc (AV×List (Option Blk)×List Blk):=bO (tP (lC Al5 (lO (iN .i64)))) (bS (lN (Option Blk)) rfl (lC Am Lf))
def T.q62(N:Nat):As R:={f:=32,arg:=E.q62_a,res:=E.q62_r,fn:=F.sn N}
def H.q62:A1:={lp:=[(0,[1,4,6,8,9,10,11],[4,5,9]),(2,[1,4,6,8,9,10,11,73,74,75],[1,4,6,8,9,10,11]),(4,[1,4,6,8,9,10,11,14,15,16,73,74,75],[1,4,6,8,9,10,11,14,15,73,74,75])]}
theorem WF.f32:Bc Try.prog 32 Try.f32:=Ap Try.func32 (by decide) (by kernel_rfl)
def TL.q62_l4(N:Nat):An R:={b:=4,st:=E.q62_l4_i,fn:=λ d k=>lp (F.jy N) N d (λ y=>k (.exit 4) (E.q62_l4_oe4.to y))}
theorem LK.q62_l4(N:Nat):Ai Try.prog 0 Try.f32.ntmps (bodyOf Try.f32) (TL.q62_l4 (R:=R) N):=
 Ah (i:=[1,4,6,8,9,10,11,14,15,16,73,74,75]) (o:=[1,4,6,8,9,10,11,14,15,73,74,75]) (h:=H.q62) A9 hm (Ad (TK.q54 N) Ac) WF.f32 Ab (by kernel_rfl) (λ d=>Ak rfl) N (F.jy N) _ (λ _ _=>rfl) (λ _ _ _=>by kernel_rfl)
def TL.q62_l2(N:Nat):An R:={b:=2,st:=E.q62_l2_i,fn:=λ d k=>lp (F.jz N) N d (λ y=>k (.exit 2) (E.q62_l2_oe2.to y))}
theorem LK.q62_l2(N:Nat):Ai Try.prog 0 Try.f32.ntmps (bodyOf Try.f32) (TL.q62_l2 (R:=R) N):=
 Ah (i:=[1,4,6,8,9,10,11,73,74,75]) (o:=[1,4,6,8,9,10,11]) (h:=H.q62) A9 hm (Ad (TK.q53 N) Ac) WF.f32 (Ag (LK.q62_l4 N) Ab) (by kernel_rfl) (λ d=>Ak rfl) N (F.jz N) _ (λ _ _=>rfl) (λ _ _ _=>by kernel_rfl)
def TL.q62_l0(N:Nat):An R:={b:=0,st:=E.q62_l0_i,fn:=λ d k=>lp (F.ka N) N d (λ y=>k (.exit 0) (E.q62_l0_oe0.to y),λ y=>k .ret (E.q62_l0_oret.to y))}
theorem LK.q62_l0(N:Nat):Ai Try.prog 0 Try.f32.ntmps (bodyOf Try.f32) (TL.q62_l0 (R:=R) N):=
 Ah (i:=[1,4,6,8,9,10,11]) (o:=[4,5,9]) (h:=H.q62) A9 hm (Ad (TK.q51 N) Ac) WF.f32 (Ag (LK.q62_l2 N) Ab) (by kernel_rfl) (λ d=>Ak rfl) N (F.ka N) _ (λ _ _=>rfl) (λ _ _ _=>by kernel_rfl)
theorem TK.q62(N:Nat):Aj Try.prog (T.q62 (R:=R) N):=
 Al (h:=H.q62) A9 hm (Ad TK.q15 (Ad (TK.q41 N) (Ad (TK.q46 N) (Ad (TK.q48 N) (Ad (TK.q61 N) Ac))))) WF.f32 (λ d=>(Ag (LK.q62_l0 N) Ab)) (λ _ _=>by kernel_rfl)
abbrev E.q63_l0_i:Enc St:=sT 12 (lU Bp rfl (lU Jj rfl (lU Dn rfl (lC B1 (lC Cb (lU U3 rfl (lO Ep))))))) (lC (kY 0 A7) U4)
abbrev E.q63_l0_oe0:Enc St:=sT 12 (lU Bp rfl (lU Jj rfl (lU Dn rfl (lC B1 (lR Cb (lU U3 rfl (lN (Nat×AV))) rfl))))) (lC (kY 0 A7) U4)
abbrev E.q63_l6_i:Enc St:=sT 12 (lU Bp rfl (lU Jj rfl (lU Dn rfl (lC B1 (lC Cb (lU U3 rfl (lC Di (lC Li (lO C7))))))))) (lC (kY 0 A7) U4)
abbrev E.q63_l6_oe6:Enc St:=sT 12 (lU Bp rfl (lU Jj rfl (lU Dn rfl (lC B1 (lC Cb (lU U3 rfl (lC Di (lO Li)))))))) (lC (kY 0 A7) U4)
abbrev E.q63_l4_i:Enc St:=sT 12 (lU Bp rfl (lU Jj rfl (lU Dn rfl (lC B1 (lC Cb (lU U3 rfl (lC Di (lO Li)))))))) (lC (kY 0 A7) U4)
abbrev E.q63_l4_oe4:Enc St:=sT 12 (lU Bp rfl (lU Jj rfl (lU Dn rfl (lC B1 (lC Cb (lU U3 rfl (lO Di))))))) (lC (kY 0 A7) U4)
abbrev E.q63_l2_i:Enc St:=sT 12 (lU Bp rfl (lU Jj rfl (lU Dn rfl (lC B1 (lC Cb (lU U3 rfl (lO Di))))))) (lC (kY 0 A7) U4)
abbrev E.q63_l2_oe2:Enc St:=sR 11 (lU Sq rfl (lU (kY 7 (pB 2 0)) rfl (lN (Nat×AV)))) rfl (lC (kY 0 A7) Gv)
abbrev E.q63_a:Enc (List AV×List Blk):=bO (lU (pB 0 0) rfl (lO (aG Nn))) (lO A7)
abbrev E.q63_r:Enc (AV×List (Option Blk)×List Blk):=bO Xi (bO (lO (sM A7)) (lC Am Lf))
def T.q63(N:Nat):As R:={f:=34,arg:=E.q63_a,res:=E.q63_r,fn:=F.pw N}
def H.q63:A1:={lp:=[(0,[0,3,4,5,6,7,8],[0,3,4,5,6,7]),(2,[0,3,4,5,6,7,9],[4,7]),(4,[0,3,4,5,6,7,9,10],[0,3,4,5,6,7,9]),(6,[0,3,4,5,6,7,9,10,11],[0,3,4,5,6,7,9,10])]}
theorem WF.f34:Bc Try.prog 34 Try.f34:=Ap Try.func34 (by decide) (by kernel_rfl)
def TL.q63_l0(N:Nat):An R:={b:=0,st:=E.q63_l0_i,fn:=λ d k=>lp (F.ir N) N d (λ y=>k (.exit 0) (E.q63_l0_oe0.to y))}
theorem LK.q63_l0(N:Nat):Ai Try.prog 1 Try.f34.ntmps (bodyOf Try.f34) (TL.q63_l0 (R:=R) N):=
 Ah (i:=[0,3,4,5,6,7,8]) (o:=[0,3,4,5,6,7]) (h:=H.q63) hC hm Ac WF.f34 Ab (by kernel_rfl) (λ d=>Ak rfl) N (F.ir N) _ (λ _ _=>rfl) (λ _ _ _=>by kernel_rfl)
def TL.q63_l6(N:Nat):An R:={b:=6,st:=E.q63_l6_i,fn:=λ d k=>lp (F.iu N) N d (λ y=>k (.exit 6) (E.q63_l6_oe6.to y))}
theorem LK.q63_l6(N:Nat):Ai Try.prog 1 Try.f34.ntmps (bodyOf Try.f34) (TL.q63_l6 (R:=R) N):=
 Ah (i:=[0,3,4,5,6,7,9,10,11]) (o:=[0,3,4,5,6,7,9,10]) (h:=H.q63) hC hm (Ad TK.q1 Ac) WF.f34 Ab (by kernel_rfl) (λ d=>Ak rfl) N (F.iu N) _ (λ _ _=>rfl) (λ _ _ _=>by kernel_rfl)
def TL.q63_l4(N:Nat):An R:={b:=4,st:=E.q63_l4_i,fn:=λ d k=>lp (F.iw N) N d (λ y=>k (.exit 4) (E.q63_l4_oe4.to y))}
theorem LK.q63_l4(N:Nat):Ai Try.prog 1 Try.f34.ntmps (bodyOf Try.f34) (TL.q63_l4 (R:=R) N):=
 Ah (i:=[0,3,4,5,6,7,9,10]) (o:=[0,3,4,5,6,7,9]) (h:=H.q63) hC hm Ac WF.f34 (Ag (LK.q63_l6 N) Ab) (by kernel_rfl) (λ d=>Ak rfl) N (F.iw N) _ (λ _ _=>rfl) (λ _ _ _=>by kernel_rfl)
def TL.q63_l2(N:Nat):An R:={b:=2,st:=E.q63_l2_i,fn:=λ d k=>lp (F.ix N) N d (λ y=>k (.exit 2) (E.q63_l2_oe2.to y))}
theorem LK.q63_l2(N:Nat):Ai Try.prog 1 Try.f34.ntmps (bodyOf Try.f34) (TL.q63_l2 (R:=R) N):=
 Ah (i:=[0,3,4,5,6,7,9]) (o:=[4,7]) (h:=H.q63) hC hm Ac WF.f34 (Ag (LK.q63_l4 N) Ab) (by kernel_rfl) (λ d=>Ak rfl) N (F.ix N) _ (λ _ _=>rfl) (λ _ _ _=>by kernel_rfl)
theorem TK.q63(N:Nat):Aj Try.prog (T.q63 (R:=R) N):=
 Al (h:=H.q63) hC hm (Ad TK.q1 Ac) WF.f34 (λ d=>(Ag (LK.q63_l0 N) (Ag (LK.q63_l2 N) Ab))) (λ _ _=>by kernel_rfl)
abbrev E.q64_j49:Enc St:=sT 11 (lU Bp rfl Alb) (lC (kY 0 A7) Gv)
abbrev E.q64_a:Enc (List AV×List Blk):=bS (lU (pB 0 0) rfl (lN AV)) rfl (lO A7)
abbrev E.q64_r:Enc (AV×List (Option Blk)×List Blk):=bO Xi (bO (lO (sM A7)) (lC Am Lf))
def T.q64(N:Nat):As R:={f:=16,arg:=E.q64_a,res:=E.q64_r,fn:=F.oj N}
def H.q64:A1:={lp:=[],jn:=[(49,[0,2,3,4],E.q64_j49)]}
theorem WF.f16:Bc Try.prog 16 Try.f16:=Ap Try.func16 (by decide) (by kernel_rfl)
theorem TK.q64(N:Nat):Aj Try.prog (T.q64 (R:=R) N):=
 Al (h:=H.q64) A9 hm (Ad TK.q1 (Ad (TK.q3 N) (Ad (TK.q35 N) (Ad (TK.q62 N) (Ad (TK.q63 N) Ac))))) WF.f16 (λ d=>Ab) (λ _ _=>by kernel_rfl)
abbrev E.q65_a:Enc (List AV×List Blk):=bQ (lO Bw) (lN Blk) rfl
abbrev E.q65_r:Enc (AV×List (Option Blk)×List Blk):=bS (sL 0) rfl (bS (lN (Option Blk)) rfl (lO Am))
def T.q65:As R:={f:=30,arg:=E.q65_a,res:=E.q65_r,fn:=F.cy}
def H.q65:A1:={lp:=[]}
theorem WF.f30:Bc Try.prog 30 Try.f30:=Ap Try.func30 (by decide) (by kernel_rfl)
theorem TK.q65:Aj Try.prog (T.q65 (R:=R)):=
 Al (h:=H.q65) hC hm Ac WF.f30 (λ d=>Ab) (λ _ _=>by kernel_rfl)
abbrev E.q66_a:Enc (List AV×List Blk):=bO (lU (pB 0 0) rfl (lO Xi)) (lC A7 (lC Am Lf))
abbrev E.q66_r:Enc (AV×List (Option Blk)×List Blk):=bO (aG (lU (sL 5) rfl Aty)) (bO (lC (sM A7) Auc) (lC Am Lf))
def T.q66:As R:={f:=15,arg:=E.q66_a,res:=E.q66_r,fn:=F.qg}
def H.q66:A1:={lp:=[]}
theorem WF.f15:Bc Try.prog 15 Try.f15:=Ap Try.func15 (by decide) (by kernel_rfl)
theorem TK.q66:Aj Try.prog (T.q66 (R:=R)):=
 Al (h:=H.q66) hC hm (Ad TK.q65 (Ad TK.q1 Ac)) WF.f15 (λ d=>Ab) (λ _ _=>by kernel_rfl)
abbrev E.q67_l0_i:Enc St:=sT 11 (lU Bp rfl (lU Bt rfl (lC Bu (lU Dn rfl (lO B1))))) (lC (kY 0 A7) Gv)
abbrev E.q67_l0_oe0:Enc St:=sT 11 (lU Bp rfl Alb) (lC (kY 0 A7) Gv)
abbrev E.q67_l4_i:Enc St:=sT 11 (lU Bt rfl (lC Bu (lU Dn rfl (lC Cb (lC Bv (lO Ep)))))) (lC (kY 0 A7) Gv)
abbrev E.q67_l4_oe4:Enc St:=sT 11 (lU Bt rfl (lC Bu (lU Dn rfl (lC Cb (lO Bv))))) (lC (kY 0 A7) Gv)
abbrev E.q67_l2_i:Enc St:=sT 11 (lU Bt rfl (lC Bu (lU Dn rfl (lC Cb (lO Bv))))) (lC (kY 0 A7) Gv)
abbrev E.q67_l2_oe2:Enc St:=sR 11 (lU Bt rfl Age) rfl (lC (kY 0 A7) Gv)
abbrev E.q67_j34:Enc St:=sT 11 (lU Bt rfl (lC Bu (lU Dn rfl (lC Cb (lC Bv (lC Ep (lC Di (lO (kY 48 bB))))))))) (lC (kY 0 A7) Gv)
abbrev E.q67_a:Enc (List AV×List Blk):=bS (lU (pB 0 0) rfl (lN AV)) rfl (lO A7)
abbrev E.q67_r:Enc (AV×List (Option Blk)×List Blk):=bO Xi (bO (lO (sM A7)) (lC Am Lf))
def T.q67(N:Nat):As R:={f:=18,arg:=E.q67_a,res:=E.q67_r,fn:=F.qv N}
def H.q67:A1:={lp:=[(0,[0,2,3,4,5],[0,2,3,4]),(2,[2,3,4,6,7],[2,4]),(4,[2,3,4,6,7,8],[2,3,4,6,7])],jn:=[(34,[2,3,4,6,7,8,9,48],E.q67_j34)]}
theorem WF.f18:Bc Try.prog 18 Try.f18:=Ap Try.func18 (by decide) (by kernel_rfl)
def TL.q67_l0(N:Nat):An R:={b:=0,st:=E.q67_l0_i,fn:=λ d k=>lp (F.fh N) N d (λ y=>k (.exit 0) (E.q67_l0_oe0.to y))}
theorem LK.q67_l0(N:Nat):Ai Try.prog 1 Try.f18.ntmps (bodyOf Try.f18) (TL.q67_l0 (R:=R) N):=
 Ah (i:=[0,2,3,4,5]) (o:=[0,2,3,4]) (h:=H.q67) hC hm Ac WF.f18 Ab (by kernel_rfl) (λ d=>Ak rfl) N (F.fh N) _ (λ _ _=>rfl) (λ _ _ _=>by kernel_rfl)
def TL.q67_l4(N:Nat):An R:={b:=4,st:=E.q67_l4_i,fn:=λ d k=>lp (F.fj N) N d (λ y=>k (.exit 4) (E.q67_l4_oe4.to y))}
theorem LK.q67_l4(N:Nat):Ai Try.prog 1 Try.f18.ntmps (bodyOf Try.f18) (TL.q67_l4 (R:=R) N):=
 Ah (i:=[2,3,4,6,7,8]) (o:=[2,3,4,6,7]) (h:=H.q67) hC hm Ac WF.f18 Ab (by kernel_rfl) (λ d=>Ak rfl) N (F.fj N) _ (λ _ _=>rfl) (λ _ _ _=>by kernel_rfl)
def TL.q67_l2(N:Nat):An R:={b:=2,st:=E.q67_l2_i,fn:=λ d k=>lp (F.fm N) N d (λ y=>k (.exit 2) (E.q67_l2_oe2.to y))}
theorem LK.q67_l2(N:Nat):Ai Try.prog 1 Try.f18.ntmps (bodyOf Try.f18) (TL.q67_l2 (R:=R) N):=
 Ah (i:=[2,3,4,6,7]) (o:=[2,4]) (h:=H.q67) hC hm Ac WF.f18 (Ag (LK.q67_l4 N) Ab) (by kernel_rfl) (λ d=>Ak rfl) N (F.fm N) _ (λ _ _=>rfl) (λ _ _ _=>by kernel_rfl)
theorem TK.q67(N:Nat):Aj Try.prog (T.q67 (R:=R) N):=
 Al (h:=H.q67) hC hm (Ad TK.q1 Ac) WF.f18 (λ d=>(Ag (LK.q67_l0 N) (Ag (LK.q67_l2 N) Ab))) (λ _ _=>by kernel_rfl)
abbrev E.q68_l0_i:Enc St:=sT 11 (lU Bp rfl (lU Bt rfl (lU Dn rfl (lO B1)))) (lC (kY 0 A7) Gv)
abbrev E.q68_l0_oe0:Enc St:=sR 11 (lU Bp rfl (lU Bt rfl Age)) rfl (lC (kY 0 A7) Gv)
abbrev E.q68_a:Enc (List AV×List Blk):=bS (lU (pB 0 0) rfl (lN AV)) rfl (lO A7)
abbrev E.q68_r:Enc (AV×List (Option Blk)×List Blk):=bO Xi (bO (lO (sM A7)) (lC Am Lf))
def T.q68(N:Nat):As R:={f:=19,arg:=E.q68_a,res:=E.q68_r,fn:=F.rq N}
def H.q68:A1:={lp:=[(0,[0,2,4,5],[0,2,4])]}
theorem WF.f19:Bc Try.prog 19 Try.f19:=Ap Try.func19 (by decide) (by kernel_rfl)
def TL.q68_l0(N:Nat):An R:={b:=0,st:=E.q68_l0_i,fn:=λ d k=>lp (F.iy N) N d (λ y=>k (.exit 0) (E.q68_l0_oe0.to y))}
theorem LK.q68_l0(N:Nat):Ai Try.prog 1 Try.f19.ntmps (bodyOf Try.f19) (TL.q68_l0 (R:=R) N):=
 Ah (i:=[0,2,4,5]) (o:=[0,2,4]) (h:=H.q68) hC hm (Ad TK.q1 Ac) WF.f19 Ab (by kernel_rfl) (λ d=>Ak rfl) N (F.iy N) _ (λ _ _=>rfl) (λ _ _ _=>by kernel_rfl)
theorem TK.q68(N:Nat):Aj Try.prog (T.q68 (R:=R) N):=
 Al (h:=H.q68) hC hm (Ad TK.q1 Ac) WF.f19 (λ d=>(Ag (LK.q68_l0 N) Ab)) (λ _ _=>by kernel_rfl)
abbrev E.q69_a:Enc (List AV×List Blk):=bQ (lO en0) (lN Blk) rfl
abbrev E.q69_r:Enc (AV×List (Option Blk)×List Blk):=bO Al5 (bS (lN (Option Blk)) rfl (lC Am Lf))
def T.q69(N:Nat):As R:={f:=4,arg:=E.q69_a,res:=E.q69_r,fn:=F.ma N}
def H.q69:A1:={lp:=[]}
theorem WF.f4:Bc Try.prog 4 Try.f4:=Ap Try.func4 (by decide) (by kernel_rfl)
theorem TK.q69(N:Nat):Aj Try.prog (T.q69 (R:=R) N):=
 Al (h:=H.q69) hC hm (Ad TK.q2 (Ad (TK.q64 N) (Ad TK.q66 (Ad TK.q1 (Ad (TK.q67 N) (Ad (TK.q68 N) Ac)))))) WF.f4 (λ d=>Ab) (λ _ _=>by kernel_rfl)
abbrev E.q70_l2_i:Enc St:=sQ 0 (lC (kY 0 Bw) (lC Bu (lC C6 (lC Cb (lC Bv (lC (kY 10 Bw) (lC C7 (lC Ho (lC (kY 16 Bw) (lC J2 (lO So))))))))))) (lN (Nat×Blk)) rfl
abbrev E.q70_l2_oe2:Enc St:=sQ 0 (lC (kY 0 Bw) (lC Bu (lC C6 (lC Cb (lC Bv Aud))))) (lN (Nat×Blk)) rfl
abbrev E.q70_l0_i:Enc St:=sQ 0 (lC (kY 0 Bw) (lC Bu (lC C6 Aud))) (lN (Nat×Blk)) rfl
abbrev E.q70_l0_oe0:Enc St:=sQ 0 (lO Bu) (lN (Nat×Blk)) rfl
abbrev E.q70_a:Enc (List AV×List Blk):=bQ (lO Bw) (lN Blk) rfl
abbrev E.q70_r:Enc (AV×List (Option Blk)×List Blk):=bQ (iN .i64) (bS (lN (Option Blk)) rfl (lN Blk)) rfl
def T.q70(N:Nat):As R:={f:=21,arg:=E.q70_a,res:=E.q70_r,fn:=F.qw N}
def H.q70:A1:={lp:=[(0,[0,3,4,10,11,12],[3]),(2,[0,3,4,6,7,10,11,12,16,17,18],[0,3,4,6,7,10,11,12])]}
theorem WF.f21:Bc Try.prog 21 Try.f21:=Ap Try.func21 (by decide) (by kernel_rfl)
def TL.q70_l2(N:Nat):An R:={b:=2,st:=E.q70_l2_i,fn:=λ d k=>lp (F.ft N) N d (λ y=>k (.exit 2) (E.q70_l2_oe2.to y))}
theorem LK.q70_l2(N:Nat):Ai Try.prog 0 Try.f21.ntmps (bodyOf Try.f21) (TL.q70_l2 (R:=R) N):=
 Ah (i:=[0,3,4,6,7,10,11,12,16,17,18]) (o:=[0,3,4,6,7,10,11,12]) (h:=H.q70) hC hm Ac WF.f21 Ab (by kernel_rfl) (λ d=>Ak rfl) N (F.ft N) _ (λ _ _=>rfl) (λ _ _ _=>by kernel_rfl)
def TL.q70_l0(N:Nat):An R:={b:=0,st:=E.q70_l0_i,fn:=λ d k=>lp (F.fu N) N d (λ y=>k (.exit 0) (E.q70_l0_oe0.to y))}
theorem LK.q70_l0(N:Nat):Ai Try.prog 0 Try.f21.ntmps (bodyOf Try.f21) (TL.q70_l0 (R:=R) N):=
 Ah (i:=[0,3,4,10,11,12]) (o:=[3]) (h:=H.q70) hC hm Ac WF.f21 (Ag (LK.q70_l2 N) Ab) (by kernel_rfl) (λ d=>Ak rfl) N (F.fu N) _ (λ _ _=>rfl) (λ _ _ _=>by kernel_rfl)
theorem TK.q70(N:Nat):Aj Try.prog (T.q70 (R:=R) N):=
 Al (h:=H.q70) hC hm Ac WF.f21 (λ d=>(Ag (LK.q70_l0 N) Ab)) (λ _ _=>by kernel_rfl)
abbrev E.q71_a:Enc (List AV×List Blk):=bQ Abo (lN Blk) rfl
abbrev E.q71_r:Enc (AV×List (Option Blk)×List Blk):=bQ bB (bS (lN (Option Blk)) rfl (lN Blk)) rfl
def T.q71:As R:={f:=22,arg:=E.q71_a,res:=E.q71_r,fn:=F.tc}
def H.q71:A1:={lp:=[]}
theorem WF.f22:Bc Try.prog 22 Try.f22:=Ap Try.func22 (by decide) (by kernel_rfl)
theorem TK.q71:Aj Try.prog (T.q71 (R:=R)):=
 Al (h:=H.q71) hC hm Ac WF.f22 (λ d=>Ab) (λ _ _=>by kernel_rfl)
abbrev E.q72_l2_i:Enc St:=sT 18 (lU A5 rfl (lU Bt rfl (lU Dn rfl (lC B1 (lC (kY 6 Bw) (lC Bv (lU Xp rfl (lC No (lC Np (lC (kY 69 Bw) (lC (kY 70 (iN .i64)) (lO (kY 71 (iN .i64)))))))))))))) (lC Co P4)
abbrev E.q72_l2_oe2:Enc St:=sT 18 (lU A5 rfl (lU Bt rfl (lU Dn rfl (lC B1 (lC (kY 6 Bw) (lU Xp rfl (lC No (lO Np)))))))) (lC Co P4)
abbrev E.q72_l6_i:Enc St:=sT 18 (lU A5 rfl (lU Bt rfl (lU Dn rfl (lC B1 (lC (kY 6 Bw) (lU Xp rfl (lC C7 (lC (kY 12 bB) (lC No (lC Np (lU (kY 94 (sL 3)) rfl (lC (kY 95 (iN .i64)) (lO (kY 96 (iN .i64))))))))))))))) (lC Co P4)
abbrev E.q72_l6_oe6:Enc St:=sT 18 (lU A5 rfl (lU Bt rfl (lU Dn rfl (lC B1 (lC (kY 6 Bw) (lU Xp rfl (lC C7 (lC (kY 12 bB) (lC No (lO Np)))))))))) (lC Co P4)
abbrev E.q72_l4_i:Enc St:=sT 18 (lU A5 rfl (lU Bt rfl (lU Dn rfl (lC B1 (lC (kY 6 Bw) (lU Xp rfl (lC C7 (lC (kY 12 bB) (lC No (lO Np)))))))))) (lC Co P4)
abbrev E.q72_l4_oe4:Enc St:=sT 18 (lU A5 rfl (lU Bt rfl (lU Dn rfl (lC B1 (lC (kY 6 Bw) (lU Xp rfl (lC C7 (lC No (lO Np))))))))) (lC Co P4)
abbrev E.q72_l10_i:Enc St:=sT 18 (lU A5 rfl (lU Bt rfl (lU Dn rfl (lC B1 (lC (kY 6 Bw) (lC C7 (lC Kw (lC No (lC Np Agm))))))))) (lC Co P4)
abbrev E.q72_l10_oe10:Enc St:=sT 18 (lU A5 rfl (lU Bt rfl (lU Dn rfl (lC B1 (lC (kY 6 Bw) (lC C7 (lC Kw (lC No (lC Np Agm))))))))) (lC Co P4)
abbrev E.q72_l8_i:Enc St:=sT 18 (lU A5 rfl (lU Bt rfl (lU Dn rfl (lC B1 (lC (kY 6 Bw) (lC C7 (lC No (lC Np Agm)))))))) (lC Co P4)
abbrev E.q72_l8_oe8:Enc St:=sT 17 (lU A5 rfl (lU Bt rfl (lU Uu rfl Agp))) Aem
abbrev E.q72_l8_oret:Enc St:=sT 17 (lU A5 rfl (lU Bt rfl (lC Bu Agp))) Aem
abbrev E.q72_l0_i:Enc St:=sT 17 (lU A5 rfl (lU Bt rfl Agp)) Aem
abbrev E.q72_l0_oe0:Enc St:=sR 16 (lU C8 rfl (lU Uu rfl (lU Sq rfl (lN (Nat×AV))))) rfl (lC Ze Akt)
abbrev E.q72_l0_oret:Enc St:=sT 16 (lU C8 rfl (lR Bu (lU Sq rfl (lN (Nat×AV))) rfl)) (lC Ze Akt)
abbrev E.q72_a:Enc (List AV×List Blk):=bQ (lO (aG Nn)) (lN Blk) rfl
abbrev E.q72_r:Enc (AV×List (Option Blk)×List Blk):=bO (tP Aku) (bS (lN (Option Blk)) rfl Lc)
def T.q72(N:Nat):As R:={f:=5,arg:=E.q72_a,res:=E.q72_r,fn:=F.tu N}
def H.q72:A1:={lp:=[(0,[1,2,4,44,45],[2,3,4]),(2,[1,2,4,5,6,7,8,44,45,69,70,71],[1,2,4,5,6,8,44,45]),(4,[1,2,4,5,6,8,11,12,44,45],[1,2,4,5,6,8,11,44,45]),(6,[1,2,4,5,6,8,11,12,44,45,94,95,96],[1,2,4,5,6,8,11,12,44,45]),(8,[1,2,4,5,6,11,44,45,118,119,120],[1,2,3,4,44,45]),(10,[1,2,4,5,6,11,16,44,45,118,119,120],[1,2,4,5,6,11,16,44,45,118,119,120])]}
theorem WF.f5:Bc Try.prog 5 Try.f5:=Ap Try.func5 (by decide) (by kernel_rfl)
def TL.q72_l2(N:Nat):An R:={b:=2,st:=E.q72_l2_i,fn:=λ d k=>lp (F.om N) N d (λ y=>k (.exit 2) (E.q72_l2_oe2.to y))}
theorem LK.q72_l2(N:Nat):Ai Try.prog 0 Try.f5.ntmps (bodyOf Try.f5) (TL.q72_l2 (R:=R) N):=
 Ah (i:=[1,2,4,5,6,7,8,44,45,69,70,71]) (o:=[1,2,4,5,6,8,44,45]) (h:=H.q72) hC hm Ac WF.f5 Ab (by kernel_rfl) (λ d=>Ak rfl) N (F.om N) _ (λ _ _=>rfl) (λ _ _ _=>by kernel_rfl)
def TL.q72_l6(N:Nat):An R:={b:=6,st:=E.q72_l6_i,fn:=λ d k=>lp (F.oo N) N d (λ y=>k (.exit 6) (E.q72_l6_oe6.to y))}
theorem LK.q72_l6(N:Nat):Ai Try.prog 0 Try.f5.ntmps (bodyOf Try.f5) (TL.q72_l6 (R:=R) N):=
 Ah (i:=[1,2,4,5,6,8,11,12,44,45,94,95,96]) (o:=[1,2,4,5,6,8,11,12,44,45]) (h:=H.q72) hC hm (Ad TK.q71 Ac) WF.f5 Ab (by kernel_rfl) (λ d=>Ak rfl) N (F.oo N) _ (λ _ _=>rfl) (λ _ _ _=>by kernel_rfl)
def TL.q72_l4(N:Nat):An R:={b:=4,st:=E.q72_l4_i,fn:=λ d k=>lp (F.km N) N d (λ y=>k (.exit 4) (E.q72_l4_oe4.to y))}
theorem LK.q72_l4(N:Nat):Ai Try.prog 0 Try.f5.ntmps (bodyOf Try.f5) (TL.q72_l4 (R:=R) N):=
 Ah (i:=[1,2,4,5,6,8,11,12,44,45]) (o:=[1,2,4,5,6,8,11,44,45]) (h:=H.q72) hC hm Ac WF.f5 (Ag (LK.q72_l6 N) Ab) (by kernel_rfl) (λ d=>Ak rfl) N (F.km N) _ (λ _ _=>rfl) (λ _ _ _=>by kernel_rfl)
def TL.q72_l10(N:Nat):An R:={b:=10,st:=E.q72_l10_i,fn:=λ d k=>lp (F.my N) N d (λ y=>k (.exit 10) (E.q72_l10_oe10.to y))}
theorem LK.q72_l10(N:Nat):Ai Try.prog 0 Try.f5.ntmps (bodyOf Try.f5) (TL.q72_l10 (R:=R) N):=
 Ah (i:=[1,2,4,5,6,11,16,44,45,118,119,120]) (o:=[1,2,4,5,6,11,16,44,45,118,119,120]) (h:=H.q72) hC hm Ac WF.f5 Ab (by kernel_rfl) (λ d=>Ak rfl) N (F.my N) _ (λ _ _=>rfl) (λ _ _ _=>by kernel_rfl)
def TL.q72_l8(N:Nat):An R:={b:=8,st:=E.q72_l8_i,fn:=λ d k=>lp (F.ou N) N d (λ y=>k (.exit 8) (E.q72_l8_oe8.to y),λ y=>k .ret (E.q72_l8_oret.to y))}
theorem LK.q72_l8(N:Nat):Ai Try.prog 0 Try.f5.ntmps (bodyOf Try.f5) (TL.q72_l8 (R:=R) N):=
 Ah (i:=[1,2,4,5,6,11,44,45,118,119,120]) (o:=[1,2,3,4,44,45]) (h:=H.q72) hC hm Ac WF.f5 (Ag (LK.q72_l10 N) Ab) (by kernel_rfl) (λ d=>Ak rfl) N (F.ou N) _ (λ _ _=>rfl) (λ _ _ _=>by kernel_rfl)
def TL.q72_l0(N:Nat):An R:={b:=0,st:=E.q72_l0_i,fn:=λ d k=>lp (F.ov N) N d (λ y=>k (.exit 0) (E.q72_l0_oe0.to y),λ y=>k .ret (E.q72_l0_oret.to y))}
theorem LK.q72_l0(N:Nat):Ai Try.prog 0 Try.f5.ntmps (bodyOf Try.f5) (TL.q72_l0 (R:=R) N):=
 Ah (i:=[1,2,4,44,45]) (o:=[2,3,4]) (h:=H.q72) hC hm (Ad (TK.q70 N) Ac) WF.f5 (Ag (LK.q72_l2 N) (Ag (LK.q72_l4 N) (Ag (LK.q72_l8 N) Ab))) (by kernel_rfl) (λ d=>Ak rfl) N (F.ov N) _ (λ _ _=>rfl) (λ _ _ _=>by kernel_rfl)
theorem TK.q72(N:Nat):Aj Try.prog (T.q72 (R:=R) N):=
 Al (h:=H.q72) hC hm (Ad (TK.q56 N) Ac) WF.f5 (λ d=>(Ag (LK.q72_l0 N) Ab)) (λ _ _=>by kernel_rfl)
abbrev E.q73_a:Enc (List AV×List Blk):=bQ (lC (iN .i64) (lC (pR 0 0 (lO (iN .i64))) (lO (pR 0 0 (lO (iN .i64)))))) (lN Blk) rfl
abbrev E.q73_r:Enc (AV×List (Option Blk)×List Blk):=bQ bB (bS (lN (Option Blk)) rfl (lN Blk)) rfl
def T.q73:As R:={f:=40,arg:=E.q73_a,res:=E.q73_r,fn:=F.qx}
def H.q73:A1:={lp:=[]}
theorem WF.f40:Bc Try.prog 40 Try.f40:=Ap Try.func40 (by decide) (by kernel_rfl)
theorem TK.q73:Aj Try.prog (T.q73 (R:=R)):=
 Al (h:=H.q73) hC hm Ac WF.f40 (λ d=>Ab) (λ _ _=>by kernel_rfl)
abbrev E.q74_l0_i:Enc St:=sT 2 (lC (kY 0 D4) (lU (kY 1 (fN 40 (lU (pB 0 0) rfl (lU (pB 1 0) rfl (lN AV))))) rfl (lC Bv (lO Ep)))) (lC (kY 0 Hz) (lO (kY 1 Hz)))
abbrev E.q74_l0_oe0:Enc St:=sR 2 Sp rfl (lC (kY 0 Hz) (lO (kY 1 Hz)))
abbrev E.q74_l0_oret:Enc St:=sT 2 (lO C6) (lC (kY 0 Hz) (lO (kY 1 Hz)))
abbrev E.q74_a:Enc (List AV×List Blk):=bO Akv (lC Hz (lO Hz))
abbrev E.q74_r:Enc (AV×List (Option Blk)×List Blk):=bO (iN .i64) (bQ Akw (lN Blk) rfl)
def T.q74(N:Nat):As R:={f:=58,arg:=E.q74_a,res:=E.q74_r,fn:=F.rx N}
def H.q74:A1:={lp:=[(0,[0,1,7,8],[4])]}
theorem WF.f58:Bc Try.prog 58 Try.f58:=Ap Try.func58 (by decide) (by kernel_rfl)
def TL.q74_l0(N:Nat):An R:={b:=0,st:=E.q74_l0_i,fn:=λ d k=>lp (F.ce N) N d (λ y=>k (.exit 0) (E.q74_l0_oe0.to y),λ y=>k .ret (E.q74_l0_oret.to y))}
theorem LK.q74_l0(N:Nat):Ai Try.prog 2 Try.f58.ntmps (bodyOf Try.f58) (TL.q74_l0 (R:=R) N):=
 Ah (i:=[0,1,7,8]) (o:=[4]) (h:=H.q74) hC hm (Ad TK.q73 Ac) WF.f58 Ab (by kernel_rfl) (λ d=>Ak rfl) N (F.ce N) _ (λ _ _=>rfl) (λ _ _ _=>by kernel_rfl)
theorem TK.q74(N:Nat):Aj Try.prog (T.q74 (R:=R) N):=
 Al (h:=H.q74) hC hm Ac WF.f58 (λ d=>(Ag (LK.q74_l0 N) Ab)) (λ _ _=>by kernel_rfl)
abbrev E.q75_a:Enc (List AV×List Blk):=bO Akv (lC Hz (lO Hz))
abbrev E.q75_r:Enc (AV×List (Option Blk)×List Blk):=bO bB (bQ Akw (lN Blk) rfl)
def T.q75(N:Nat):As R:={f:=39,arg:=E.q75_a,res:=E.q75_r,fn:=F.py N}
def H.q75:A1:={lp:=[]}
theorem WF.f39:Bc Try.prog 39 Try.f39:=Ap Try.func39 (by decide) (by kernel_rfl)
theorem TK.q75(N:Nat):Aj Try.prog (T.q75 (R:=R) N):=
 Al (h:=H.q75) hC hm (Ad (TK.q74 N) Ac) WF.f39 (λ d=>Ab) (λ _ _=>by kernel_rfl)
abbrev E.q76_a:Enc (List AV×List Blk):=bQ (lC D4 Hl) (lN Blk) rfl
abbrev E.q76_r:Enc (AV×List (Option Blk)×List Blk):=bQ bB (bS (lN (Option Blk)) rfl (lN Blk)) rfl
def T.q76(N:Nat):As R:={f:=38,arg:=E.q76_a,res:=E.q76_r,fn:=F.lf N}
def H.q76:A1:={lp:=[]}
theorem WF.f38:Bc Try.prog 38 Try.f38:=Ap Try.func38 (by decide) (by kernel_rfl)
theorem TK.q76(N:Nat):Aj Try.prog (T.q76 (R:=R) N):=
 Al (h:=H.q76) hC hm (Ad (TK.q75 N) Ac) WF.f38 (λ d=>Ab) (λ _ _=>by kernel_rfl)
abbrev E.q77_j4:Enc St:=sT 1 (lU A5 rfl (lC Bu (lO (kY 46 bB)))) (lO (kY 0 (cE Aky)))
abbrev E.q77_a:Enc (List AV×List Blk):=bQ (lO (aG Aky)) (lN Blk) rfl
abbrev E.q77_r:Enc (AV×List (Option Blk)×List Blk):=bQ bB (bS (lN (Option Blk)) rfl (lN Blk)) rfl
def T.q77(N:Nat):As R:={f:=23,arg:=E.q77_a,res:=E.q77_r,fn:=F.kh N}
def H.q77:A1:={lp:=[],jn:=[(4,[1,3,46],E.q77_j4)]}
theorem WF.f23:Bc Try.prog 23 Try.f23:=Ap Try.func23 (by decide) (by kernel_rfl)
theorem TK.q77(N:Nat):Aj Try.prog (T.q77 (R:=R) N):=
 Al (h:=H.q77) hC hm (Ad (TK.q76 N) Ac) WF.f23 (λ d=>Ab) (λ _ _=>by kernel_rfl)
abbrev E.q78_l0_i:Enc St:=sT 1 (aL [(kY 3 (mP 0)),(kY 4 (iN .i64)),(kY 10 D4),(kY 11 (iN .i64)),(kY 12 (iN .i64))]) (aL [(kY 0 Aeo)])
abbrev E.q78_l0_oe0:Enc St:=sT 1 (aL [(kY 3 (mP 0)),(kY 4 (iN .i64))]) (aL [(kY 0 Aeo)])
abbrev E.q78_l2_i:Enc St:=sT 2 (aL [(kY 3 (mP 0)),(kY 4 (iN .i64)),(kY 22 (pB 1 0))]) (aL [(kY 0 Aeo),(kY 1 (Enc.iter 0))])
abbrev E.q78_l2_oe2:Enc St:=sT 0 (aL [(kY 4 (iN .i64))]) (aL [])
abbrev E.q78_a:Enc (List AV×List Blk):=bO (vA [D4]) (aL [])
abbrev E.q78_r:Enc (AV×List (Option Blk)×List Blk):=bO (iN .i64) (bO (aL []) (aL []))
def T.q78(N:Nat):As R:={f:=41,arg:=E.q78_a,res:=E.q78_r,fn:=λ d k=>F.qy N d.1.1 (λ x0=>k (x0,((),())))}
def H.q78:A1:={lp:=[(0,[3,4,10,11,12],[3,4]),(2,[3,4,22],[4])]}
theorem WF.f41:Bc Try.prog 41 Try.f41:=Ap Try.func41 (by decide) (by kernel_rfl)
def G.impl_commonest_l0(N:Nat)(n:Nat)(d:E.q78_l0_i.D)(k:Ex->St->Option R):Option R:=F.du N n d.1.2.1 d.1.2.2.1 d.1.2.2.2.1 d.1.2.2.2.2.1 d.2.1 (λ y0 y1=>k (.exit 0) (E.q78_l0_oe0.to (((),(y0,())),(y1,()))))
def TL.q78_l0(N:Nat):An R:={b:=0,st:=E.q78_l0_i,fn:=λ d k=>G.impl_commonest_l0 N N d k}
def Q.impl_commonest_l0(N:Nat)(d:E.q78_l0_i.D)(k:Ex->St->Option R)(next:E.q78_l0_i.D->Option R):Option R:=F.lw N d.1.2.1 d.1.2.2.1 d.1.2.2.2.1 d.1.2.2.2.2.1 d.2.1 (λ x0 x1 x2 x3 x4=>next (((),(x0,(x1,(x2,(x3,()))))),(x4,()))) (λ y0 y1=>k (.exit 0) (E.q78_l0_oe0.to (((),(y0,())),(y1,()))))
theorem F.xc(N:Nat)(d:E.q78_l0_i.D)(next:St->Option R)(k:Ex->St->Option R):
  stepE cfg (Fl []) (Dk []) 0 H.q78 0 (bodyOf Try.f41 0) [3,4,10,11,12] [3,4] (E.q78_l0_i.to d) next k=Q.impl_commonest_l0 N d k λ x=>next (E.q78_l0_i.to x):=by kernel_rfl
theorem LK.q78_l0(N:Nat):Ai Try.prog 0 Try.f41.ntmps (bodyOf Try.f41) (TL.q78_l0 (R:=R) N):=
 Xy (i:=[3,4,10,11,12]) (o:=[3,4]) (h:=H.q78) hC hm Ac WF.f41 Ab (by kernel_rfl) (λ d=>Ak rfl) (G.impl_commonest_l0 N) N (Q.impl_commonest_l0 N) (λ _ _=>rfl) (λ _ _=>rfl) (λ _ _ _=>rfl) (F.xc N)
def G.impl_commonest_l2(N:Nat)(n:Nat)(d:E.q78_l2_i.D)(k:Ex->St->Option R):Option R:=F.kb N n d.1.2.1 d.2.1 d.2.2.1.1 d.2.2.1.2.1 d.2.2.1.2.2 (λ y0=>k (.exit 2) (E.q78_l2_oe2.to ((y0,()),())))
def TL.q78_l2(N:Nat):An R:={b:=2,st:=E.q78_l2_i,fn:=λ d k=>G.impl_commonest_l2 N N d k}
def Jq(best:Int)(l:List (Int×Int))(n:Nat)(ord:List Nat)(last:Nat):St:=E.q78_l2_i.to (((),(best,((),()))),(l,((n,(ord,last)),())))
theorem Aid:bodyOf Try.f41 2=.seq (.region 9 #[(op0 (bodyOf Try.f41 2)),(op1 (bodyOf Try.f41 2))] false) (.seq (.cond (.tmp 24) .skip (.exit 2)) (Anc (bodyOf Try.f41 2))):=by kernel_rfl
theorem Aej(best:Int)(l:List (Int×Int))(n:Nat)(ord:List Nat)(last j:Nat):
    Fj (R:=St) cfg (Fl []) (Dk []) 0 H.q78 2 (Anc (bodyOf Try.f41 2)) (Aco (Jq best l n ord last) 23 24 1 0 n (.int .i64) (.int .i64) l ord j) (λ e s2=>match e with|.normal=>Qm 0 H.q78.fz [3,4,22] s2|_=>none)=
      (bif Nat.beq n (z8 l)&&zC 1 (j+1)&&zC (j+1) (z8 l) then
        (bif decide (best<0) then some (Jq (z9 l (j+1-1) (0,0)).1 l n (ord.erase j) (j+1)) else
          bif decide ((z9 l (j+1-1) (0,0)).2>De eqI best 0 l) then some (Jq (z9 l (j+1-1) (0,0)).1 l n (ord.erase j) (j+1)) else
            bif(z9 l (j+1-1) (0,0)).2==De eqI best 0 l then
              bif decide ((z9 l (j+1-1) (0,0)).1<best) then some (Jq (z9 l (j+1-1) (0,0)).1 l n (ord.erase j) (j+1)) else some (Jq best l n (ord.erase j) (j+1))
            else some (Jq best l n (ord.erase j) (j+1)))
      else none):=by kernel_rfl
theorem Aie(best:Int)(l:List (Int×Int))(n:Nat)(ord:List Nat)(last:Nat):Qm 0 H.q78.fz [4] (Acu (Jq best l n ord last) 23 24)=some (E.q78_l2_oe2.to ((best,()),())):=by kernel_rfl
theorem Akd(l:List (Int×Int))(last:Nat)(hkeys:C2 l=true):Ng Try.prog 0 Try.f41.ntmps (bodyOf Try.f41 2) (Jq (-1) l l.length (zB l.length) last) (.exit 2) (E.q78_l2_oe2.to ((Sk l,()),())):=by
 refine Ae3 (d0:=23) (d1:=24) (on:=(op0 (bodyOf Try.f41 2))) (ox:=(op1 (bodyOf Try.f41 2))) (rest:=(Anc (bodyOf Try.f41 2))) (id:=9) (ie:=2) (x:=.tmp 22) (i:=[3,4,22]) (o:=[4]) (h:=H.q78) (bk:=2) (C:=Fl []) (L:=Dk []) (B:=bodyOf Try.f41) hC hm Ac Ab
  Aid (by kernel_rfl) (by kernel_rfl) (by kernel_rfl) (by kernel_rfl) (by kernel_rfl) (by kernel_rfl) (by decide) (by decide) (by kernel_rfl) (by intro z hz;cases hz)
  (λ k s=>∃best ord last,s=Jq best l l.length ord last/\k=ord.length/\ord.Nodup/\(∀j∈ord,j<l.length)/\Best l (λ j=>j∉ord) best) ?_ (zB l.length).length _ ?_
 ·rintro k s ⟨best,ord,last,rfl,hk,hnd,hlt,hbest⟩
  refine⟨Ak rfl,1,0,l.length,last,ord,.int .i64,.int .i64,l,rfl,rfl,rfl,rfl,hk, ?_, ?_⟩
  ·intro ho
   rw[Aie]
   have h1:Best l (λ _=>True) best:=by
    have:(λ j=>j∉ord)=λ _=>True:=by funext j;simp[ho]
    rwa[this] at hbest
   rw[h1.uniq (Aei hkeys)]
  ·intro j hj
   have hjl:=hlt j hj
   have e1:(Nat.beq l.length (z8 l)&&zC 1 (j+1)&&zC (j+1) (z8 l))=true:=by
    rw[zA,zA,zD,zD,Ev.beq_true];omega
   have hst:=hbest.step hkeys hjl (λ h=>h hj)
   have hS:(λ k=>k∉ord\/k=j)=λ k=>k∉ord.erase j:=by
    funext k
    rw[hnd.mem_erase_iff]
    exact propext ⟨λ h=>by rintro⟨h1,h2⟩;rcases h with h|h;exact h h2;exact h1 h,λ h=>by
     by_cases e:k=j
     ·exact .inr e
     ·exact .inl λ h2=>h ⟨e,h2⟩⟩
   rw[hS] at hst
   refine⟨Jq _ l l.length (ord.erase j) (j+1),⟨_,ord.erase j,j+1,rfl, ?_,hnd.erase j,λ i hi=>hlt i (List.mem_of_mem_erase hi),hst⟩,(Aej best l l.length ord last j).trans ?_⟩
   ·rw[List.length_erase_of_mem hj,hk]
   ·rw[e1,cond_true,Nat.add_sub_cancel]
    have hz:(z9 l j ((0:Int),(0:Int)))=l.getD j (0,0):=rfl
    generalize(l.getD j (0,0)).1=key at*
    generalize(l.getD j (0,0)).2=val at*
    generalize De eqI best 0 l=mv at*
    cases h1:decide (best<0)
    ·cases h2:decide (val>mv)
     ·by_cases h3:val=mv
      ·cases h4:decide (key<best)<;>simp[h1,h2,h3,h4]
      ·have h5:(val==mv)=false:=by simpa using h3
       simp[h1,h2,h3,h5]
     ·simp[h1,h2]
    ·simp[h1]
 ·exact⟨-1,zB l.length,last,rfl,rfl,List.nodup_range,λ j hj=>List.mem_range.1 hj,.inl ⟨rfl,λ j hj h=>h (List.mem_range.2 hj)⟩⟩
theorem LK.q78_l2{R:Type}(N:Nat):Ai Try.prog 0 Try.f41.ntmps (bodyOf Try.f41) (TL.q78_l2 (R:=R) N):=by
 intro d k r h
 obtain⟨⟨⟨⟩,best,⟨⟩,⟨⟩⟩,l,⟨n,ord,last⟩,⟨⟩⟩:=d
 have hh:N≠0/\Oh best l n ord last=true/\k (.exit 2) (E.q78_l2_oe2.to ((Sk l,()),()))=some r:=by
  cases N with
  | zero=>cases h
  | succ N=>
   replace h:(bif Oh best l n ord last then k (.exit 2) (E.q78_l2_oe2.to ((Sk l,()),())) else none)=some r:=h
   cases hc:Oh best l n ord last<;>rw[hc] at h
   ·cases h
   ·exact⟨by simp,rfl,h⟩
 obtain⟨-,hc,hk⟩:=hh
 refine⟨_,_,hk,Ak rfl, ?_⟩
 simp only[Oh,zA] at hc
 obtain⟨⟨⟨hb,hn⟩,ho⟩,hkeys⟩:=hc
 have hb:=(beq_iff_eq (α:=Int)).1 hb
 have ho:=(beq_iff_eq (α:=List Nat)).1 ho
 have hn:=Nat.eq_of_beq_eq_true hn
 subst hn ho
 have hb:best=(-1:Int):=hb
 subst hb
 exact Ng.code (Akd l last hkeys)
theorem F.xw(N:Nat)(d:E.q78_a.D)(k:AV->List (Option Blk)->List Blk->Option R):
  Rr cfg (Fl []) (Dk [TL.q78_l0 N,TL.q78_l2 N]) H.q78 Try.f41 (E.q78_a.to d).1 (E.q78_a.to d).2 k=(T.q78 N).fn d λ x=>k (E.q78_r.to x).1 (E.q78_r.to x).2.1 (E.q78_r.to x).2.2:=by kernel_rfl
theorem TK.q78(N:Nat):Aj Try.prog (T.q78 (R:=R) N):=
 Al (h:=H.q78) hC hm Ac WF.f41 (λ d=>(Ag (LK.q78_l0 N) (Ag (LK.q78_l2 N) Ab))) (F.xw N)
abbrev E.q79_a:Enc (List AV×List Blk):=bQ (lC (pR 1 0 (lC D4 (lC (iN .i64) (lC D4 (lC D4 (lC D4 (lC D4 (lC D4 (lC D4 (lO (iN .i64))))))))))) (lO (iN .i64))) (lN Blk) rfl
abbrev E.q79_r:Enc (AV×List (Option Blk)×List Blk):=bQ bB (bS (lN (Option Blk)) rfl (lN Blk)) rfl
def T.q79:As R:={f:=43,arg:=E.q79_a,res:=E.q79_r,fn:=F.al}
def H.q79:A1:={lp:=[]}
theorem WF.f43:Bc Try.prog 43 Try.f43:=Ap Try.func43 (by decide) (by kernel_rfl)
theorem TK.q79:Aj Try.prog (T.q79 (R:=R)):=
 Al (h:=H.q79) hC hm Ac WF.f43 (λ d=>Ab) (λ _ _=>by kernel_rfl)
abbrev E.q80_l0_i:Enc St:=sQ 0 (lC (kY 0 (pR 0 0 (lC Bw (lC (iN .i64) (lC Bw (lC Bw (lC Bw (lC Bw (lC Bw Abo))))))))) (lC Dx Atr)) (lN (Nat×Blk)) rfl
abbrev E.q80_l0_oe0:Enc St:=sR 0 (lU (kY 6 uN) rfl (lN (Nat×AV))) rfl (lN (Nat×Blk))
abbrev E.q80_l0_oret:Enc St:=sQ 0 (lO (kY 6 bB)) (lN (Nat×Blk)) rfl
abbrev E.q80_a:Enc (List AV×List Blk):=bQ (lC (pR 0 0 (lC Bw (lC (iN .i64) (lC Bw (lC Bw (lC Bw (lC Bw (lC Bw Abo)))))))) (lC (iN .i64) (lO Bw))) (lN Blk) rfl
abbrev E.q80_r:Enc (AV×List (Option Blk)×List Blk):=bQ bB (bS (lN (Option Blk)) rfl (lN Blk)) rfl
def T.q80(N:Nat):As R:={f:=42,arg:=E.q80_a,res:=E.q80_r,fn:=F.pi N}
def H.q80:A1:={lp:=[(0,[0,1,9,10,11],[6])]}
theorem WF.f42:Bc Try.prog 42 Try.f42:=Ap Try.func42 (by decide) (by kernel_rfl)
def TL.q80_l0(N:Nat):An R:={b:=0,st:=E.q80_l0_i,fn:=λ d k=>lp (F.cf N) N d (λ y=>k (.exit 0) (E.q80_l0_oe0.to y),λ y=>k .ret (E.q80_l0_oret.to y))}
theorem LK.q80_l0(N:Nat):Ai Try.prog 0 Try.f42.ntmps (bodyOf Try.f42) (TL.q80_l0 (R:=R) N):=
 Ah (i:=[0,1,9,10,11]) (o:=[6]) (h:=H.q80) hC hm (Ad TK.q79 Ac) WF.f42 Ab (by kernel_rfl) (λ d=>Ak rfl) N (F.cf N) _ (λ _ _=>rfl) (λ _ _ _=>by kernel_rfl)
theorem TK.q80(N:Nat):Aj Try.prog (T.q80 (R:=R) N):=
 Al (h:=H.q80) hC hm Ac WF.f42 (λ d=>(Ag (LK.q80_l0 N) Ab)) (λ _ _=>by kernel_rfl)
abbrev E.q81_a:Enc (List AV×List Blk):=bQ (lC (pR 0 0 (lC Bw (lC (iN .i64) (lC Bw (lC Bw (lC Bw (lC Bw (lC Bw Abo)))))))) (lO (iN .i64))) (lN Blk) rfl
abbrev E.q81_r:Enc (AV×List (Option Blk)×List Blk):=bQ bB (bS (lN (Option Blk)) rfl (lN Blk)) rfl
def T.q81:As R:={f:=43,arg:=E.q81_a,res:=E.q81_r,fn:=F.al}
def H.q81:A1:={lp:=[]}
theorem TK.q81:Aj Try.prog (T.q81 (R:=R)):=
 Al (h:=H.q81) hC hm Ac WF.f43 (λ d=>Ab) (λ _ _=>by kernel_rfl)
abbrev E.q82_l0_i:Enc St:=sT 16 (lU Bp rfl (lC Dx (lC (kY 2 D4) (lC Bv (lU (kY 8 (sL 8)) rfl (lC (kY 28 D4) (lC Aly (lO (kY 30 (iN .i64)))))))))) Ld
abbrev E.q82_l0_oe0:Enc St:=sT 16 (lU Bp rfl (lC Dx (lR (kY 2 D4) (lU (kY 8 (sL 8)) rfl (lN (Nat×AV))) rfl))) Ld
abbrev E.q82_l2_i:Enc St:=sT 16 Aep Ld
abbrev E.q82_l2_oe2:Enc St:=sT 16 Aep Ld
abbrev E.q82_l6_i:Enc St:=sT 16 (lU Bp rfl Ak1) Ld
abbrev E.q82_l6_oe6:Enc St:=sT 16 (lU Bp rfl Ak1) Ld
abbrev E.q82_l4_i:Enc St:=sT 16 (lU Bp rfl (lC Dx (lC (kY 2 D4) (lC C7 Ak0)))) Ld
abbrev E.q82_l4_oe4:Enc St:=sT 15 (lU Bp rfl (lO C7)) (lC (kY 0 Zf) Aeq)
abbrev E.q82_l8_i:Enc St:=sT 15 (lU Bp rfl (lO C7)) (lC (kY 0 Zf) Aeq)
abbrev E.q82_l8_oe8:Enc St:=sT 15 (lU Bp rfl (lO C7)) (lC (kY 0 Zf) Aeq)
abbrev E.q82_j91:Enc St:=sT 16 Aep Ld
abbrev E.q82_a:Enc (List AV×List Blk):=bO (lU (pB 0 0) rfl (lC (iN .i64) (lO D4))) (lC (cE (lU (sL 1) rfl (lC (iN .i64) (lU (sL 2) rfl (lU (sL 3) rfl (lU (sL 4) rfl (lU (sL 5) rfl (lU (sL 6) rfl (lU (sL 7) rfl (lO (iN .i64))))))))))) Lc)
abbrev E.q82_r:Enc (AV×List (Option Blk)×List Blk):=bO bB (bO (lR (sM Zf) (lU (nO Blk) rfl (lU (nO Blk) rfl (lU (nO Blk) rfl (lU (nO Blk) rfl (lU (nO Blk) rfl (lU (nO Blk) rfl Xh)))))) rfl) Lc)
def T.q82(N:Nat):As R:={f:=24,arg:=E.q82_a,res:=E.q82_r,fn:=F.di N}
def H.q82:A1:={lp:=[(0,[0,1,2,7,8,28,29,30],[0,1,2,8]),(2,[0,1,2,8,11],[0,1,2,8,11]),(4,[0,1,2,11,71,72,73],[0,11]),(6,[0,1,2,11,13,71,72,73],[0,1,2,11,13,71,72,73]),(8,[0,11],[0,11])],jn:=[(91,[0,1,2,8,11],E.q82_j91)]}
theorem WF.f24:Bc Try.prog 24 Try.f24:=Ap Try.func24 (by decide) (by kernel_rfl)
def TL.q82_l0(N:Nat):An R:={b:=0,st:=E.q82_l0_i,fn:=λ d k=>lp (F.cz N) N d (λ y=>k (.exit 0) (E.q82_l0_oe0.to y))}
theorem LK.q82_l0(N:Nat):Ai Try.prog 8 Try.f24.ntmps (bodyOf Try.f24) (TL.q82_l0 (R:=R) N):=
 Ah (i:=[0,1,2,7,8,28,29,30]) (o:=[0,1,2,8]) (h:=H.q82) hC hm Ac WF.f24 Ab (by kernel_rfl) (λ d=>Ak rfl) N (F.cz N) _ (λ _ _=>rfl) (λ _ _ _=>by kernel_rfl)
def TL.q82_l2(N:Nat):An R:={b:=2,st:=E.q82_l2_i,fn:=λ d k=>lp (F.da N) N d (λ y=>k (.exit 2) (E.q82_l2_oe2.to y))}
theorem LK.q82_l2(N:Nat):Ai Try.prog 8 Try.f24.ntmps (bodyOf Try.f24) (TL.q82_l2 (R:=R) N):=
 Ah (i:=[0,1,2,8,11]) (o:=[0,1,2,8,11]) (h:=H.q82) hC hm (Ad (TK.q80 N) Ac) WF.f24 Ab (by kernel_rfl) (λ d=>Ak rfl) N (F.da N) _ (λ _ _=>rfl) (λ _ _ _=>by kernel_rfl)
def TL.q82_l6(N:Nat):An R:={b:=6,st:=E.q82_l6_i,fn:=λ d k=>lp (F.dg N) N d (λ y=>k (.exit 6) (E.q82_l6_oe6.to y))}
theorem LK.q82_l6(N:Nat):Ai Try.prog 8 Try.f24.ntmps (bodyOf Try.f24) (TL.q82_l6 (R:=R) N):=
 Ah (i:=[0,1,2,11,13,71,72,73]) (o:=[0,1,2,11,13,71,72,73]) (h:=H.q82) hC hm Ac WF.f24 Ab (by kernel_rfl) (λ d=>Ak rfl) N (F.dg N) _ (λ _ _=>rfl) (λ _ _ _=>by kernel_rfl)
def TL.q82_l4(N:Nat):An R:={b:=4,st:=E.q82_l4_i,fn:=λ d k=>lp (F.dh N) N d (λ y=>k (.exit 4) (E.q82_l4_oe4.to y))}
theorem LK.q82_l4(N:Nat):Ai Try.prog 8 Try.f24.ntmps (bodyOf Try.f24) (TL.q82_l4 (R:=R) N):=
 Ah (i:=[0,1,2,11,71,72,73]) (o:=[0,11]) (h:=H.q82) hC hm Ac WF.f24 (Ag (LK.q82_l6 N) Ab) (by kernel_rfl) (λ d=>Ak rfl) N (F.dh N) _ (λ _ _=>rfl) (λ _ _ _=>by kernel_rfl)
def TL.q82_l8(N:Nat):An R:={b:=8,st:=E.q82_l8_i,fn:=λ d k=>lp (F.bi N) N d (λ y=>k (.exit 8) (E.q82_l8_oe8.to y))}
theorem LK.q82_l8(N:Nat):Ai Try.prog 8 Try.f24.ntmps (bodyOf Try.f24) (TL.q82_l8 (R:=R) N):=
 Ah (i:=[0,11]) (o:=[0,11]) (h:=H.q82) hC hm (Ad TK.q81 Ac) WF.f24 Ab (by kernel_rfl) (λ d=>Ak rfl) N (F.bi N) _ (λ _ _=>rfl) (λ _ _ _=>by kernel_rfl)
theorem TK.q82(N:Nat):Aj Try.prog (T.q82 (R:=R) N):=
 Al (h:=H.q82) hC hm (Ad (TK.q78 N) Ac) WF.f24 (λ d=>(Ag (LK.q82_l0 N) (Ag (LK.q82_l2 N) (Ag (LK.q82_l4 N) (Ag (LK.q82_l8 N) Ab))))) (λ _ _=>by kernel_rfl)
abbrev E.q83_l0_i:Enc St:=sT 17 (lU A5 rfl (lU Bt rfl Agp)) (lC Co (lC (kY 1 (cE Al8)) (lC (kY 2 (cE (lU (sL 10) rfl (lC (iN .i64) (lU (sL 11) rfl (lU (sL 12) rfl (lU (sL 13) rfl (lU (sL 14) rfl (lU (sL 15) rfl (lU (sL 16) rfl (lO (iN .i64)))))))))))) (lC (kY 3 Am) Akq))))
abbrev E.q83_l0_oe0:Enc St:=sR 16 (lU C8 rfl (lU Uu rfl (lU Sq rfl (lN (Nat×AV))))) rfl (lC Ze Ak2)
abbrev E.q83_l0_oret:Enc St:=sT 16 (lU C8 rfl (lR Bu (lU Sq rfl (lN (Nat×AV))) rfl)) (lC Ze Ak2)
abbrev E.q83_a:Enc (List AV×List Blk):=bQ (lO (aG Nn)) (lN Blk) rfl
abbrev E.q83_r:Enc (AV×List (Option Blk)×List Blk):=bO (tP Aku) (bS (lN (Option Blk)) rfl Lc)
def T.q83(N:Nat):As R:={f:=6,arg:=E.q83_a,res:=E.q83_r,fn:=F.tx N}
def H.q83:A1:={lp:=[(0,[1,2,4,44,45],[2,3,4])]}
theorem WF.f6:Bc Try.prog 6 Try.f6:=Ap Try.func6 (by decide) (by kernel_rfl)
def TL.q83_l0(N:Nat):An R:={b:=0,st:=E.q83_l0_i,fn:=λ d k=>lp (F.ow N) N d (λ y=>k (.exit 0) (E.q83_l0_oe0.to y),λ y=>k .ret (E.q83_l0_oret.to y))}
theorem LK.q83_l0(N:Nat):Ai Try.prog 0 Try.f6.ntmps (bodyOf Try.f6) (TL.q83_l0 (R:=R) N):=
 Ah (i:=[1,2,4,44,45]) (o:=[2,3,4]) (h:=H.q83) hC hm (Ad (TK.q82 N) Ac) WF.f6 Ab (by kernel_rfl) (λ d=>Ak rfl) N (F.ow N) _ (λ _ _=>rfl) (λ _ _ _=>by kernel_rfl)
theorem TK.q83(N:Nat):Aj Try.prog (T.q83 (R:=R) N):=
 Al (h:=H.q83) hC hm (Ad (TK.q77 N) Ac) WF.f6 (λ d=>(Ag (LK.q83_l0 N) Ab)) (λ _ _=>by kernel_rfl)
abbrev E.q84_j4:Enc St:=sT 1 (lU A5 rfl (lC Bu (lO (kY 46 bB)))) (lO (kY 0 (cE Ak3)))
abbrev E.q84_a:Enc (List AV×List Blk):=bQ (lO (aG Ak3)) (lN Blk) rfl
abbrev E.q84_r:Enc (AV×List (Option Blk)×List Blk):=bQ bB (bS (lN (Option Blk)) rfl (lN Blk)) rfl
def T.q84(N:Nat):As R:={f:=23,arg:=E.q84_a,res:=E.q84_r,fn:=F.kh N}
def H.q84:A1:={lp:=[],jn:=[(4,[1,3,46],E.q84_j4)]}
theorem TK.q84(N:Nat):Aj Try.prog (T.q84 (R:=R) N):=
 Al (h:=H.q84) hC hm (Ad (TK.q76 N) Ac) WF.f23 (λ d=>Ab) (λ _ _=>by kernel_rfl)
abbrev E.q85_l0_i:Enc St:=sT 1 (lU A5 rfl (lC Bu (lC (kY 72 (iN .i64)) (lO (kY 73 (iN .i64)))))) (lO Le)
abbrev E.q85_l0_oe0:Enc St:=sT 1 (lU A5 rfl (lU Nk rfl (lO Bu))) (lO Le)
abbrev E.q85_l0_oret:Enc St:=sT 1 (lU A5 rfl (lC Nl (lO Bu))) (lO Le)
abbrev E.q85_l2_i:Enc St:=sT 1 (lU A5 rfl (lC Bu (lC (kY 109 Bw) (lC (kY 110 (iN .i64)) (lO (kY 111 (iN .i64))))))) (lO Le)
abbrev E.q85_l2_oe2:Enc St:=sR 0 Abm rfl (lN (Nat×Blk))
abbrev E.q85_l2_oret:Enc St:=sQ 0 (lO Nl) (lN (Nat×Blk)) rfl
abbrev E.q85_j10:Enc St:=sT 3 (lU A5 rfl (lC Bu (lU Sq rfl (lO (kY 62 bB))))) (lC Le (lC (kY 1 (cE (lC Bw (lC (iN .i64) (lU (sL 2) rfl (lC Bw (lO Bw))))))) (lO (kY 2 Am))))
abbrev E.q85_j4:Enc St:=sT 1 (lU A5 rfl (lC Bu (lO (kY 30 bB)))) (lO Le)
abbrev E.q85_a:Enc (List AV×List Blk):=bQ (lO (aG Rm)) (lN Blk) rfl
abbrev E.q85_r:Enc (AV×List (Option Blk)×List Blk):=bQ bB (bS (lN (Option Blk)) rfl (lN Blk)) rfl
def T.q85(N:Nat):As R:={f:=7,arg:=E.q85_a,res:=E.q85_r,fn:=F.lg N}
def H.q85:A1:={lp:=[(0,[1,3,72,73],[1,2,3]),(2,[1,3,109,110,111],[2])],jn:=[(10,[1,3,4,62],E.q85_j10),(4,[1,3,30],E.q85_j4)]}
theorem WF.f7:Bc Try.prog 7 Try.f7:=Ap Try.func7 (by decide) (by kernel_rfl)
def TL.q85_l0(N:Nat):An R:={b:=0,st:=E.q85_l0_i,fn:=λ d k=>lp (F.bm N) N d (λ y=>k (.exit 0) (E.q85_l0_oe0.to y),λ y=>k .ret (E.q85_l0_oret.to y))}
theorem LK.q85_l0(N:Nat):Ai Try.prog 0 Try.f7.ntmps (bodyOf Try.f7) (TL.q85_l0 (R:=R) N):=
 Ah (i:=[1,3,72,73]) (o:=[1,2,3]) (h:=H.q85) hC hm Ac WF.f7 Ab (by kernel_rfl) (λ d=>Ak rfl) N (F.bm N) _ (λ _ _=>rfl) (λ _ _ _=>by kernel_rfl)
def TL.q85_l2(N:Nat):An R:={b:=2,st:=E.q85_l2_i,fn:=λ d k=>lp (F.bn N) N d (λ y=>k (.exit 2) (E.q85_l2_oe2.to y),λ y=>k .ret (E.q85_l2_oret.to y))}
theorem LK.q85_l2(N:Nat):Ai Try.prog 0 Try.f7.ntmps (bodyOf Try.f7) (TL.q85_l2 (R:=R) N):=
 Ah (i:=[1,3,109,110,111]) (o:=[2]) (h:=H.q85) hC hm Ac WF.f7 Ab (by kernel_rfl) (λ d=>Ak rfl) N (F.bn N) _ (λ _ _=>rfl) (λ _ _ _=>by kernel_rfl)
theorem TK.q85(N:Nat):Aj Try.prog (T.q85 (R:=R) N):=
 Al (h:=H.q85) hC hm (Ad (TK.q84 N) Ac) WF.f7 (λ d=>(Ag (LK.q85_l0 N) (Ag (LK.q85_l2 N) Ab))) (λ _ _=>by kernel_rfl)
abbrev E.q86_l0_i:Enc St:=sT 1 (lU A5 rfl (lC Bu (lC (kY 72 (iN .i64)) (lO (kY 73 (iN .i64)))))) (lO Rn)
abbrev E.q86_l0_oe0:Enc St:=sT 1 (lU A5 rfl (lU Nk rfl (lO Bu))) (lO Rn)
abbrev E.q86_l0_oret:Enc St:=sT 1 (lU A5 rfl (lC Nl (lO Bu))) (lO Rn)
abbrev E.q86_l2_i:Enc St:=sT 1 (lU A5 rfl (lC Bu (lC (kY 109 D4) (lC (kY 110 (iN .i64)) (lO (kY 111 (iN .i64))))))) (lO Rn)
abbrev E.q86_l2_oe2:Enc St:=sR 0 Abm rfl (lN (Nat×Blk))
abbrev E.q86_l2_oret:Enc St:=sQ 0 (lO Nl) (lN (Nat×Blk)) rfl
abbrev E.q86_j10:Enc St:=sT 3 (lU A5 rfl (lC Bu (lU Sq rfl (lO (kY 62 bB))))) (lC Rn (lC (kY 1 (cE (lC D4 (lC (iN .i64) (lU (sL 2) rfl (lC D4 (lO D4))))))) (lO (kY 2 Am))))
abbrev E.q86_j4:Enc St:=sT 1 (lU A5 rfl (lC Bu (lO (kY 30 bB)))) (lO Rn)
abbrev E.q86_a:Enc (List AV×List Blk):=bQ (lO (aG (lC D4 Aer))) (lN Blk) rfl
abbrev E.q86_r:Enc (AV×List (Option Blk)×List Blk):=bQ bB (bS (lN (Option Blk)) rfl (lN Blk)) rfl
def T.q86(N:Nat):As R:={f:=7,arg:=E.q86_a,res:=E.q86_r,fn:=F.qi N}
def H.q86:A1:={lp:=[(0,[1,3,72,73],[1,2,3]),(2,[1,3,109,110,111],[2])],jn:=[(10,[1,3,4,62],E.q86_j10),(4,[1,3,30],E.q86_j4)]}
def TL.q86_l0(N:Nat):An R:={b:=0,st:=E.q86_l0_i,fn:=λ d k=>lp (F.bm N) N d (λ y=>k (.exit 0) (E.q86_l0_oe0.to y),λ y=>k .ret (E.q86_l0_oret.to y))}
theorem LK.q86_l0(N:Nat):Ai Try.prog 0 Try.f7.ntmps (bodyOf Try.f7) (TL.q86_l0 (R:=R) N):=
 Ah (i:=[1,3,72,73]) (o:=[1,2,3]) (h:=H.q86) hC hm Ac WF.f7 Ab (by kernel_rfl) (λ d=>Ak rfl) N (F.bm N) _ (λ _ _=>rfl) (λ _ _ _=>by kernel_rfl)
def TL.q86_l2(N:Nat):An R:={b:=2,st:=E.q86_l2_i,fn:=λ d k=>lp (F.bn N) N d (λ y=>k (.exit 2) (E.q86_l2_oe2.to y),λ y=>k .ret (E.q86_l2_oret.to y))}
theorem LK.q86_l2(N:Nat):Ai Try.prog 0 Try.f7.ntmps (bodyOf Try.f7) (TL.q86_l2 (R:=R) N):=
 Ah (i:=[1,3,109,110,111]) (o:=[2]) (h:=H.q86) hC hm Ac WF.f7 Ab (by kernel_rfl) (λ d=>Ak rfl) N (F.bn N) _ (λ _ _=>rfl) (λ _ _ _=>by kernel_rfl)
theorem TK.q86(N:Nat):Aj Try.prog (T.q86 (R:=R) N):=
 Al (h:=H.q86) hC hm (Ad (TK.q84 N) Ac) WF.f7 (λ d=>(Ag (LK.q86_l0 N) (Ag (LK.q86_l2 N) Ab))) (λ _ _=>by kernel_rfl)
abbrev E.q87_l0_i:Enc St:=sT 3 (lU Bp rfl (lC (kY 6 Bw) (lC Bv (lO Ep)))) (lU (kY 0 Ur) rfl (lO (kY 2 Fm)))
abbrev E.q87_l0_oe0:Enc St:=sR 3 (lN (Nat×AV)) rfl (lU (kY 0 Ur) rfl (lO (kY 2 Fm)))
abbrev E.q87_a:Enc (List AV×List Blk):=bO (lU (pB 0 0) rfl (lO Bw)) (lU Aes rfl (lO Fm))
abbrev E.q87_r:Enc (AV×List (Option Blk)×List Blk):=bS Agd rfl (bS (lU (sM Ur) rfl Xh) rfl (lO Fm))
def T.q87(N:Nat):As R:={f:=25,arg:=E.q87_a,res:=E.q87_r,fn:=F.dk N}
def H.q87:A1:={lp:=[(0,[0,6,7,8],[])],keep:=true}
theorem WF.f25:Bc Try.prog 25 Try.f25:=Ap Try.func25 (by decide) (by kernel_rfl)
def TL.q87_l0(N:Nat):An R:={b:=0,st:=E.q87_l0_i,fn:=λ d k=>lp (F.dj N) N d (λ y=>k (.exit 0) (E.q87_l0_oe0.to y))}
theorem LK.q87_l0(N:Nat):Ai Try.prog 2 Try.f25.ntmps (bodyOf Try.f25) (TL.q87_l0 (R:=R) N):=
 Ah (i:=[0,6,7,8]) (o:=[]) (h:=H.q87) hC hm Ac WF.f25 Ab (by kernel_rfl) (λ d=>Ak rfl) N (F.dj N) _ (λ _ _=>rfl) (λ _ _ _=>by kernel_rfl)
theorem TK.q87(N:Nat):Aj Try.prog (T.q87 (R:=R) N):=
 Al (h:=H.q87) hC hm Ac WF.f25 (λ d=>(Ag (LK.q87_l0 N) Ab)) (λ _ _=>by kernel_rfl)
abbrev E.q88_l0_i:Enc St:=sQ 0 (lC Bu (lC (kY 6 (rO 0 (.int .u8))) (lC Bv (lO Ep)))) (lN (Nat×Blk)) rfl
abbrev E.q88_l0_oe0:Enc St:=sQ 0 (lO Bu) (lN (Nat×Blk)) rfl
abbrev E.q88_a:Enc (List AV×List Blk):=bQ (lO (rO 0 (.int .u8))) (lN Blk) rfl
abbrev E.q88_r:Enc (AV×List (Option Blk)×List Blk):=bQ (iN .i64) (bS (lN (Option Blk)) rfl (lN Blk)) rfl
def T.q88(N:Nat):As R:={f:=26,arg:=E.q88_a,res:=E.q88_r,fn:=F.ry N}
def H.q88:A1:={lp:=[(0,[3,6,7,8],[3])]}
theorem WF.f26:Bc Try.prog 26 Try.f26:=Ap Try.func26 (by decide) (by kernel_rfl)
def TL.q88_l0(N:Nat):An R:={b:=0,st:=E.q88_l0_i,fn:=λ d k=>lp (F.px N) N d (λ y=>k (.exit 0) (E.q88_l0_oe0.to y))}
theorem LK.q88_l0(N:Nat):Ai Try.prog 0 Try.f26.ntmps (bodyOf Try.f26) (TL.q88_l0 (R:=R) N):=
 Ah (i:=[3,6,7,8]) (o:=[3]) (h:=H.q88) hC hm Ac WF.f26 Ab (by kernel_rfl) (λ d=>Ak rfl) N (F.px N) _ (λ _ _=>rfl) (λ _ _ _=>by kernel_rfl)
theorem TK.q88(N:Nat):Aj Try.prog (T.q88 (R:=R) N):=
 Al (h:=H.q88) hC hm Ac WF.f26 (λ d=>(Ag (LK.q88_l0 N) Ab)) (λ _ _=>by kernel_rfl)
abbrev E.q89_l0_i:Enc St:=sT 3 (lU A5 rfl (lU Jj rfl (lC (kY 37 Bw) (lC (kY 38 (iN .i64)) (lO (kY 39 (iN .i64))))))) Us
abbrev E.q89_l0_oe0:Enc St:=sR 3 (lU A5 rfl Alx) rfl Us
abbrev E.q89_l2_i:Enc St:=sT 3 (lU A5 rfl (lU Jj rfl (lC Alq (lO (kY 60 (iN .i64)))))) Us
abbrev E.q89_l2_oe2:Enc St:=sR 3 (lU A5 rfl Alx) rfl Us
abbrev E.q89_l4_i:Enc St:=sT 3 (lU A5 rfl (lU Jj rfl (lC (kY 91 (iN .i64)) (lO (kY 92 (iN .i64)))))) Us
abbrev E.q89_l4_oe4:Enc St:=sR 2 (lU (kY 3 (pB 0 0)) rfl (lN (Nat×AV))) rfl (lU (kY 0 Aes) rfl (lO (kY 1 Fm)))
abbrev E.q89_a:Enc (List AV×List Blk):=bQ (lO (aG Rm)) (lN Blk) rfl
abbrev E.q89_r:Enc (AV×List (Option Blk)×List Blk):=bQ tR (bS (lN (Option Blk)) rfl (lN Blk)) rfl
def T.q89(N:Nat):As R:={f:=8,arg:=E.q89_a,res:=E.q89_r,fn:=F.rh N}
def H.q89:A1:={lp:=[(0,[1,3,37,38,39],[1,3]),(2,[1,3,59,60],[1,3]),(4,[1,3,91,92],[3])]}
theorem WF.f8:Bc Try.prog 8 Try.f8:=Ap Try.func8 (by decide) (by kernel_rfl)
def TL.q89_l0(N:Nat):An R:={b:=0,st:=E.q89_l0_i,fn:=λ d k=>lp (F.lh N) N d (λ y=>k (.exit 0) (E.q89_l0_oe0.to y))}
theorem LK.q89_l0(N:Nat):Ai Try.prog 0 Try.f8.ntmps (bodyOf Try.f8) (TL.q89_l0 (R:=R) N):=
 Ah (i:=[1,3,37,38,39]) (o:=[1,3]) (h:=H.q89) hC hm Ac WF.f8 Ab (by kernel_rfl) (λ d=>Ak rfl) N (F.lh N) _ (λ _ _=>rfl) (λ _ _ _=>by kernel_rfl)
def TL.q89_l2(N:Nat):An R:={b:=2,st:=E.q89_l2_i,fn:=λ d k=>lp (F.li N) N d (λ y=>k (.exit 2) (E.q89_l2_oe2.to y))}
theorem LK.q89_l2(N:Nat):Ai Try.prog 0 Try.f8.ntmps (bodyOf Try.f8) (TL.q89_l2 (R:=R) N):=
 Ah (i:=[1,3,59,60]) (o:=[1,3]) (h:=H.q89) hC hm (Ad (TK.q87 N) Ac) WF.f8 Ab (by kernel_rfl) (λ d=>Ak rfl) N (F.li N) _ (λ _ _=>rfl) (λ _ _ _=>by kernel_rfl)
def TL.q89_l4(N:Nat):An R:={b:=4,st:=E.q89_l4_i,fn:=λ d k=>lp (F.lj N) N d (λ y=>k (.exit 4) (E.q89_l4_oe4.to y))}
theorem LK.q89_l4(N:Nat):Ai Try.prog 0 Try.f8.ntmps (bodyOf Try.f8) (TL.q89_l4 (R:=R) N):=
 Ah (i:=[1,3,91,92]) (o:=[3]) (h:=H.q89) hC hm (Ad (TK.q87 N) Ac) WF.f8 Ab (by kernel_rfl) (λ d=>Ak rfl) N (F.lj N) _ (λ _ _=>rfl) (λ _ _ _=>by kernel_rfl)
theorem TK.q89(N:Nat):Aj Try.prog (T.q89 (R:=R) N):=
 Al (h:=H.q89) hC hm (Ad (TK.q86 N) (Ad (TK.q87 N) (Ad (TK.q88 N) Ac))) WF.f8 (λ d=>(Ag (LK.q89_l0 N) (Ag (LK.q89_l2 N) (Ag (LK.q89_l4 N) Ab)))) (λ _ _=>by kernel_rfl)
abbrev E.q90_r0:Enc (AV×List (Option Blk)×List Blk):=bQ (Enc.pan 60 .i64) (bS (lN (Option Blk)) rfl (lN Blk)) rfl
abbrev E.q90_r1:Enc (AV×List (Option Blk)×List Blk):=bS Agd rfl (bS (lN (Option Blk)) rfl (lN Blk))
abbrev E.q90_a:Enc (List AV×List Blk):=bQ (lC bB (lO (iN .i64))) (lN Blk) rfl
abbrev E.q90_r:Enc (AV×List (Option Blk)×List Blk):=Enc.alt E.q90_r0 E.q90_r1 (λ _=>by kernel_rfl)
def T.q90:As R:={f:=44,arg:=E.q90_a,res:=E.q90_r,fn:=λ d k=>F.dy d (λ x=>k (.inl x),λ x=>k (.inr (x)))}
def H.q90:A1:={lp:=[]}
theorem WF.f44:Bc Try.prog 44 Try.f44:=Ap Try.func44 (by decide) (by kernel_rfl)
theorem TK.q90:Aj Try.prog (T.q90 (R:=R)):=
 Al (h:=H.q90) hC hm Ac WF.f44 (λ d=>Ab) (λ _ _=>by kernel_rfl)
abbrev E.q91_a:Enc (List AV×List Blk):=bS (lU (pB 0 0) rfl (lN AV)) rfl (lC (cE (lU (sL 1) rfl Ak4)) (lO Fm))
abbrev E.q91_r:Enc (AV×List (Option Blk)×List Blk):=bO (iN .i64) (bO (lR (sM (cE (lU (sL 2) rfl Al8))) Xh rfl) (lC Fm Lc))
def T.q91:As R:={f:=45,arg:=E.q91_a,res:=E.q91_r,fn:=F.pj}
def H.q91:A1:={lp:=[],keep:=true}
theorem WF.f45:Bc Try.prog 45 Try.f45:=Ap Try.func45 (by decide) (by kernel_rfl)
theorem TK.q91:Aj Try.prog (T.q91 (R:=R)):=
 Al (h:=H.q91) hC hm Ac WF.f45 (λ d=>Ab) (λ _ _=>by kernel_rfl)
abbrev E.q92_a:Enc (List AV×List Blk):=bS (lU (pB 0 0) rfl (lN AV)) rfl (lC Zg (lC Fm Lc))
abbrev E.q92_r:Enc (AV×List (Option Blk)×List Blk):=bO (iN .i64) (bO (lC (sM Ak5) Ak6) (lO Fm))
def T.q92:As R:={f:=45,arg:=E.q92_a,res:=E.q92_r,fn:=F.am}
def H.q92:A1:={lp:=[],keep:=true}
theorem TK.q92:Aj Try.prog (T.q92 (R:=R)):=
 Al (h:=H.q92) hC hm Ac WF.f45 (λ d=>Ab) (λ _ _=>by kernel_rfl)
abbrev E.q93_a:Enc (List AV×List Blk):=bS (lU (pB 0 0) rfl (lN AV)) rfl (lU Aes rfl (lO Fm))
abbrev E.q93_r:Enc (AV×List (Option Blk)×List Blk):=bO (iN .i64) (bS (lU (sM Ur) rfl Xh) rfl (lO Fm))
def T.q93:As R:={f:=45,arg:=E.q93_a,res:=E.q93_r,fn:=F.ly}
def H.q93:A1:={lp:=[],keep:=true}
theorem TK.q93:Aj Try.prog (T.q93 (R:=R)):=
 Al (h:=H.q93) hC hm Ac WF.f45 (λ d=>Ab) (λ _ _=>by kernel_rfl)
abbrev E.q94_a:Enc (List AV×List Blk):=bS (lU (pB 0 0) rfl (lN AV)) rfl (lC Zg (lC Fm Lc))
abbrev E.q94_r:Enc (AV×List (Option Blk)×List Blk):=bO (iN .i64) (bO (lC (sM Ak5) Ak6) (lO Fm))
def T.q94:As R:={f:=46,arg:=E.q94_a,res:=E.q94_r,fn:=F.ay}
def H.q94:A1:={lp:=[],keep:=true}
theorem WF.f46:Bc Try.prog 46 Try.f46:=Ap Try.func46 (by decide) (by kernel_rfl)
theorem TK.q94:Aj Try.prog (T.q94 (R:=R)):=
 Al (h:=H.q94) hC hm (Ad TK.q92 Ac) WF.f46 (λ d=>Ab) (λ _ _=>by kernel_rfl)
abbrev E.q95_l0_i:Enc St:=sT 9 (lU Bp rfl (lC C6 (lC Cb (lC (kY 93 (Enc.ss 1)) (lC (kY 94 (iN .i64)) (lO (kY 95 (iN .i64)))))))) (lC Oj Ok)
abbrev E.q95_l0_oe0:Enc St:=sT 9 (lU Bp rfl (lC C6 (lO Cb))) (lC Oj Ok)
abbrev E.q95_l2_i:Enc St:=sT 9 (lU Bp rfl (lC Cb (lC Alk (lO Alm)))) (lC Oj Ok)
abbrev E.q95_l2_oe2:Enc St:=sT 9 (lU Bp rfl (lO Cb)) (lC Oj Ok)
abbrev E.q95_l4_i:Enc St:=sT 9 (lU Bp rfl (lC (kY 183 (iN .i64)) (lO (kY 184 (iN .i64))))) (lC Oj Ok)
abbrev E.q95_l4_oe4:Enc St:=sR 9 (lU Bp rfl (lN (Nat×AV))) rfl (lC Oj Ok)
abbrev E.q95_j8:Enc St:=sT 9 (lU Bp rfl (lC (kY 1 tR) (lC C6 (lC B1 (lO Cb))))) (lC Oj Ok)
abbrev E.q95_r0:Enc (AV×List (Option Blk)×List Blk):=bQ (Enc.pan 60 .i64) (bS Xh rfl (lN Blk)) rfl
abbrev E.q95_r1:Enc (AV×List (Option Blk)×List Blk):=bS Agd rfl (bO (lO (sM Zg)) (lC Fm Lc))
abbrev E.q95_a:Enc (List AV×List Blk):=bO (lU (pB 0 0) rfl (lO tR)) (lO (cE (lU (Enc.nz (.int .u8)) rfl Ak4)))
abbrev E.q95_r:Enc (AV×List (Option Blk)×List Blk):=Enc.alt E.q95_r0 E.q95_r1 (λ _=>by kernel_rfl)
def T.q95(N:Nat):As R:={f:=28,arg:=E.q95_a,res:=E.q95_r,fn:=λ d k=>F.oy N d (λ x=>k (.inl x),λ x=>k (.inr (x)))}
def H.q95:A1:={lp:=[(0,[0,4,6,93,94,95],[0,4,6]),(2,[0,6,123,124],[0,6]),(4,[0,183,184],[0])],jn:=[(8,[0,1,4,5,6],E.q95_j8)]}
theorem WF.f28:Bc Try.prog 28 Try.f28:=Ap Try.func28 (by decide) (by kernel_rfl)
def TL.q95_l0(N:Nat):An R:={b:=0,st:=E.q95_l0_i,fn:=λ d k=>lp (F.az N) N d (λ y=>k (.exit 0) (E.q95_l0_oe0.to y))}
theorem LK.q95_l0(N:Nat):Ai Try.prog 1 Try.f28.ntmps (bodyOf Try.f28) (TL.q95_l0 (R:=R) N):=
 Ah (i:=[0,4,6,93,94,95]) (o:=[0,4,6]) (h:=H.q95) hC hm Ac WF.f28 Ab (by kernel_rfl) (λ d=>Ak rfl) N (F.az N) _ (λ _ _=>rfl) (λ _ _ _=>by kernel_rfl)
def TL.q95_l2(N:Nat):An R:={b:=2,st:=E.q95_l2_i,fn:=λ d k=>lp (F.bb N) N d (λ y=>k (.exit 2) (E.q95_l2_oe2.to y))}
theorem LK.q95_l2(N:Nat):Ai Try.prog 1 Try.f28.ntmps (bodyOf Try.f28) (TL.q95_l2 (R:=R) N):=
 Ah (i:=[0,6,123,124]) (o:=[0,6]) (h:=H.q95) hC hm (Ad TK.q92 (Ad TK.q94 Ac)) WF.f28 Ab (by kernel_rfl) (λ d=>Ak rfl) N (F.bb N) _ (λ _ _=>rfl) (λ _ _ _=>by kernel_rfl)
def TL.q95_l4(N:Nat):An R:={b:=4,st:=E.q95_l4_i,fn:=λ d k=>lp (F.bc N) N d (λ y=>k (.exit 4) (E.q95_l4_oe4.to y))}
theorem LK.q95_l4(N:Nat):Ai Try.prog 1 Try.f28.ntmps (bodyOf Try.f28) (TL.q95_l4 (R:=R) N):=
 Ah (i:=[0,183,184]) (o:=[0]) (h:=H.q95) hC hm (Ad TK.q92 (Ad TK.q94 Ac)) WF.f28 Ab (by kernel_rfl) (λ d=>Ak rfl) N (F.bc N) _ (λ _ _=>rfl) (λ _ _ _=>by kernel_rfl)
theorem TK.q95(N:Nat):Aj Try.prog (T.q95 (R:=R) N):=
 Al (h:=H.q95) hC hm (Ad TK.q90 (Ad TK.q91 (Ad TK.q92 (Ad TK.q93 (Ad (TK.q88 N) (Ad (TK.q85 N) Ac)))))) WF.f28 (λ d=>(Ag (LK.q95_l0 N) (Ag (LK.q95_l2 N) (Ag (LK.q95_l4 N) Ab)))) (λ _ _=>by kernel_rfl)
abbrev E.q96_a:Enc (List AV×List Blk):=bO (vA [tR]) (aL [])
abbrev E.q96_r:Enc (AV×List (Option Blk)×List Blk):=bO (tP (vA [(aG (vA [(sL 0),(iN .i64),(sL 1),(sL 2),(sL 3),(sL 4),(sL 5),(sL 6)])),(iN .i64)])) (bO (aL []) (aL [en5,en5,en5,en5,en5,en5,en5]))
def T.q96(N:Nat):As R:={f:=9,arg:=E.q96_a,res:=E.q96_r,fn:=λ d k=>F.ua N d.1.1 (λ x0 x1 x2 x3 x4 x5 x6 x7 x8=>k ((((),(x0,((),((),((),((),((),((),())))))))),(x1,())),((),((x2,()),((x3,()),((x4,()),((x5,()),((x6,()),((x7,()),((x8,()),()))))))))))}
def H.q96:A1:={lp:=[]}
theorem F.zg(N:Nat)(d:E.q96_a.D)(k:AV->List (Option Blk)->List Blk->Option R):
  Um cfg (Fl [T.q95 N]) (Dk []) H.q96 {lp:=[]} Try.f9 (dfA Try.f9) (dfB Try.f9) (clR Try.f27) 5 2 [2,3] (E.q96_a.to d).1 (E.q96_a.to d).2 k=(T.q96 N).fn d λ x=>k (E.q96_r.to x).1 (E.q96_r.to x).2.1 (E.q96_r.to x).2.2:=by kernel_rfl
theorem TK.q96(N:Nat):Aj Try.prog (T.q96 (R:=R) N):=
 Abw (h:=H.q96) (hc:={lp:=[]}) (L:=_) (d:=5) (g:=27) (e1:=3) (e2:=2) (caps:=[2,3]) hC hm (Ad (TK.q95 N) Ac) (Aqt Try.func9 (by decide) (by kernel_rfl)) (Aqo Try.func27 (by decide) (by kernel_rfl)) (by kernel_rfl) (by kernel_rfl) (by decide) (by decide) (by decide) (by kernel_rfl) (by kernel_rfl) (by kernel_rfl) (λ d=>Ab) (by simp[dfA,Try.f9,Av]) (by simp[dfB,Try.f9,Av]) (F.zg N)
abbrev E.q97_l0_i:Enc St:=sQ 0 (lC (kY 0 D4) (lC (kY 1 D4) (lC Ho (lO Nm)))) (lN (Nat×Blk)) rfl
abbrev E.q97_l0_oe0:Enc St:=sR 0 Sp rfl (lN (Nat×Blk))
abbrev E.q97_l0_oret:Enc St:=sQ 0 (lO Pw) (lN (Nat×Blk)) rfl
abbrev E.q97_a:Enc (List AV×List Blk):=bQ (lC D4 (lO D4)) (lN Blk) rfl
abbrev E.q97_r:Enc (AV×List (Option Blk)×List Blk):=bQ bB (bS (lN (Option Blk)) rfl (lN Blk)) rfl
def T.q97(N:Nat):As R:={f:=11,arg:=E.q97_a,res:=E.q97_r,fn:=F.ai N}
def H.q97:A1:={lp:=[(0,[0,1,12,13],[4])]}
theorem WF.f11:Bc Try.prog 11 Try.f11:=Ap Try.func11 (by decide) (by kernel_rfl)
def TL.q97_l0(N:Nat):An R:={b:=0,st:=E.q97_l0_i,fn:=λ d k=>lp (F.bd N) N d (λ y=>k (.exit 0) (E.q97_l0_oe0.to y),λ y=>k .ret (E.q97_l0_oret.to y))}
theorem LK.q97_l0(N:Nat):Ai Try.prog 0 Try.f11.ntmps (bodyOf Try.f11) (TL.q97_l0 (R:=R) N):=
 Ah (i:=[0,1,12,13]) (o:=[4]) (h:=H.q97) hC hm Ac WF.f11 Ab (by kernel_rfl) (λ d=>Ak rfl) N (F.bd N) _ (λ _ _=>rfl) (λ _ _ _=>by kernel_rfl)
theorem TK.q97(N:Nat):Aj Try.prog (T.q97 (R:=R) N):=
 Al (h:=H.q97) hC hm Ac WF.f11 (λ d=>(Ag (LK.q97_l0 N) Ab)) (λ _ _=>by kernel_rfl)
abbrev E.q98_a:Enc (List AV×List Blk):=bQ (lC (aG Rm) (lO (aG Rm))) (lN Blk) rfl
abbrev E.q98_r:Enc (AV×List (Option Blk)×List Blk):=bQ bB (bS (lN (Option Blk)) rfl (lN Blk)) rfl
def T.q98(N:Nat):As R:={f:=10,arg:=E.q98_a,res:=E.q98_r,fn:=F.nq N}
def H.q98:A1:={lp:=[]}
theorem WF.f10:Bc Try.prog 10 Try.f10:=Ap Try.func10 (by decide) (by kernel_rfl)
theorem TK.q98(N:Nat):Aj Try.prog (T.q98 (R:=R) N):=
 Al (h:=H.q98) hC hm (Ad (TK.q97 N) Ac) WF.f10 (λ d=>Ab) (λ _ _=>by kernel_rfl)
abbrev E.q99_l0_i:Enc St:=sQ 0 (lC (kY 0 Bw) (lC (kY 1 Bw) (lC Ho (lO Nm)))) (lN (Nat×Blk)) rfl
abbrev E.q99_l0_oe0:Enc St:=sR 0 Sp rfl (lN (Nat×Blk))
abbrev E.q99_l0_oret:Enc St:=sQ 0 (lO Pw) (lN (Nat×Blk)) rfl
abbrev E.q99_a:Enc (List AV×List Blk):=bQ (lC Bw (lO Bw)) (lN Blk) rfl
abbrev E.q99_r:Enc (AV×List (Option Blk)×List Blk):=bQ bB (bS (lN (Option Blk)) rfl (lN Blk)) rfl
def T.q99(N:Nat):As R:={f:=11,arg:=E.q99_a,res:=E.q99_r,fn:=F.ai N}
def H.q99:A1:={lp:=[(0,[0,1,12,13],[4])]}
def TL.q99_l0(N:Nat):An R:={b:=0,st:=E.q99_l0_i,fn:=λ d k=>lp (F.bd N) N d (λ y=>k (.exit 0) (E.q99_l0_oe0.to y),λ y=>k .ret (E.q99_l0_oret.to y))}
theorem LK.q99_l0(N:Nat):Ai Try.prog 0 Try.f11.ntmps (bodyOf Try.f11) (TL.q99_l0 (R:=R) N):=
 Ah (i:=[0,1,12,13]) (o:=[4]) (h:=H.q99) hC hm Ac WF.f11 Ab (by kernel_rfl) (λ d=>Ak rfl) N (F.bd N) _ (λ _ _=>rfl) (λ _ _ _=>by kernel_rfl)
theorem TK.q99(N:Nat):Aj Try.prog (T.q99 (R:=R) N):=
 Al (h:=H.q99) hC hm Ac WF.f11 (λ d=>(Ag (LK.q99_l0 N) Ab)) (λ _ _=>by kernel_rfl)
abbrev E.q100_j2:Enc St:=sQ 0 (lC (kY 0 en0) (lC Dx (lC Uw (lO (kY 13 bB))))) (lN (Nat×Blk)) rfl
abbrev E.q100_a:Enc (List AV×List Blk):=bQ (lC en0 Hl) (lN Blk) rfl
abbrev E.q100_r:Enc (AV×List (Option Blk)×List Blk):=bQ (iN .i64) (bS (lN (Option Blk)) rfl (lN Blk)) rfl
def T.q100(N:Nat):As R:={f:=12,arg:=E.q100_a,res:=E.q100_r,fn:=F.uw N}
def H.q100:A1:={lp:=[],jn:=[(2,[0,1,2,13],E.q100_j2)]}
theorem WF.f12:Bc Try.prog 12 Try.f12:=Ap Try.func12 (by decide) (by kernel_rfl)
theorem TK.q100(N:Nat):Aj Try.prog (T.q100 (R:=R) N):=
 Al (h:=H.q100) hC hm Ac WF.f12 (λ d=>Ab) (λ _ _=>by kernel_rfl)
abbrev E.q101_a:Enc (List AV×List Blk):=bQ (lC (pR 0 0 (lC D4 Aer)) Hl) (lN Blk) rfl
abbrev E.q101_r:Enc (AV×List (Option Blk)×List Blk):=bQ (iN .i64) (bS (lN (Option Blk)) rfl (lN Blk)) rfl
def T.q101:As R:={f:=29,arg:=E.q101_a,res:=E.q101_r,fn:=F.sx}
def H.q101:A1:={lp:=[]}
theorem WF.f29:Bc Try.prog 29 Try.f29:=Ap Try.func29 (by decide) (by kernel_rfl)
theorem TK.q101:Aj Try.prog (T.q101 (R:=R)):=
 Al (h:=H.q101) hC hm Ac WF.f29 (λ d=>Ab) (λ _ _=>by kernel_rfl)
abbrev E.q102_j2:Enc St:=sT 1 (lC Dx (lC Uw (lU (kY 3 (pB 0 0)) rfl (lO (kY 28 bB))))) (lO Le)
abbrev E.q102_a:Enc (List AV×List Blk):=bQ (lC (aG Rm) Hl) (lN Blk) rfl
abbrev E.q102_r:Enc (AV×List (Option Blk)×List Blk):=bQ (iN .i64) (bS (lN (Option Blk)) rfl (lN Blk)) rfl
def T.q102(N:Nat):As R:={f:=13,arg:=E.q102_a,res:=E.q102_r,fn:=F.tf N}
def H.q102:A1:={lp:=[],jn:=[(2,[1,2,3,28],E.q102_j2)]}
theorem WF.f13:Bc Try.prog 13 Try.f13:=Ap Try.func13 (by decide) (by kernel_rfl)
theorem TK.q102(N:Nat):Aj Try.prog (T.q102 (R:=R) N):=
 Al (h:=H.q102) hC hm (Ad (TK.q86 N) (Ad TK.q101 Ac)) WF.f13 (λ d=>Ab) (λ _ _=>by kernel_rfl)
abbrev E.q103_l2_i:Enc St:=sT 13 (lC (kY 1 en0) (lU Ol rfl (lU Zh rfl (lC Nm (lC Uz (lC Sr (lO Kw))))))) Om
abbrev E.q103_l2_oe2:Enc St:=sT 13 (lC (kY 1 en0) (lU Sn rfl Aet)) Om
abbrev E.q103_l2_oret:Enc St:=sT 13 (lC (kY 1 en0) (lC Pw Aet)) Om
abbrev E.q103_l0_i:Enc St:=sT 13 (lC (kY 1 en0) Aet) Om
abbrev E.q103_l0_oe0:Enc St:=sR 0 Sp rfl (lN (Nat×Blk))
abbrev E.q103_l0_oret:Enc St:=sQ 0 (lO Pw) (lN (Nat×Blk)) rfl
abbrev E.q103_j197:Enc St:=sT 13 (lC (kY 1 en0) (lU Ol rfl (lU Zh rfl (lC Nm (lC Uz (lC Sr (lC Kw (lO J2)))))))) Om
abbrev E.q103_j28:Enc St:=sT 13 (lC (kY 1 en0) (lU Ol rfl (lU Zh rfl (lO (kY 77 bB))))) Om
abbrev E.q103_j26:Enc St:=sT 21 (lC (kY 1 en0) (lU Ol rfl (lU (kY 8 (pB 1 0)) rfl (lU (kY 11 (pB 2 0)) rfl (lO Ho))))) (lC (kY 0 Ak9) (lC (kY 1 (cE (lU (sL 7) rfl (lR (iN .i64) (lU (sL 8) rfl (lU (sL 9) rfl (lU (sL 10) rfl (lU (sL 11) rfl At3)))) rfl)))) (lC (kY 2 (cE (lU (sL 14) rfl (lR (iN .i64) (lU (sL 15) rfl (lU (sL 16) rfl (lU (sL 17) rfl (lU (sL 18) rfl (lU (sL 19) rfl (lU (sL 20) rfl (lN AV))))))) rfl)))) (lC (kY 3 Am) (lC (kY 4 Am) (lC (kY 5 Am) (lC (kY 6 Am) (lC (kY 7 Am) (lC (kY 8 Am) (lC (kY 9 Am) (lC Pv (lC P2 (lC P3 (lC Su (lC U2 (lC Abv (lC (kY 16 Am) (lC (kY 17 Am) (lC (kY 18 Am) (lC (kY 19 Am) (lO (kY 20 Am))))))))))))))))))))))
abbrev E.q103_j10:Enc St:=sT 13 (lC (kY 1 en0) (lU Ol rfl (lC Bv (lU (kY 8 (pB 1 0)) rfl (lO Di))))) Om
abbrev E.q103_j8:Enc St:=sT 5 (lC (kY 0 en0) (lC (kY 1 en0) (lU Ol rfl (lO Bv)))) (lC (kY 0 (cE (lU (sL 1) rfl As4))) (lC (kY 1 Am) (lC (kY 2 Am) (lC (kY 3 Am) (lO (kY 4 Am))))))
abbrev E.q103_j2:Enc St:=sQ 0 (lC (kY 0 en0) (lC (kY 1 en0) (lO (kY 25 bB)))) (lN (Nat×Blk)) rfl
abbrev E.q103_a:Enc (List AV×List Blk):=bQ (lC en0 (lO en0)) (lN Blk) rfl
abbrev E.q103_r:Enc (AV×List (Option Blk)×List Blk):=bQ bB (bS (lN (Option Blk)) rfl (lN Blk)) rfl
def T.q103(N:Nat):As R:={f:=3,arg:=E.q103_a,res:=E.q103_r,fn:=F.vq N}
def H.q103:A1:={lp:=[(0,[1,5,11,13,14,15],[4]),(2,[1,5,11,13,14,15,16],[1,4,5,11,13,14,15])],jn:=[(197,[1,5,11,13,14,15,16,17],E.q103_j197),(28,[1,5,11,77],E.q103_j28),(26,[1,5,8,11,12],E.q103_j26),(10,[1,5,7,8,9],E.q103_j10),(8,[0,1,5,7],E.q103_j8),(2,[0,1,25],E.q103_j2)]}
theorem WF.f3:Bc Try.prog 3 Try.f3:=Ap Try.func3 (by decide) (by kernel_rfl)
def TL.q103_l2(N:Nat):An R:={b:=2,st:=E.q103_l2_i,fn:=λ d k=>lp (F.kc N) N d (λ y=>k (.exit 2) (E.q103_l2_oe2.to y),λ y=>k .ret (E.q103_l2_oret.to y))}
theorem LK.q103_l2(N:Nat):Ai Try.prog 0 Try.f3.ntmps (bodyOf Try.f3) (TL.q103_l2 (R:=R) N):=
 Ah (i:=[1,5,11,13,14,15,16]) (o:=[1,4,5,11,13,14,15]) (h:=H.q103) hC hm (Ad (TK.q100 N) (Ad (TK.q102 N) Ac)) WF.f3 Ab (by kernel_rfl) (λ d=>Ak rfl) N (F.kc N) _ (λ _ _=>rfl) (λ _ _ _=>by kernel_rfl)
def TL.q103_l0(N:Nat):An R:={b:=0,st:=E.q103_l0_i,fn:=λ d k=>lp (F.ke N) N d (λ y=>k (.exit 0) (E.q103_l0_oe0.to y),λ y=>k .ret (E.q103_l0_oret.to y))}
theorem LK.q103_l0(N:Nat):Ai Try.prog 0 Try.f3.ntmps (bodyOf Try.f3) (TL.q103_l0 (R:=R) N):=
 Ah (i:=[1,5,11,13,14,15]) (o:=[4]) (h:=H.q103) hC hm Ac WF.f3 (Ag (LK.q103_l2 N) Ab) (by kernel_rfl) (λ d=>Ak rfl) N (F.ke N) _ (λ _ _=>rfl) (λ _ _ _=>by kernel_rfl)
def Dz(N:Nat)(g0:(List Int)->(Q3->Option R)->Option R)(g1:Bb->(Ib->Option R)->Option R)(g2:Bb->(Ib->Option R)->Option R)(g3:Et->(Bool->Option R)->Option R)(g4:Et->(List UInt8->Option R)->Option R)(g5:(List UInt8)->(Int->Int->(List Int)->(List Int)->(List Int)->(List Int)->(List Int)->(List Int)->(List Int)->Option R)->Option R)(g6:Tg->(Bool->Option R)->Option R)(g7:Jm->(Bool->Option R)->Option R):(Bool->Option R)->Ave->Option R
 | k,((w95,w96),w97,w98,w99,w100,w101,w102,w103,w104,w105,w106,w107,w108,w109)=>
 bif w96 then
  k false
 else
  bif decide ((z8 w101:Int)>60) then
   chk (!(20==0))<|
   F.nr N N ((w95,(z8 w101:Int),Aa .i64 (Int.tdiv (z8 w101:Int) 20),0),w97,w98,w99,w100,w101,w102,w103,w104,w105,w106,w107,w108,w109) (λ _=>
    k true,
    λ y309=>
    k y309)
  else
   F.nr N N ((w95,(z8 w101:Int),1,0),w97,w98,w99,w100,w101,w102,w103,w104,w105,w106,w107,w108,w109) (λ _=>
    k true,
    λ y310=>
    k y310)
def M9(N:Nat)(g0:(List Int)->(Q3->Option R)->Option R)(g1:Bb->(Ib->Option R)->Option R)(g2:Bb->(Ib->Option R)->Option R)(g3:Et->(Bool->Option R)->Option R)(g4:Et->(List UInt8->Option R)->Option R)(g5:(List UInt8)->(Int->Int->(List Int)->(List Int)->(List Int)->(List Int)->(List Int)->(List Int)->(List Int)->Option R)->Option R)(g6:Tg->(Bool->Option R)->Option R)(g7:Jm->(Bool->Option R)->Option R):(Bool->Option R)->Avf->Option R
 | k,((w69,w70),w71,w72,w73,w74,w75,w76,w77,w78,w79,w80,w81,w82,w83,w84,w85,w86,w87,w88,w89,w90,w91)=>
 bif w70 !=0 then
  jn (Dz N g0 g1 g2 g3 g4 g5 g6 g7 k) ((w69,true),w71,w73,w74,w75,w76,w77,w85,w86,w87,w88,w89,w90,w91)
 else
  g6 ((w85,w73,w86,w87,w88,w89,w90,w91),w78,w72,w79,w80,w81,w82,w83,w84) λ r92=>
  bif !r92 then
   jn (Dz N g0 g1 g2 g3 g4 g5 g6 g7 k) ((w69,true),w71,w73,w74,w75,w76,w77,w85,w86,w87,w88,w89,w90,w91)
  else
   g7 (w88,w76) λ r93=>
   bif !r93 then
    jn (Dz N g0 g1 g2 g3 g4 g5 g6 g7 k) ((w69,true),w71,w73,w74,w75,w76,w77,w85,w86,w87,w88,w89,w90,w91)
   else
    g7 (w89,w77) λ r94=>
    jn (Dz N g0 g1 g2 g3 g4 g5 g6 g7 k) ((w69, !r94),w71,w73,w74,w75,w76,w77,w85,w86,w87,w88,w89,w90,w91)
def M8(N:Nat)(g0:(List Int)->(Q3->Option R)->Option R)(g1:Bb->(Ib->Option R)->Option R)(g2:Bb->(Ib->Option R)->Option R)(g3:Et->(Bool->Option R)->Option R)(g4:Et->(List UInt8->Option R)->Option R)(g5:(List UInt8)->(Int->Int->(List Int)->(List Int)->(List Int)->(List Int)->(List Int)->(List Int)->(List Int)->Option R)->Option R)(g6:Tg->(Bool->Option R)->Option R)(g7:Jm->(Bool->Option R)->Option R):(Bool->Option R)->(Dp×Int×Wd)->Option R
 | k,((w42,w43,w44),w45,w46,w47,w48,w49,w50,w51,w52,w53,w54,w55,w56,w57)=>
 bif w44 !=w43 then
  k false
 else
  bif w43 !=0 then
   k true
  else
   g3 (w51,w46,w52,w53,w54,w55,w56,w57) λ r58=>
   bif !r58 then
    k false
   else
    g4 (w51,w46,w52,w53,w54,w55,w56,w57) λ r59=>
    g5 r59 λ r60 r61 r62 r63 r64 r65 r66 r67 r68=>
    jn (M9 N g0 g1 g2 g3 g4 g5 g6 g7 k) ((w42,r61),w45,w46,r60,w47,w48,w49,w50,w51,w52,w53,w54,w55,w56,w57,r62,r63,r64,r65,r66,r67,r68)
def Oq(N:Nat)(g0:(List Int)->(Q3->Option R)->Option R)(g1:Bb->(Ib->Option R)->Option R)(g2:Bb->(Ib->Option R)->Option R)(g3:Et->(Bool->Option R)->Option R)(g4:Et->(List UInt8->Option R)->Option R)(g5:(List UInt8)->(Int->Int->(List Int)->(List Int)->(List Int)->(List Int)->(List Int)->(List Int)->(List Int)->Option R)->Option R)(g6:Tg->(Bool->Option R)->Option R)(g7:Jm->(Bool->Option R)->Option R):(Bool->Option R)->Avg->Option R
 | k,((w20,w21,w22),w23,w24,w25,w26,w27)=>
 g0 w20 λ(r28,r29,r30,r31,r32)=>
 g2 (r29,r28,r30,r31,r32) λ((r33,r34),r35,r36,r37,r38,r39,r40,r41)=>
 jn (M8 N g0 g1 g2 g3 g4 g5 g6 g7 k) ((w21,w22,r34),w23,r33,w24,w25,w26,w27,r35,r36,r37,r38,r39,r40,r41)
def Iy(N:Nat)(g0:(List Int)->(Q3->Option R)->Option R)(g1:Bb->(Ib->Option R)->Option R)(g2:Bb->(Ib->Option R)->Option R)(g3:Et->(Bool->Option R)->Option R)(g4:Et->(List UInt8->Option R)->Option R)(g5:(List UInt8)->(Int->Int->(List Int)->(List Int)->(List Int)->(List Int)->(List Int)->(List Int)->(List Int)->Option R)->Option R)(g6:Tg->(Bool->Option R)->Option R)(g7:Jm->(Bool->Option R)->Option R):(Bool->Option R)->((List Int)×(List Int)×Bool)->Option R
 | k,(w3,w4,w5)=>
 bif w5 then
  k true
 else
  g0 w3 λ(r6,r7,r8,r9,r10)=>
  g1 (r7,r6,r8,r9,r10) λ((r11,r12),r13,r14,r15,r16,r17,r18,r19)=>
  jn (Oq N g0 g1 g2 g3 g4 g5 g6 g7 k) ((w3,w4,r12),r6,r7,r8,r9,r10)
def Tn(N:Nat)(g0:(List Int)->(Q3->Option R)->Option R)(g1:Bb->(Ib->Option R)->Option R)(g2:Bb->(Ib->Option R)->Option R)(g3:Et->(Bool->Option R)->Option R)(g4:Et->(List UInt8->Option R)->Option R)(g5:(List UInt8)->(Int->Int->(List Int)->(List Int)->(List Int)->(List Int)->(List Int)->(List Int)->(List Int)->Option R)->Option R)(g6:Tg->(Bool->Option R)->Option R)(g7:Jm->(Bool->Option R)->Option R):Jm->(Bool->Option R)->Option R
 | (x1,x2),k=>
 bif decide ((z8 x1:Int)>1048576) then
  jn (Iy N g0 g1 g2 g3 g4 g5 g6 g7 k) (x1,x2,true)
 else
  jn (Iy N g0 g1 g2 g3 g4 g5 g6 g7 k) (x1,x2,decide ((z8 x2:Int)>1048576))
theorem GK.q103(N:Nat)(g0:(List Int)->(Q3->Option R)->Option R)(g1:Bb->(Ib->Option R)->Option R)(g2:Bb->(Ib->Option R)->Option R)(g3:Et->(Bool->Option R)->Option R)(g4:Et->(List UInt8->Option R)->Option R)(g5:(List UInt8)->(Int->Int->(List Int)->(List Int)->(List Int)->(List Int)->(List Int)->(List Int)->(List Int)->Option R)->Option R)(g6:Tg->(Bool->Option R)->Option R)(g7:Jm->(Bool->Option R)->Option R)(d:E.q103_a.D)(k:AV->List (Option Blk)->List Blk->Option R):Rr cfg (Fl [{f:=4,arg:=E.q69_a,res:=E.q69_r,fn:=g0},{f:=5,arg:=E.q72_a,res:=E.q72_r,fn:=g1},{f:=6,arg:=E.q83_a,res:=E.q83_r,fn:=g2},{f:=7,arg:=E.q85_a,res:=E.q85_r,fn:=g3},{f:=8,arg:=E.q89_a,res:=E.q89_r,fn:=g4},{f:=9,arg:=E.q96_a,res:=E.q96_r,fn:=λ d k=>g5 d.1.1 (λ x0 x1 x2 x3 x4 x5 x6 x7 x8=>k ((((),(x0,((),((),((),((),((),((),())))))))),(x1,())),((),((x2,()),((x3,()),((x4,()),((x5,()),((x6,()),((x7,()),((x8,()),()))))))))))},{f:=10,arg:=E.q98_a,res:=E.q98_r,fn:=g6},{f:=11,arg:=E.q99_a,res:=E.q99_r,fn:=g7}]) (Dk [TL.q103_l0 N]) H.q103 Try.f3 (E.q103_a.to d).1 (E.q103_a.to d).2 k=Tn N g0 g1 g2 g3 g4 g5 g6 g7 d (λ x=>k (E.q103_r.to x).1 (E.q103_r.to x).2.1 (E.q103_r.to x).2.2):=by kernel_rfl
theorem TK.q103(N:Nat):Aj Try.prog (T.q103 (R:=R) N):=
 Al (h:=H.q103) hC hm (Ad (TK.q69 N) (Ad (TK.q72 N) (Ad (TK.q83 N) (Ad (TK.q85 N) (Ad (TK.q89 N) (Ad (TK.q96 N) (Ad (TK.q98 N) (Ad (TK.q99 N) Ac)))))))) WF.f3 (λ d=>(Ag (LK.q103_l0 N) Ab)) (λ d k=>(GK.q103 N (F.ma N) (F.tu N) (F.tx N) (F.lg N) (F.rh N) (F.ua N) (F.nq N) (F.ai N) d k).trans (by kernel_rfl))
end Go.Proofs.Ytlnfickaejikoaa.fnImage
