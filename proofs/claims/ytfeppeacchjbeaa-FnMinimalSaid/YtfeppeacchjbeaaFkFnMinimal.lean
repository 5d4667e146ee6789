/- These plain functions are what the Go functions answer. -/
import Derived.Test.YtfeppeacchjbeaaEd
import Derived.Test.YtfeppeacchjbeaaFdFnMinimal
import Derived.Test.YtfeppeacchjbeaaChecked
import Derived.KernelRfl
import Derived.Eval
open List renaming replicate->z9
set_option maxRecDepth 100000
set_option maxHeartbeats 4000000
set_option linter.unusedVariables false
set_option linter.unusedSimpArgs false
namespace Go.Proofs.Ytfeppeacchjbeaa.fnMinimal
open Go.Ev Go.Ev.Enc
variable{R:Type}
abbrev ki0:Ki:=(.pair (.int .i64) (.int .i64))
abbrev ki3:Ki:=(.pair (.int .i64) (.pair (.fl ki0) (.pair (.int .i64) ki0)))
abbrev ki5:Ki:=(.pair .bool (.pair .bool (.lst ki3)))
abbrev ki8:Ki:=(.pair (.int .u8) (.pair (.int .i64) (.pair (.fl .bool) ki0)))
abbrev ki9:Ki:=(.pair (.lst ki5) (.int .i64))
abbrev Aat:Ki:=(.pair (.int .u8) (.pair (.int .i64) (.pair (.int .i64) (.fl ki0))))
abbrev Xx:Ki:=(.pair (.int .i64) (.pair .bool (.pair .bool (.int .i64))))
abbrev Nl:Ki:=(.lst (.int .i64))
abbrev Ag9:Ki:=(.arr 2 (.int .i64))
abbrev Qt:Ki:=(.arr 256 (.int .i64))
abbrev Ao0:Ki:=(.lst (.int .u8))
abbrev en0:Enc AV:=(fZ (.int .u8))
abbrev en3:Enc Blk:=(cE (vA [(sL 7),(iN .i64),(sL 8),(sL 9),(sL 10)]))
abbrev en5:Enc Blk:=(cE (vA [(rW (.int .i64))]))
abbrev Atr:Enc Blk:=(cE (vA [(rW .bool)]))
abbrev Ajn:Enc AV:=(rO 0 (.lst ki3))
abbrev Ec:Enc AV:=(rO 0 (.int .i64))
abbrev Qm:Enc Blk:=(cE (vA [Ec,(iN .i64),Ec,Ec,Ec]))
abbrev Agy:Enc Blk:=(cE (vA [(sL 6),(iN .i64),(sL 7),(sL 8),(sL 9)]))
abbrev Avh:Enc Blk:=(cE (vA [(sL 12),(iN .i64),(sL 13),(sL 14),(sL 15)]))
abbrev Ats:Enc Blk:=(cE (vA [(sL 11),(iN .i64),(sL 12),(sL 13),(sL 14)]))
abbrev Avi:Enc Blk:=(cE (vA [(sL 8),(iN .i64),(sL 9),(sL 10),(sL 11)]))
abbrev Agz:Enc AV:=(fN 29 (vA []))
abbrev Hh:Enc AV:=(rO 1 (.int .i64))
abbrev Aj2:Enc (List AV):=(lU (pB 0 0) rfl (lO (iN .i64)))
abbrev Qn:Enc (List AV):=(lC (iN .i64) (lO (iN .i64)))
abbrev B0:Enc Blk:=(cE (lC en0 Qn))
abbrev Xk:Enc Blk:=(cE (lO (rW ki3)))
abbrev Avj:Enc (List AV):=(lC Ec (lC Ec (lO tR)))
abbrev Avk:Enc AV:=(aG (lC (fZ ki3) Avj))
abbrev Xl:Enc Blk:=(cE (lO (rW Aat)))
abbrev Xm:Enc Blk:=(cE (lO (rW Xx)))
abbrev Att:Enc (List Blk):=(lU (cE (lU (sL 1) rfl (lU (sL 2) rfl (lN AV)))) rfl (lC Xl (lO Xm)))
abbrev Avl:Enc (List AV):=(lU (sL 3) rfl (lU (sL 4) rfl (lN AV)))
abbrev Atu:Enc (List (Option Blk)):=(lU (sM (cE Avl)) rfl (lU (nO Blk) rfl (lU (nO Blk) rfl (lN (Option Blk)))))
abbrev Ac2:Enc (List AV):=(lC (rO 0 Aat) (lO (rO 0 Xx)))
abbrev Ch:Enc Blk:=(cE (lO (rW .bool)))
abbrev Cl:Enc (Nat×AV):=(kY 0 (pB 0 0))
abbrev Cm:Enc (Nat×AV):=(kY 2 (pB 1 0))
abbrev Ca:Enc (Nat×AV):=(kY 3 (iN .i64))
abbrev Iz:Enc (Nat×AV):=(kY 4 (pB 2 0))
abbrev B9:Enc (Nat×AV):=(kY 5 (iN .i64))
abbrev Aqt:Enc Blk:=(cE (lU (sL 3) rfl (lR (iN .i64) (lU (sL 4) rfl (lU (sL 5) rfl (lU (sL 6) rfl (lN AV)))) rfl)))
abbrev Aqu:Enc (List AV):=(lU (sL 9) rfl (lU (sL 10) rfl (lN AV)))
abbrev Ar:Enc Blk:=(cE (lO (rW (.int .i64))))
abbrev Kv:Enc (List (Nat×Blk)):=(lC (kY 1 Aqt) (lC (kY 2 (cE (lU (sL 7) rfl (lR (iN .i64) (lU (sL 8) rfl Aqu) rfl)))) (lC (kY 3 Ar) (lC (kY 4 Ar) (lC (kY 5 Ar) (lC (kY 6 Ar) (lC (kY 7 Ar) (lC (kY 8 Ar) (lC (kY 9 Ar) (lO (kY 10 Ar)))))))))))
abbrev Aeu:Enc (List (Nat×AV)):=(lU Iz rfl (lN (Nat×AV)))
abbrev Cb:Enc (Nat×AV):=(kY 7 (iN .i64))
abbrev D4:Enc (Nat×AV):=(kY 8 (iN .i64))
abbrev Ce:Enc (Nat×AV):=(kY 9 (iN .i64))
abbrev Aqv:Enc (List AV):=(lR (iN .i64) (lU (sL 2) rfl Avl) rfl)
abbrev Vs:Enc AV:=(aG (lU (sL 1) rfl Aqv))
abbrev Mz:Enc (List Blk):=(lC Ar (lC Ar (lO Ar)))
abbrev Kw:Enc (Nat×AV):=(kY 3 (sL 2))
abbrev D5:Enc (Nat×AV):=(kY 4 (iN .i64))
abbrev C5:Enc (Nat×AV):=(kY 6 (iN .i64))
abbrev Ajh:Enc (List AV):=(lU (sL 3) rfl (lO (iN .i64)))
abbrev Kx:Enc Blk:=(cE (lO (rW ki5)))
abbrev M0:Enc (List (Nat×Blk)):=(lC (kY 0 B0) (lC (kY 1 (cE Ajh)) (lC (kY 2 Xk) (lO (kY 3 Kx)))))
abbrev Aji:Enc (List (Nat×AV)):=(lU Cl rfl (lU Cm rfl (lU Kw rfl (lC D5 (lO B9)))))
abbrev Ajj:Enc (List AV):=(lU (sL 1) rfl (lO (iN .i64)))
abbrev I0:Enc (Nat×AV):=(kY 5 (sL 0))
abbrev Fl:Enc (Nat×AV):=(kY 6 (sL 1))
abbrev Jm:Enc (Nat×AV):=(kY 7 (sL 2))
abbrev Re:Enc (Nat×AV):=(kY 16 (iN .i64))
abbrev Ky:Enc (Nat×AV):=(kY 17 (iN .i64))
abbrev Aqw:Enc (List (Nat×AV)):=(lC (kY 15 (rO 0 ki3)) (lC Re (lO Ky)))
abbrev Hd:Enc (List (Nat×Blk)):=(lC (kY 1 Ar) (lO (kY 2 Ar)))
abbrev Ou:Enc (Nat×AV):=(kY 2 uN)
abbrev Kc:Enc (Nat×AV):=(kY 4 uN)
abbrev Kz:Enc (Nat×AV):=(kY 4 bB)
abbrev S8:Enc (Nat×AV):=(kY 9 (pB 3 0))
abbrev He:Enc (Nat×AV):=(kY 10 (iN .i64))
abbrev Ff:Enc (Nat×AV):=(kY 11 (iN .i64))
abbrev Aqx:Enc (List AV):=(lC (fZ ki0) (lC (iN .i64) Qn))
abbrev Vt:Enc Blk:=(cE (lC (iN .i64) Aqx))
abbrev Aqy:Enc (List (Nat×Blk)):=(lC (kY 0 Ar) (lC (kY 1 Ar) (lC (kY 2 Ar) (lO (kY 3 Vt)))))
abbrev Aqz:Enc AV:=(tP (lU (sL 0) rfl (lU (sL 1) rfl (lO bB))))
abbrev Aq0:Enc AV:=(aG (lC (iN .i64) Aqx))
abbrev Ajk:Enc (Nat×AV):=(kY 0 (rO 0 ki3))
abbrev I1:Enc (Nat×AV):=(kY 3 (sL 0))
abbrev Dq:Enc (Nat×AV):=(kY 4 (sL 1))
abbrev Aev:Enc (Nat×AV):=(kY 6 (sL 2))
abbrev Vu:Enc (Nat×AV):=(kY 21 (iN .i64))
abbrev Ajl:Enc (Nat×AV):=(kY 22 (iN .i64))
abbrev Aq1:Enc (List (Nat×AV)):=(lC (kY 20 (rO 0 ki3)) (lC Vu (lO Ajl)))
abbrev Hf:Enc (Nat×AV):=(kY 6 (sL 0))
abbrev Aew:Enc (List (Nat×AV)):=(lU Hf rfl (lN (Nat×AV)))
abbrev F6:Enc (Nat×AV):=(kY 1 (iN .i64))
abbrev K3:Enc (Nat×AV):=(kY 5 tR)
abbrev Aq2:Enc (List (Nat×AV)):=(lC K3 (lC C5 (lO Cb)))
abbrev Ajm:Enc (List (Nat×AV)):=(lU Cl rfl (lC K3 (lO C5)))
abbrev Fg:Enc (Nat×AV):=(kY 0 tR)
abbrev Zv:Enc (Nat×AV):=(kY 2 (iN .i64))
abbrev Aq3:Enc (List (Nat×AV)):=(lC Fg (lC F6 (lO Cb)))
abbrev Aex:Enc (List AV):=(lC tR (lO (iN .i64)))
abbrev Jn:Enc (Nat×AV):=(kY 8 bB)
abbrev Hg:Enc (Nat×AV):=(kY 12 (iN .i64))
abbrev Ajo:Enc (List (Nat×AV)):=(lC Jn (lC Ce (lO Hg)))
abbrev Rf:Enc (Nat×AV):=(kY 19 (iN .i64))
abbrev Zw:Enc (Nat×AV):=(kY 4 (sL 0))
abbrev S9:Enc (Nat×AV):=(kY 18 (iN .i64))
abbrev Zx:Enc (Nat×AV):=(kY 20 (iN .i64))
abbrev Aq4:Enc (List AV):=(lU (sL 0) rfl (lO (iN .i64)))
abbrev Zy:Enc (List (Nat×AV)):=(lU I0 rfl (lN (Nat×AV)))
abbrev Aey:Enc (List (Nat×AV)):=(lU Ou rfl (lN (Nat×AV)))
abbrev Rg:Enc (Nat×AV):=(kY 2 bB)
abbrev Aez:Enc Blk:=(cE (lO (rW ki8)))
abbrev Ae0:Enc (List AV):=(lC (fZ ki8) (lO (iN .i64)))
abbrev Kd:Enc (Nat×AV):=(kY 0 (fZ ki8))
abbrev Aq5:Enc (List (Nat×AV)):=(lC F6 (lC B9 (lO C5)))
abbrev Zz:Enc (List (Nat×AV)):=(lU Kc rfl (lN (Nat×AV)))
abbrev Ta:Enc Blk:=(cE (lO (rW (.fl ki8))))
abbrev Aq6:Enc (List (Nat×AV)):=(lC Kd (lU I1 rfl (lO D5)))
abbrev Ajp:Enc (Nat×AV):=(kY 0 (fZ .bool))
abbrev Ae1:Enc Blk:=(cE (lO (rW ki0)))
abbrev Ajq:Enc (List (Nat×AV)):=(lU I1 rfl (lN (Nat×AV)))
abbrev Aq7:Enc (List (Nat×AV)):=(lU I1 rfl (lC D5 (lO C5)))
abbrev Ov:Enc Blk:=(cE (lO (rW (.lst ki3))))
abbrev Ae2:Enc (List (Nat×AV)):=(lU (kY 41 (sL 2)) rfl (lC (kY 42 (iN .i64)) (lO (kY 43 (iN .i64)))))
abbrev Dp:Enc (Nat×AV):=(kY 2 (pB 0 0))
abbrev Tb:Enc (Nat×AV):=(kY 5 (fZ ki8))
abbrev Vv:Enc (List (Nat×Blk)):=(lC (kY 0 (cE Ajj)) (lO (kY 1 Kx)))
abbrev Aq8:Enc (List (Nat×AV)):=(lU Dp rfl (lC Tb (lO Ff)))
abbrev Z0:Enc (Nat×AV):=(kY 12 (pB 1 0))
abbrev Ajr:Enc (List (Nat×Blk)):=(lC (kY 0 (cE (lU (sL 2) rfl (lO (iN .i64))))) (lC (kY 1 (cE Ajh)) (lC (kY 2 Kx) (lO (kY 3 Kx)))))
abbrev Aq9:Enc (List AV):=(lU (sL 4) rfl (lO (iN .i64)))
abbrev Ara:Enc (List (Nat×Blk)):=(lC (kY 0 B0) (lO (kY 1 (cE (lO (rW ki9))))))
abbrev Arb:Enc (List (Nat×AV)):=(lC (kY 15 (fZ ki3)) (lC Re (lO Ky)))
abbrev Bk:Enc (Nat×AV):=(kY 1 (pB 0 0))
abbrev Ajs:Enc (Nat×AV):=(kY 0 (fZ ki3))
abbrev Arc:Enc (List (Nat×AV)):=(lC (kY 20 (fZ ki3)) (lC Vu (lO Ajl)))
abbrev Ajt:Enc (List AV):=(lC (fZ ki5) (lO (iN .i64)))
abbrev Ae3:Enc (Nat×Blk):=(kY 0 (cE Ajt))
abbrev K4:Enc (List (Nat×Blk)):=(lC Ae3 (lO (kY 1 Ar)))
abbrev Ae4:Enc (List (Nat×AV)):=(lU Dq rfl (lN (Nat×AV)))
abbrev Aju:Enc (List (Nat×AV)):=(lC (kY 46 (fZ ki5)) (lC (kY 47 (iN .i64)) (lO (kY 48 (iN .i64)))))
abbrev Ae5:Enc (Nat×AV):=(kY 14 (iN .i64))
abbrev Vw:Enc (Nat×AV):=(kY 15 (iN .i64))
abbrev Ajv:Enc (List AV):=(lU (sL 4) rfl (lU (sL 5) rfl (lN AV)))
abbrev Ard:Enc (List (Nat×Blk)):=(lC (kY 4 Xl) (lO (kY 5 Xm)))
abbrev Are:Enc (List (Nat×Blk)):=(lU (kY 0 (cE Ajv)) rfl (lC (kY 3 (cE (lC (fZ ki3) Avj))) Ard))
abbrev K5:Enc (Nat×AV):=(kY 3 (pB 1 0))
abbrev Z1:Enc (Nat×AV):=(kY 13 (iN .i64))
abbrev Arf:Enc (List AV):=(lU (sL 2) rfl (lU (sL 3) rfl (lN AV)))
abbrev Ae6:Enc (List (Nat×Blk)):=(lU (kY 0 (cE Arf)) rfl (lU (kY 1 (cE Ajv)) rfl (lC (kY 2 Xl) (lC (kY 3 Xm) Ard))))
abbrev Arg:Enc (List AV):=(lU (sL 0) rfl (lU (sL 1) rfl (lN AV)))
abbrev Ow:Enc (Nat×AV):=(kY 5 (sL 2))
abbrev Tc:Enc (Nat×Blk):=(kY 0 (cE Ac2))
abbrev Arh:Enc (List (Nat×AV)):=(lU (kY 19 (sL 2)) rfl (lC Zx (lO Vu)))
abbrev Ox:Enc (Nat×AV):=(kY 4 (pB 0 0))
abbrev K6:Enc (List AV):=(lC Ec (lC (iN .i64) (lC Ec (lC Ec (lO Ec)))))
abbrev D6:Enc (Nat×Blk):=(kY 0 (cE K6))
abbrev Z3:Enc (List (Nat×Blk)):=(lC D6 (lO (kY 1 Ar)))
abbrev Ari:Enc (List (Nat×AV)):=(lU Bk rfl (lU (kY 3 (sL 1)) rfl (lO D5)))
abbrev Gu:Enc (Nat×AV):=(kY 9 (sL 2))
abbrev Oy:Enc (Nat×AV):=(kY 11 (sL 3))
abbrev Z4:Enc Blk:=(cE (lO (rW (.lst .bool))))
abbrev Arj:Enc (List (Nat×Blk)):=(lC (kY 1 Ar) (lC (kY 2 Ar) (lC (kY 3 Z4) (lO (kY 4 Ch)))))
abbrev Oz:Enc (List (Nat×Blk)):=(lC D6 (lC (kY 1 Ar) (lC (kY 2 Ar) (lO (kY 3 Z4)))))
abbrev Z5:Enc (Nat×AV):=(kY 15 bB)
abbrev Ark:Enc (List (Nat×AV)):=(lC (kY 1 Ec) (lU Dp rfl (lC B9 (lU Fl rfl (lU Gu rfl (lU Oy rfl (lC Z5 (lC Re (lO Ky)))))))))
abbrev Arl:Enc (List (Nat×AV)):=(lC (kY 1 Ec) (lU Dp rfl (lC B9 (lU Fl rfl (lU Gu rfl (lU Oy rfl (lO Z5)))))))
abbrev Arm:Enc (List AV):=(lR (iN .i64) (lU (sL 6) rfl (lU (sL 7) rfl (lU (sL 8) rfl (lN AV)))) rfl)
abbrev Ajw:Enc Blk:=(cE (lU (sL 5) rfl Arm))
abbrev Arn:Enc (List (Nat×Blk)):=(lC (kY 5 Ar) (lC (kY 6 Ar) (lC (kY 7 Ar) (lO (kY 8 Ar)))))
abbrev Ajx:Enc (List (Nat×Blk)):=(lC (kY 1 Ajw) (lC (kY 2 Ar) (lC (kY 3 Z4) (lC (kY 4 Ar) Arn))))
abbrev Rh:Enc (Nat×AV):=(kY 10 (sL 4))
abbrev Vx:Enc Blk:=(cE (lU (sL 6) rfl (lR (iN .i64) (lU (sL 7) rfl (lU (sL 8) rfl (lU (sL 9) rfl (lN AV)))) rfl)))
abbrev Z6:Enc Blk:=(cE (lO (rW Nl)))
abbrev Aro:Enc (List (Nat×Blk)):=(lC (kY 6 Ar) (lC (kY 7 Ar) (lC (kY 8 Ar) (lO (kY 9 Ar)))))
abbrev Arp:Enc (List (Nat×Blk)):=(lC D6 (lC (kY 1 Vx) (lC (kY 2 Ar) (lC (kY 3 Ar) (lC (kY 4 Z6) (lC (kY 5 Ar) Aro))))))
abbrev Td:Enc (Nat×AV):=(kY 10 (sL 3))
abbrev O0:Enc Blk:=(cE (lU (sL 4) rfl (lR (iN .i64) (lU (sL 5) rfl (lU (sL 6) rfl (lU (sL 7) rfl (lN AV)))) rfl)))
abbrev Vy:Enc (Nat×AV):=(kY 15 (pB 4 0))
abbrev Vz:Enc (Nat×AV):=(kY 16 (sL 5))
abbrev Arq:Enc Blk:=(cE (lU (sL 10) rfl (lR (iN .i64) (lU (sL 11) rfl (lU (sL 12) rfl (lU (sL 13) rfl (lN AV)))) rfl)))
abbrev Arr:Enc (List (Nat×Blk)):=(lC (kY 5 Ar) (lC (kY 6 Ar) (lC (kY 7 Ar) (lC (kY 8 Ar) (lC (kY 9 Ar) (lC (kY 10 Ar) (lC (kY 11 Ar) (lC (kY 12 Ar) (lO (kY 13 Ar))))))))))
abbrev V1:Enc (List (Nat×Blk)):=(lC (kY 1 Vx) (lC (kY 2 Ar) (lC (kY 3 Z6) (lC (kY 4 Arq) Arr))))
abbrev Ars:Enc (List (Nat×AV)):=(lU (kY 115 (sL 5)) rfl (lC (kY 116 (iN .i64)) (lO (kY 117 (iN .i64)))))
abbrev Ajy:Enc (Nat×AV):=(kY 15 (pB 3 0))
abbrev Ajz:Enc (List (Nat×Blk)):=(lC (kY 1 Vx) (lC (kY 2 Z6) (lC (kY 3 Arq) (lC (kY 4 Ar) Arr))))
abbrev Art:Enc (List (Nat×AV)):=(lU (kY 158 (sL 5)) rfl (lC (kY 159 (iN .i64)) (lO (kY 160 (iN .i64)))))
abbrev Aru:Enc Blk:=(cE (lU (sL 2) rfl (lR (iN .i64) (lU (sL 3) rfl Ajv) rfl)))
abbrev Ae7:Enc (List (Nat×Blk)):=(lC (kY 0 Aru) (lC (kY 1 Vx) (lC (kY 2 Ar) (lC (kY 3 Ar) (lC (kY 4 Ar) (lC (kY 5 Ar) Aro))))))
abbrev Aj0:Enc AV:=(aG (lU (sL 0) rfl (lR (iN .i64) (lU (sL 1) rfl Arf) rfl)))
abbrev K7:Enc (Nat×AV):=(kY 6 (pB 1 0))
abbrev Z7:Enc (Nat×AV):=(kY 8 (sL 2))
abbrev Aj1:Enc (List (Nat×AV)):=(lU (kY 73 (sL 2)) rfl (lC (kY 74 (iN .i64)) (lO (kY 75 (iN .i64)))))
abbrev Arv:Enc (List AV):=(lU (sL 10) rfl (lU (sL 11) rfl (lN AV)))
abbrev Arw:Enc (List (Nat×Blk)):=(lU (kY 1 (cE Arv)) rfl (lC (kY 2 Ar) (lC (kY 3 (cE (lU (sL 12) rfl (lR (iN .i64) (lU (sL 13) rfl (lU (sL 14) rfl (lU (sL 15) rfl (lN AV)))) rfl)))) (lC (kY 4 (cE (lO (rW (.fl .bool))))) (lC (kY 5 Ch) (lC (kY 6 Ar) (lC (kY 7 Ar) (lC (kY 8 Ar) (lC (kY 9 Ar) (lC (kY 10 Xl) (lC (kY 11 Xm) (lC (kY 12 Ar) (lC (kY 13 Ar) (lC (kY 14 Ar) (lO (kY 15 Ar))))))))))))))))
abbrev Aj3:Enc (List (Nat×Blk)):=(lC (kY 0 Ajw) (lU (kY 1 (cE Aqu)) rfl (lC (kY 2 Ar) (lC (kY 3 (cE (lU (sL 11) rfl (lR (iN .i64) (lU (sL 12) rfl (lU (sL 13) rfl (lU (sL 14) rfl (lN AV)))) rfl)))) (lC (kY 4 (cE (lO (rW (.fl .bool))))) (lC (kY 5 Ar) (lC (kY 6 Ar) (lC (kY 7 Ar) (lC (kY 8 Ar) (lC (kY 9 Xl) (lC (kY 10 Xm) (lC (kY 11 Ar) (lC (kY 12 Ar) (lC (kY 13 Ar) (lO (kY 14 Ar))))))))))))))))
abbrev Te:Enc (Nat×AV):=(kY 7 (pB 3 0))
abbrev Arx:Enc Blk:=(cE (lU (sL 8) rfl (lR (iN .i64) (lU (sL 9) rfl Arv) rfl)))
abbrev Ary:Enc (List (Nat×Blk)):=(lC (kY 5 Ar) (lC (kY 6 Ar) (lC (kY 7 Ar) (lC (kY 8 Ar) (lC (kY 9 Ar) (lC (kY 10 Ar) (lO (kY 11 Ar))))))))
abbrev Tf:Enc (List (Nat×Blk)):=(lC (kY 1 (cE K6)) (lC (kY 2 O0) (lC (kY 3 Arx) (lC (kY 4 Ar) Ary))))
abbrev Aj4:Enc AV:=(pR 0 0 (vA [(iN .i64)]))
abbrev Aj5:Enc AV:=(fN 24 (vA [(pB 0 0),(pB 1 0)]))
abbrev Cz:Enc Blk:=(cE (vA [(iN .i64)]))
abbrev Ae8:Enc AV:=(aG (vA [Hh,(iN .i64),Hh,Hh,Hh]))
abbrev V2:Enc Blk:=(cE (vA [Hh,(iN .i64),Hh,Hh,Hh]))
abbrev Ri:Enc Blk:=(cE (vA [(sL 4)]))
abbrev Ae9:Enc Blk:=(cE (vA [(sL 5)]))
abbrev Arz:Enc AV:=(pR 0 0 (vA [Hh,(iN .i64),Hh,Hh,Hh]))
abbrev Ar0:Enc AV:=(fN 26 (vA [(pB 0 0)]))
abbrev Afa:Enc AV:=(rO 2 (.int .i64))
abbrev Rj:Enc Blk:=(cE (vA [Afa,(iN .i64),Afa,Afa,Afa]))
abbrev Aj6:Enc Blk:=(cE (vA [(sL 6)]))
abbrev Afb:Enc Blk:=(mA Ag9 (.int .i64))
abbrev Ar1:Enc AV:=(fN 28 (vA [(pB 0 0),(pB 1 0),(pB 2 0)]))
abbrev Aj7:Enc Blk:=(cE (vA [(fN 25 (vA [(pB 1 0),(pB 5 0),(pB 2 0)]))]))
abbrev Aj8:Enc Blk:=(cE (vA [Ec]))
abbrev Afc:Enc Blk:=(cE (vA [(sL 11)]))
abbrev Z8:Enc Blk:=(mA (.int .i64) (.int .i64))
abbrev Jo:Enc Blk:=(cE (vA [(rW Qt)]))
abbrev Z9:Enc Blk:=(cE (vA [(sL 10)]))
abbrev Afd:Enc Blk:=(cE (vA [(sL 12)]))
abbrev Ar2:Enc Blk:=(cE (vA [(sL 13),(iN .i64),(sL 14),(sL 15),(sL 16)]))
abbrev Aj9:Enc Blk:=(mA .str (.int .i64))
abbrev Aka:Enc Blk:=(cE (vA [(sL 15)]))
abbrev Ke:Enc (List (Nat×Blk)):=(lC D6 (lO (kY 1 Ch)))
abbrev Ar3:Enc (List (Nat×AV)):=(lC Ca (lU Dq rfl (lO B9)))
abbrev Tg:Enc (Nat×AV):=(kY 7 bB)
abbrev Ar4:Enc (List (Nat×AV)):=(lC Ca (lU Dq rfl (lO Tg)))
abbrev Akb:Enc (List (Nat×AV)):=(lC Ca (lU Zw rfl (lO Ff)))
abbrev V3:Enc (Nat×AV):=(kY 5 (pB 0 0))
abbrev Aaa:Enc (Nat×AV):=(kY 8 (sL 3))
abbrev Th:Enc (List (Nat×Blk)):=(lC (kY 1 Arx) (lC (kY 2 Ar) (lC (kY 3 Ar) (lC (kY 4 Ar) Ary))))
abbrev Akc:Enc (List (Nat×AV)):=(lU V3 rfl (lU K7 rfl (lU Jm rfl (lU Aaa rfl (lO Ce)))))
abbrev O1:Enc (Nat×AV):=(kY 6 (pB 0 0))
abbrev Aab:Enc (Nat×AV):=(kY 8 (sL 1))
abbrev Aac:Enc (List (Nat×Blk)):=(lC (kY 0 Aru) (lC (kY 1 Ar) (lC (kY 2 Ar) (lC (kY 3 Ar) (lC (kY 4 Ar) (lO (kY 5 Ar)))))))
abbrev Akd:Enc (Nat×AV):=(kY 168 (iN .i64))
abbrev Ake:Enc (Nat×AV):=(kY 169 (iN .i64))
abbrev Afe:Enc (List (Nat×AV)):=(lU O1 rfl (lN (Nat×AV)))
abbrev Ti:Enc Blk:=(cE (lU (sL 1) rfl Aqv))
abbrev Tj:Enc (List (Nat×Blk)):=(lC (kY 1 Ar) (lC (kY 2 Ar) (lC (kY 3 Ar) (lO (kY 4 Ar)))))
def cfg:Cfg:={ty:=[
 (3,{sz:=1,cls:=0,offs:=[],elem:=0,alen:=0,bytes:=8,zero:=[.int .i64 0],ki:=some (.int .i64)}),
 (4,{sz:=1,cls:=0,offs:=[],elem:=0,alen:=0,bytes:=1,zero:=[.bool false],ki:=some .bool}),
 (5,{sz:=1,cls:=0,offs:=[],elem:=0,alen:=0,bytes:=1,zero:=[.int .u8 0],ki:=some (.int .u8)}),
 (9,{sz:=1,cls:=0,offs:=[],elem:=0,alen:=0,bytes:=16,zero:=[.str []],ki:=some .str}),
 (22,{sz:=1,cls:=0,offs:=[],elem:=5,alen:=0,bytes:=24,zero:=[.nz (.int .u8)],ki:=some Ao0}),
 (23,{sz:=1,cls:=0,offs:=[],elem:=3,alen:=0,bytes:=24,zero:=[.nz (.int .i64)],ki:=some Nl}),
 (25,{sz:=5,cls:=1,offs:=[0,1,2,3,4],elem:=0,alen:=0,bytes:=104,zero:=[.nz (.int .i64),.int .i64 0,.nz (.int .i64),.nz (.int .i64),.nz (.int .i64)],ki:=some (.pair Nl (.pair (.int .i64) (.pair Nl (.pair Nl Nl))))}),
 (34,{sz:=3,cls:=1,offs:=[0,1,2],elem:=0,alen:=0,bytes:=40,zero:=[.nz (.int .u8),.int .i64 0,.int .i64 0],ki:=some (.pair Ao0 ki0)}),
 (37,{sz:=1,cls:=0,offs:=[],elem:=3,alen:=3,bytes:=8,zero:=[.nilm],ki:=none}),
 (38,{sz:=1,cls:=0,offs:=[],elem:=40,alen:=0,bytes:=24,zero:=[.nz Qt],ki:=some (.lst Qt)}),
 (40,{sz:=256,cls:=2,offs:=[],elem:=3,alen:=256,bytes:=2048,zero:=[.arr 256 (.int .i64) (z9 256 (0:Int))],ki:=some Qt}),
 (45,{sz:=1,cls:=0,offs:=[],elem:=3,alen:=9,bytes:=8,zero:=[.nilm],ki:=none}),
 (49,{sz:=1,cls:=0,offs:=[],elem:=4,alen:=0,bytes:=24,zero:=[.nz .bool],ki:=some (.lst .bool)}),
 (56,{sz:=1,cls:=0,offs:=[],elem:=3,alen:=57,bytes:=8,zero:=[.nilm],ki:=none}),
 (57,{sz:=2,cls:=2,offs:=[],elem:=3,alen:=2,bytes:=16,zero:=[.arr 2 (.int .i64) (z9 2 (0:Int))],ki:=some Ag9}),
 (58,{sz:=1,cls:=0,offs:=[],elem:=0,alen:=0,bytes:=8,zero:=[.nilf],ki:=none}),
 (74,{sz:=1,cls:=0,offs:=[],elem:=49,alen:=0,bytes:=24,zero:=[.nz (.lst .bool)],ki:=some (.lst (.lst .bool))}),
 (106,{sz:=1,cls:=0,offs:=[],elem:=23,alen:=0,bytes:=24,zero:=[.nz Nl],ki:=some (.lst Nl)})],wr:=[(9,[0]),(18,[0]),(19,[0,1]),(20,[0]),(21,[0]),(25,[1,3]),(30,[0]),(32,[0]),(33,[0]),(34,[0]),(35,[0]),(37,[0]),(39,[0]),(45,[0]),(47,[0]),(50,[0]),(55,[5]),(61,[0]),(71,[0]),(72,[0]),(74,[0]),(83,[0]),(84,[0]),(85,[0])],wk:=[6,9,15,16,18,19,20,21,30,31,32,33,34,35,37,38,39,40,41,42,43,44,45,46,47,48,49,50,51,52,53,54,55,56,57,58,59,60,61,62,63,64,65,66,67,68,69,70,71,72,73,74,75,76,77,78,79,80,81,82,83,84,85,86,87,88]}
theorem hC:Bi Try.prog cfg=true:=by kernel_rfl
def Rc:Cfg:={ty:=[
 (3,{sz:=1,cls:=0,offs:=[],elem:=0,alen:=0,bytes:=8,zero:=[.int .i64 0],ki:=some (.int .i64)}),
 (4,{sz:=1,cls:=0,offs:=[],elem:=0,alen:=0,bytes:=1,zero:=[.bool false],ki:=some .bool}),
 (5,{sz:=1,cls:=0,offs:=[],elem:=0,alen:=0,bytes:=1,zero:=[.int .u8 0],ki:=some (.int .u8)}),
 (9,{sz:=1,cls:=0,offs:=[],elem:=0,alen:=0,bytes:=16,zero:=[.str []],ki:=some .str}),
 (22,{sz:=1,cls:=0,offs:=[],elem:=5,alen:=0,bytes:=24,zero:=[.nz (.int .u8)],ki:=some Ao0}),
 (23,{sz:=1,cls:=0,offs:=[],elem:=3,alen:=0,bytes:=24,zero:=[.nz (.int .i64)],ki:=some Nl}),
 (25,{sz:=5,cls:=1,offs:=[0,1,2,3,4],elem:=0,alen:=0,bytes:=104,zero:=[.nz (.int .i64),.int .i64 0,.nz (.int .i64),.nz (.int .i64),.nz (.int .i64)],ki:=some (.pair Nl (.pair (.int .i64) (.pair Nl (.pair Nl Nl))))}),
 (34,{sz:=3,cls:=1,offs:=[0,1,2],elem:=0,alen:=0,bytes:=40,zero:=[.nz (.int .u8),.int .i64 0,.int .i64 0],ki:=some (.pair Ao0 ki0)}),
 (49,{sz:=1,cls:=0,offs:=[],elem:=4,alen:=0,bytes:=24,zero:=[.nz .bool],ki:=some (.fl .bool)}),
 (63,{sz:=1,cls:=0,offs:=[],elem:=80,alen:=0,bytes:=24,zero:=[.nz ki9],ki:=some (.lst ki9)}),
 (67,{sz:=1,cls:=0,offs:=[],elem:=99,alen:=0,bytes:=24,zero:=[.nz Aat],ki:=some (.lst Aat)}),
 (68,{sz:=1,cls:=0,offs:=[],elem:=96,alen:=0,bytes:=24,zero:=[.nz Xx],ki:=some (.lst Xx)}),
 (70,{sz:=2,cls:=1,offs:=[0,1],elem:=0,alen:=0,bytes:=48,zero:=[.nz Aat,.nz Xx],ki:=some (.pair (.lst Aat) (.lst Xx))}),
 (74,{sz:=1,cls:=0,offs:=[],elem:=49,alen:=0,bytes:=24,zero:=[.nz (.fl .bool)],ki:=some (.lst (.fl .bool))}),
 (78,{sz:=1,cls:=0,offs:=[],elem:=90,alen:=0,bytes:=24,zero:=[.nz ki5],ki:=some (.lst ki5)}),
 (80,{sz:=2,cls:=1,offs:=[0,1],elem:=0,alen:=0,bytes:=32,zero:=[.nz ki5,.int .i64 0],ki:=some ki9}),
 (88,{sz:=1,cls:=0,offs:=[],elem:=109,alen:=0,bytes:=24,zero:=[.nz ki3],ki:=some (.lst ki3)}),
 (90,{sz:=3,cls:=1,offs:=[0,1,2],elem:=0,alen:=0,bytes:=32,zero:=[.bool false,.bool false,.nz ki3],ki:=some ki5}),
 (93,{sz:=4,cls:=1,offs:=[0,1,2,3],elem:=0,alen:=0,bytes:=88,zero:=[.nz ki3,.nz (.int .i64),.nz (.int .i64),.str []],ki:=some (.pair (.lst ki3) (.pair Nl (.pair Nl .str)))}),
 (96,{sz:=4,cls:=1,offs:=[0,1,2,3],elem:=0,alen:=0,bytes:=24,zero:=[.int .i64 0,.bool false,.bool false,.int .i64 0],ki:=some Xx}),
 (97,{sz:=1,cls:=0,offs:=[],elem:=111,alen:=0,bytes:=24,zero:=[.nz ki0],ki:=some (.fl ki0)}),
 (99,{sz:=4,cls:=1,offs:=[0,1,2,3],elem:=0,alen:=0,bytes:=48,zero:=[.int .u8 0,.int .i64 0,.int .i64 0,.nz ki0],ki:=some Aat}),
 (109,{sz:=5,cls:=1,offs:=[0,1,2,3,4],elem:=0,alen:=0,bytes:=56,zero:=[.int .i64 0,.nz ki0,.int .i64 0,.int .i64 0,.int .i64 0],ki:=some ki3}),
 (111,{sz:=2,cls:=1,offs:=[0,1],elem:=0,alen:=0,bytes:=16,zero:=[.int .i64 0,.int .i64 0],ki:=some ki0}),
 (114,{sz:=1,cls:=0,offs:=[],elem:=119,alen:=0,bytes:=24,zero:=[.nz ki8],ki:=some (.fl ki8)}),
 (119,{sz:=5,cls:=1,offs:=[0,1,2,3,4],elem:=0,alen:=0,bytes:=56,zero:=[.int .u8 0,.int .i64 0,.nz .bool,.int .i64 0,.int .i64 0],ki:=some ki8}),
 (122,{sz:=1,cls:=0,offs:=[],elem:=114,alen:=0,bytes:=24,zero:=[.nz (.fl ki8)],ki:=some (.lst (.fl ki8))}),
 (137,{sz:=1,cls:=0,offs:=[],elem:=88,alen:=0,bytes:=24,zero:=[.nz (.lst ki3)],ki:=some (.lst (.lst ki3))}),
 (142,{sz:=1,cls:=0,offs:=[],elem:=9,alen:=0,bytes:=24,zero:=[.nz .str],ki:=some (.lst .str)})],wr:=[(9,[0]),(18,[0]),(19,[0,1]),(20,[0]),(21,[0]),(25,[1,3]),(30,[0]),(32,[0]),(33,[0]),(34,[0]),(35,[0]),(37,[0]),(39,[0]),(45,[0]),(47,[0]),(50,[0]),(55,[5]),(61,[0]),(71,[0]),(72,[0]),(74,[0]),(83,[0]),(84,[0]),(85,[0])],wk:=[6,9,15,16,18,19,20,21,30,31,32,33,34,35,37,38,39,40,41,42,43,44,45,46,47,48,49,50,51,52,53,54,55,56,57,58,59,60,61,62,63,64,65,66,67,68,69,70,71,72,73,74,75,76,77,78,79,80,81,82,83,84,85,86,87,88]}
theorem A5:Bi Try.prog Rc=true:=by kernel_rfl
theorem hm:Try.prog.follows .mixedOrders=true:=Checked.mixed Try.checked
abbrev E.q13_a:Enc (List AV×List Blk):=bO Aj2 (lO B0)
abbrev E.q13_r:Enc (AV×List (Option Blk)×List Blk):=bO tR (bQ (lO (sM B0)) (lN Blk) rfl)
def T.q13_r(rw:Ge->(Ee->Option R)->Option R):Au R:={f:=74,arg:=E.q13_a,res:=E.q13_r,fn:=rw}
abbrev E.q32_a:Enc (List AV×List Blk):=bQ (lO (fZ ki8)) (lN Blk) rfl
abbrev E.q32_r:Enc (AV×List (Option Blk)×List Blk):=bS (sL 0) rfl (bS (lN (Option Blk)) rfl (lO Xk))
def T.q32_r(rw:(List ty7)->((List ty2)->Option R)->Option R):Au R:={f:=68,arg:=E.q32_a,res:=E.q32_r,fn:=rw}
abbrev E.q44_a:Enc (List AV×List Blk):=bO (lU (pB 0 0) rfl (lC Avk (lC (iN .i64) Qn))) Att
abbrev E.q44_r:Enc (AV×List (Option Blk)×List Blk):=bO (iN .i64) (bS Atu rfl (lC Xl (lO Xm)))
def T.q44_r(rw:R1->(D8->Option R)->Option R):Au R:={f:=72,arg:=E.q44_a,res:=E.q44_r,fn:=rw}
abbrev E.q45_a:Enc (List AV×List Blk):=bO (lU (pB 0 0) rfl (lC Avk (lO (iN .i64)))) Att
abbrev E.q45_r:Enc (AV×List (Option Blk)×List Blk):=bO (iN .i64) (bS Atu rfl (lC Xl (lO Xm)))
def T.q45_r(rw:I6->(D8->Option R)->Option R):Au R:={f:=50,arg:=E.q45_a,res:=E.q45_r,fn:=rw}
abbrev E.q49_a:Enc (List AV×List Blk):=bQ (lC (aG Ac2) (lO (iN .i64))) (lN Blk) rfl
abbrev E.q49_r:Enc (AV×List (Option Blk)×List Blk):=bQ bB (bS (lN (Option Blk)) rfl (lN Blk)) rfl
def T.q49_r(rw:Wy->(Bool->Option R)->Option R):Au R:={f:=54,arg:=E.q49_a,res:=E.q49_r,fn:=rw}
abbrev E.q50_a:Enc (List AV×List Blk):=bQ (lC (aG Ac2) (lC (iN .i64) (lO (fZ .bool)))) (lN Blk) rfl
abbrev E.q50_r:Enc (AV×List (Option Blk)×List Blk):=bQ bB (bS (lN (Option Blk)) rfl (lN Blk)) rfl
def T.q50_r(rw:Wz->(Bool->Option R)->Option R):Au R:={f:=53,arg:=E.q50_a,res:=E.q50_r,fn:=rw}
abbrev E.q52_a:Enc (List AV×List Blk):=bO (lC (aG Ac2) (lC (iN .i64) (lC bB (lC (fZ .bool) (lR (iN .u8) (lU (sL 0) rfl (lN AV)) rfl))))) (lO Ch)
abbrev E.q52_r:Enc (AV×List (Option Blk)×List Blk):=bS (tP (lN AV)) rfl (bQ (lO (sM Ch)) (lN Blk) rfl)
def T.q52_r(rw:W0->((List Bool)->Option R)->Option R):Au R:={f:=55,arg:=E.q52_a,res:=E.q52_r,fn:=rw}
abbrev E.q0_a:Enc (List AV×List Blk):=bS (lU (pB 0 0) rfl (lN AV)) rfl (lO B0)
abbrev E.q0_r:Enc (AV×List (Option Blk)×List Blk):=bO (iN .i64) (bQ (lO (sM B0)) (lN Blk) rfl)
def T.q0:Au R:={f:=37,arg:=E.q0_a,res:=E.q0_r,fn:=F.jd}
def H.q0:A4:={lp:=[]}
theorem WF.f37:Bb Try.prog 37 Try.f37:=Aq Try.func37 (by decide) (by kernel_rfl)
theorem TK.q0:Ak Try.prog (T.q0 (R:=R)):=
 Al (h:=H.q0) A5 hm Ac WF.f37 (λ d=>Ab) (λ _ _=>by kernel_rfl)
abbrev E.q1_a:Enc (List AV×List Blk):=bO Aj2 (lO B0)
abbrev E.q1_r:Enc (AV×List (Option Blk)×List Blk):=bO (iN .i64) (bQ (lO (sM B0)) (lN Blk) rfl)
def T.q1:Au R:={f:=30,arg:=E.q1_a,res:=E.q1_r,fn:=F.aa}
def H.q1:A4:={lp:=[]}
theorem WF.f30:Bb Try.prog 30 Try.f30:=Aq Try.func30 (by decide) (by kernel_rfl)
theorem TK.q1:Ak Try.prog (T.q1 (R:=R)):=
 Al (h:=H.q1) A5 hm (Ae TK.q0 Ac) WF.f30 (λ d=>Ab) (λ _ _=>by kernel_rfl)
abbrev E.q2_a:Enc (List AV×List Blk):=bS (lU (pB 0 0) rfl (lN AV)) rfl (lO B0)
abbrev E.q2_r:Enc (AV×List (Option Blk)×List Blk):=bO (iN .i64) (bQ (lO (sM B0)) (lN Blk) rfl)
def T.q2:Au R:={f:=18,arg:=E.q2_a,res:=E.q2_r,fn:=F.pi}
def H.q2:A4:={lp:=[]}
theorem WF.f18:Bb Try.prog 18 Try.f18:=Aq Try.func18 (by decide) (by kernel_rfl)
theorem TK.q2:Ak Try.prog (T.q2 (R:=R)):=
 Al (h:=H.q2) A5 hm (Ae TK.q1 Ac) WF.f18 (λ d=>Ab) (λ _ _=>by kernel_rfl)
abbrev E.q3_l0_i:Enc St:=sT 11 (lU Cl rfl (lU Cm rfl (lC Ca (lU Iz rfl (lO B9))))) (lC (kY 0 B0) Kv)
abbrev E.q3_l0_oe0:Enc St:=sT 11 (lU Cl rfl (lU Cm rfl (lR Ca Aeu rfl))) (lC (kY 0 B0) Kv)
abbrev E.q3_l4_i:Enc St:=sT 11 (lU Cl rfl (lU Cm rfl (lC Ca (lU Iz rfl (lC Cb (lO D4)))))) (lC (kY 0 B0) Kv)
abbrev E.q3_l4_oe4:Enc St:=sT 11 (lU Cl rfl (lU Cm rfl (lC Ca (lU Iz rfl (lO Cb))))) (lC (kY 0 B0) Kv)
abbrev E.q3_l2_i:Enc St:=sT 11 (lU Cl rfl (lU Cm rfl (lC Ca (lU Iz rfl (lO Cb))))) (lC (kY 0 B0) Kv)
abbrev E.q3_l2_oe2:Enc St:=sR 11 (lU Cm rfl Aeu) rfl (lC (kY 0 B0) Kv)
abbrev E.q3_j137:Enc St:=sT 11 (lU Cl rfl (lU Cm rfl (lC Ca (lU Iz rfl (lC Cb (lO Ce)))))) (lC (kY 0 B0) Kv)
abbrev E.q3_a:Enc (List AV×List Blk):=bS (lU (pB 0 0) rfl (lN AV)) rfl (lO B0)
abbrev E.q3_r:Enc (AV×List (Option Blk)×List Blk):=bO Vs (bO (lO (sM B0)) (lC Ar Mz))
def T.q3(N:Nat):Au R:={f:=32,arg:=E.q3_a,res:=E.q3_r,fn:=F.df N}
def H.q3:A4:={lp:=[(0,[0,2,3,4,5],[0,2,3,4]),(2,[0,2,3,4,7],[2,4]),(4,[0,2,3,4,7,8],[0,2,3,4,7])],jn:=[(137,[0,2,3,4,7,9],E.q3_j137)]}
theorem WF.f32:Bb Try.prog 32 Try.f32:=Aq Try.func32 (by decide) (by kernel_rfl)
def TL.q3_l0(N:Nat):Am R:={b:=0,st:=E.q3_l0_i,fn:=λ d k=>lp (F.gh N) N d (λ y=>k (.exit 0) (E.q3_l0_oe0.to y))}
theorem LK.q3_l0(N:Nat):Ah Try.prog 1 Try.f32.ntmps (bodyOf Try.f32) (TL.q3_l0 (R:=R) N):=
 Ai (i:=[0,2,3,4,5]) (o:=[0,2,3,4]) (h:=H.q3) hC hm (Ae TK.q1 Ac) WF.f32 Ab (by kernel_rfl) (λ d=>Aj rfl) N (F.gh N) _ (λ _ _=>rfl) (λ _ _ _=>by kernel_rfl)
def TL.q3_l4(N:Nat):Am R:={b:=4,st:=E.q3_l4_i,fn:=λ d k=>lp (F.gj N) N d (λ y=>k (.exit 4) (E.q3_l4_oe4.to y))}
theorem LK.q3_l4(N:Nat):Ah Try.prog 1 Try.f32.ntmps (bodyOf Try.f32) (TL.q3_l4 (R:=R) N):=
 Ai (i:=[0,2,3,4,7,8]) (o:=[0,2,3,4,7]) (h:=H.q3) hC hm (Ae TK.q1 Ac) WF.f32 Ab (by kernel_rfl) (λ d=>Aj rfl) N (F.gj N) _ (λ _ _=>rfl) (λ _ _ _=>by kernel_rfl)
def TL.q3_l2(N:Nat):Am R:={b:=2,st:=E.q3_l2_i,fn:=λ d k=>lp (F.gk N) N d (λ y=>k (.exit 2) (E.q3_l2_oe2.to y))}
theorem LK.q3_l2(N:Nat):Ah Try.prog 1 Try.f32.ntmps (bodyOf Try.f32) (TL.q3_l2 (R:=R) N):=
 Ai (i:=[0,2,3,4,7]) (o:=[2,4]) (h:=H.q3) hC hm (Ae TK.q1 Ac) WF.f32 (Af (LK.q3_l4 N) Ab) (by kernel_rfl) (λ d=>Aj rfl) N (F.gk N) _ (λ _ _=>rfl) (λ _ _ _=>by kernel_rfl)
theorem TK.q3(N:Nat):Ak Try.prog (T.q3 (R:=R) N):=
 Al (h:=H.q3) hC hm (Ae TK.q1 Ac) WF.f32 (λ d=>(Af (LK.q3_l0 N) (Af (LK.q3_l2 N) Ab))) (λ _ _=>by kernel_rfl)
abbrev E.q4_l0_i:Enc St:=sT 4 (lU Cl rfl (lU Cm rfl (lU Kw rfl (lC D5 (lC B9 (lC C5 (lO Cb))))))) M0
abbrev E.q4_l0_oe0:Enc St:=sT 4 Aji M0
abbrev E.q4_l2_i:Enc St:=sT 4 Aji M0
abbrev E.q4_l2_oe2:Enc St:=sT 4 Aji M0
abbrev E.q4_j40:Enc St:=sT 4 (lU Cl rfl (lU Cm rfl (lU Kw rfl (lC D5 (lC B9 (lC C5 (lC Cb (lO (kY 84 bB))))))))) M0
abbrev E.q4_j36:Enc St:=sT 4 (lU Cl rfl (lU Cm rfl (lU Kw rfl (lC D5 (lC B9 (lC C5 (lC Cb (lC D4 (lO (kY 72 bB)))))))))) M0
abbrev E.q4_j30:Enc St:=sT 4 (lU Cl rfl (lU Cm rfl (lU Kw rfl (lC D5 (lC B9 (lC C5 (lC Cb (lC D4 (lO (kY 55 bB)))))))))) M0
abbrev E.q4_j24:Enc St:=sT 4 (lU Cl rfl (lU Cm rfl (lU Kw rfl (lC D5 (lC B9 (lC C5 (lC Cb (lC D4 (lO (kY 43 bB)))))))))) M0
abbrev E.q4_j18:Enc St:=sT 4 (lU Cl rfl (lU Cm rfl (lU Kw rfl (lC D5 (lC B9 (lC C5 (lC Cb (lC D4 (lO (kY 31 bB)))))))))) M0
abbrev E.q4_j243:Enc St:=sT 4 (lU Cl rfl (lU Cm rfl (lU Kw rfl (lO B9)))) M0
abbrev E.q4_a:Enc (List AV×List Blk):=bS (lU (pB 0 0) rfl (lN AV)) rfl (lO B0)
abbrev E.q4_r:Enc (AV×List (Option Blk)×List Blk):=bO (aG Ajj) (bO (lO (sM B0)) (lO Kx))
def T.q4(N:Nat):Au R:={f:=45,arg:=E.q4_a,res:=E.q4_r,fn:=F.pj N}
def H.q4:A4:={lp:=[(0,[0,2,3,4,5,6,7],[0,2,3,4,5]),(2,[0,2,3,4,5],[0,2,3,4,5])],jn:=[(40,[0,2,3,4,5,6,7,84],E.q4_j40),(36,[0,2,3,4,5,6,7,8,72],E.q4_j36),(30,[0,2,3,4,5,6,7,8,55],E.q4_j30),(24,[0,2,3,4,5,6,7,8,43],E.q4_j24),(18,[0,2,3,4,5,6,7,8,31],E.q4_j18),(243,[0,2,3,5],E.q4_j243)]}
theorem WF.f45:Bb Try.prog 45 Try.f45:=Aq Try.func45 (by decide) (by kernel_rfl)
def TL.q4_l0(N:Nat):Am R:={b:=0,st:=E.q4_l0_i,fn:=λ d k=>lp (F.bp N) N d (λ y=>k (.exit 0) (E.q4_l0_oe0.to y))}
theorem LK.q4_l0(N:Nat):Ah Try.prog 1 Try.f45.ntmps (bodyOf Try.f45) (TL.q4_l0 (R:=R) N):=
 Ai (i:=[0,2,3,4,5,6,7]) (o:=[0,2,3,4,5]) (h:=H.q4) A5 hm (Ae TK.q1 Ac) WF.f45 Ab (by kernel_rfl) (λ d=>Aj rfl) N (F.bp N) _ (λ _ _=>rfl) (λ _ _ _=>by kernel_rfl)
def TL.q4_l2(N:Nat):Am R:={b:=2,st:=E.q4_l2_i,fn:=λ d k=>lp (F.bq N) N d (λ y=>k (.exit 2) (E.q4_l2_oe2.to y))}
theorem LK.q4_l2(N:Nat):Ah Try.prog 1 Try.f45.ntmps (bodyOf Try.f45) (TL.q4_l2 (R:=R) N):=
 Ai (i:=[0,2,3,4,5]) (o:=[0,2,3,4,5]) (h:=H.q4) A5 hm (Ae TK.q1 Ac) WF.f45 Ab (by kernel_rfl) (λ d=>Aj rfl) N (F.bq N) _ (λ _ _=>rfl) (λ _ _ _=>by kernel_rfl)
theorem TK.q4(N:Nat):Ak Try.prog (T.q4 (R:=R) N):=
 Al (h:=H.q4) A5 hm (Ae TK.q1 Ac) WF.f45 (λ d=>(Af (LK.q4_l0 N) (Af (LK.q4_l2 N) Ab))) (λ _ _=>by kernel_rfl)
abbrev E.q5_a:Enc (List AV×List Blk):=bQ (lO (iN .i64)) (lN Blk) rfl
abbrev E.q5_r:Enc (AV×List (Option Blk)×List Blk):=bQ (iN .i64) (bS (lN (Option Blk)) rfl (lN Blk)) rfl
def T.q5:Au R:={f:=82,arg:=E.q5_a,res:=E.q5_r,fn:=F.ny}
def H.q5:A4:={lp:=[]}
theorem WF.f82:Bb Try.prog 82 Try.f82:=Aq Try.func82 (by decide) (by kernel_rfl)
theorem TK.q5:Ak Try.prog (T.q5 (R:=R)):=
 Al (h:=H.q5) A5 hm Ac WF.f82 (λ d=>Ab) (λ _ _=>by kernel_rfl)
abbrev E.q6_l0_i:Enc St:=sT 3 (lU I0 rfl (lU Fl rfl (lU Jm rfl Aqw))) (lC (kY 0 Ar) Hd)
abbrev E.q6_l0_oe0:Enc St:=sR 3 (lU Ou rfl (lU (kY 3 uN) rfl (lU Kc rfl (lU I0 rfl (lU Fl rfl (lU Jm rfl (lN (Nat×AV)))))))) rfl (lC (kY 0 Ar) Hd)
abbrev E.q6_l0_oret:Enc St:=sT 3 (lU (kY 2 (sL 0)) rfl (lU (kY 3 (sL 1)) rfl (lR Kz (lU I0 rfl (lU Fl rfl (lU Jm rfl (lN (Nat×AV))))) rfl))) (lC (kY 0 Ar) Hd)
abbrev E.q6_j67:Enc St:=sT 4 (lU I0 rfl (lU Fl rfl (lU Jm rfl (lC D4 (lU S8 rfl (lC He (lC Ff Aqw))))))) Aqy
abbrev E.q6_a:Enc (List AV×List Blk):=bQ (lO (rO 0 ki3)) (lN Blk) rfl
abbrev E.q6_r:Enc (AV×List (Option Blk)×List Blk):=bO Aqz (bS (lN (Option Blk)) rfl (lC Ar (lO Ar)))
def T.q6(N:Nat):Au R:={f:=69,arg:=E.q6_a,res:=E.q6_r,fn:=F.am N}
def H.q6:A4:={lp:=[(0,[5,6,7,15,16,17],[2,3,4,5,6,7])],jn:=[(67,[5,6,7,8,9,10,11,15,16,17],E.q6_j67)]}
theorem WF.f69:Bb Try.prog 69 Try.f69:=Aq Try.func69 (by decide) (by kernel_rfl)
def TL.q6_l0(N:Nat):Am R:={b:=0,st:=E.q6_l0_i,fn:=λ d k=>lp (F.bh N) N d (λ y=>k (.exit 0) (E.q6_l0_oe0.to y),λ y=>k .ret (E.q6_l0_oret.to y))}
theorem LK.q6_l0(N:Nat):Ah Try.prog 0 Try.f69.ntmps (bodyOf Try.f69) (TL.q6_l0 (R:=R) N):=
 Ai (i:=[5,6,7,15,16,17]) (o:=[2,3,4,5,6,7]) (h:=H.q6) A5 hm (Ae TK.q5 Ac) WF.f69 Ab (by kernel_rfl) (λ d=>Aj rfl) N (F.bh N) _ (λ _ _=>rfl) (λ _ _ _=>by kernel_rfl)
theorem TK.q6(N:Nat):Ak Try.prog (T.q6 (R:=R) N):=
 Al (h:=H.q6) A5 hm Ac WF.f69 (λ d=>(Af (LK.q6_l0 N) Ab)) (λ _ _=>by kernel_rfl)
abbrev E.q7_a:Enc (List AV×List Blk):=bQ (lO Aq0) (lN Blk) rfl
abbrev E.q7_r:Enc (AV×List (Option Blk)×List Blk):=bQ (iN .i64) (bS (lN (Option Blk)) rfl (lN Blk)) rfl
def T.q7:Au R:={f:=73,arg:=E.q7_a,res:=E.q7_r,fn:=F.oz}
def H.q7:A4:={lp:=[]}
theorem WF.f73:Bb Try.prog 73 Try.f73:=Aq Try.func73 (by decide) (by kernel_rfl)
theorem TK.q7:Ak Try.prog (T.q7 (R:=R)):=
 Al (h:=H.q7) A5 hm Ac WF.f73 (λ d=>Ab) (λ _ _=>by kernel_rfl)
abbrev E.q8_l0_i:Enc St:=sT 3 (lC Ajk (lU I1 rfl (lU Dq rfl (lU Aev rfl Aq1)))) (lC (kY 0 Ar) Hd)
abbrev E.q8_l0_oe0:Enc St:=sT 1 (lR Ajk Aew rfl) (lO (kY 0 Ar))
abbrev E.q8_j59:Enc St:=sT 3 (lC Ajk (lU I1 rfl (lU Dq rfl (lU Aev rfl (lC Cb Aq1))))) (lC (kY 0 Ar) Hd)
abbrev E.q8_a:Enc (List AV×List Blk):=bQ (lO (rO 0 ki3)) (lN Blk) rfl
abbrev E.q8_r:Enc (AV×List (Option Blk)×List Blk):=bQ (iN .i64) (bS (lN (Option Blk)) rfl (lN Blk)) rfl
def T.q8(N:Nat):Au R:={f:=60,arg:=E.q8_a,res:=E.q8_r,fn:=F.pc N}
def H.q8:A4:={lp:=[(0,[0,3,4,6,20,21,22],[0,6])],jn:=[(59,[0,3,4,6,7,20,21,22],E.q8_j59)]}
theorem WF.f60:Bb Try.prog 60 Try.f60:=Aq Try.func60 (by decide) (by kernel_rfl)
def TL.q8_l0(N:Nat):Am R:={b:=0,st:=E.q8_l0_i,fn:=λ d k=>lp (F.au N) N d (λ y=>k (.exit 0) (E.q8_l0_oe0.to y))}
theorem LK.q8_l0(N:Nat):Ah Try.prog 0 Try.f60.ntmps (bodyOf Try.f60) (TL.q8_l0 (R:=R) N):=
 Ai (i:=[0,3,4,6,20,21,22]) (o:=[0,6]) (h:=H.q8) A5 hm (Ae TK.q7 Ac) WF.f60 Ab (by kernel_rfl) (λ d=>Aj rfl) N (F.au N) _ (λ _ _=>rfl) (λ _ _ _=>by kernel_rfl)
theorem TK.q8(N:Nat):Ak Try.prog (T.q8 (R:=R) N):=
 Al (h:=H.q8) A5 hm (Ae (TK.q6 N) Ac) WF.f60 (λ d=>(Af (LK.q8_l0 N) Ab)) (λ _ _=>by kernel_rfl)
abbrev E.q9_l0_i:Enc St:=sQ 0 (lC Ca (lC (kY 7 (rO 0 ki5)) (lC D4 (lO Ce)))) (lN (Nat×Blk)) rfl
abbrev E.q9_l0_oe0:Enc St:=sQ 0 (lO Ca) (lN (Nat×Blk)) rfl
abbrev E.q9_a:Enc (List AV×List Blk):=bQ (lO (aG (lC (rO 0 ki5) (lO (iN .i64))))) (lN Blk) rfl
abbrev E.q9_r:Enc (AV×List (Option Blk)×List Blk):=bQ (iN .i64) (bS (lN (Option Blk)) rfl (lN Blk)) rfl
def T.q9(N:Nat):Au R:={f:=46,arg:=E.q9_a,res:=E.q9_r,fn:=F.aj N}
def H.q9:A4:={lp:=[(0,[3,7,8,9],[3])]}
theorem WF.f46:Bb Try.prog 46 Try.f46:=Aq Try.func46 (by decide) (by kernel_rfl)
def TL.q9_l0(N:Nat):Am R:={b:=0,st:=E.q9_l0_i,fn:=λ d k=>lp (F.an N) N d (λ y=>k (.exit 0) (E.q9_l0_oe0.to y))}
theorem LK.q9_l0(N:Nat):Ah Try.prog 0 Try.f46.ntmps (bodyOf Try.f46) (TL.q9_l0 (R:=R) N):=
 Ai (i:=[3,7,8,9]) (o:=[3]) (h:=H.q9) A5 hm (Ae (TK.q8 N) Ac) WF.f46 Ab (by kernel_rfl) (λ d=>Aj rfl) N (F.an N) _ (λ _ _=>rfl) (λ _ _ _=>by kernel_rfl)
theorem TK.q9(N:Nat):Ak Try.prog (T.q9 (R:=R) N):=
 Al (h:=H.q9) A5 hm Ac WF.f46 (λ d=>(Af (LK.q9_l0 N) Ab)) (λ _ _=>by kernel_rfl)
abbrev E.q10_l0_i:Enc St:=sT 1 (lU Cl rfl (lC F6 (lO K3))) (lO (kY 0 B0))
abbrev E.q10_l0_oe0:Enc St:=sT 1 (lO K3) (lO (kY 0 B0))
abbrev E.q10_j4:Enc St:=sT 1 (lU Cl rfl (lC F6 (lC K3 (lO (kY 18 bB))))) (lO (kY 0 B0))
abbrev E.q10_a:Enc (List AV×List Blk):=bO Aj2 (lO B0)
abbrev E.q10_r:Enc (AV×List (Option Blk)×List Blk):=bO tR (bQ (lO (sM B0)) (lN Blk) rfl)
def T.q10(N:Nat)(rw0:Ge->(Ee->Option R)->Option R):Au R:={f:=83,arg:=E.q10_a,res:=E.q10_r,fn:=F.pm N rw0}
def H.q10:A4:={lp:=[(0,[0,1,5],[5])],jn:=[(4,[0,1,5,18],E.q10_j4)]}
theorem WF.f83:Bb Try.prog 83 Try.f83:=Aq Try.func83 (by decide) (by kernel_rfl)
def TL.q10_l0(N:Nat)(rw0:Ge->(Ee->Option R)->Option R):Am R:={b:=0,st:=E.q10_l0_i,fn:=λ d k=>lp (F.br N rw0) N d (λ y=>k (.exit 0) (E.q10_l0_oe0.to y))}
theorem LK.q10_l0(N:Nat)(rw0:Ge->(Ee->Option R)->Option R)(h_spec_l1DrawAlt:Ak Try.prog (T.q13_r rw0)):Ah Try.prog 1 Try.f83.ntmps (bodyOf Try.f83) (TL.q10_l0 (R:=R) N rw0):=
 Ai (i:=[0,1,5]) (o:=[5]) (h:=H.q10) A5 hm (Ae TK.q1 (Ae h_spec_l1DrawAlt Ac)) WF.f83 Ab (by kernel_rfl) (λ d=>Aj rfl) N (F.br N rw0) _ (λ _ _=>rfl) (λ _ _ _=>by kernel_rfl)
theorem TK.q10(N:Nat)(rw0:Ge->(Ee->Option R)->Option R)(h_spec_l1DrawAlt:Ak Try.prog (T.q13_r rw0)):Ak Try.prog (T.q10 (R:=R) N rw0):=
 Al (h:=H.q10) A5 hm (Ae h_spec_l1DrawAlt Ac) WF.f83 (λ d=>(Af (LK.q10_l0 N rw0 h_spec_l1DrawAlt) Ab)) (λ _ _=>by kernel_rfl)
abbrev E.q11_a:Enc (List AV×List Blk):=bS (lU (pB 0 0) rfl (lN AV)) rfl (lO B0)
abbrev E.q11_r:Enc (AV×List (Option Blk)×List Blk):=bO tR (bQ (lO (sM B0)) (lN Blk) rfl)
def T.q11:Au R:={f:=84,arg:=E.q11_a,res:=E.q11_r,fn:=F.pp}
def H.q11:A4:={lp:=[]}
theorem WF.f84:Bb Try.prog 84 Try.f84:=Aq Try.func84 (by decide) (by kernel_rfl)
theorem TK.q11:Ak Try.prog (T.q11 (R:=R)):=
 Al (h:=H.q11) A5 hm (Ae TK.q1 Ac) WF.f84 (λ d=>Ab) (λ _ _=>by kernel_rfl)
abbrev E.q12_a:Enc (List AV×List Blk):=bS (lU (pB 0 0) rfl (lN AV)) rfl (lO B0)
abbrev E.q12_r:Enc (AV×List (Option Blk)×List Blk):=bO tR (bQ (lO (sM B0)) (lN Blk) rfl)
def T.q12:Au R:={f:=85,arg:=E.q12_a,res:=E.q12_r,fn:=F.mb}
def H.q12:A4:={lp:=[]}
theorem WF.f85:Bb Try.prog 85 Try.f85:=Aq Try.func85 (by decide) (by kernel_rfl)
theorem TK.q12:Ak Try.prog (T.q12 (R:=R)):=
 Al (h:=H.q12) A5 hm (Ae TK.q1 Ac) WF.f85 (λ d=>Ab) (λ _ _=>by kernel_rfl)
abbrev E.q13_l0_i:Enc St:=sT 1 (lU Cl rfl (lC F6 Aq2)) (lO (kY 0 B0))
abbrev E.q13_l0_oe0:Enc St:=sT 1 (lO K3) (lO (kY 0 B0))
abbrev E.q13_j14:Enc St:=sT 1 (lU Cl rfl (lC F6 (lC K3 (lC C5 (lC Cb (lO (kY 47 bB))))))) (lO (kY 0 B0))
abbrev E.q13_j8:Enc St:=sT 1 (lU Cl rfl (lC F6 (lC K3 (lC C5 (lC Cb (lO (kY 24 bB))))))) (lO (kY 0 B0))
def H.q13:A4:={lp:=[(0,[0,1,5,6,7],[5])],jn:=[(14,[0,1,5,6,7,47],E.q13_j14),(8,[0,1,5,6,7,24],E.q13_j8)]}
theorem WF.f74:Bb Try.prog 74 Try.f74:=Aq Try.func74 (by decide) (by kernel_rfl)
def TL.q13_l0(N:Nat)(rw0:Ge->(Ee->Option R)->Option R):Am R:={b:=0,st:=E.q13_l0_i,fn:=λ d k=>lp (F.di N rw0) N d (λ y=>k (.exit 0) (E.q13_l0_oe0.to y))}
theorem LK.q13_l0(N:Nat)(rw0:Ge->(Ee->Option R)->Option R)(h_spec_l1DrawAlt:Ak Try.prog (T.q13_r rw0)):Ah Try.prog 1 Try.f74.ntmps (bodyOf Try.f74) (TL.q13_l0 (R:=R) N rw0):=
 Ai (i:=[0,1,5,6,7]) (o:=[5]) (h:=H.q13) A5 hm (Ae TK.q1 (Ae (TK.q10 N rw0 h_spec_l1DrawAlt) (Ae TK.q11 (Ae TK.q12 Ac)))) WF.f74 Ab (by kernel_rfl) (λ d=>Aj rfl) N (F.di N rw0) _ (λ _ _=>rfl) (λ _ _ _=>by kernel_rfl)
def T.q13_s(N:Nat)(rw0:Ge->(Ee->Option R)->Option R):Au R:={f:=74,arg:=E.q13_a,res:=E.q13_r,fn:=F.om N rw0}
theorem F.xz(N:Nat)(rw0:Ge->(Ee->Option R)->Option R)(d:E.q13_a.D)(k:AV->List (Option Blk)->List Blk->Option R):
  Hr Rc (B1 [T.q1]) (Bg [TL.q13_l0 N rw0]) H.q13 Try.f74 (E.q13_a.to d).1 (E.q13_a.to d).2 k=(T.q13_s N rw0).fn d λ x=>k (E.q13_r.to x).1 (E.q13_r.to x).2.1 (E.q13_r.to x).2.2:=by kernel_rfl
theorem TKn.q13(N:Nat):∀n,Ak Try.prog (T.q13_r (R:=R) (F.kr N n))
 | 0=>λ d k r h=>nomatch(show(none:Option R)=some r from h)
 | n+1=>Al (h:=H.q13) A5 hm (Ae TK.q1 Ac) WF.f74 (λ d=>(Af (LK.q13_l0 N (F.kr N n) (TKn.q13 N n)) Ab)) (F.xz N (F.kr N n))
theorem TK.q13(N:Nat):Ak Try.prog (T.q13_r (R:=R) (F.kr N N)):=TKn.q13 N N
abbrev E.q14_l0_i:Enc St:=sT 1 Ajm (lO (kY 0 B0))
abbrev E.q14_l0_oe0:Enc St:=sT 1 (lU Kc rfl (lO K3)) (lO (kY 0 B0))
abbrev E.q14_l0_oret:Enc St:=sT 1 (lC (kY 4 tR) (lO K3)) (lO (kY 0 B0))
abbrev E.q14_j81:Enc St:=sT 1 Ajm (lO (kY 0 B0))
abbrev E.q14_j24:Enc St:=sT 1 (lU Cl rfl (lC K3 (lC C5 (lO (kY 40 bB))))) (lO (kY 0 B0))
abbrev E.q14_j47:Enc St:=sT 1 (lU Cl rfl Aq2) (lO (kY 0 B0))
abbrev E.q14_j35:Enc St:=sT 1 Ajm (lO (kY 0 B0))
abbrev E.q14_a:Enc (List AV×List Blk):=bO Aj2 (lO B0)
abbrev E.q14_r:Enc (AV×List (Option Blk)×List Blk):=bO tR (bQ (lO (sM B0)) (lN Blk) rfl)
def T.q14(N:Nat):Au R:={f:=61,arg:=E.q14_a,res:=E.q14_r,fn:=F.mf N}
def H.q14:A4:={lp:=[(0,[0,5,6],[4,5])],jn:=[(81,[0,5,6],E.q14_j81),(24,[0,5,6,40],E.q14_j24),(47,[0,5,6,7],E.q14_j47),(35,[0,5,6],E.q14_j35)]}
theorem WF.f61:Bb Try.prog 61 Try.f61:=Aq Try.func61 (by decide) (by kernel_rfl)
def TL.q14_l0(N:Nat):Am R:={b:=0,st:=E.q14_l0_i,fn:=λ d k=>lp (F.bb N) N d (λ y=>k (.exit 0) (E.q14_l0_oe0.to y),λ y=>k .ret (E.q14_l0_oret.to y))}
theorem LK.q14_l0(N:Nat):Ah Try.prog 1 Try.f61.ntmps (bodyOf Try.f61) (TL.q14_l0 (R:=R) N):=
 Ai (i:=[0,5,6]) (o:=[4,5]) (h:=H.q14) A5 hm (Ae TK.q1 (Ae (TK.q13 N) Ac)) WF.f61 Ab (by kernel_rfl) (λ d=>Aj rfl) N (F.bb N) _ (λ _ _=>rfl) (λ _ _ _=>by kernel_rfl)
theorem TK.q14(N:Nat):Ak Try.prog (T.q14 (R:=R) N):=
 Al (h:=H.q14) A5 hm Ac WF.f61 (λ d=>(Af (LK.q14_l0 N) Ab)) (λ _ _=>by kernel_rfl)
abbrev E.q15_a:Enc (List AV×List Blk):=bQ (lC (iN .i64) Qn) (lN Blk) rfl
abbrev E.q15_r:Enc (AV×List (Option Blk)×List Blk):=bQ bB (bS (lN (Option Blk)) rfl (lN Blk)) rfl
def T.q15:Au R:={f:=15,arg:=E.q15_a,res:=E.q15_r,fn:=F.af}
def H.q15:A4:={lp:=[]}
theorem WF.f15:Bb Try.prog 15 Try.f15:=Aq Try.func15 (by decide) (by kernel_rfl)
theorem TK.q15:Ak Try.prog (T.q15 (R:=R)):=
 Al (h:=H.q15) A5 hm Ac WF.f15 (λ d=>Ab) (λ _ _=>by kernel_rfl)
abbrev E.q16_l0_i:Enc St:=sQ 0 (lC Fg (lC Ca (lO D5))) (lN (Nat×Blk)) rfl
abbrev E.q16_l0_oe0:Enc St:=sQ 0 (lU Ou rfl (lO Ca)) (lN (Nat×Blk)) rfl
abbrev E.q16_l0_oret:Enc St:=sQ 0 (lC Zv (lO Ca)) (lN (Nat×Blk)) rfl
abbrev E.q16_a:Enc (List AV×List Blk):=bQ (lO tR) (lN Blk) rfl
abbrev E.q16_r:Enc (AV×List (Option Blk)×List Blk):=bQ (iN .i64) (bS (lN (Option Blk)) rfl (lN Blk)) rfl
def T.q16(N:Nat):Au R:={f:=86,arg:=E.q16_a,res:=E.q16_r,fn:=F.oa N}
def H.q16:A4:={lp:=[(0,[0,3,4],[2,3])]}
theorem WF.f86:Bb Try.prog 86 Try.f86:=Aq Try.func86 (by decide) (by kernel_rfl)
def TL.q16_l0(N:Nat):Am R:={b:=0,st:=E.q16_l0_i,fn:=λ d k=>lp (F.ji N) N d (λ y=>k (.exit 0) (E.q16_l0_oe0.to y),λ y=>k .ret (E.q16_l0_oret.to y))}
theorem LK.q16_l0(N:Nat):Ah Try.prog 0 Try.f86.ntmps (bodyOf Try.f86) (TL.q16_l0 (R:=R) N):=
 Ai (i:=[0,3,4]) (o:=[2,3]) (h:=H.q16) A5 hm (Ae TK.q15 Ac) WF.f86 Ab (by kernel_rfl) (λ d=>Aj rfl) N (F.ji N) _ (λ _ _=>rfl) (λ _ _ _=>by kernel_rfl)
theorem TK.q16(N:Nat):Ak Try.prog (T.q16 (R:=R) N):=
 Al (h:=H.q16) A5 hm Ac WF.f86 (λ d=>(Af (LK.q16_l0 N) Ab)) (λ _ _=>by kernel_rfl)
abbrev E.q17_l0_i:Enc St:=sQ 0 Aq3 (lN (Nat×Blk)) rfl
abbrev E.q17_l0_oe0:Enc St:=sQ 0 Aq3 (lN (Nat×Blk)) rfl
abbrev E.q17_l2_i:Enc St:=sQ 0 (lC Cb (lC (kY 8 tR) (lC Ce (lO He)))) (lN (Nat×Blk)) rfl
abbrev E.q17_l2_oe2:Enc St:=sQ 0 (lC Cb (lC (kY 8 tR) (lO Ce))) (lN (Nat×Blk)) rfl
abbrev E.q17_a:Enc (List AV×List Blk):=bQ Aex (lN Blk) rfl
abbrev E.q17_r:Enc (AV×List (Option Blk)×List Blk):=bQ (tP (lC (iN .i64) Qn)) (bS (lN (Option Blk)) rfl (lN Blk)) rfl
def T.q17(N:Nat):Au R:={f:=75,arg:=E.q17_a,res:=E.q17_r,fn:=F.bc N}
def H.q17:A4:={lp:=[(0,[0,1,7],[0,1,7]),(2,[7,8,9,10],[7,8,9])]}
theorem WF.f75:Bb Try.prog 75 Try.f75:=Aq Try.func75 (by decide) (by kernel_rfl)
def TL.q17_l0(N:Nat):Am R:={b:=0,st:=E.q17_l0_i,fn:=λ d k=>lp (F.bu N) N d (λ y=>k (.exit 0) (E.q17_l0_oe0.to y))}
theorem LK.q17_l0(N:Nat):Ah Try.prog 0 Try.f75.ntmps (bodyOf Try.f75) (TL.q17_l0 (R:=R) N):=
 Ai (i:=[0,1,7]) (o:=[0,1,7]) (h:=H.q17) A5 hm Ac WF.f75 Ab (by kernel_rfl) (λ d=>Aj rfl) N (F.bu N) _ (λ _ _=>rfl) (λ _ _ _=>by kernel_rfl)
def TL.q17_l2(N:Nat):Am R:={b:=2,st:=E.q17_l2_i,fn:=λ d k=>lp (F.bx N) N d (λ y=>k (.exit 2) (E.q17_l2_oe2.to y))}
theorem LK.q17_l2(N:Nat):Ah Try.prog 0 Try.f75.ntmps (bodyOf Try.f75) (TL.q17_l2 (R:=R) N):=
 Ai (i:=[7,8,9,10]) (o:=[7,8,9]) (h:=H.q17) A5 hm Ac WF.f75 Ab (by kernel_rfl) (λ d=>Aj rfl) N (F.bx N) _ (λ _ _=>rfl) (λ _ _ _=>by kernel_rfl)
theorem TK.q17(N:Nat):Ak Try.prog (T.q17 (R:=R) N):=
 Al (h:=H.q17) A5 hm (Ae (TK.q16 N) Ac) WF.f75 (λ d=>(Af (LK.q17_l0 N) (Af (LK.q17_l2 N) Ab))) (λ _ _=>by kernel_rfl)
abbrev E.q18_a:Enc (List AV×List Blk):=bQ Aex (lN Blk) rfl
abbrev E.q18_r:Enc (AV×List (Option Blk)×List Blk):=bQ (iN .i64) (bS (lN (Option Blk)) rfl (lN Blk)) rfl
def T.q18:Au R:={f:=78,arg:=E.q18_a,res:=E.q18_r,fn:=F.dg}
def H.q18:A4:={lp:=[]}
theorem WF.f78:Bb Try.prog 78 Try.f78:=Aq Try.func78 (by decide) (by kernel_rfl)
theorem TK.q18:Ak Try.prog (T.q18 (R:=R)):=
 Al (h:=H.q18) A5 hm Ac WF.f78 (λ d=>Ab) (λ _ _=>by kernel_rfl)
abbrev E.q19_a:Enc (List AV×List Blk):=bS (lN AV) rfl (lN Blk)
abbrev E.q19_r:Enc (AV×List (Option Blk)×List Blk):=bS (sL 0) rfl (bS (lN (Option Blk)) rfl (lO (cE (lO (rW .str)))))
def T.q19:Au R:={f:=87,arg:=E.q19_a,res:=E.q19_r,fn:=F.ql}
def H.q19:A4:={lp:=[]}
theorem WF.f87:Bb Try.prog 87 Try.f87:=Aq Try.func87 (by decide) (by kernel_rfl)
theorem TK.q19:Ak Try.prog (T.q19 (R:=R)):=
 Al (h:=H.q19) A5 hm Ac WF.f87 (λ d=>Ab) (λ _ _=>by kernel_rfl)
abbrev E.q20_a:Enc (List AV×List Blk):=bQ Aex (lN Blk) rfl
abbrev E.q20_r:Enc (AV×List (Option Blk)×List Blk):=bQ bB (bS (lN (Option Blk)) rfl (lN Blk)) rfl
def T.q20:Au R:={f:=88,arg:=E.q20_a,res:=E.q20_r,fn:=F.qc}
def H.q20:A4:={lp:=[]}
theorem WF.f88:Bb Try.prog 88 Try.f88:=Aq Try.func88 (by decide) (by kernel_rfl)
theorem TK.q20:Ak Try.prog (T.q20 (R:=R)):=
 Al (h:=H.q20) A5 hm (Ae TK.q15 Ac) WF.f88 (λ d=>Ab) (λ _ _=>by kernel_rfl)
abbrev E.q21_l2_i:Enc St:=sT 1 (lU Hf rfl (lC Cb (lO He))) (lO (kY 0 Ch))
abbrev E.q21_l2_oe2:Enc St:=sT 1 (lU Hf rfl (lO Cb)) (lO (kY 0 Ch))
abbrev E.q21_l4_i:Enc St:=sT 1 (lC Fg (lU Hf rfl (lC Cb Ajo))) (lO (kY 0 Ch))
abbrev E.q21_l4_oe4:Enc St:=sT 1 (lC Fg (lU Hf rfl (lC Cb Ajo))) (lO (kY 0 Ch))
abbrev E.q21_l6_i:Enc St:=sT 2 (lC Fg (lU Hf rfl (lC Jn (lC Ce (lC Hg (lC (kY 13 tR) (lC (kY 14 bB) (lU (kY 122 (sL 1)) rfl (lC (kY 123 (iN .i64)) (lO (kY 124 (iN .i64)))))))))))) (lC (kY 0 Ch) (lO (kY 1 (cE (lO (rW .str))))))
abbrev E.q21_l6_oe6:Enc St:=sT 1 (lC Fg (lU Hf rfl (lC Jn (lC Ce (lC Hg (lC (kY 13 tR) (lO (kY 14 bB)))))))) (lO (kY 0 Ch))
abbrev E.q21_l8_i:Enc St:=sT 1 (lC Fg (lU Hf rfl (lC Jn (lC Ce (lC Hg (lC (kY 13 tR) (lO Ky))))))) (lO (kY 0 Ch))
abbrev E.q21_l8_oe8:Enc St:=sT 1 (lC Fg (lU Hf rfl Ajo)) (lO (kY 0 Ch))
abbrev E.q21_l10_i:Enc St:=sT 1 (lC Fg (lU Hf rfl (lC Cb (lC Jn (lC Ce (lC Rf (lO Ajl))))))) (lO (kY 0 Ch))
abbrev E.q21_l10_oe10:Enc St:=sT 1 (lC Fg (lU Hf rfl (lC Cb (lC Jn (lO Ce))))) (lO (kY 0 Ch))
abbrev E.q21_l0_i:Enc St:=sT 1 (lC Fg (lU Hf rfl (lC Cb (lC Jn (lO Ce))))) (lO (kY 0 Ch))
abbrev E.q21_l0_oe0:Enc St:=sR 1 (lU Kc rfl (lU (kY 5 uN) rfl Aew)) rfl (lO (kY 0 Ch))
abbrev E.q21_l0_oret:Enc St:=sT 1 (lU Zw rfl (lR B9 Aew rfl)) (lO (kY 0 Ch))
abbrev E.q21_j331:Enc St:=sT 1 (lC Fg (lU Hf rfl (lC Cb (lC Jn (lC Ce (lC S9 (lO Rf))))))) (lO (kY 0 Ch))
abbrev E.q21_j86:Enc St:=sT 1 (lC Fg (lU Hf rfl (lC Cb (lC Jn (lC Ce (lC S9 (lC Rf (lC Zx (lO (kY 165 bB)))))))))) (lO (kY 0 Ch))
abbrev E.q21_j36:Enc St:=sT 1 (lC Fg (lU Hf rfl (lC Cb (lC Jn (lC Ce (lC Ff (lO (kY 87 bB)))))))) (lO (kY 0 Ch))
abbrev E.q21_j32:Enc St:=sT 1 (lC Fg (lU Hf rfl (lC Cb (lC Jn (lC Ce (lC Ff (lO (kY 78 bB)))))))) (lO (kY 0 Ch))
abbrev E.q21_j16:Enc St:=sT 1 (lC Fg (lU Hf rfl (lC Cb (lC Jn (lC Ce (lO (kY 46 bB))))))) (lO (kY 0 Ch))
abbrev E.q21_a:Enc (List AV×List Blk):=bQ Aex (lN Blk) rfl
abbrev E.q21_r:Enc (AV×List (Option Blk)×List Blk):=bO (tP Aq4) (bS (lN (Option Blk)) rfl (lO Ch))
def T.q21(N:Nat):Au R:={f:=76,arg:=E.q21_a,res:=E.q21_r,fn:=F.bi N}
def H.q21:A4:={lp:=[(0,[0,6,7,8,9],[4,5,6]),(2,[6,7,10],[6,7]),(4,[0,6,7,8,9,12],[0,6,7,8,9,12]),(6,[0,6,8,9,12,13,14,122,123,124],[0,6,8,9,12,13,14]),(8,[0,6,8,9,12,13,17],[0,6,8,9,12]),(10,[0,6,7,8,9,19,22],[0,6,7,8,9])],jn:=[(331,[0,6,7,8,9,18,19],E.q21_j331),(86,[0,6,7,8,9,18,19,20,165],E.q21_j86),(36,[0,6,7,8,9,11,87],E.q21_j36),(32,[0,6,7,8,9,11,78],E.q21_j32),(16,[0,6,7,8,9,46],E.q21_j16)]}
theorem WF.f76:Bb Try.prog 76 Try.f76:=Aq Try.func76 (by decide) (by kernel_rfl)
def TL.q21_l2(N:Nat):Am R:={b:=2,st:=E.q21_l2_i,fn:=λ d k=>lp (F.dj N) N d (λ y=>k (.exit 2) (E.q21_l2_oe2.to y))}
theorem LK.q21_l2(N:Nat):Ah Try.prog 0 Try.f76.ntmps (bodyOf Try.f76) (TL.q21_l2 (R:=R) N):=
 Ai (i:=[6,7,10]) (o:=[6,7]) (h:=H.q21) A5 hm Ac WF.f76 Ab (by kernel_rfl) (λ d=>Aj rfl) N (F.dj N) _ (λ _ _=>rfl) (λ _ _ _=>by kernel_rfl)
def TL.q21_l4(N:Nat):Am R:={b:=4,st:=E.q21_l4_i,fn:=λ d k=>lp (F.dk N) N d (λ y=>k (.exit 4) (E.q21_l4_oe4.to y))}
theorem LK.q21_l4(N:Nat):Ah Try.prog 0 Try.f76.ntmps (bodyOf Try.f76) (TL.q21_l4 (R:=R) N):=
 Ai (i:=[0,6,7,8,9,12]) (o:=[0,6,7,8,9,12]) (h:=H.q21) A5 hm Ac WF.f76 Ab (by kernel_rfl) (λ d=>Aj rfl) N (F.dk N) _ (λ _ _=>rfl) (λ _ _ _=>by kernel_rfl)
def TL.q21_l6(N:Nat):Am R:={b:=6,st:=E.q21_l6_i,fn:=λ d k=>lp (F.dl N) N d (λ y=>k (.exit 6) (E.q21_l6_oe6.to y))}
theorem LK.q21_l6(N:Nat):Ah Try.prog 0 Try.f76.ntmps (bodyOf Try.f76) (TL.q21_l6 (R:=R) N):=
 Ai (i:=[0,6,8,9,12,13,14,122,123,124]) (o:=[0,6,8,9,12,13,14]) (h:=H.q21) A5 hm Ac WF.f76 Ab (by kernel_rfl) (λ d=>Aj rfl) N (F.dl N) _ (λ _ _=>rfl) (λ _ _ _=>by kernel_rfl)
def TL.q21_l8(N:Nat):Am R:={b:=8,st:=E.q21_l8_i,fn:=λ d k=>lp (F.dm N) N d (λ y=>k (.exit 8) (E.q21_l8_oe8.to y))}
theorem LK.q21_l8(N:Nat):Ah Try.prog 0 Try.f76.ntmps (bodyOf Try.f76) (TL.q21_l8 (R:=R) N):=
 Ai (i:=[0,6,8,9,12,13,17]) (o:=[0,6,8,9,12]) (h:=H.q21) A5 hm (Ae TK.q20 Ac) WF.f76 Ab (by kernel_rfl) (λ d=>Aj rfl) N (F.dm N) _ (λ _ _=>rfl) (λ _ _ _=>by kernel_rfl)
def TL.q21_l10(N:Nat):Am R:={b:=10,st:=E.q21_l10_i,fn:=λ d k=>lp (F.bz N) N d (λ y=>k (.exit 10) (E.q21_l10_oe10.to y))}
theorem LK.q21_l10(N:Nat):Ah Try.prog 0 Try.f76.ntmps (bodyOf Try.f76) (TL.q21_l10 (R:=R) N):=
 Ai (i:=[0,6,7,8,9,19,22]) (o:=[0,6,7,8,9]) (h:=H.q21) A5 hm Ac WF.f76 Ab (by kernel_rfl) (λ d=>Aj rfl) N (F.bz N) _ (λ _ _=>rfl) (λ _ _ _=>by kernel_rfl)
def TL.q21_l0(N:Nat):Am R:={b:=0,st:=E.q21_l0_i,fn:=λ d k=>lp (F.dp N) N d (λ y=>k (.exit 0) (E.q21_l0_oe0.to y),λ y=>k .ret (E.q21_l0_oret.to y))}
theorem LK.q21_l0(N:Nat):Ah Try.prog 0 Try.f76.ntmps (bodyOf Try.f76) (TL.q21_l0 (R:=R) N):=
 Ai (i:=[0,6,7,8,9]) (o:=[4,5,6]) (h:=H.q21) A5 hm (Ae TK.q18 (Ae TK.q19 Ac)) WF.f76 (Af (LK.q21_l2 N) (Af (LK.q21_l4 N) (Af (LK.q21_l6 N) (Af (LK.q21_l8 N) (Af (LK.q21_l10 N) Ab))))) (by kernel_rfl) (λ d=>Aj rfl) N (F.dp N) _ (λ _ _=>rfl) (λ _ _ _=>by kernel_rfl)
theorem TK.q21(N:Nat):Ak Try.prog (T.q21 (R:=R) N):=
 Al (h:=H.q21) A5 hm (Ae TK.q18 Ac) WF.f76 (λ d=>(Af (LK.q21_l0 N) Ab)) (λ _ _=>by kernel_rfl)
abbrev E.q22_l0_i:Enc St:=sT 1 (lC F6 (lU I0 rfl (lO C5))) (lO (kY 0 Ch))
abbrev E.q22_l0_oe0:Enc St:=sR 1 Zy rfl (lO (kY 0 Ch))
abbrev E.q22_a:Enc (List AV×List Blk):=bQ Qn (lN Blk) rfl
abbrev E.q22_r:Enc (AV×List (Option Blk)×List Blk):=bS (sL 0) rfl (bS (lN (Option Blk)) rfl (lO Ch))
def T.q22(N:Nat):Au R:={f:=77,arg:=E.q22_a,res:=E.q22_r,fn:=F.ai N}
def H.q22:A4:={lp:=[(0,[1,5,6],[5])]}
theorem WF.f77:Bb Try.prog 77 Try.f77:=Aq Try.func77 (by decide) (by kernel_rfl)
def TL.q22_l0(N:Nat):Am R:={b:=0,st:=E.q22_l0_i,fn:=λ d k=>lp (F.jj N) N d (λ y=>k (.exit 0) (E.q22_l0_oe0.to y))}
theorem LK.q22_l0(N:Nat):Ah Try.prog 0 Try.f77.ntmps (bodyOf Try.f77) (TL.q22_l0 (R:=R) N):=
 Ai (i:=[1,5,6]) (o:=[5]) (h:=H.q22) A5 hm Ac WF.f77 Ab (by kernel_rfl) (λ d=>Aj rfl) N (F.jj N) _ (λ _ _=>rfl) (λ _ _ _=>by kernel_rfl)
theorem TK.q22(N:Nat):Ak Try.prog (T.q22 (R:=R) N):=
 Al (h:=H.q22) A5 hm Ac WF.f77 (λ d=>(Af (LK.q22_l0 N) Ab)) (λ _ _=>by kernel_rfl)
abbrev E.q23_l0_i:Enc St:=sQ 0 (lC (kY 0 (iN .i64)) (lC (kY 3 tR) (lO D5))) (lN (Nat×Blk)) rfl
abbrev E.q23_l0_oe0:Enc St:=sR 0 Aey rfl (lN (Nat×Blk))
abbrev E.q23_l0_oret:Enc St:=sQ 0 (lO Rg) (lN (Nat×Blk)) rfl
abbrev E.q23_a:Enc (List AV×List Blk):=bQ (lO (iN .i64)) (lN Blk) rfl
abbrev E.q23_r:Enc (AV×List (Option Blk)×List Blk):=bQ bB (bS (lN (Option Blk)) rfl (lN Blk)) rfl
def T.q23(N:Nat):Au R:={f:=79,arg:=E.q23_a,res:=E.q23_r,fn:=F.aw N}
def H.q23:A4:={lp:=[(0,[0,3,4],[2])]}
theorem WF.f79:Bb Try.prog 79 Try.f79:=Aq Try.func79 (by decide) (by kernel_rfl)
def TL.q23_l0(N:Nat):Am R:={b:=0,st:=E.q23_l0_i,fn:=λ d k=>lp (F.bj N) N d (λ y=>k (.exit 0) (E.q23_l0_oe0.to y),λ y=>k .ret (E.q23_l0_oret.to y))}
theorem LK.q23_l0(N:Nat):Ah Try.prog 0 Try.f79.ntmps (bodyOf Try.f79) (TL.q23_l0 (R:=R) N):=
 Ai (i:=[0,3,4]) (o:=[2]) (h:=H.q23) A5 hm Ac WF.f79 Ab (by kernel_rfl) (λ d=>Aj rfl) N (F.bj N) _ (λ _ _=>rfl) (λ _ _ _=>by kernel_rfl)
theorem TK.q23(N:Nat):Ak Try.prog (T.q23 (R:=R) N):=
 Al (h:=H.q23) A5 hm Ac WF.f79 (λ d=>(Af (LK.q23_l0 N) Ab)) (λ _ _=>by kernel_rfl)
abbrev E.q24_l0_i:Enc St:=sT 1 (lC Fg (lU I0 rfl (lC C5 (lO Cb)))) (lO (kY 0 Aez))
abbrev E.q24_l0_oe0:Enc St:=sR 1 (lU Ou rfl (lU (kY 3 uN) rfl (lU Kc rfl Zy))) rfl (lO (kY 0 Aez))
abbrev E.q24_l0_oret:Enc St:=sT 1 (lU (kY 2 (sL 0)) rfl (lC Ca (lR D5 Zy rfl))) (lO (kY 0 Aez))
abbrev E.q24_j87:Enc St:=sT 3 (lC Fg (lU I0 rfl (lC C5 (lU (kY 9 (pB 1 0)) rfl (lO He))))) (lC (kY 0 Aez) (lC (kY 1 (cE (lC (iN .u8) (lC (iN .i64) (lU (sL 2) rfl Qn))))) (lO (kY 2 Ch))))
abbrev E.q24_a:Enc (List AV×List Blk):=bQ (lO tR) (lN Blk) rfl
abbrev E.q24_r:Enc (AV×List (Option Blk)×List Blk):=bQ (tP (lC (fZ ki8) Qn)) (bS (lN (Option Blk)) rfl (lN Blk)) rfl
def T.q24(N:Nat):Au R:={f:=62,arg:=E.q24_a,res:=E.q24_r,fn:=F.th N}
def H.q24:A4:={lp:=[(0,[0,5,6,7],[2,3,4,5])],rz:=[(2,0)],jn:=[(87,[0,5,6,9,10],E.q24_j87)]}
theorem WF.f62:Bb Try.prog 62 Try.f62:=Aq Try.func62 (by decide) (by kernel_rfl)
def TL.q24_l0(N:Nat):Am R:={b:=0,st:=E.q24_l0_i,fn:=λ d k=>lp (F.mi N) N d (λ y=>k (.exit 0) (E.q24_l0_oe0.to y),λ y=>k .ret (E.q24_l0_oret.to y))}
theorem LK.q24_l0(N:Nat):Ah Try.prog 0 Try.f62.ntmps (bodyOf Try.f62) (TL.q24_l0 (R:=R) N):=
 Ai (i:=[0,5,6,7]) (o:=[2,3,4,5]) (h:=H.q24) A5 hm (Ae (TK.q17 N) (Ae (TK.q21 N) (Ae (TK.q22 N) (Ae TK.q18 (Ae (TK.q23 N) Ac))))) WF.f62 Ab (by kernel_rfl) (λ d=>Aj rfl) N (F.mi N) _ (λ _ _=>rfl) (λ _ _ _=>by kernel_rfl)
theorem TK.q24(N:Nat):Ak Try.prog (T.q24 (R:=R) N):=
 Al (h:=H.q24) A5 hm Ac WF.f62 (λ d=>(Af (LK.q24_l0 N) Ab)) (λ _ _=>by kernel_rfl)
abbrev E.q25_a:Enc (List AV×List Blk):=bQ Ae0 (lN Blk) rfl
abbrev E.q25_r:Enc (AV×List (Option Blk)×List Blk):=bQ (iN .u8) (bS (lN (Option Blk)) rfl (lN Blk)) rfl
def T.q25:Au R:={f:=64,arg:=E.q25_a,res:=E.q25_r,fn:=F.np}
def H.q25:A4:={lp:=[]}
theorem WF.f64:Bb Try.prog 64 Try.f64:=Aq Try.func64 (by decide) (by kernel_rfl)
theorem TK.q25:Ak Try.prog (T.q25 (R:=R)):=
 Al (h:=H.q25) A5 hm Ac WF.f64 (λ d=>Ab) (λ _ _=>by kernel_rfl)
abbrev E.q26_l0_i:Enc St:=sQ 0 (lC Kd Aq5) (lN (Nat×Blk)) rfl
abbrev E.q26_l0_oe0:Enc St:=sQ 0 (lO B9) (lN (Nat×Blk)) rfl
abbrev E.q26_j35:Enc St:=sQ 0 (lC Kd Aq5) (lN (Nat×Blk)) rfl
abbrev E.q26_a:Enc (List AV×List Blk):=bQ Ae0 (lN Blk) rfl
abbrev E.q26_r:Enc (AV×List (Option Blk)×List Blk):=bQ (iN .i64) (bS (lN (Option Blk)) rfl (lN Blk)) rfl
def T.q26(N:Nat):Au R:={f:=65,arg:=E.q26_a,res:=E.q26_r,fn:=F.gq N}
def H.q26:A4:={lp:=[(0,[0,1,5,6],[5])],jn:=[(35,[0,1,5,6],E.q26_j35)]}
theorem WF.f65:Bb Try.prog 65 Try.f65:=Aq Try.func65 (by decide) (by kernel_rfl)
def TL.q26_l0(N:Nat):Am R:={b:=0,st:=E.q26_l0_i,fn:=λ d k=>lp (F.jk N) N d (λ y=>k (.exit 0) (E.q26_l0_oe0.to y))}
theorem LK.q26_l0(N:Nat):Ah Try.prog 0 Try.f65.ntmps (bodyOf Try.f65) (TL.q26_l0 (R:=R) N):=
 Ai (i:=[0,1,5,6]) (o:=[5]) (h:=H.q26) A5 hm Ac WF.f65 Ab (by kernel_rfl) (λ d=>Aj rfl) N (F.jk N) _ (λ _ _=>rfl) (λ _ _ _=>by kernel_rfl)
theorem TK.q26(N:Nat):Ak Try.prog (T.q26 (R:=R) N):=
 Al (h:=H.q26) A5 hm Ac WF.f65 (λ d=>(Af (LK.q26_l0 N) Ab)) (λ _ _=>by kernel_rfl)
abbrev E.q27_j8:Enc St:=sQ 0 (lC Kd (lC F6 (lC (kY 5 (iN .u8)) (lC (kY 6 (iN .u8)) (lC Cb (lO Jn)))))) (lN (Nat×Blk)) rfl
abbrev E.q27_a:Enc (List AV×List Blk):=bQ Ae0 (lN Blk) rfl
abbrev E.q27_r:Enc (AV×List (Option Blk)×List Blk):=bQ (iN .i64) (bS (lN (Option Blk)) rfl (lN Blk)) rfl
def T.q27(N:Nat):Au R:={f:=63,arg:=E.q27_a,res:=E.q27_r,fn:=F.ra N}
def H.q27:A4:={lp:=[],jn:=[(8,[0,1,5,6,7,8],E.q27_j8)]}
theorem WF.f63:Bb Try.prog 63 Try.f63:=Aq Try.func63 (by decide) (by kernel_rfl)
theorem TK.q27(N:Nat):Ak Try.prog (T.q27 (R:=R) N):=
 Al (h:=H.q27) A5 hm (Ae TK.q25 (Ae (TK.q26 N) Ac)) WF.f63 (λ d=>Ab) (λ _ _=>by kernel_rfl)
abbrev E.q28_l0_i:Enc St:=sQ 0 (lC Kd (lC F6 (lO B9))) (lN (Nat×Blk)) rfl
abbrev E.q28_l0_oe0:Enc St:=sR 0 Zz rfl (lN (Nat×Blk))
abbrev E.q28_l0_oret:Enc St:=sQ 0 (lO Kz) (lN (Nat×Blk)) rfl
abbrev E.q28_a:Enc (List AV×List Blk):=bQ Ae0 (lN Blk) rfl
abbrev E.q28_r:Enc (AV×List (Option Blk)×List Blk):=bQ bB (bS (lN (Option Blk)) rfl (lN Blk)) rfl
def T.q28(N:Nat):Au R:={f:=66,arg:=E.q28_a,res:=E.q28_r,fn:=F.pq N}
def H.q28:A4:={lp:=[(0,[0,1,5],[4])]}
theorem WF.f66:Bb Try.prog 66 Try.f66:=Aq Try.func66 (by decide) (by kernel_rfl)
def TL.q28_l0(N:Nat):Am R:={b:=0,st:=E.q28_l0_i,fn:=λ d k=>lp (F.cd N) N d (λ y=>k (.exit 0) (E.q28_l0_oe0.to y),λ y=>k .ret (E.q28_l0_oret.to y))}
theorem LK.q28_l0(N:Nat):Ah Try.prog 0 Try.f66.ntmps (bodyOf Try.f66) (TL.q28_l0 (R:=R) N):=
 Ai (i:=[0,1,5]) (o:=[4]) (h:=H.q28) A5 hm (Ae (TK.q26 N) Ac) WF.f66 Ab (by kernel_rfl) (λ d=>Aj rfl) N (F.cd N) _ (λ _ _=>rfl) (λ _ _ _=>by kernel_rfl)
theorem TK.q28(N:Nat):Ak Try.prog (T.q28 (R:=R) N):=
 Al (h:=H.q28) A5 hm Ac WF.f66 (λ d=>(Af (LK.q28_l0 N) Ab)) (λ _ _=>by kernel_rfl)
abbrev E.q29_l0_i:Enc St:=sT 1 (lC Kd (lU I1 rfl (lC D5 (lO B9)))) (lO (kY 0 Ta))
abbrev E.q29_l0_oe0:Enc St:=sT 1 Aq6 (lO (kY 0 Ta))
abbrev E.q29_j12:Enc St:=sT 1 (lC Kd (lU I1 rfl (lC D5 (lC B9 (lO (kY 24 bB)))))) (lO (kY 0 Ta))
abbrev E.q29_a:Enc (List AV×List Blk):=bQ (lO (fZ ki8)) (lN Blk) rfl
abbrev E.q29_r:Enc (AV×List (Option Blk)×List Blk):=bS (sL 0) rfl (bS (lN (Option Blk)) rfl (lO Ta))
def T.q29(N:Nat):Au R:={f:=67,arg:=E.q29_a,res:=E.q29_r,fn:=F.py N}
def H.q29:A4:={lp:=[(0,[0,3,4,5],[0,3,4])],jn:=[(12,[0,3,4,5,24],E.q29_j12)]}
theorem WF.f67:Bb Try.prog 67 Try.f67:=Aq Try.func67 (by decide) (by kernel_rfl)
def TL.q29_l0(N:Nat):Am R:={b:=0,st:=E.q29_l0_i,fn:=λ d k=>lp (F.jl N) N d (λ y=>k (.exit 0) (E.q29_l0_oe0.to y))}
theorem LK.q29_l0(N:Nat):Ah Try.prog 0 Try.f67.ntmps (bodyOf Try.f67) (TL.q29_l0 (R:=R) N):=
 Ai (i:=[0,3,4,5]) (o:=[0,3,4]) (h:=H.q29) A5 hm (Ae (TK.q26 N) Ac) WF.f67 Ab (by kernel_rfl) (λ d=>Aj rfl) N (F.jl N) _ (λ _ _=>rfl) (λ _ _ _=>by kernel_rfl)
theorem TK.q29(N:Nat):Ak Try.prog (T.q29 (R:=R) N):=
 Al (h:=H.q29) A5 hm Ac WF.f67 (λ d=>(Af (LK.q29_l0 N) Ab)) (λ _ _=>by kernel_rfl)
abbrev E.q30_l0_i:Enc St:=sT 1 (lC (kY 0 Ajn) (lC F6 (lU I0 rfl (lC (kY 10 Ajn) (lC Ff (lO Hg)))))) (lO (kY 0 Xk))
abbrev E.q30_l0_oe0:Enc St:=sT 1 (lC (kY 0 Ajn) (lR F6 Zy rfl)) (lO (kY 0 Xk))
abbrev E.q30_l2_i:Enc St:=sT 1 (lC (kY 0 Ajn) (lC F6 (lU I0 rfl (lO D4)))) (lO (kY 0 Xk))
abbrev E.q30_l2_oe2:Enc St:=sR 1 Zy rfl (lO (kY 0 Xk))
abbrev E.q30_a:Enc (List AV×List Blk):=bQ (lC Ajn (lO (iN .i64))) (lN Blk) rfl
abbrev E.q30_r:Enc (AV×List (Option Blk)×List Blk):=bS (sL 0) rfl (bS (lN (Option Blk)) rfl (lO Xk))
def T.q30(N:Nat):Au R:={f:=80,arg:=E.q30_a,res:=E.q30_r,fn:=F.qp N}
def H.q30:A4:={lp:=[(0,[0,1,5,10,11,12],[0,1,5]),(2,[0,1,5,8],[5])]}
theorem WF.f80:Bb Try.prog 80 Try.f80:=Aq Try.func80 (by decide) (by kernel_rfl)
def TL.q30_l0(N:Nat):Am R:={b:=0,st:=E.q30_l0_i,fn:=λ d k=>lp (F.kw N) N d (λ y=>k (.exit 0) (E.q30_l0_oe0.to y))}
theorem LK.q30_l0(N:Nat):Ah Try.prog 0 Try.f80.ntmps (bodyOf Try.f80) (TL.q30_l0 (R:=R) N):=
 Ai (i:=[0,1,5,10,11,12]) (o:=[0,1,5]) (h:=H.q30) A5 hm Ac WF.f80 Ab (by kernel_rfl) (λ d=>Aj rfl) N (F.kw N) _ (λ _ _=>rfl) (λ _ _ _=>by kernel_rfl)
def TL.q30_l2(N:Nat):Am R:={b:=2,st:=E.q30_l2_i,fn:=λ d k=>lp (F.kx N) N d (λ y=>k (.exit 2) (E.q30_l2_oe2.to y))}
theorem LK.q30_l2(N:Nat):Ah Try.prog 0 Try.f80.ntmps (bodyOf Try.f80) (TL.q30_l2 (R:=R) N):=
 Ai (i:=[0,1,5,8]) (o:=[5]) (h:=H.q30) A5 hm Ac WF.f80 Ab (by kernel_rfl) (λ d=>Aj rfl) N (F.kx N) _ (λ _ _=>rfl) (λ _ _ _=>by kernel_rfl)
theorem TK.q30(N:Nat):Ak Try.prog (T.q30 (R:=R) N):=
 Al (h:=H.q30) A5 hm Ac WF.f80 (λ d=>(Af (LK.q30_l0 N) (Af (LK.q30_l2 N) Ab))) (λ _ _=>by kernel_rfl)
abbrev E.q31_l0_i:Enc St:=sT 1 (lC Ajp (lU I1 rfl (lO D5))) (lO (kY 0 Ae1))
abbrev E.q31_l0_oe0:Enc St:=sR 1 Ajq rfl (lO (kY 0 Ae1))
abbrev E.q31_j12:Enc St:=sT 1 (lC Ajp (lU I1 rfl (lC D5 (lO (kY 23 bB))))) (lO (kY 0 Ae1))
abbrev E.q31_a:Enc (List AV×List Blk):=bQ (lO (fZ .bool)) (lN Blk) rfl
abbrev E.q31_r:Enc (AV×List (Option Blk)×List Blk):=bS (sL 0) rfl (bS (lN (Option Blk)) rfl (lO Ae1))
def T.q31(N:Nat):Au R:={f:=81,arg:=E.q31_a,res:=E.q31_r,fn:=F.qq N}
def H.q31:A4:={lp:=[(0,[0,3,4],[3])],jn:=[(12,[0,3,4,23],E.q31_j12)]}
theorem WF.f81:Bb Try.prog 81 Try.f81:=Aq Try.func81 (by decide) (by kernel_rfl)
def TL.q31_l0(N:Nat):Am R:={b:=0,st:=E.q31_l0_i,fn:=λ d k=>lp (F.gt N) N d (λ y=>k (.exit 0) (E.q31_l0_oe0.to y))}
theorem LK.q31_l0(N:Nat):Ah Try.prog 0 Try.f81.ntmps (bodyOf Try.f81) (TL.q31_l0 (R:=R) N):=
 Ai (i:=[0,3,4]) (o:=[3]) (h:=H.q31) A5 hm Ac WF.f81 Ab (by kernel_rfl) (λ d=>Aj rfl) N (F.gt N) _ (λ _ _=>rfl) (λ _ _ _=>by kernel_rfl)
theorem TK.q31(N:Nat):Ak Try.prog (T.q31 (R:=R) N):=
 Al (h:=H.q31) A5 hm Ac WF.f81 (λ d=>(Af (LK.q31_l0 N) Ab)) (λ _ _=>by kernel_rfl)
abbrev E.q32_l2_i:Enc St:=sT 1 (lC Kd Aq7) (lO (kY 0 Ov))
abbrev E.q32_l2_oe2:Enc St:=sT 1 (lC Kd Aq7) (lO (kY 0 Ov))
abbrev E.q32_l4_i:Enc St:=sT 3 (lC Kd (lU I1 rfl (lC D5 (lC C5 (lU (kY 7 (sL 1)) rfl Ae2))))) (lC (kY 0 Ov) (lC (kY 1 Ov) (lO (kY 2 Ta))))
abbrev E.q32_l4_oe4:Enc St:=sT 2 (lC Kd (lU I1 rfl (lC D5 (lR C5 (lU (kY 7 (sL 1)) rfl (lN (Nat×AV))) rfl)))) (lC (kY 0 Ov) (lO (kY 1 Ov)))
abbrev E.q32_l0_i:Enc St:=sT 1 Aq6 (lO (kY 0 Ov))
abbrev E.q32_l0_oe0:Enc St:=sR 1 Ajq rfl (lO (kY 0 Ov))
abbrev E.q32_j43:Enc St:=sT 2 (lC Kd (lU I1 rfl (lR D5 (lU (kY 5 (sL 1)) rfl (lN (Nat×AV))) rfl))) (lC (kY 0 Ov) (lO (kY 1 Xk)))
def H.q32:A4:={lp:=[(0,[0,3,4],[3]),(2,[0,3,4,6],[0,3,4,6]),(4,[0,3,4,6,7,41,42,43],[0,3,4,6,7])],jn:=[(43,[0,3,4,5],E.q32_j43)]}
theorem WF.f68:Bb Try.prog 68 Try.f68:=Aq Try.func68 (by decide) (by kernel_rfl)
def TL.q32_l2(N:Nat)(rw1:(List ty7)->((List ty2)->Option R)->Option R):Am R:={b:=2,st:=E.q32_l2_i,fn:=λ d k=>lp (F.mm N rw1) N d (λ y=>k (.exit 2) (E.q32_l2_oe2.to y))}
theorem LK.q32_l2(N:Nat)(rw1:(List ty7)->((List ty2)->Option R)->Option R)(h_spec_l1Seq:Ak Try.prog (T.q32_r rw1)):Ah Try.prog 0 Try.f68.ntmps (bodyOf Try.f68) (TL.q32_l2 (R:=R) N rw1):=
 Ai (i:=[0,3,4,6]) (o:=[0,3,4,6]) (h:=H.q32) A5 hm (Ae (TK.q26 N) Ac) WF.f68 Ab (by kernel_rfl) (λ d=>Aj rfl) N (F.mm N rw1) _ (λ _ _=>rfl) (λ _ _ _=>by kernel_rfl)
def TL.q32_l4(N:Nat)(rw1:(List ty7)->((List ty2)->Option R)->Option R):Am R:={b:=4,st:=E.q32_l4_i,fn:=λ d k=>lp (F.mq N rw1) N d (λ y=>k (.exit 4) (E.q32_l4_oe4.to y))}
theorem LK.q32_l4(N:Nat)(rw1:(List ty7)->((List ty2)->Option R)->Option R)(h_spec_l1Seq:Ak Try.prog (T.q32_r rw1)):Ah Try.prog 0 Try.f68.ntmps (bodyOf Try.f68) (TL.q32_l4 (R:=R) N rw1):=
 Ai (i:=[0,3,4,6,7,41,42,43]) (o:=[0,3,4,6,7]) (h:=H.q32) A5 hm (Ae h_spec_l1Seq Ac) WF.f68 Ab (by kernel_rfl) (λ d=>Aj rfl) N (F.mq N rw1) _ (λ _ _=>rfl) (λ _ _ _=>by kernel_rfl)
def TL.q32_l0(N:Nat)(rw1:(List ty7)->((List ty2)->Option R)->Option R):Am R:={b:=0,st:=E.q32_l0_i,fn:=λ d k=>lp (F.mr N rw1) N d (λ y=>k (.exit 0) (E.q32_l0_oe0.to y))}
theorem LK.q32_l0(N:Nat)(rw1:(List ty7)->((List ty2)->Option R)->Option R)(h_spec_l1Seq:Ak Try.prog (T.q32_r rw1)):Ah Try.prog 0 Try.f68.ntmps (bodyOf Try.f68) (TL.q32_l0 (R:=R) N rw1):=
 Ai (i:=[0,3,4]) (o:=[3]) (h:=H.q32) A5 hm (Ae (TK.q29 N) (Ae (TK.q30 N) (Ae (TK.q31 N) (Ae TK.q25 Ac)))) WF.f68 (Af (LK.q32_l2 N rw1 h_spec_l1Seq) (Af (LK.q32_l4 N rw1 h_spec_l1Seq) Ab)) (by kernel_rfl) (λ d=>Aj rfl) N (F.mr N rw1) _ (λ _ _=>rfl) (λ _ _ _=>by kernel_rfl)
def T.q32_s(N:Nat)(rw1:(List ty7)->((List ty2)->Option R)->Option R):Au R:={f:=68,arg:=E.q32_a,res:=E.q32_r,fn:=F.rg N rw1}
theorem F.zo(N:Nat)(rw1:(List ty7)->((List ty2)->Option R)->Option R)(d:E.q32_a.D)(k:AV->List (Option Blk)->List Blk->Option R):
  Hr Rc (B1 [T.q30 N]) (Bg [TL.q32_l0 N rw1]) H.q32 Try.f68 (E.q32_a.to d).1 (E.q32_a.to d).2 k=(T.q32_s N rw1).fn d λ x=>k (E.q32_r.to x).1 (E.q32_r.to x).2.1 (E.q32_r.to x).2.2:=by kernel_rfl
theorem TKn.q32(N:Nat):∀n,Ak Try.prog (T.q32_r (R:=R) (F.ou N n))
 | 0=>λ d k r h=>nomatch(show(none:Option R)=some r from h)
 | n+1=>Al (h:=H.q32) A5 hm (Ae (TK.q30 N) Ac) WF.f68 (λ d=>(Af (LK.q32_l0 N (F.ou N n) (TKn.q32 N n)) Ab)) (F.zo N (F.ou N n))
theorem TK.q32(N:Nat):Ak Try.prog (T.q32_r (R:=R) (F.ou N N)):=TKn.q32 N N
abbrev E.q33_l0_i:Enc St:=sT 2 (lC Fg (lU Dp rfl (lC Tb (lC (kY 34 (iN .i64)) (lO (kY 35 (iN .i64))))))) Vv
abbrev E.q33_l0_oe0:Enc St:=sT 2 (lC Fg (lU Dp rfl (lU (kY 3 uN) rfl (lU Kc rfl (lO Tb))))) Vv
abbrev E.q33_l0_oret:Enc St:=sT 2 (lC Fg (lU Dp rfl (lC Ca (lC D5 (lO Tb))))) Vv
abbrev E.q33_l2_i:Enc St:=sT 2 Aq8 Vv
abbrev E.q33_l2_oe2:Enc St:=sT 2 Aq8 Vv
abbrev E.q33_l4_i:Enc St:=sT 4 (lU Dp rfl (lC Tb (lU Z0 rfl (lC (kY 103 (fZ ki8)) (lC (kY 104 (iN .i64)) (lO (kY 105 (iN .i64)))))))) Ajr
abbrev E.q33_l4_oe4:Enc St:=sT 4 (lU Dp rfl (lR Tb (lU Z0 rfl (lN (Nat×AV))) rfl)) Ajr
abbrev E.q33_l6_i:Enc St:=sT 5 (lU Dp rfl (lU Z0 rfl (lU (kY 118 (sL 2)) rfl (lC (kY 119 (iN .i64)) (lO (kY 120 (iN .i64))))))) (lC (kY 0 (cE Ajh)) (lC (kY 1 (cE Aq9)) (lC (kY 2 Ta) (lC (kY 3 Kx) (lO (kY 4 Kx))))))
abbrev E.q33_l6_oe6:Enc St:=sR 4 (lU Dp rfl (lU Z0 rfl (lN (Nat×AV)))) rfl Ajr
abbrev E.q33_j259:Enc St:=sT 7 (lU Dp rfl (lU Z0 rfl (lC (kY 16 (fZ ki8)) (lU (kY 17 (pB 2 0)) rfl (lU (kY 118 (sL 3)) rfl (lC (kY 119 (iN .i64)) (lO (kY 120 (iN .i64))))))))) (lC (kY 0 (cE Aq9)) (lC (kY 1 (cE (lU (sL 5) rfl (lO (iN .i64))))) (lC (kY 2 (cE (lC bB (lR bB (lU (sL 6) rfl (lN AV)) rfl)))) (lC (kY 3 Ta) (lC (kY 4 Kx) (lC (kY 5 Kx) (lO (kY 6 Xk))))))))
abbrev E.q33_j28:Enc St:=sT 2 (lC Fg (lU Dp rfl (lC Tb (lO (kY 70 bB))))) Vv
abbrev E.q33_a:Enc (List AV×List Blk):=bQ (lO tR) (lN Blk) rfl
abbrev E.q33_r:Enc (AV×List (Option Blk)×List Blk):=bO (tP (lC (aG Aq4) Qn)) (bS (lN (Option Blk)) rfl (lO Kx))
def T.q33(N:Nat):Au R:={f:=48,arg:=E.q33_a,res:=E.q33_r,fn:=F.lx N}
def H.q33:A4:={lp:=[(0,[0,2,5,34,35],[0,2,3,4,5]),(2,[2,5,11],[2,5,11]),(4,[2,5,12,103,104,105],[2,5,12]),(6,[2,12,118,119,120],[2,12])],jn:=[(259,[2,12,16,17,118,119,120],E.q33_j259),(28,[0,2,5,70],E.q33_j28)]}
theorem WF.f48:Bb Try.prog 48 Try.f48:=Aq Try.func48 (by decide) (by kernel_rfl)
def TL.q33_l0(N:Nat):Am R:={b:=0,st:=E.q33_l0_i,fn:=λ d k=>lp (F.gu N) N d (λ y=>k (.exit 0) (E.q33_l0_oe0.to y),λ y=>k .ret (E.q33_l0_oret.to y))}
theorem LK.q33_l0(N:Nat):Ah Try.prog 0 Try.f48.ntmps (bodyOf Try.f48) (TL.q33_l0 (R:=R) N):=
 Ai (i:=[0,2,5,34,35]) (o:=[0,2,3,4,5]) (h:=H.q33) A5 hm (Ae (TK.q27 N) Ac) WF.f48 Ab (by kernel_rfl) (λ d=>Aj rfl) N (F.gu N) _ (λ _ _=>rfl) (λ _ _ _=>by kernel_rfl)
def TL.q33_l2(N:Nat):Am R:={b:=2,st:=E.q33_l2_i,fn:=λ d k=>lp (F.gv N) N d (λ y=>k (.exit 2) (E.q33_l2_oe2.to y))}
theorem LK.q33_l2(N:Nat):Ah Try.prog 0 Try.f48.ntmps (bodyOf Try.f48) (TL.q33_l2 (R:=R) N):=
 Ai (i:=[2,5,11]) (o:=[2,5,11]) (h:=H.q33) A5 hm (Ae (TK.q28 N) Ac) WF.f48 Ab (by kernel_rfl) (λ d=>Aj rfl) N (F.gv N) _ (λ _ _=>rfl) (λ _ _ _=>by kernel_rfl)
def TL.q33_l4(N:Nat):Am R:={b:=4,st:=E.q33_l4_i,fn:=λ d k=>lp (F.gw N) N d (λ y=>k (.exit 4) (E.q33_l4_oe4.to y))}
theorem LK.q33_l4(N:Nat):Ah Try.prog 0 Try.f48.ntmps (bodyOf Try.f48) (TL.q33_l4 (R:=R) N):=
 Ai (i:=[2,5,12,103,104,105]) (o:=[2,5,12]) (h:=H.q33) A5 hm Ac WF.f48 Ab (by kernel_rfl) (λ d=>Aj rfl) N (F.gw N) _ (λ _ _=>rfl) (λ _ _ _=>by kernel_rfl)
def TL.q33_l6(N:Nat):Am R:={b:=6,st:=E.q33_l6_i,fn:=λ d k=>lp (F.gx N) N d (λ y=>k (.exit 6) (E.q33_l6_oe6.to y))}
theorem LK.q33_l6(N:Nat):Ah Try.prog 0 Try.f48.ntmps (bodyOf Try.f48) (TL.q33_l6 (R:=R) N):=
 Ai (i:=[2,12,118,119,120]) (o:=[2,12]) (h:=H.q33) A5 hm (Ae (TK.q32 N) Ac) WF.f48 Ab (by kernel_rfl) (λ d=>Aj rfl) N (F.gx N) _ (λ _ _=>rfl) (λ _ _ _=>by kernel_rfl)
theorem TK.q33(N:Nat):Ak Try.prog (T.q33 (R:=R) N):=
 Al (h:=H.q33) A5 hm (Ae (TK.q24 N) (Ae TK.q25 (Ae (TK.q26 N) (Ae (TK.q29 N) (Ae (TK.q9 N) Ac))))) WF.f48 (λ d=>(Af (LK.q33_l0 N) (Af (LK.q33_l2 N) (Af (LK.q33_l4 N) (Af (LK.q33_l6 N) Ab))))) (λ _ _=>by kernel_rfl)
abbrev E.q34_a:Enc (List AV×List Blk):=bO Aj2 (lO B0)
abbrev E.q34_r:Enc (AV×List (Option Blk)×List Blk):=bO (aG Ajj) (bO (lO (sM B0)) (lO Kx))
def T.q34(N:Nat):Au R:={f:=47,arg:=E.q34_a,res:=E.q34_r,fn:=F.pu N}
def H.q34:A4:={lp:=[]}
theorem WF.f47:Bb Try.prog 47 Try.f47:=Aq Try.func47 (by decide) (by kernel_rfl)
theorem TK.q34(N:Nat):Ak Try.prog (T.q34 (R:=R) N):=
 Al (h:=H.q34) A5 hm (Ae (TK.q14 N) (Ae (TK.q33 N) Ac)) WF.f47 (λ d=>Ab) (λ _ _=>by kernel_rfl)
abbrev E.q35_l0_i:Enc St:=sT 2 (lU Cl rfl (lC Zv (lU (kY 7 (sL 1)) rfl (lC D4 (lO Ce))))) Ara
abbrev E.q35_l0_oe0:Enc St:=sR 2 (lU (kY 7 (sL 1)) rfl (lN (Nat×AV))) rfl Ara
abbrev E.q35_a:Enc (List AV×List Blk):=bO (lU (pB 0 0) rfl Qn) (lO B0)
abbrev E.q35_r:Enc (AV×List (Option Blk)×List Blk):=bO (fZ ki9) (bQ (lO (sM B0)) (lN Blk) rfl)
def T.q35(N:Nat):Au R:={f:=34,arg:=E.q35_a,res:=E.q35_r,fn:=F.ov N}
def H.q35:A4:={lp:=[(0,[0,2,7,8,9],[7])],rz:=[(6,0)]}
theorem WF.f34:Bb Try.prog 34 Try.f34:=Aq Try.func34 (by decide) (by kernel_rfl)
def TL.q35_l0(N:Nat):Am R:={b:=0,st:=E.q35_l0_i,fn:=λ d k=>lp (F.bk N) N d (λ y=>k (.exit 0) (E.q35_l0_oe0.to y))}
theorem LK.q35_l0(N:Nat):Ah Try.prog 1 Try.f34.ntmps (bodyOf Try.f34) (TL.q35_l0 (R:=R) N):=
 Ai (i:=[0,2,7,8,9]) (o:=[7]) (h:=H.q35) A5 hm (Ae TK.q1 (Ae (TK.q4 N) (Ae (TK.q9 N) (Ae (TK.q34 N) (Ae (TK.q33 N) Ac))))) WF.f34 Ab (by kernel_rfl) (λ d=>Aj rfl) N (F.bk N) _ (λ _ _=>rfl) (λ _ _ _=>by kernel_rfl)
theorem TK.q35(N:Nat):Ak Try.prog (T.q35 (R:=R) N):=
 Al (h:=H.q35) A5 hm (Ae TK.q1 Ac) WF.f34 (λ d=>(Af (LK.q35_l0 N) Ab)) (λ _ _=>by kernel_rfl)
abbrev E.q36_l0_i:Enc St:=sT 3 (lU I0 rfl (lU Fl rfl (lU Jm rfl Arb))) (lC (kY 0 Ar) Hd)
abbrev E.q36_l0_oe0:Enc St:=sR 3 (lU Ou rfl (lU (kY 3 uN) rfl (lU Kc rfl (lU I0 rfl (lU Fl rfl (lU Jm rfl (lN (Nat×AV)))))))) rfl (lC (kY 0 Ar) Hd)
abbrev E.q36_l0_oret:Enc St:=sT 3 (lU (kY 2 (sL 0)) rfl (lU (kY 3 (sL 1)) rfl (lR Kz (lU I0 rfl (lU Fl rfl (lU Jm rfl (lN (Nat×AV))))) rfl))) (lC (kY 0 Ar) Hd)
abbrev E.q36_j67:Enc St:=sT 4 (lU I0 rfl (lU Fl rfl (lU Jm rfl (lC D4 (lU S8 rfl (lC He (lC Ff Arb))))))) Aqy
abbrev E.q36_a:Enc (List AV×List Blk):=bQ (lO (fZ ki3)) (lN Blk) rfl
abbrev E.q36_r:Enc (AV×List (Option Blk)×List Blk):=bO Aqz (bS (lN (Option Blk)) rfl (lC Ar (lO Ar)))
def T.q36(N:Nat):Au R:={f:=69,arg:=E.q36_a,res:=E.q36_r,fn:=F.am N}
def H.q36:A4:={lp:=[(0,[5,6,7,15,16,17],[2,3,4,5,6,7])],jn:=[(67,[5,6,7,8,9,10,11,15,16,17],E.q36_j67)]}
def TL.q36_l0(N:Nat):Am R:={b:=0,st:=E.q36_l0_i,fn:=λ d k=>lp (F.bh N) N d (λ y=>k (.exit 0) (E.q36_l0_oe0.to y),λ y=>k .ret (E.q36_l0_oret.to y))}
theorem LK.q36_l0(N:Nat):Ah Try.prog 0 Try.f69.ntmps (bodyOf Try.f69) (TL.q36_l0 (R:=R) N):=
 Ai (i:=[5,6,7,15,16,17]) (o:=[2,3,4,5,6,7]) (h:=H.q36) A5 hm (Ae TK.q5 Ac) WF.f69 Ab (by kernel_rfl) (λ d=>Aj rfl) N (F.bh N) _ (λ _ _=>rfl) (λ _ _ _=>by kernel_rfl)
theorem TK.q36(N:Nat):Ak Try.prog (T.q36 (R:=R) N):=
 Al (h:=H.q36) A5 hm Ac WF.f69 (λ d=>(Af (LK.q36_l0 N) Ab)) (λ _ _=>by kernel_rfl)
abbrev E.q37_l0_i:Enc St:=sT 1 (lU Bk rfl (lC (kY 57 (fZ ki0)) (lC (kY 58 (iN .i64)) (lO (kY 59 (iN .i64)))))) (lO (kY 0 Vt))
abbrev E.q37_l0_oe0:Enc St:=sR 0 Aey rfl (lN (Nat×Blk))
abbrev E.q37_l0_oret:Enc St:=sQ 0 (lO Rg) (lN (Nat×Blk)) rfl
abbrev E.q37_j34:Enc St:=sT 2 (lU Bk rfl (lC Ca (lU (kY 4 (pB 1 0)) rfl (lC (kY 57 (fZ ki0)) (lC (kY 58 (iN .i64)) (lC (kY 59 (iN .i64)) (lO (kY 78 bB)))))))) (lC (kY 0 Vt) (lO (kY 1 (cE Qn))))
abbrev E.q37_j65:Enc St:=sR 1 (lU Bk rfl (lN (Nat×AV))) rfl (lO (kY 0 Vt))
abbrev E.q37_j10:Enc St:=sT 1 (lU Bk rfl (lO (kY 29 bB))) (lO (kY 0 Vt))
abbrev E.q37_j2:Enc St:=sT 1 (lU Bk rfl (lO (kY 12 bB))) (lO (kY 0 Vt))
abbrev E.q37_a:Enc (List AV×List Blk):=bQ (lO Aq0) (lN Blk) rfl
abbrev E.q37_r:Enc (AV×List (Option Blk)×List Blk):=bQ bB (bS (lN (Option Blk)) rfl (lN Blk)) rfl
def T.q37(N:Nat):Au R:={f:=70,arg:=E.q37_a,res:=E.q37_r,fn:=F.qr N}
def H.q37:A4:={lp:=[(0,[1,57,58,59],[2])],jn:=[(34,[1,3,4,57,58,59,78],E.q37_j34),(65,[1],E.q37_j65),(10,[1,29],E.q37_j10),(2,[1,12],E.q37_j2)]}
theorem WF.f70:Bb Try.prog 70 Try.f70:=Aq Try.func70 (by decide) (by kernel_rfl)
def TL.q37_l0(N:Nat):Am R:={b:=0,st:=E.q37_l0_i,fn:=λ d k=>lp (F.gy N) N d (λ y=>k (.exit 0) (E.q37_l0_oe0.to y),λ y=>k .ret (E.q37_l0_oret.to y))}
theorem LK.q37_l0(N:Nat):Ah Try.prog 0 Try.f70.ntmps (bodyOf Try.f70) (TL.q37_l0 (R:=R) N):=
 Ai (i:=[1,57,58,59]) (o:=[2]) (h:=H.q37) A5 hm Ac WF.f70 Ab (by kernel_rfl) (λ d=>Aj rfl) N (F.gy N) _ (λ _ _=>rfl) (λ _ _ _=>by kernel_rfl)
theorem TK.q37(N:Nat):Ak Try.prog (T.q37 (R:=R) N):=
 Al (h:=H.q37) A5 hm (Ae TK.q15 Ac) WF.f70 (λ d=>(Af (LK.q37_l0 N) Ab)) (λ _ _=>by kernel_rfl)
abbrev E.q38_l0_i:Enc St:=sT 3 (lC Ajs (lU I1 rfl (lU Dq rfl (lU Aev rfl Arc)))) (lC (kY 0 Ar) Hd)
abbrev E.q38_l0_oe0:Enc St:=sT 1 (lR Ajs Aew rfl) (lO (kY 0 Ar))
abbrev E.q38_j59:Enc St:=sT 3 (lC Ajs (lU I1 rfl (lU Dq rfl (lU Aev rfl (lC Cb Arc))))) (lC (kY 0 Ar) Hd)
abbrev E.q38_a:Enc (List AV×List Blk):=bQ (lO (fZ ki3)) (lN Blk) rfl
abbrev E.q38_r:Enc (AV×List (Option Blk)×List Blk):=bQ (iN .i64) (bS (lN (Option Blk)) rfl (lN Blk)) rfl
def T.q38(N:Nat):Au R:={f:=60,arg:=E.q38_a,res:=E.q38_r,fn:=F.pc N}
def H.q38:A4:={lp:=[(0,[0,3,4,6,20,21,22],[0,6])],jn:=[(59,[0,3,4,6,7,20,21,22],E.q38_j59)]}
def TL.q38_l0(N:Nat):Am R:={b:=0,st:=E.q38_l0_i,fn:=λ d k=>lp (F.au N) N d (λ y=>k (.exit 0) (E.q38_l0_oe0.to y))}
theorem LK.q38_l0(N:Nat):Ah Try.prog 0 Try.f60.ntmps (bodyOf Try.f60) (TL.q38_l0 (R:=R) N):=
 Ai (i:=[0,3,4,6,20,21,22]) (o:=[0,6]) (h:=H.q38) A5 hm (Ae TK.q7 Ac) WF.f60 Ab (by kernel_rfl) (λ d=>Aj rfl) N (F.au N) _ (λ _ _=>rfl) (λ _ _ _=>by kernel_rfl)
theorem TK.q38(N:Nat):Ak Try.prog (T.q38 (R:=R) N):=
 Al (h:=H.q38) A5 hm (Ae (TK.q36 N) Ac) WF.f60 (λ d=>(Af (LK.q38_l0 N) Ab)) (λ _ _=>by kernel_rfl)
abbrev E.q39_l0_i:Enc St:=sQ 0 (lC Ca (lC (kY 7 (fZ ki5)) (lC D4 (lO Ce)))) (lN (Nat×Blk)) rfl
abbrev E.q39_l0_oe0:Enc St:=sQ 0 (lO Ca) (lN (Nat×Blk)) rfl
abbrev E.q39_a:Enc (List AV×List Blk):=bQ (lO (aG Ajt)) (lN Blk) rfl
abbrev E.q39_r:Enc (AV×List (Option Blk)×List Blk):=bQ (iN .i64) (bS (lN (Option Blk)) rfl (lN Blk)) rfl
def T.q39(N:Nat):Au R:={f:=46,arg:=E.q39_a,res:=E.q39_r,fn:=F.aj N}
def H.q39:A4:={lp:=[(0,[3,7,8,9],[3])]}
def TL.q39_l0(N:Nat):Am R:={b:=0,st:=E.q39_l0_i,fn:=λ d k=>lp (F.an N) N d (λ y=>k (.exit 0) (E.q39_l0_oe0.to y))}
theorem LK.q39_l0(N:Nat):Ah Try.prog 0 Try.f46.ntmps (bodyOf Try.f46) (TL.q39_l0 (R:=R) N):=
 Ai (i:=[3,7,8,9]) (o:=[3]) (h:=H.q39) A5 hm (Ae (TK.q38 N) Ac) WF.f46 Ab (by kernel_rfl) (λ d=>Aj rfl) N (F.an N) _ (λ _ _=>rfl) (λ _ _ _=>by kernel_rfl)
theorem TK.q39(N:Nat):Ak Try.prog (T.q39 (R:=R) N):=
 Al (h:=H.q39) A5 hm Ac WF.f46 (λ d=>(Af (LK.q39_l0 N) Ab)) (λ _ _=>by kernel_rfl)
abbrev E.q40_l0_i:Enc St:=sT 2 (lU Bk rfl (lC Ca (lU Dq rfl (lC (kY 31 (fZ ki5)) (lC (kY 32 (iN .i64)) (lO (kY 33 (iN .i64)))))))) K4
abbrev E.q40_l0_oe0:Enc St:=sT 2 (lU Bk rfl (lR Ca Ae4 rfl)) K4
abbrev E.q40_l4_i:Enc St:=sT 2 (lU Bk rfl (lU Dq rfl (lC (kY 46 (fZ ki5)) (lC (kY 47 (iN .i64)) (lC (kY 48 (iN .i64)) (lC (kY 62 (fZ ki3)) (lC (kY 63 (iN .i64)) (lO (kY 64 (iN .i64)))))))))) K4
abbrev E.q40_l4_oe4:Enc St:=sT 2 (lU Bk rfl (lU Ou rfl (lU Dq rfl Aju))) K4
abbrev E.q40_l4_oret:Enc St:=sT 2 (lU Bk rfl (lC Rg (lU Dq rfl Aju))) K4
abbrev E.q40_l2_i:Enc St:=sT 2 (lU Bk rfl (lU Dq rfl Aju)) K4
abbrev E.q40_l2_oe2:Enc St:=sR 2 (lU Bk rfl (lU Ou rfl Ae4)) rfl K4
abbrev E.q40_l2_oret:Enc St:=sT 2 (lU Bk rfl (lR Rg Ae4 rfl)) K4
abbrev E.q40_l8_i:Enc St:=sT 2 (lU Bk rfl (lU Dq rfl (lC Ae5 (lC Vw (lU (kY 92 (sL 1)) rfl (lC (kY 93 (iN .i64)) (lO (kY 94 (iN .i64))))))))) K4
abbrev E.q40_l8_oe8:Enc St:=sT 2 (lU Bk rfl (lU Dq rfl (lC Ae5 (lO Vw)))) K4
abbrev E.q40_l6_i:Enc St:=sT 2 (lU Bk rfl (lU Dq rfl (lO Ae5))) K4
abbrev E.q40_l6_oe6:Enc St:=sR 1 (lU Bk rfl Aey) rfl (lO Ae3)
abbrev E.q40_l6_oret:Enc St:=sT 1 (lU Bk rfl (lO Rg)) (lO Ae3)
abbrev E.q40_j2:Enc St:=sT 1 (lU Bk rfl (lO (kY 28 bB))) (lO Ae3)
abbrev E.q40_a:Enc (List AV×List Blk):=bQ (lO (aG Ajt)) (lN Blk) rfl
abbrev E.q40_r:Enc (AV×List (Option Blk)×List Blk):=bQ bB (bS (lN (Option Blk)) rfl (lN Blk)) rfl
def T.q40(N:Nat):Au R:={f:=49,arg:=E.q40_a,res:=E.q40_r,fn:=F.rx N}
def H.q40:A4:={lp:=[(0,[1,3,4,31,32,33],[1,3,4]),(2,[1,4,46,47,48],[1,2,4]),(4,[1,4,46,47,48,62,63,64],[1,2,4,46,47,48]),(6,[1,4,14],[1,2]),(8,[1,4,14,15,92,93,94],[1,4,14,15])],jn:=[(2,[1,28],E.q40_j2)]}
theorem WF.f49:Bb Try.prog 49 Try.f49:=Aq Try.func49 (by decide) (by kernel_rfl)
def TL.q40_l0(N:Nat):Am R:={b:=0,st:=E.q40_l0_i,fn:=λ d k=>lp (F.ky N) N d (λ y=>k (.exit 0) (E.q40_l0_oe0.to y))}
theorem LK.q40_l0(N:Nat):Ah Try.prog 0 Try.f49.ntmps (bodyOf Try.f49) (TL.q40_l0 (R:=R) N):=
 Ai (i:=[1,3,4,31,32,33]) (o:=[1,3,4]) (h:=H.q40) A5 hm Ac WF.f49 Ab (by kernel_rfl) (λ d=>Aj rfl) N (F.ky N) _ (λ _ _=>rfl) (λ _ _ _=>by kernel_rfl)
def TL.q40_l4(N:Nat):Am R:={b:=4,st:=E.q40_l4_i,fn:=λ d k=>lp (F.kz N) N d (λ y=>k (.exit 4) (E.q40_l4_oe4.to y),λ y=>k .ret (E.q40_l4_oret.to y))}
theorem LK.q40_l4(N:Nat):Ah Try.prog 0 Try.f49.ntmps (bodyOf Try.f49) (TL.q40_l4 (R:=R) N):=
 Ai (i:=[1,4,46,47,48,62,63,64]) (o:=[1,2,4,46,47,48]) (h:=H.q40) A5 hm (Ae (TK.q37 N) Ac) WF.f49 Ab (by kernel_rfl) (λ d=>Aj rfl) N (F.kz N) _ (λ _ _=>rfl) (λ _ _ _=>by kernel_rfl)
def TL.q40_l2(N:Nat):Am R:={b:=2,st:=E.q40_l2_i,fn:=λ d k=>lp (F.la N) N d (λ y=>k (.exit 2) (E.q40_l2_oe2.to y),λ y=>k .ret (E.q40_l2_oret.to y))}
theorem LK.q40_l2(N:Nat):Ah Try.prog 0 Try.f49.ntmps (bodyOf Try.f49) (TL.q40_l2 (R:=R) N):=
 Ai (i:=[1,4,46,47,48]) (o:=[1,2,4]) (h:=H.q40) A5 hm (Ae (TK.q36 N) Ac) WF.f49 (Af (LK.q40_l4 N) Ab) (by kernel_rfl) (λ d=>Aj rfl) N (F.la N) _ (λ _ _=>rfl) (λ _ _ _=>by kernel_rfl)
def TL.q40_l8(N:Nat):Am R:={b:=8,st:=E.q40_l8_i,fn:=λ d k=>lp (F.ld N) N d (λ y=>k (.exit 8) (E.q40_l8_oe8.to y))}
theorem LK.q40_l8(N:Nat):Ah Try.prog 0 Try.f49.ntmps (bodyOf Try.f49) (TL.q40_l8 (R:=R) N):=
 Ai (i:=[1,4,14,15,92,93,94]) (o:=[1,4,14,15]) (h:=H.q40) A5 hm Ac WF.f49 Ab (by kernel_rfl) (λ d=>Aj rfl) N (F.ld N) _ (λ _ _=>rfl) (λ _ _ _=>by kernel_rfl)
def TL.q40_l6(N:Nat):Am R:={b:=6,st:=E.q40_l6_i,fn:=λ d k=>lp (F.lf N) N d (λ y=>k (.exit 6) (E.q40_l6_oe6.to y),λ y=>k .ret (E.q40_l6_oret.to y))}
theorem LK.q40_l6(N:Nat):Ah Try.prog 0 Try.f49.ntmps (bodyOf Try.f49) (TL.q40_l6 (R:=R) N):=
 Ai (i:=[1,4,14]) (o:=[1,2]) (h:=H.q40) A5 hm Ac WF.f49 (Af (LK.q40_l8 N) Ab) (by kernel_rfl) (λ d=>Aj rfl) N (F.lf N) _ (λ _ _=>rfl) (λ _ _ _=>by kernel_rfl)
theorem TK.q40(N:Nat):Ak Try.prog (T.q40 (R:=R) N):=
 Al (h:=H.q40) A5 hm (Ae TK.q15 (Ae (TK.q39 N) Ac)) WF.f49 (λ d=>(Af (LK.q40_l0 N) (Af (LK.q40_l2 N) (Af (LK.q40_l6 N) Ab)))) (λ _ _=>by kernel_rfl)
abbrev E.q41_l0_i:Enc St:=sQ 0 (lC Ca (lC (kY 9 (fZ ki9)) (lC He (lO Ff)))) (lN (Nat×Blk)) rfl
abbrev E.q41_l0_oe0:Enc St:=sQ 0 (lU Ou rfl (lO Ca)) (lN (Nat×Blk)) rfl
abbrev E.q41_l0_oret:Enc St:=sQ 0 (lC Rg (lO Ca)) (lN (Nat×Blk)) rfl
abbrev E.q41_a:Enc (List AV×List Blk):=bQ (lO (fZ ki9)) (lN Blk) rfl
abbrev E.q41_r:Enc (AV×List (Option Blk)×List Blk):=bQ bB (bS (lN (Option Blk)) rfl (lN Blk)) rfl
def T.q41(N:Nat):Au R:={f:=38,arg:=E.q41_a,res:=E.q41_r,fn:=F.qt N}
def H.q41:A4:={lp:=[(0,[3,9,10,11],[2,3])]}
theorem WF.f38:Bb Try.prog 38 Try.f38:=Aq Try.func38 (by decide) (by kernel_rfl)
def TL.q41_l0(N:Nat):Am R:={b:=0,st:=E.q41_l0_i,fn:=λ d k=>lp (F.gz N) N d (λ y=>k (.exit 0) (E.q41_l0_oe0.to y),λ y=>k .ret (E.q41_l0_oret.to y))}
theorem LK.q41_l0(N:Nat):Ah Try.prog 0 Try.f38.ntmps (bodyOf Try.f38) (TL.q41_l0 (R:=R) N):=
 Ai (i:=[3,9,10,11]) (o:=[2,3]) (h:=H.q41) A5 hm (Ae (TK.q40 N) (Ae (TK.q39 N) Ac)) WF.f38 Ab (by kernel_rfl) (λ d=>Aj rfl) N (F.gz N) _ (λ _ _=>rfl) (λ _ _ _=>by kernel_rfl)
theorem TK.q41(N:Nat):Ak Try.prog (T.q41 (R:=R) N):=
 Al (h:=H.q41) A5 hm Ac WF.f38 (λ d=>(Af (LK.q41_l0 N) Ab)) (λ _ _=>by kernel_rfl)
abbrev E.q42_a:Enc (List AV×List Blk):=bQ (lC (aG (lC bB (lC bB (lO (fZ ki3))))) (lO tR)) (lN Blk) rfl
abbrev E.q42_r:Enc (AV×List (Option Blk)×List Blk):=bO (aG (lC (fZ ki3) (lU (sL 0) rfl (lU (sL 1) rfl (lO tR))))) (bS (lN (Option Blk)) rfl (lC Ar (lO Ar)))
def T.q42(N:Nat):Au R:={f:=51,arg:=E.q42_a,res:=E.q42_r,fn:=F.tz N}
def H.q42:A4:={lp:=[]}
theorem WF.f51:Bb Try.prog 51 Try.f51:=Aq Try.func51 (by decide) (by kernel_rfl)
theorem TK.q42(N:Nat):Ak Try.prog (T.q42 (R:=R) N):=
 Al (h:=H.q42) A5 hm (Ae (TK.q36 N) Ac) WF.f51 (λ d=>Ab) (λ _ _=>by kernel_rfl)
abbrev E.q43_a:Enc (List AV×List Blk):=bO (lU (pB 0 0) rfl (lO (aG (lC (iN .u8) (lC (iN .i64) (lC (iN .i64) (lO (fZ ki0)))))))) Att
abbrev E.q43_r:Enc (AV×List (Option Blk)×List Blk):=bO (iN .i64) (bS Atu rfl (lC Xl (lO Xm)))
def T.q43:Au R:={f:=71,arg:=E.q43_a,res:=E.q43_r,fn:=F.ag}
def H.q43:A4:={lp:=[]}
theorem WF.f71:Bb Try.prog 71 Try.f71:=Aq Try.func71 (by decide) (by kernel_rfl)
theorem TK.q43:Ak Try.prog (T.q43 (R:=R)):=
 Al (h:=H.q43) A5 hm Ac WF.f71 (λ d=>Ab) (λ _ _=>by kernel_rfl)
abbrev E.q44_j81:Enc St:=sT 6 (lU Cl rfl (lC Zv (lC Ca (lU (kY 6 (pB 3 0)) rfl (lO Hg))))) Are
abbrev E.q44_j2:Enc St:=sT 6 (lU Cl rfl (lC Zv (lC Ca (lC D5 (lU (kY 6 (pB 3 0)) rfl (lO (kY 24 bB))))))) Are
def H.q44:A4:={lp:=[],jn:=[(81,[0,2,3,6,12],E.q44_j81),(2,[0,2,3,4,6,24],E.q44_j2)]}
theorem WF.f72:Bb Try.prog 72 Try.f72:=Aq Try.func72 (by decide) (by kernel_rfl)
def T.q44_s(N:Nat)(rw2:I6->(D8->Option R)->Option R)(rw3:R1->(D8->Option R)->Option R):Au R:={f:=72,arg:=E.q44_a,res:=E.q44_r,fn:=F.jf N rw2 rw3}
theorem F.vg(N:Nat)(rw2:I6->(D8->Option R)->Option R)(rw3:R1->(D8->Option R)->Option R)(d:E.q44_a.D)(k:AV->List (Option Blk)->List Blk->Option R):
  Hr Rc (B1 [T.q45_r rw2,T.q43,T.q44_r rw3]) (Bg []) H.q44 Try.f72 (E.q44_a.to d).1 (E.q44_a.to d).2 k=(T.q44_s N rw2 rw3).fn d λ x=>k (E.q44_r.to x).1 (E.q44_r.to x).2.1 (E.q44_r.to x).2.2:=by kernel_rfl
theorem TKn.q44(N:Nat)(rw2:I6->(D8->Option R)->Option R)(h_spec_l2Whole_write:Ak Try.prog (T.q45_r rw2)):∀n,Ak Try.prog (T.q44_r (R:=R) (F.ao N rw2 n))
 | 0=>λ d k r h=>nomatch(show(none:Option R)=some r from h)
 | n+1=>Al (h:=H.q44) A5 hm (Ae h_spec_l2Whole_write (Ae TK.q43 (Ae (TKn.q44 N rw2 h_spec_l2Whole_write n) Ac))) WF.f72 (λ d=>Ab) (F.vg N rw2 (F.ao N rw2 n))
theorem TK.q44(N:Nat)(rw2:I6->(D8->Option R)->Option R)(h_spec_l2Whole_write:Ak Try.prog (T.q45_r rw2)):Ak Try.prog (T.q44_r (R:=R) (F.ao N rw2 N)):=TKn.q44 N rw2 h_spec_l2Whole_write N
def H.q45:A4:={lp:=[]}
theorem WF.f50:Bb Try.prog 50 Try.f50:=Aq Try.func50 (by decide) (by kernel_rfl)
def T.q45_s(N:Nat)(rw2:I6->(D8->Option R)->Option R):Au R:={f:=50,arg:=E.q45_a,res:=E.q45_r,fn:=F.kj N rw2}
theorem F.vy(N:Nat)(rw2:I6->(D8->Option R)->Option R)(d:E.q45_a.D)(k:AV->List (Option Blk)->List Blk->Option R):
  Hr Rc (B1 [T.q43,T.q45_r rw2,T.q44_r (F.ao N rw2 N)]) (Bg []) H.q45 Try.f50 (E.q45_a.to d).1 (E.q45_a.to d).2 k=(T.q45_s N rw2).fn d λ x=>k (E.q45_r.to x).1 (E.q45_r.to x).2.1 (E.q45_r.to x).2.2:=by kernel_rfl
theorem TKn.q45(N:Nat):∀n,Ak Try.prog (T.q45_r (R:=R) (F.bm N n))
 | 0=>λ d k r h=>nomatch(show(none:Option R)=some r from h)
 | n+1=>Al (h:=H.q45) A5 hm (Ae TK.q43 (Ae (TKn.q45 N n) (Ae (TK.q44 N (F.bm N n) (TKn.q45 N n)) Ac))) WF.f50 (λ d=>Ab) (F.vy N (F.bm N n))
theorem TK.q45(N:Nat):Ak Try.prog (T.q45_r (R:=R) (F.bm N N)):=TKn.q45 N N
abbrev E.q46_l2_i:Enc St:=sT 6 (lU Dp rfl (lU K5 rfl (lC D5 (lC (kY 11 (fZ ki9)) (lC Hg (lC Z1 (lC (kY 19 (fZ ki5)) (lC Zx (lO Vu))))))))) Ae6
abbrev E.q46_l2_oe2:Enc St:=sT 6 (lU Dp rfl (lU K5 rfl (lC (kY 11 (fZ ki9)) (lC Hg (lO Z1))))) Ae6
abbrev E.q46_l0_i:Enc St:=sT 6 (lU Dp rfl (lU K5 rfl (lC (kY 11 (fZ ki9)) (lC Hg (lO Z1))))) Ae6
abbrev E.q46_l0_oe0:Enc St:=sR 6 (lU Dp rfl (lU K5 rfl (lN (Nat×AV)))) rfl Ae6
abbrev E.q46_a:Enc (List AV×List Blk):=bQ (lO (fZ ki9)) (lN Blk) rfl
abbrev E.q46_r:Enc (AV×List (Option Blk)×List Blk):=bS (aG Arg) rfl (bS (lN (Option Blk)) rfl (lC Xl (lO Xm)))
def T.q46(N:Nat):Au R:={f:=39,arg:=E.q46_a,res:=E.q46_r,fn:=F.rh N}
def H.q46:A4:={lp:=[(0,[2,3,11,12,13],[2,3]),(2,[2,3,4,11,12,13,19,20,21],[2,3,11,12,13])]}
theorem WF.f39:Bb Try.prog 39 Try.f39:=Aq Try.func39 (by decide) (by kernel_rfl)
def TL.q46_l2(N:Nat):Am R:={b:=2,st:=E.q46_l2_i,fn:=λ d k=>lp (F.jp N) N d (λ y=>k (.exit 2) (E.q46_l2_oe2.to y))}
theorem LK.q46_l2(N:Nat):Ah Try.prog 0 Try.f39.ntmps (bodyOf Try.f39) (TL.q46_l2 (R:=R) N):=
 Ai (i:=[2,3,4,11,12,13,19,20,21]) (o:=[2,3,11,12,13]) (h:=H.q46) A5 hm (Ae (TK.q42 N) (Ae (TK.q45 N) Ac)) WF.f39 Ab (by kernel_rfl) (λ d=>Aj rfl) N (F.jp N) _ (λ _ _=>rfl) (λ _ _ _=>by kernel_rfl)
def TL.q46_l0(N:Nat):Am R:={b:=0,st:=E.q46_l0_i,fn:=λ d k=>lp (F.jq N) N d (λ y=>k (.exit 0) (E.q46_l0_oe0.to y))}
theorem LK.q46_l0(N:Nat):Ah Try.prog 0 Try.f39.ntmps (bodyOf Try.f39) (TL.q46_l0 (R:=R) N):=
 Ai (i:=[2,3,11,12,13]) (o:=[2,3]) (h:=H.q46) A5 hm Ac WF.f39 (Af (LK.q46_l2 N) Ab) (by kernel_rfl) (λ d=>Aj rfl) N (F.jq N) _ (λ _ _=>rfl) (λ _ _ _=>by kernel_rfl)
theorem TK.q46(N:Nat):Ak Try.prog (T.q46 (R:=R) N):=
 Al (h:=H.q46) A5 hm Ac WF.f39 (λ d=>(Af (LK.q46_l0 N) Ab)) (λ _ _=>by kernel_rfl)
abbrev E.q47_l0_i:Enc St:=sQ 0 (lC (kY 1 (iN .u8)) (lC (kY 7 (fZ ki0)) (lC D4 (lO Ce)))) (lN (Nat×Blk)) rfl
abbrev E.q47_l0_oe0:Enc St:=sR 0 Zz rfl (lN (Nat×Blk))
abbrev E.q47_l0_oret:Enc St:=sQ 0 (lO Kz) (lN (Nat×Blk)) rfl
abbrev E.q47_a:Enc (List AV×List Blk):=bQ (lC (fZ ki0) (lO (iN .u8))) (lN Blk) rfl
abbrev E.q47_r:Enc (AV×List (Option Blk)×List Blk):=bQ bB (bS (lN (Option Blk)) rfl (lN Blk)) rfl
def T.q47(N:Nat):Au R:={f:=52,arg:=E.q47_a,res:=E.q47_r,fn:=F.qf N}
def H.q47:A4:={lp:=[(0,[1,7,8,9],[4])]}
theorem WF.f52:Bb Try.prog 52 Try.f52:=Aq Try.func52 (by decide) (by kernel_rfl)
def TL.q47_l0(N:Nat):Am R:={b:=0,st:=E.q47_l0_i,fn:=λ d k=>lp (F.mw N) N d (λ y=>k (.exit 0) (E.q47_l0_oe0.to y),λ y=>k .ret (E.q47_l0_oret.to y))}
theorem LK.q47_l0(N:Nat):Ah Try.prog 0 Try.f52.ntmps (bodyOf Try.f52) (TL.q47_l0 (R:=R) N):=
 Ai (i:=[1,7,8,9]) (o:=[4]) (h:=H.q47) A5 hm (Ae TK.q15 Ac) WF.f52 Ab (by kernel_rfl) (λ d=>Aj rfl) N (F.mw N) _ (λ _ _=>rfl) (λ _ _ _=>by kernel_rfl)
theorem TK.q47(N:Nat):Ak Try.prog (T.q47 (R:=R) N):=
 Al (h:=H.q47) A5 hm Ac WF.f52 (λ d=>(Af (LK.q47_l0 N) Ab)) (λ _ _=>by kernel_rfl)
abbrev E.q48_l4_i:Enc St:=sT 3 (lU Bk rfl (lU Dq rfl (lU Ow rfl (lC C5 (lC Cb (lC D4 (lC Ce (lC (kY 10 bB) (lU (kY 19 (sL 2)) rfl (lC Zx (lC Vu (lC (kY 27 (rO 0 Aat)) (lC (kY 28 (iN .i64)) (lO (kY 29 (iN .i64)))))))))))))))) (lC Tc Hd)
abbrev E.q48_l4_oe4:Enc St:=sT 3 (lU Bk rfl (lU Dq rfl (lU Ow rfl (lC C5 (lC Cb (lC D4 (lC (kY 10 bB) Arh))))))) (lC Tc Hd)
abbrev E.q48_l2_i:Enc St:=sT 3 (lU Bk rfl (lU Dq rfl (lU Ow rfl (lC C5 (lC Cb Arh))))) (lC Tc Hd)
abbrev E.q48_l2_oe2:Enc St:=sT 3 (lU Bk rfl (lU Dq rfl (lU Ow rfl (lC C5 (lO Cb))))) (lC Tc Hd)
abbrev E.q48_l0_i:Enc St:=sT 3 (lU Bk rfl (lU Dq rfl (lU Ow rfl (lO C5)))) (lC Tc Hd)
abbrev E.q48_l0_oe0:Enc St:=sR 2 (lU Zw rfl (lU (kY 5 (sL 1)) rfl (lN (Nat×AV)))) rfl (lC (kY 0 Ar) (lO (kY 1 Ar)))
abbrev E.q48_a:Enc (List AV×List Blk):=bQ (lO (aG Ac2)) (lN Blk) rfl
abbrev E.q48_r:Enc (AV×List (Option Blk)×List Blk):=bS (tP Arg) rfl (bS (lN (Option Blk)) rfl (lC Ar (lO Ar)))
def T.q48(N:Nat):Au R:={f:=40,arg:=E.q48_a,res:=E.q48_r,fn:=F.ri N}
def H.q48:A4:={lp:=[(0,[1,4,5,6],[4,5]),(2,[1,4,5,6,7,19,20,21],[1,4,5,6,7]),(4,[1,4,5,6,7,8,9,10,19,20,21,27,28,29],[1,4,5,6,7,8,10,19,20,21])]}
theorem WF.f40:Bb Try.prog 40 Try.f40:=Aq Try.func40 (by decide) (by kernel_rfl)
def TL.q48_l4(N:Nat):Am R:={b:=4,st:=E.q48_l4_i,fn:=λ d k=>lp (F.jr N) N d (λ y=>k (.exit 4) (E.q48_l4_oe4.to y))}
theorem LK.q48_l4(N:Nat):Ah Try.prog 0 Try.f40.ntmps (bodyOf Try.f40) (TL.q48_l4 (R:=R) N):=
 Ai (i:=[1,4,5,6,7,8,9,10,19,20,21,27,28,29]) (o:=[1,4,5,6,7,8,10,19,20,21]) (h:=H.q48) A5 hm (Ae (TK.q47 N) Ac) WF.f40 Ab (by kernel_rfl) (λ d=>Aj rfl) N (F.jr N) _ (λ _ _=>rfl) (λ _ _ _=>by kernel_rfl)
def TL.q48_l2(N:Nat):Am R:={b:=2,st:=E.q48_l2_i,fn:=λ d k=>lp (F.js N) N d (λ y=>k (.exit 2) (E.q48_l2_oe2.to y))}
theorem LK.q48_l2(N:Nat):Ah Try.prog 0 Try.f40.ntmps (bodyOf Try.f40) (TL.q48_l2 (R:=R) N):=
 Ai (i:=[1,4,5,6,7,19,20,21]) (o:=[1,4,5,6,7]) (h:=H.q48) A5 hm Ac WF.f40 (Af (LK.q48_l4 N) Ab) (by kernel_rfl) (λ d=>Aj rfl) N (F.js N) _ (λ _ _=>rfl) (λ _ _ _=>by kernel_rfl)
def TL.q48_l0(N:Nat):Am R:={b:=0,st:=E.q48_l0_i,fn:=λ d k=>lp (F.jt N) N d (λ y=>k (.exit 0) (E.q48_l0_oe0.to y))}
theorem LK.q48_l0(N:Nat):Ah Try.prog 0 Try.f40.ntmps (bodyOf Try.f40) (TL.q48_l0 (R:=R) N):=
 Ai (i:=[1,4,5,6]) (o:=[4,5]) (h:=H.q48) A5 hm Ac WF.f40 (Af (LK.q48_l2 N) Ab) (by kernel_rfl) (λ d=>Aj rfl) N (F.jt N) _ (λ _ _=>rfl) (λ _ _ _=>by kernel_rfl)
theorem TK.q48(N:Nat):Ak Try.prog (T.q48 (R:=R) N):=
 Al (h:=H.q48) A5 hm Ac WF.f40 (λ d=>(Af (LK.q48_l0 N) Ab)) (λ _ _=>by kernel_rfl)
def H.q49:A4:={lp:=[]}
theorem WF.f54:Bb Try.prog 54 Try.f54:=Aq Try.func54 (by decide) (by kernel_rfl)
def T.q49_s(N:Nat)(rw4:Wy->(Bool->Option R)->Option R):Au R:={f:=54,arg:=E.q49_a,res:=E.q49_r,fn:=F.qg N rw4}
theorem F.yz(N:Nat)(rw4:Wy->(Bool->Option R)->Option R)(d:E.q49_a.D)(k:AV->List (Option Blk)->List Blk->Option R):
  Hr Rc (B1 [T.q49_r rw4]) (Bg []) H.q49 Try.f54 (E.q49_a.to d).1 (E.q49_a.to d).2 k=(T.q49_s N rw4).fn d λ x=>k (E.q49_r.to x).1 (E.q49_r.to x).2.1 (E.q49_r.to x).2.2:=by kernel_rfl
theorem TKn.q49(N:Nat):∀n,Ak Try.prog (T.q49_r (R:=R) (F.ak N n))
 | 0=>λ d k r h=>nomatch(show(none:Option R)=some r from h)
 | n+1=>Al (h:=H.q49) A5 hm (Ae (TKn.q49 N n) Ac) WF.f54 (λ d=>Ab) (F.yz N (F.ak N n))
theorem TK.q49(N:Nat):Ak Try.prog (T.q49_r (R:=R) (F.ak N N)):=TKn.q49 N N
def H.q50:A4:={lp:=[]}
theorem WF.f53:Bb Try.prog 53 Try.f53:=Aq Try.func53 (by decide) (by kernel_rfl)
def T.q50_s(N:Nat)(rw5:Wz->(Bool->Option R)->Option R):Au R:={f:=53,arg:=E.q50_a,res:=E.q50_r,fn:=F.qh N rw5}
theorem F.zc(N:Nat)(rw5:Wz->(Bool->Option R)->Option R)(d:E.q50_a.D)(k:AV->List (Option Blk)->List Blk->Option R):
  Hr Rc (B1 [T.q50_r rw5,T.q49_r (F.ak N N)]) (Bg []) H.q50 Try.f53 (E.q50_a.to d).1 (E.q50_a.to d).2 k=(T.q50_s N rw5).fn d λ x=>k (E.q50_r.to x).1 (E.q50_r.to x).2.1 (E.q50_r.to x).2.2:=by kernel_rfl
theorem TKn.q50(N:Nat):∀n,Ak Try.prog (T.q50_r (R:=R) (F.ay N n))
 | 0=>λ d k r h=>nomatch(show(none:Option R)=some r from h)
 | n+1=>Al (h:=H.q50) A5 hm (Ae (TKn.q50 N n) (Ae (TK.q49 N) Ac)) WF.f53 (λ d=>Ab) (F.zc N (F.ay N n))
theorem TK.q50(N:Nat):Ak Try.prog (T.q50_r (R:=R) (F.ay N N)):=TKn.q50 N N
abbrev E.q51_l0_i:Enc St:=sT 1 (lC (kY 1 bB) (lC (kY 2 (fZ .bool)) (lC (kY 3 bB) (lU Ox rfl (lC Ce (lC (kY 14 (rO 0 Xx)) (lC Vw (lO Re)))))))) (lO Tc)
abbrev E.q51_l0_oe0:Enc St:=sQ 0 (lO Ce) (lN (Nat×Blk)) rfl
abbrev E.q51_a:Enc (List AV×List Blk):=bQ (lC (aG Ac2) (lC bB (lC (fZ .bool) (lO bB)))) (lN Blk) rfl
abbrev E.q51_r:Enc (AV×List (Option Blk)×List Blk):=bQ (iN .i64) (bS (lN (Option Blk)) rfl (lN Blk)) rfl
def T.q51(N:Nat):Au R:={f:=41,arg:=E.q51_a,res:=E.q51_r,fn:=F.pd N}
def H.q51:A4:={lp:=[(0,[1,2,3,4,9,14,15,16],[9])]}
theorem WF.f41:Bb Try.prog 41 Try.f41:=Aq Try.func41 (by decide) (by kernel_rfl)
def TL.q51_l0(N:Nat):Am R:={b:=0,st:=E.q51_l0_i,fn:=λ d k=>lp (F.ic N) N d (λ y=>k (.exit 0) (E.q51_l0_oe0.to y))}
theorem LK.q51_l0(N:Nat):Ah Try.prog 0 Try.f41.ntmps (bodyOf Try.f41) (TL.q51_l0 (R:=R) N):=
 Ai (i:=[1,2,3,4,9,14,15,16]) (o:=[9]) (h:=H.q51) A5 hm (Ae (TK.q50 N) (Ae (TK.q49 N) Ac)) WF.f41 Ab (by kernel_rfl) (λ d=>Aj rfl) N (F.ic N) _ (λ _ _=>rfl) (λ _ _ _=>by kernel_rfl)
theorem TK.q51(N:Nat):Ak Try.prog (T.q51 (R:=R) N):=
 Al (h:=H.q51) A5 hm Ac WF.f41 (λ d=>(Af (LK.q51_l0 N) Ab)) (λ _ _=>by kernel_rfl)
def H.q52:A4:={lp:=[]}
theorem WF.f55:Bb Try.prog 55 Try.f55:=Aq Try.func55 (by decide) (by kernel_rfl)
def T.q52_s(N:Nat)(rw6:W0->((List Bool)->Option R)->Option R):Au R:={f:=55,arg:=E.q52_a,res:=E.q52_r,fn:=F.qi N rw6}
theorem F.zd(N:Nat)(rw6:W0->((List Bool)->Option R)->Option R)(d:E.q52_a.D)(k:AV->List (Option Blk)->List Blk->Option R):
  Hr Rc (B1 [T.q47 N,T.q52_r rw6,T.q49_r (F.ak N N),T.q50_r (F.ay N N)]) (Bg []) H.q52 Try.f55 (E.q52_a.to d).1 (E.q52_a.to d).2 k=(T.q52_s N rw6).fn d λ x=>k (E.q52_r.to x).1 (E.q52_r.to x).2.1 (E.q52_r.to x).2.2:=by kernel_rfl
theorem TKn.q52(N:Nat):∀n,Ak Try.prog (T.q52_r (R:=R) (F.lg N n))
 | 0=>λ d k r h=>nomatch(show(none:Option R)=some r from h)
 | n+1=>Al (h:=H.q52) A5 hm (Ae (TK.q47 N) (Ae (TKn.q52 N n) (Ae (TK.q49 N) (Ae (TK.q50 N) Ac)))) WF.f55 (λ d=>Ab) (F.zd N (F.lg N n))
theorem TK.q52(N:Nat):Ak Try.prog (T.q52_r (R:=R) (F.lg N N)):=TKn.q52 N N
abbrev E.q53_l0_i:Enc St:=sT 2 (lC (kY 1 bB) (lC (kY 2 (fZ .bool)) (lC (kY 3 (iN .u8)) (lU Ox rfl (lU (kY 9 (sL 1)) rfl (lC (kY 16 (rO 0 Xx)) (lC Ky (lO S9)))))))) (lC Tc (lO (kY 1 Ch)))
abbrev E.q53_l0_oe0:Enc St:=sR 1 (lU (kY 9 (sL 0)) rfl (lN (Nat×AV))) rfl (lO (kY 0 Ch))
abbrev E.q53_a:Enc (List AV×List Blk):=bQ (lC (aG Ac2) (lC bB (lC (fZ .bool) (lO (iN .u8))))) (lN Blk) rfl
abbrev E.q53_r:Enc (AV×List (Option Blk)×List Blk):=bS (sL 0) rfl (bS (lN (Option Blk)) rfl (lO Ch))
def T.q53(N:Nat):Au R:={f:=42,arg:=E.q53_a,res:=E.q53_r,fn:=F.rj N}
def H.q53:A4:={lp:=[(0,[1,2,3,4,9,16,17,18],[9])]}
theorem WF.f42:Bb Try.prog 42 Try.f42:=Aq Try.func42 (by decide) (by kernel_rfl)
def TL.q53_l0(N:Nat):Am R:={b:=0,st:=E.q53_l0_i,fn:=λ d k=>lp (F.ju N) N d (λ y=>k (.exit 0) (E.q53_l0_oe0.to y))}
theorem LK.q53_l0(N:Nat):Ah Try.prog 0 Try.f42.ntmps (bodyOf Try.f42) (TL.q53_l0 (R:=R) N):=
 Ai (i:=[1,2,3,4,9,16,17,18]) (o:=[9]) (h:=H.q53) A5 hm (Ae (TK.q52 N) Ac) WF.f42 Ab (by kernel_rfl) (λ d=>Aj rfl) N (F.ju N) _ (λ _ _=>rfl) (λ _ _ _=>by kernel_rfl)
theorem TK.q53(N:Nat):Ak Try.prog (T.q53 (R:=R) N):=
 Al (h:=H.q53) A5 hm Ac WF.f42 (λ d=>(Af (LK.q53_l0 N) Ab)) (λ _ _=>by kernel_rfl)
abbrev E.q54_l0_i:Enc St:=sQ 0 (lC Ajp (lC (kY 1 (rO 0 .bool)) (lC Cb (lO D4)))) (lN (Nat×Blk)) rfl
abbrev E.q54_l0_oe0:Enc St:=sR 0 Zz rfl (lN (Nat×Blk))
abbrev E.q54_l0_oret:Enc St:=sQ 0 (lO Kz) (lN (Nat×Blk)) rfl
abbrev E.q54_a:Enc (List AV×List Blk):=bQ (lC (fZ .bool) (lO (rO 0 .bool))) (lN Blk) rfl
abbrev E.q54_r:Enc (AV×List (Option Blk)×List Blk):=bQ bB (bS (lN (Option Blk)) rfl (lN Blk)) rfl
def T.q54(N:Nat):Au R:={f:=43,arg:=E.q54_a,res:=E.q54_r,fn:=F.ry N}
def H.q54:A4:={lp:=[(0,[0,1,7,8],[4])]}
theorem WF.f43:Bb Try.prog 43 Try.f43:=Aq Try.func43 (by decide) (by kernel_rfl)
def TL.q54_l0(N:Nat):Am R:={b:=0,st:=E.q54_l0_i,fn:=λ d k=>lp (F.lh N) N d (λ y=>k (.exit 0) (E.q54_l0_oe0.to y),λ y=>k .ret (E.q54_l0_oret.to y))}
theorem LK.q54_l0(N:Nat):Ah Try.prog 0 Try.f43.ntmps (bodyOf Try.f43) (TL.q54_l0 (R:=R) N):=
 Ai (i:=[0,1,7,8]) (o:=[4]) (h:=H.q54) A5 hm Ac WF.f43 Ab (by kernel_rfl) (λ d=>Aj rfl) N (F.lh N) _ (λ _ _=>rfl) (λ _ _ _=>by kernel_rfl)
theorem TK.q54(N:Nat):Ak Try.prog (T.q54 (R:=R) N):=
 Al (h:=H.q54) A5 hm Ac WF.f43 (λ d=>(Af (LK.q54_l0 N) Ab)) (λ _ _=>by kernel_rfl)
abbrev E.q55_l0_i:Enc St:=sQ 0 (lC F6 (lC Zv (lC (kY 9 Ec) (lC He (lO Ff))))) (lN (Nat×Blk)) rfl
abbrev E.q55_l0_oe0:Enc St:=sR 0 (lU (kY 6 uN) rfl (lN (Nat×AV))) rfl (lN (Nat×Blk))
abbrev E.q55_l0_oret:Enc St:=sQ 0 (lO (kY 6 bB)) (lN (Nat×Blk)) rfl
abbrev E.q55_a:Enc (List AV×List Blk):=bQ (lC Ec Qn) (lN Blk) rfl
abbrev E.q55_r:Enc (AV×List (Option Blk)×List Blk):=bQ bB (bS (lN (Option Blk)) rfl (lN Blk)) rfl
def T.q55(N:Nat):Au R:={f:=16,arg:=E.q55_a,res:=E.q55_r,fn:=F.ox N}
def H.q55:A4:={lp:=[(0,[1,2,9,10,11],[6])]}
theorem WF.f16:Bb Try.prog 16 Try.f16:=Aq Try.func16 (by decide) (by kernel_rfl)
def TL.q55_l0(N:Nat):Am R:={b:=0,st:=E.q55_l0_i,fn:=λ d k=>lp (F.my N) N d (λ y=>k (.exit 0) (E.q55_l0_oe0.to y),λ y=>k .ret (E.q55_l0_oret.to y))}
theorem LK.q55_l0(N:Nat):Ah Try.prog 0 Try.f16.ntmps (bodyOf Try.f16) (TL.q55_l0 (R:=R) N):=
 Ai (i:=[1,2,9,10,11]) (o:=[6]) (h:=H.q55) hC hm (Ae TK.q15 Ac) WF.f16 Ab (by kernel_rfl) (λ d=>Aj rfl) N (F.my N) _ (λ _ _=>rfl) (λ _ _ _=>by kernel_rfl)
theorem TK.q55(N:Nat):Ak Try.prog (T.q55 (R:=R) N):=
 Al (h:=H.q55) hC hm Ac WF.f16 (λ d=>(Af (LK.q55_l0 N) Ab)) (λ _ _=>by kernel_rfl)
abbrev E.q56_j8:Enc St:=sT 1 (lU Bk rfl (lC Ca (lO (kY 36 bB)))) (lO D6)
abbrev E.q56_j4:Enc St:=sT 1 (lU Bk rfl (lC Ca (lO (kY 21 bB)))) (lO D6)
abbrev E.q56_a:Enc (List AV×List Blk):=bQ (lO (aG K6)) (lN Blk) rfl
abbrev E.q56_r:Enc (AV×List (Option Blk)×List Blk):=bQ bB (bS (lN (Option Blk)) rfl (lN Blk)) rfl
def T.q56(N:Nat):Au R:={f:=6,arg:=E.q56_a,res:=E.q56_r,fn:=F.mz N}
def H.q56:A4:={lp:=[],jn:=[(8,[1,3,36],E.q56_j8),(4,[1,3,21],E.q56_j4)]}
theorem WF.f6:Bb Try.prog 6 Try.f6:=Aq Try.func6 (by decide) (by kernel_rfl)
theorem TK.q56(N:Nat):Ak Try.prog (T.q56 (R:=R) N):=
 Al (h:=H.q56) hC hm (Ae TK.q15 (Ae (TK.q55 N) Ac)) WF.f6 (λ d=>Ab) (λ _ _=>by kernel_rfl)
abbrev E.q57_l0_i:Enc St:=sQ 0 (lC F6 (lC (kY 7 Ec) (lC D4 (lO Ce)))) (lN (Nat×Blk)) rfl
abbrev E.q57_l0_oe0:Enc St:=sR 0 Zz rfl (lN (Nat×Blk))
abbrev E.q57_l0_oret:Enc St:=sQ 0 (lO D5) (lN (Nat×Blk)) rfl
abbrev E.q57_a:Enc (List AV×List Blk):=bQ (lC Ec (lO (iN .i64))) (lN Blk) rfl
abbrev E.q57_r:Enc (AV×List (Option Blk)×List Blk):=bQ (iN .i64) (bS (lN (Option Blk)) rfl (lN Blk)) rfl
def T.q57(N:Nat):Au R:={f:=59,arg:=E.q57_a,res:=E.q57_r,fn:=F.ce N}
def H.q57:A4:={lp:=[(0,[1,7,8,9],[4])]}
theorem WF.f59:Bb Try.prog 59 Try.f59:=Aq Try.func59 (by decide) (by kernel_rfl)
def TL.q57_l0(N:Nat):Am R:={b:=0,st:=E.q57_l0_i,fn:=λ d k=>lp (F.jv N) N d (λ y=>k (.exit 0) (E.q57_l0_oe0.to y),λ y=>k .ret (E.q57_l0_oret.to y))}
theorem LK.q57_l0(N:Nat):Ah Try.prog 0 Try.f59.ntmps (bodyOf Try.f59) (TL.q57_l0 (R:=R) N):=
 Ai (i:=[1,7,8,9]) (o:=[4]) (h:=H.q57) hC hm Ac WF.f59 Ab (by kernel_rfl) (λ d=>Aj rfl) N (F.jv N) _ (λ _ _=>rfl) (λ _ _ _=>by kernel_rfl)
theorem TK.q57(N:Nat):Ak Try.prog (T.q57 (R:=R) N):=
 Al (h:=H.q57) hC hm Ac WF.f59 (λ d=>(Af (LK.q57_l0 N) Ab)) (λ _ _=>by kernel_rfl)
abbrev E.q58_l2_i:Enc St:=sT 2 (lU Bk rfl (lU (kY 3 (sL 1)) rfl (lC D5 (lO B9)))) Z3
abbrev E.q58_l2_oe2:Enc St:=sT 2 Ari Z3
abbrev E.q58_l0_i:Enc St:=sT 2 Ari Z3
abbrev E.q58_l0_oe0:Enc St:=sR 1 Ajq rfl (lO (kY 0 Ar))
abbrev E.q58_a:Enc (List AV×List Blk):=bQ (lO (aG K6)) (lN Blk) rfl
abbrev E.q58_r:Enc (AV×List (Option Blk)×List Blk):=bS (sL 0) rfl (bS (lN (Option Blk)) rfl (lO Ar))
def T.q58(N:Nat):Au R:={f:=56,arg:=E.q58_a,res:=E.q58_r,fn:=F.qj N}
def H.q58:A4:={lp:=[(0,[1,3,4],[3]),(2,[1,3,4,5],[1,3,4])]}
theorem WF.f56:Bb Try.prog 56 Try.f56:=Aq Try.func56 (by decide) (by kernel_rfl)
def TL.q58_l2(N:Nat):Am R:={b:=2,st:=E.q58_l2_i,fn:=λ d k=>lp (F.dq N) N d (λ y=>k (.exit 2) (E.q58_l2_oe2.to y))}
theorem LK.q58_l2(N:Nat):Ah Try.prog 0 Try.f56.ntmps (bodyOf Try.f56) (TL.q58_l2 (R:=R) N):=
 Ai (i:=[1,3,4,5]) (o:=[1,3,4]) (h:=H.q58) hC hm (Ae (TK.q57 N) Ac) WF.f56 Ab (by kernel_rfl) (λ d=>Aj rfl) N (F.dq N) _ (λ _ _=>rfl) (λ _ _ _=>by kernel_rfl)
def TL.q58_l0(N:Nat):Am R:={b:=0,st:=E.q58_l0_i,fn:=λ d k=>lp (F.dt N) N d (λ y=>k (.exit 0) (E.q58_l0_oe0.to y))}
theorem LK.q58_l0(N:Nat):Ah Try.prog 0 Try.f56.ntmps (bodyOf Try.f56) (TL.q58_l0 (R:=R) N):=
 Ai (i:=[1,3,4]) (o:=[3]) (h:=H.q58) hC hm Ac WF.f56 (Af (LK.q58_l2 N) Ab) (by kernel_rfl) (λ d=>Aj rfl) N (F.dt N) _ (λ _ _=>rfl) (λ _ _ _=>by kernel_rfl)
theorem TK.q58(N:Nat):Ak Try.prog (T.q58 (R:=R) N):=
 Al (h:=H.q58) hC hm Ac WF.f56 (λ d=>(Af (LK.q58_l0 N) Ab)) (λ _ _=>by kernel_rfl)
abbrev E.q59_l0_i:Enc St:=sT 2 (lC (kY 1 Ec) (lU Dp rfl (lC B9 (lU Fl rfl (lC (kY 28 Ec) (lC (kY 29 (iN .i64)) (lO (kY 30 (iN .i64))))))))) Z3
abbrev E.q59_l0_oe0:Enc St:=sT 2 (lC (kY 1 Ec) (lU Dp rfl (lR B9 (lU Fl rfl (lN (Nat×AV))) rfl))) Z3
abbrev E.q59_l2_i:Enc St:=sT 3 (lC (kY 1 Ec) (lU Dp rfl (lC B9 (lU Fl rfl (lU Gu rfl (lO He)))))) (lC D6 Hd)
abbrev E.q59_l2_oe2:Enc St:=sT 3 (lC (kY 1 Ec) (lU Dp rfl (lR B9 (lU Fl rfl (lU Gu rfl (lN (Nat×AV)))) rfl))) (lC D6 Hd)
abbrev E.q59_l6_i:Enc St:=sT 5 (lC (kY 1 Ec) (lU Dp rfl (lC B9 (lU Fl rfl (lU Gu rfl (lU Oy rfl (lC Hg (lU (kY 13 (sL 4)) rfl (lO Ae5))))))))) (lC D6 Arj)
abbrev E.q59_l6_oe6:Enc St:=sT 5 (lC (kY 1 Ec) (lU Dp rfl (lC B9 (lU Fl rfl (lU Gu rfl (lU Oy rfl (lR Hg (lU (kY 13 (sL 4)) rfl (lN (Nat×AV))) rfl))))))) (lC D6 Arj)
abbrev E.q59_l4_i:Enc St:=sT 4 (lC (kY 1 Ec) (lU Dp rfl (lC B9 (lU Fl rfl (lU Gu rfl (lU Oy rfl (lO Hg))))))) Oz
abbrev E.q59_l4_oe4:Enc St:=sT 4 (lC (kY 1 Ec) (lU Dp rfl (lR B9 (lU Fl rfl (lU Gu rfl (lU Oy rfl (lN (Nat×AV))))) rfl))) Oz
abbrev E.q59_l14_i:Enc St:=sT 4 (lC (kY 1 Ec) (lU Dp rfl (lC B9 (lU Fl rfl (lU Gu rfl (lU Oy rfl (lC Z5 (lC Re (lC Ky (lU (kY 130 (sL 2)) rfl (lC (kY 131 (iN .i64)) (lO (kY 132 (iN .i64)))))))))))))) Oz
abbrev E.q59_l14_oe14:Enc St:=sT 4 Ark Oz
abbrev E.q59_l12_i:Enc St:=sT 4 Ark Oz
abbrev E.q59_l12_oe12:Enc St:=sT 4 (lC (kY 1 Ec) (lU Dp rfl (lC B9 (lU Fl rfl (lU Gu rfl (lU Oy rfl (lC Z5 (lO Re)))))))) Oz
abbrev E.q59_l10_i:Enc St:=sT 4 (lC (kY 1 Ec) (lU Dp rfl (lC B9 (lU Fl rfl (lU Gu rfl (lU Oy rfl (lC Z5 (lO Re)))))))) Oz
abbrev E.q59_l10_oe10:Enc St:=sT 4 Arl Oz
abbrev E.q59_l8_i:Enc St:=sT 4 Arl Oz
abbrev E.q59_l8_oe8:Enc St:=sR 1 (lU (kY 11 (sL 0)) rfl (lN (Nat×AV))) rfl (lO (kY 0 Z4))
abbrev E.q59_a:Enc (List AV×List Blk):=bQ (lC (aG K6) (lO Ec)) (lN Blk) rfl
abbrev E.q59_r:Enc (AV×List (Option Blk)×List Blk):=bS (sL 0) rfl (bS (lN (Option Blk)) rfl (lO Z4))
def T.q59(N:Nat):Au R:={f:=57,arg:=E.q59_a,res:=E.q59_r,fn:=F.rk N}
def H.q59:A4:={lp:=[(0,[1,2,5,6,28,29,30],[1,2,5,6]),(2,[1,2,5,6,9,10],[1,2,5,6,9]),(4,[1,2,5,6,9,11,12],[1,2,5,6,9,11]),(6,[1,2,5,6,9,11,12,13,14],[1,2,5,6,9,11,12,13]),(8,[1,2,5,6,9,11,15],[11]),(10,[1,2,5,6,9,11,15,16],[1,2,5,6,9,11,15]),(12,[1,2,5,6,9,11,15,16,17],[1,2,5,6,9,11,15,16]),(14,[1,2,5,6,9,11,15,16,17,130,131,132],[1,2,5,6,9,11,15,16,17])]}
theorem WF.f57:Bb Try.prog 57 Try.f57:=Aq Try.func57 (by decide) (by kernel_rfl)
def TL.q59_l0(N:Nat):Am R:={b:=0,st:=E.q59_l0_i,fn:=λ d k=>lp (F.jx N) N d (λ y=>k (.exit 0) (E.q59_l0_oe0.to y))}
theorem LK.q59_l0(N:Nat):Ah Try.prog 0 Try.f57.ntmps (bodyOf Try.f57) (TL.q59_l0 (R:=R) N):=
 Ai (i:=[1,2,5,6,28,29,30]) (o:=[1,2,5,6]) (h:=H.q59) hC hm Ac WF.f57 Ab (by kernel_rfl) (λ d=>Aj rfl) N (F.jx N) _ (λ _ _=>rfl) (λ _ _ _=>by kernel_rfl)
def TL.q59_l2(N:Nat):Am R:={b:=2,st:=E.q59_l2_i,fn:=λ d k=>lp (F.jy N) N d (λ y=>k (.exit 2) (E.q59_l2_oe2.to y))}
theorem LK.q59_l2(N:Nat):Ah Try.prog 0 Try.f57.ntmps (bodyOf Try.f57) (TL.q59_l2 (R:=R) N):=
 Ai (i:=[1,2,5,6,9,10]) (o:=[1,2,5,6,9]) (h:=H.q59) hC hm (Ae (TK.q57 N) Ac) WF.f57 Ab (by kernel_rfl) (λ d=>Aj rfl) N (F.jy N) _ (λ _ _=>rfl) (λ _ _ _=>by kernel_rfl)
def TL.q59_l6(N:Nat):Am R:={b:=6,st:=E.q59_l6_i,fn:=λ d k=>lp (F.jz N) N d (λ y=>k (.exit 6) (E.q59_l6_oe6.to y))}
theorem LK.q59_l6(N:Nat):Ah Try.prog 0 Try.f57.ntmps (bodyOf Try.f57) (TL.q59_l6 (R:=R) N):=
 Ai (i:=[1,2,5,6,9,11,12,13,14]) (o:=[1,2,5,6,9,11,12,13]) (h:=H.q59) hC hm Ac WF.f57 Ab (by kernel_rfl) (λ d=>Aj rfl) N (F.jz N) _ (λ _ _=>rfl) (λ _ _ _=>by kernel_rfl)
def TL.q59_l4(N:Nat):Am R:={b:=4,st:=E.q59_l4_i,fn:=λ d k=>lp (F.ka N) N d (λ y=>k (.exit 4) (E.q59_l4_oe4.to y))}
theorem LK.q59_l4(N:Nat):Ah Try.prog 0 Try.f57.ntmps (bodyOf Try.f57) (TL.q59_l4 (R:=R) N):=
 Ai (i:=[1,2,5,6,9,11,12]) (o:=[1,2,5,6,9,11]) (h:=H.q59) hC hm Ac WF.f57 (Af (LK.q59_l6 N) Ab) (by kernel_rfl) (λ d=>Aj rfl) N (F.ka N) _ (λ _ _=>rfl) (λ _ _ _=>by kernel_rfl)
def TL.q59_l14(N:Nat):Am R:={b:=14,st:=E.q59_l14_i,fn:=λ d k=>lp (F.ig N) N d (λ y=>k (.exit 14) (E.q59_l14_oe14.to y))}
theorem LK.q59_l14(N:Nat):Ah Try.prog 0 Try.f57.ntmps (bodyOf Try.f57) (TL.q59_l14 (R:=R) N):=
 Ai (i:=[1,2,5,6,9,11,15,16,17,130,131,132]) (o:=[1,2,5,6,9,11,15,16,17]) (h:=H.q59) hC hm Ac WF.f57 Ab (by kernel_rfl) (λ d=>Aj rfl) N (F.ig N) _ (λ _ _=>rfl) (λ _ _ _=>by kernel_rfl)
def TL.q59_l12(N:Nat):Am R:={b:=12,st:=E.q59_l12_i,fn:=λ d k=>lp (F.ii N) N d (λ y=>k (.exit 12) (E.q59_l12_oe12.to y))}
theorem LK.q59_l12(N:Nat):Ah Try.prog 0 Try.f57.ntmps (bodyOf Try.f57) (TL.q59_l12 (R:=R) N):=
 Ai (i:=[1,2,5,6,9,11,15,16,17]) (o:=[1,2,5,6,9,11,15,16]) (h:=H.q59) hC hm Ac WF.f57 (Af (LK.q59_l14 N) Ab) (by kernel_rfl) (λ d=>Aj rfl) N (F.ii N) _ (λ _ _=>rfl) (λ _ _ _=>by kernel_rfl)
def TL.q59_l10(N:Nat):Am R:={b:=10,st:=E.q59_l10_i,fn:=λ d k=>lp (F.il N) N d (λ y=>k (.exit 10) (E.q59_l10_oe10.to y))}
theorem LK.q59_l10(N:Nat):Ah Try.prog 0 Try.f57.ntmps (bodyOf Try.f57) (TL.q59_l10 (R:=R) N):=
 Ai (i:=[1,2,5,6,9,11,15,16]) (o:=[1,2,5,6,9,11,15]) (h:=H.q59) hC hm Ac WF.f57 (Af (LK.q59_l12 N) Ab) (by kernel_rfl) (λ d=>Aj rfl) N (F.il N) _ (λ _ _=>rfl) (λ _ _ _=>by kernel_rfl)
def TL.q59_l8(N:Nat):Am R:={b:=8,st:=E.q59_l8_i,fn:=λ d k=>lp (F.kb N) N d (λ y=>k (.exit 8) (E.q59_l8_oe8.to y))}
theorem LK.q59_l8(N:Nat):Ah Try.prog 0 Try.f57.ntmps (bodyOf Try.f57) (TL.q59_l8 (R:=R) N):=
 Ai (i:=[1,2,5,6,9,11,15]) (o:=[11]) (h:=H.q59) hC hm Ac WF.f57 (Af (LK.q59_l10 N) Ab) (by kernel_rfl) (λ d=>Aj rfl) N (F.kb N) _ (λ _ _=>rfl) (λ _ _ _=>by kernel_rfl)
theorem TK.q59(N:Nat):Ak Try.prog (T.q59 (R:=R) N):=
 Al (h:=H.q59) hC hm Ac WF.f57 (λ d=>(Af (LK.q59_l0 N) (Af (LK.q59_l2 N) (Af (LK.q59_l4 N) (Af (LK.q59_l8 N) Ab))))) (λ _ _=>by kernel_rfl)
abbrev E.q60_a:Enc (List AV×List Blk):=bQ (lC (aG K6) Qn) (lN Blk) rfl
abbrev E.q60_r:Enc (AV×List (Option Blk)×List Blk):=bQ (iN .i64) (bS (lN (Option Blk)) rfl (lN Blk)) rfl
def T.q60:Au R:={f:=58,arg:=E.q60_a,res:=E.q60_r,fn:=F.vd}
def H.q60:A4:={lp:=[]}
theorem WF.f58:Bb Try.prog 58 Try.f58:=Aq Try.func58 (by decide) (by kernel_rfl)
theorem TK.q60:Ak Try.prog (T.q60 (R:=R)):=
 Al (h:=H.q60) hC hm Ac WF.f58 (λ d=>Ab) (λ _ _=>by kernel_rfl)
abbrev E.q61_l2_i:Enc St:=sT 9 (lU Bk rfl (lU Cm rfl (lU Kw rfl (lU (kY 4 (sL 3)) rfl (lU (kY 5 (sL 4)) rfl (lC C5 (lC Cb (lC D4 Ae2)))))))) (lC D6 Ajx)
abbrev E.q61_l2_oe2:Enc St:=sT 9 (lU Bk rfl (lU Cm rfl (lU Kw rfl (lU (kY 4 (sL 3)) rfl (lU (kY 5 (sL 4)) rfl (lC Cb (lC D4 Ae2))))))) (lC D6 Ajx)
abbrev E.q61_l0_i:Enc St:=sT 9 (lU Bk rfl (lU Cm rfl (lU Kw rfl (lU (kY 4 (sL 3)) rfl (lU (kY 5 (sL 4)) rfl Ae2))))) (lC D6 Ajx)
abbrev E.q61_l0_oe0:Enc St:=sR 7 (lU Bk rfl (lU Cm rfl (lU Ow rfl (lN (Nat×AV))))) rfl (lC D6 (lC (kY 1 Aqt) (lC (kY 2 Ar) (lC (kY 3 Ar) (lC (kY 4 Ar) (lC (kY 5 Ar) (lO (kY 6 Ar))))))))
abbrev E.q61_l6_i:Enc St:=sT 10 (lU Bk rfl (lU Cm rfl (lU Ow rfl (lU (kY 9 (sL 3)) rfl (lU Rh rfl (lC Ff (lU (kY 12 (sL 5)) rfl (lO Z1)))))))) Arp
abbrev E.q61_l6_oe6:Enc St:=sT 10 (lU Bk rfl (lU Cm rfl (lU Ow rfl (lU (kY 9 (sL 3)) rfl (lU Rh rfl (lR Ff (lU (kY 12 (sL 5)) rfl (lN (Nat×AV))) rfl)))))) Arp
abbrev E.q61_l4_i:Enc St:=sT 9 (lU Bk rfl (lU Cm rfl (lU Ow rfl (lU (kY 9 (sL 3)) rfl (lU Rh rfl (lO Ff)))))) (lC D6 (lC (kY 1 Ajw) (lC (kY 2 Ar) (lC (kY 3 Ar) (lC (kY 4 Z6) Arn)))))
abbrev E.q61_l4_oe4:Enc St:=sR 8 (lU Bk rfl (lU Cm rfl (lU Gu rfl (lU Td rfl (lN (Nat×AV)))))) rfl (lC D6 (lC (kY 1 O0) (lC (kY 2 Ar) (lC (kY 3 Z6) (lC (kY 4 Ar) (lC (kY 5 Ar) (lC (kY 6 Ar) (lO (kY 7 Ar)))))))))
abbrev E.q61_l12_i:Enc St:=sT 14 (lU Bk rfl (lU Cm rfl (lU Gu rfl (lU Td rfl (lU Vy rfl (lU Vz rfl (lC Ky (lC S9 (lC Rf (lC Zx (lC (kY 21 bB) (lU (kY 115 (sL 5)) rfl (lC (kY 116 (iN .i64)) (lC (kY 117 (iN .i64)) (lU (kY 122 (sL 3)) rfl (lC (kY 123 (iN .i64)) (lO (kY 124 (iN .i64))))))))))))))))))) (lC D6 V1)
abbrev E.q61_l12_oe12:Enc St:=sT 14 (lU Bk rfl (lU Cm rfl (lU Gu rfl (lU Td rfl (lU Vy rfl (lU Vz rfl (lC Ky (lC S9 (lC Rf (lC (kY 21 bB) Ars)))))))))) (lC D6 V1)
abbrev E.q61_l10_i:Enc St:=sT 14 (lU Bk rfl (lU Cm rfl (lU Gu rfl (lU Td rfl (lU Vy rfl (lU Vz rfl (lC Ky (lC S9 Ars)))))))) (lC D6 V1)
abbrev E.q61_l10_oe10:Enc St:=sT 14 (lU Bk rfl (lU Cm rfl (lU Gu rfl (lU Td rfl (lU Vy rfl (lU Vz rfl (lC Ky (lO S9)))))))) (lC D6 V1)
abbrev E.q61_l8_i:Enc St:=sT 14 (lU Bk rfl (lU Cm rfl (lU Gu rfl (lU Td rfl (lU Vy rfl (lU Vz rfl (lO Ky))))))) (lC D6 V1)
abbrev E.q61_l8_oe8:Enc St:=sR 14 (lU Bk rfl (lU Cm rfl (lU Gu rfl (lU Td rfl (lU Vy rfl (lU Vz rfl (lN (Nat×AV)))))))) rfl (lC D6 V1)
abbrev E.q61_l16_i:Enc St:=sT 14 (lU Bk rfl (lU Cm rfl (lU (kY 10 (sL 2)) rfl (lU Ajy rfl (lU (kY 16 (sL 4)) rfl (lC (kY 24 (iN .i64)) (lC (kY 25 (iN .i64)) (lU (kY 158 (sL 5)) rfl (lC (kY 159 (iN .i64)) (lC (kY 160 (iN .i64)) (lU (kY 165 (sL 4)) rfl (lC (kY 166 (iN .i64)) (lO (kY 167 (iN .i64))))))))))))))) (lC D6 Ajz)
abbrev E.q61_l16_oe16:Enc St:=sT 14 (lU Bk rfl (lU Cm rfl (lU (kY 10 (sL 2)) rfl (lU Ajy rfl (lU (kY 16 (sL 4)) rfl (lC (kY 25 (iN .i64)) Art)))))) (lC D6 Ajz)
abbrev E.q61_l14_i:Enc St:=sT 14 (lU Bk rfl (lU Cm rfl (lU (kY 10 (sL 2)) rfl (lU Ajy rfl (lU (kY 16 (sL 4)) rfl Art))))) (lC D6 Ajz)
abbrev E.q61_l14_oe14:Enc St:=sR 10 (lU Dp rfl (lU (kY 15 (pB 1 0)) rfl (lN (Nat×AV)))) rfl Ae7
abbrev E.q61_a:Enc (List AV×List Blk):=bQ (lO (aG K6)) (lN Blk) rfl
abbrev E.q61_r:Enc (AV×List (Option Blk)×List Blk):=bO Aj0 (bS (lN (Option Blk)) rfl (lC Ar Mz))
def T.q61(N:Nat):Au R:={f:=44,arg:=E.q61_a,res:=E.q61_r,fn:=F.qv N}
def H.q61:A4:={lp:=[(0,[1,2,3,4,5,41,42,43],[1,2,5]),(2,[1,2,3,4,5,6,7,8,41,42,43],[1,2,3,4,5,7,8,41,42,43]),(4,[1,2,5,9,10,11],[1,2,9,10]),(6,[1,2,5,9,10,11,12,13],[1,2,5,9,10,11,12]),(8,[1,2,9,10,15,16,17],[1,2,9,10,15,16]),(10,[1,2,9,10,15,16,17,18,115,116,117],[1,2,9,10,15,16,17,18]),(12,[1,2,9,10,15,16,17,18,19,20,21,115,116,117,122,123,124],[1,2,9,10,15,16,17,18,19,21,115,116,117]),(14,[1,2,10,15,16,158,159,160],[2,15]),(16,[1,2,10,15,16,24,25,158,159,160,165,166,167],[1,2,10,15,16,25,158,159,160])]}
theorem WF.f44:Bb Try.prog 44 Try.f44:=Aq Try.func44 (by decide) (by kernel_rfl)
def TL.q61_l2(N:Nat):Am R:={b:=2,st:=E.q61_l2_i,fn:=λ d k=>lp (F.im N) N d (λ y=>k (.exit 2) (E.q61_l2_oe2.to y))}
theorem LK.q61_l2(N:Nat):Ah Try.prog 0 Try.f44.ntmps (bodyOf Try.f44) (TL.q61_l2 (R:=R) N):=
 Ai (i:=[1,2,3,4,5,6,7,8,41,42,43]) (o:=[1,2,3,4,5,7,8,41,42,43]) (h:=H.q61) hC hm Ac WF.f44 Ab (by kernel_rfl) (λ d=>Aj rfl) N (F.im N) _ (λ _ _=>rfl) (λ _ _ _=>by kernel_rfl)
def TL.q61_l0(N:Nat):Am R:={b:=0,st:=E.q61_l0_i,fn:=λ d k=>lp (F.io N) N d (λ y=>k (.exit 0) (E.q61_l0_oe0.to y))}
theorem LK.q61_l0(N:Nat):Ah Try.prog 0 Try.f44.ntmps (bodyOf Try.f44) (TL.q61_l0 (R:=R) N):=
 Ai (i:=[1,2,3,4,5,41,42,43]) (o:=[1,2,5]) (h:=H.q61) hC hm Ac WF.f44 (Af (LK.q61_l2 N) Ab) (by kernel_rfl) (λ d=>Aj rfl) N (F.io N) _ (λ _ _=>rfl) (λ _ _ _=>by kernel_rfl)
def TL.q61_l6(N:Nat):Am R:={b:=6,st:=E.q61_l6_i,fn:=λ d k=>lp (F.ip N) N d (λ y=>k (.exit 6) (E.q61_l6_oe6.to y))}
theorem LK.q61_l6(N:Nat):Ah Try.prog 0 Try.f44.ntmps (bodyOf Try.f44) (TL.q61_l6 (R:=R) N):=
 Ai (i:=[1,2,5,9,10,11,12,13]) (o:=[1,2,5,9,10,11,12]) (h:=H.q61) hC hm (Ae TK.q60 (Ae (TK.q57 N) Ac)) WF.f44 Ab (by kernel_rfl) (λ d=>Aj rfl) N (F.ip N) _ (λ _ _=>rfl) (λ _ _ _=>by kernel_rfl)
def TL.q61_l4(N:Nat):Am R:={b:=4,st:=E.q61_l4_i,fn:=λ d k=>lp (F.iq N) N d (λ y=>k (.exit 4) (E.q61_l4_oe4.to y))}
theorem LK.q61_l4(N:Nat):Ah Try.prog 0 Try.f44.ntmps (bodyOf Try.f44) (TL.q61_l4 (R:=R) N):=
 Ai (i:=[1,2,5,9,10,11]) (o:=[1,2,9,10]) (h:=H.q61) hC hm Ac WF.f44 (Af (LK.q61_l6 N) Ab) (by kernel_rfl) (λ d=>Aj rfl) N (F.iq N) _ (λ _ _=>rfl) (λ _ _ _=>by kernel_rfl)
def TL.q61_l12(N:Nat):Am R:={b:=12,st:=E.q61_l12_i,fn:=λ d k=>lp (F.du N) N d (λ y=>k (.exit 12) (E.q61_l12_oe12.to y))}
theorem LK.q61_l12(N:Nat):Ah Try.prog 0 Try.f44.ntmps (bodyOf Try.f44) (TL.q61_l12 (R:=R) N):=
 Ai (i:=[1,2,9,10,15,16,17,18,19,20,21,115,116,117,122,123,124]) (o:=[1,2,9,10,15,16,17,18,19,21,115,116,117]) (h:=H.q61) hC hm Ac WF.f44 Ab (by kernel_rfl) (λ d=>Aj rfl) N (F.du N) _ (λ _ _=>rfl) (λ _ _ _=>by kernel_rfl)
def TL.q61_l10(N:Nat):Am R:={b:=10,st:=E.q61_l10_i,fn:=λ d k=>lp (F.dw N) N d (λ y=>k (.exit 10) (E.q61_l10_oe10.to y))}
theorem LK.q61_l10(N:Nat):Ah Try.prog 0 Try.f44.ntmps (bodyOf Try.f44) (TL.q61_l10 (R:=R) N):=
 Ai (i:=[1,2,9,10,15,16,17,18,115,116,117]) (o:=[1,2,9,10,15,16,17,18]) (h:=H.q61) hC hm Ac WF.f44 (Af (LK.q61_l12 N) Ab) (by kernel_rfl) (λ d=>Aj rfl) N (F.dw N) _ (λ _ _=>rfl) (λ _ _ _=>by kernel_rfl)
def TL.q61_l8(N:Nat):Am R:={b:=8,st:=E.q61_l8_i,fn:=λ d k=>lp (F.ir N) N d (λ y=>k (.exit 8) (E.q61_l8_oe8.to y))}
theorem LK.q61_l8(N:Nat):Ah Try.prog 0 Try.f44.ntmps (bodyOf Try.f44) (TL.q61_l8 (R:=R) N):=
 Ai (i:=[1,2,9,10,15,16,17]) (o:=[1,2,9,10,15,16]) (h:=H.q61) hC hm Ac WF.f44 (Af (LK.q61_l10 N) Ab) (by kernel_rfl) (λ d=>Aj rfl) N (F.ir N) _ (λ _ _=>rfl) (λ _ _ _=>by kernel_rfl)
def TL.q61_l16(N:Nat):Am R:={b:=16,st:=E.q61_l16_i,fn:=λ d k=>lp (F.dx N) N d (λ y=>k (.exit 16) (E.q61_l16_oe16.to y))}
theorem LK.q61_l16(N:Nat):Ah Try.prog 0 Try.f44.ntmps (bodyOf Try.f44) (TL.q61_l16 (R:=R) N):=
 Ai (i:=[1,2,10,15,16,24,25,158,159,160,165,166,167]) (o:=[1,2,10,15,16,25,158,159,160]) (h:=H.q61) hC hm Ac WF.f44 Ab (by kernel_rfl) (λ d=>Aj rfl) N (F.dx N) _ (λ _ _=>rfl) (λ _ _ _=>by kernel_rfl)
def TL.q61_l14(N:Nat):Am R:={b:=14,st:=E.q61_l14_i,fn:=λ d k=>lp (F.dy N) N d (λ y=>k (.exit 14) (E.q61_l14_oe14.to y))}
theorem LK.q61_l14(N:Nat):Ah Try.prog 0 Try.f44.ntmps (bodyOf Try.f44) (TL.q61_l14 (R:=R) N):=
 Ai (i:=[1,2,10,15,16,158,159,160]) (o:=[2,15]) (h:=H.q61) hC hm Ac WF.f44 (Af (LK.q61_l16 N) Ab) (by kernel_rfl) (λ d=>Aj rfl) N (F.dy N) _ (λ _ _=>rfl) (λ _ _ _=>by kernel_rfl)
theorem TK.q61(N:Nat):Ak Try.prog (T.q61 (R:=R) N):=
 Al (h:=H.q61) hC hm (Ae (TK.q56 N) (Ae (TK.q58 N) (Ae (TK.q59 N) Ac))) WF.f44 (λ d=>(Af (LK.q61_l0 N) (Af (LK.q61_l4 N) (Af (LK.q61_l8 N) (Af (LK.q61_l14 N) Ab))))) (λ _ _=>by kernel_rfl)
abbrev E.q62_l4_i:Enc St:=sT 16 (lC F6 (lU Ox rfl (lU K7 rfl (lU Z7 rfl (lU S8 rfl (lU Rh rfl (lC Ff (lU (kY 14 (sL 5)) rfl (lC Vw (lC Re Aj1)))))))))) (lC (kY 0 Vx) Arw)
abbrev E.q62_l4_oe4:Enc St:=sT 16 (lC F6 (lU Ox rfl (lU K7 rfl (lU Z7 rfl (lU S8 rfl (lU Rh rfl (lC Ff (lU (kY 14 (sL 5)) rfl (lC Vw Aj1))))))))) (lC (kY 0 Vx) Arw)
abbrev E.q62_l2_i:Enc St:=sT 15 (lC F6 (lU Ox rfl (lU K7 rfl (lU Z7 rfl (lU S8 rfl (lU Rh rfl (lC Ff Aj1))))))) Aj3
abbrev E.q62_l2_oe2:Enc St:=sT 15 (lC F6 (lU Ox rfl (lU K7 rfl (lU Z7 rfl (lU S8 rfl (lU Rh rfl (lO Ff))))))) Aj3
abbrev E.q62_l0_i:Enc St:=sT 15 (lC F6 (lU Ox rfl (lU K7 rfl (lU Z7 rfl (lU S8 rfl (lU Rh rfl (lO Ff))))))) Aj3
abbrev E.q62_l0_oe0:Enc St:=sR 10 (lU Ox rfl (lU (kY 5 uN) rfl (lU (kY 9 (pB 1 0)) rfl (lN (Nat×AV))))) rfl Ae7
abbrev E.q62_l0_oret:Enc St:=sT 10 (lU Ox rfl (lR B9 (lU (kY 9 (pB 1 0)) rfl (lN (Nat×AV))) rfl)) Ae7
abbrev E.q62_a:Enc (List AV×List Blk):=bQ (lC (fZ ki9) (lO (iN .i64))) (lN Blk) rfl
abbrev E.q62_r:Enc (AV×List (Option Blk)×List Blk):=bO (tP (lC Aj0 (lO (iN .i64)))) (bS (lN (Option Blk)) rfl (lC Ar Mz))
def T.q62(N:Nat):Au R:={f:=33,arg:=E.q62_a,res:=E.q62_r,fn:=F.rn N}
def H.q62:A4:={lp:=[(0,[1,4,6,8,9,10,11],[4,5,9]),(2,[1,4,6,8,9,10,11,73,74,75],[1,4,6,8,9,10,11]),(4,[1,4,6,8,9,10,11,14,15,16,73,74,75],[1,4,6,8,9,10,11,14,15,73,74,75])]}
theorem WF.f33:Bb Try.prog 33 Try.f33:=Aq Try.func33 (by decide) (by kernel_rfl)
def TL.q62_l4(N:Nat):Am R:={b:=4,st:=E.q62_l4_i,fn:=λ d k=>lp (F.ke N) N d (λ y=>k (.exit 4) (E.q62_l4_oe4.to y))}
theorem LK.q62_l4(N:Nat):Ah Try.prog 0 Try.f33.ntmps (bodyOf Try.f33) (TL.q62_l4 (R:=R) N):=
 Ai (i:=[1,4,6,8,9,10,11,14,15,16,73,74,75]) (o:=[1,4,6,8,9,10,11,14,15,73,74,75]) (h:=H.q62) A5 hm (Ae (TK.q54 N) Ac) WF.f33 Ab (by kernel_rfl) (λ d=>Aj rfl) N (F.ke N) _ (λ _ _=>rfl) (λ _ _ _=>by kernel_rfl)
def TL.q62_l2(N:Nat):Am R:={b:=2,st:=E.q62_l2_i,fn:=λ d k=>lp (F.kf N) N d (λ y=>k (.exit 2) (E.q62_l2_oe2.to y))}
theorem LK.q62_l2(N:Nat):Ah Try.prog 0 Try.f33.ntmps (bodyOf Try.f33) (TL.q62_l2 (R:=R) N):=
 Ai (i:=[1,4,6,8,9,10,11,73,74,75]) (o:=[1,4,6,8,9,10,11]) (h:=H.q62) A5 hm (Ae (TK.q53 N) Ac) WF.f33 (Af (LK.q62_l4 N) Ab) (by kernel_rfl) (λ d=>Aj rfl) N (F.kf N) _ (λ _ _=>rfl) (λ _ _ _=>by kernel_rfl)
def TL.q62_l0(N:Nat):Am R:={b:=0,st:=E.q62_l0_i,fn:=λ d k=>lp (F.kg N) N d (λ y=>k (.exit 0) (E.q62_l0_oe0.to y),λ y=>k .ret (E.q62_l0_oret.to y))}
theorem LK.q62_l0(N:Nat):Ah Try.prog 0 Try.f33.ntmps (bodyOf Try.f33) (TL.q62_l0 (R:=R) N):=
 Ai (i:=[1,4,6,8,9,10,11]) (o:=[4,5,9]) (h:=H.q62) A5 hm (Ae (TK.q51 N) Ac) WF.f33 (Af (LK.q62_l2 N) Ab) (by kernel_rfl) (λ d=>Aj rfl) N (F.kg N) _ (λ _ _=>rfl) (λ _ _ _=>by kernel_rfl)
theorem TK.q62(N:Nat):Ak Try.prog (T.q62 (R:=R) N):=
 Al (h:=H.q62) A5 hm (Ae TK.q15 (Ae (TK.q41 N) (Ae (TK.q46 N) (Ae (TK.q48 N) (Ae (TK.q61 N) Ac))))) WF.f33 (λ d=>(Af (LK.q62_l0 N) Ab)) (λ _ _=>by kernel_rfl)
abbrev E.q63_l0_i:Enc St:=sT 12 (lU Cl rfl (lU K5 rfl (lU Iz rfl (lC B9 (lC C5 (lU Te rfl (lO D4))))))) (lC (kY 0 B0) Tf)
abbrev E.q63_l0_oe0:Enc St:=sT 12 (lU Cl rfl (lU K5 rfl (lU Iz rfl (lC B9 (lR C5 (lU Te rfl (lN (Nat×AV))) rfl))))) (lC (kY 0 B0) Tf)
abbrev E.q63_l6_i:Enc St:=sT 12 (lU Cl rfl (lU K5 rfl (lU Iz rfl (lC B9 (lC C5 (lU Te rfl (lC Ce (lC He (lO Ff))))))))) (lC (kY 0 B0) Tf)
abbrev E.q63_l6_oe6:Enc St:=sT 12 (lU Cl rfl (lU K5 rfl (lU Iz rfl (lC B9 (lC C5 (lU Te rfl (lC Ce (lO He)))))))) (lC (kY 0 B0) Tf)
abbrev E.q63_l4_i:Enc St:=sT 12 (lU Cl rfl (lU K5 rfl (lU Iz rfl (lC B9 (lC C5 (lU Te rfl (lC Ce (lO He)))))))) (lC (kY 0 B0) Tf)
abbrev E.q63_l4_oe4:Enc St:=sT 12 (lU Cl rfl (lU K5 rfl (lU Iz rfl (lC B9 (lC C5 (lU Te rfl (lO Ce))))))) (lC (kY 0 B0) Tf)
abbrev E.q63_l2_i:Enc St:=sT 12 (lU Cl rfl (lU K5 rfl (lU Iz rfl (lC B9 (lC C5 (lU Te rfl (lO Ce))))))) (lC (kY 0 B0) Tf)
abbrev E.q63_l2_oe2:Enc St:=sR 11 (lU (kY 4 (pB 1 0)) rfl (lU (kY 7 (pB 2 0)) rfl (lN (Nat×AV)))) rfl (lC (kY 0 B0) Kv)
abbrev E.q63_a:Enc (List AV×List Blk):=bO (lU (pB 0 0) rfl (lO (aG K6))) (lO B0)
abbrev E.q63_r:Enc (AV×List (Option Blk)×List Blk):=bO Vs (bO (lO (sM B0)) (lC Ar Mz))
def T.q63(N:Nat):Au R:={f:=35,arg:=E.q63_a,res:=E.q63_r,fn:=F.pf N}
def H.q63:A4:={lp:=[(0,[0,3,4,5,6,7,8],[0,3,4,5,6,7]),(2,[0,3,4,5,6,7,9],[4,7]),(4,[0,3,4,5,6,7,9,10],[0,3,4,5,6,7,9]),(6,[0,3,4,5,6,7,9,10,11],[0,3,4,5,6,7,9,10])]}
theorem WF.f35:Bb Try.prog 35 Try.f35:=Aq Try.func35 (by decide) (by kernel_rfl)
def TL.q63_l0(N:Nat):Am R:={b:=0,st:=E.q63_l0_i,fn:=λ d k=>lp (F.iu N) N d (λ y=>k (.exit 0) (E.q63_l0_oe0.to y))}
theorem LK.q63_l0(N:Nat):Ah Try.prog 1 Try.f35.ntmps (bodyOf Try.f35) (TL.q63_l0 (R:=R) N):=
 Ai (i:=[0,3,4,5,6,7,8]) (o:=[0,3,4,5,6,7]) (h:=H.q63) hC hm Ac WF.f35 Ab (by kernel_rfl) (λ d=>Aj rfl) N (F.iu N) _ (λ _ _=>rfl) (λ _ _ _=>by kernel_rfl)
def TL.q63_l6(N:Nat):Am R:={b:=6,st:=E.q63_l6_i,fn:=λ d k=>lp (F.iw N) N d (λ y=>k (.exit 6) (E.q63_l6_oe6.to y))}
theorem LK.q63_l6(N:Nat):Ah Try.prog 1 Try.f35.ntmps (bodyOf Try.f35) (TL.q63_l6 (R:=R) N):=
 Ai (i:=[0,3,4,5,6,7,9,10,11]) (o:=[0,3,4,5,6,7,9,10]) (h:=H.q63) hC hm (Ae TK.q1 Ac) WF.f35 Ab (by kernel_rfl) (λ d=>Aj rfl) N (F.iw N) _ (λ _ _=>rfl) (λ _ _ _=>by kernel_rfl)
def TL.q63_l4(N:Nat):Am R:={b:=4,st:=E.q63_l4_i,fn:=λ d k=>lp (F.ix N) N d (λ y=>k (.exit 4) (E.q63_l4_oe4.to y))}
theorem LK.q63_l4(N:Nat):Ah Try.prog 1 Try.f35.ntmps (bodyOf Try.f35) (TL.q63_l4 (R:=R) N):=
 Ai (i:=[0,3,4,5,6,7,9,10]) (o:=[0,3,4,5,6,7,9]) (h:=H.q63) hC hm Ac WF.f35 (Af (LK.q63_l6 N) Ab) (by kernel_rfl) (λ d=>Aj rfl) N (F.ix N) _ (λ _ _=>rfl) (λ _ _ _=>by kernel_rfl)
def TL.q63_l2(N:Nat):Am R:={b:=2,st:=E.q63_l2_i,fn:=λ d k=>lp (F.iy N) N d (λ y=>k (.exit 2) (E.q63_l2_oe2.to y))}
theorem LK.q63_l2(N:Nat):Ah Try.prog 1 Try.f35.ntmps (bodyOf Try.f35) (TL.q63_l2 (R:=R) N):=
 Ai (i:=[0,3,4,5,6,7,9]) (o:=[4,7]) (h:=H.q63) hC hm Ac WF.f35 (Af (LK.q63_l4 N) Ab) (by kernel_rfl) (λ d=>Aj rfl) N (F.iy N) _ (λ _ _=>rfl) (λ _ _ _=>by kernel_rfl)
theorem TK.q63(N:Nat):Ak Try.prog (T.q63 (R:=R) N):=
 Al (h:=H.q63) hC hm (Ae TK.q1 Ac) WF.f35 (λ d=>(Af (LK.q63_l0 N) (Af (LK.q63_l2 N) Ab))) (λ _ _=>by kernel_rfl)
abbrev E.q64_j49:Enc St:=sT 11 (lU Cl rfl (lU Cm rfl (lR Ca Aeu rfl))) (lC (kY 0 B0) Kv)
abbrev E.q64_a:Enc (List AV×List Blk):=bS (lU (pB 0 0) rfl (lN AV)) rfl (lO B0)
abbrev E.q64_r:Enc (AV×List (Option Blk)×List Blk):=bO Vs (bO (lO (sM B0)) (lC Ar Mz))
def T.q64(N:Nat):Au R:={f:=20,arg:=E.q64_a,res:=E.q64_r,fn:=F.oh N}
def H.q64:A4:={lp:=[],jn:=[(49,[0,2,3,4],E.q64_j49)]}
theorem WF.f20:Bb Try.prog 20 Try.f20:=Aq Try.func20 (by decide) (by kernel_rfl)
theorem TK.q64(N:Nat):Ak Try.prog (T.q64 (R:=R) N):=
 Al (h:=H.q64) A5 hm (Ae TK.q1 (Ae (TK.q3 N) (Ae (TK.q35 N) (Ae (TK.q62 N) (Ae (TK.q63 N) Ac))))) WF.f20 (λ d=>Ab) (λ _ _=>by kernel_rfl)
abbrev E.q65_a:Enc (List AV×List Blk):=bQ (lO Ec) (lN Blk) rfl
abbrev E.q65_r:Enc (AV×List (Option Blk)×List Blk):=bS (sL 0) rfl (bS (lN (Option Blk)) rfl (lO Ar))
def T.q65:Au R:={f:=31,arg:=E.q65_a,res:=E.q65_r,fn:=F.cf}
def H.q65:A4:={lp:=[]}
theorem WF.f31:Bb Try.prog 31 Try.f31:=Aq Try.func31 (by decide) (by kernel_rfl)
theorem TK.q65:Ak Try.prog (T.q65 (R:=R)):=
 Al (h:=H.q65) hC hm Ac WF.f31 (λ d=>Ab) (λ _ _=>by kernel_rfl)
abbrev E.q66_a:Enc (List AV×List Blk):=bO (lU (pB 0 0) rfl (lO Vs)) (lC B0 (lC Ar Mz))
abbrev E.q66_r:Enc (AV×List (Option Blk)×List Blk):=bO (aG (lU (sL 5) rfl Arm)) (bO (lC (sM B0) (lC (sM Ar) (lC (sM Ar) (lC (sM Ar) (lO (sM Ar)))))) (lC Ar Mz))
def T.q66:Au R:={f:=19,arg:=E.q66_a,res:=E.q66_r,fn:=F.pw}
def H.q66:A4:={lp:=[]}
theorem WF.f19:Bb Try.prog 19 Try.f19:=Aq Try.func19 (by decide) (by kernel_rfl)
theorem TK.q66:Ak Try.prog (T.q66 (R:=R)):=
 Al (h:=H.q66) hC hm (Ae TK.q65 (Ae TK.q1 Ac)) WF.f19 (λ d=>Ab) (λ _ _=>by kernel_rfl)
abbrev E.q67_l0_i:Enc St:=sT 11 (lU Cl rfl (lU Cm rfl (lU Iz rfl (lO B9)))) (lC (kY 0 B0) Kv)
abbrev E.q67_l0_oe0:Enc St:=sR 11 (lU Cl rfl (lU Cm rfl Aeu)) rfl (lC (kY 0 B0) Kv)
abbrev E.q67_a:Enc (List AV×List Blk):=bS (lU (pB 0 0) rfl (lN AV)) rfl (lO B0)
abbrev E.q67_r:Enc (AV×List (Option Blk)×List Blk):=bO Vs (bO (lO (sM B0)) (lC Ar Mz))
def T.q67(N:Nat):Au R:={f:=21,arg:=E.q67_a,res:=E.q67_r,fn:=F.qw N}
def H.q67:A4:={lp:=[(0,[0,2,4,5],[0,2,4])]}
theorem WF.f21:Bb Try.prog 21 Try.f21:=Aq Try.func21 (by decide) (by kernel_rfl)
def TL.q67_l0(N:Nat):Am R:={b:=0,st:=E.q67_l0_i,fn:=λ d k=>lp (F.iz N) N d (λ y=>k (.exit 0) (E.q67_l0_oe0.to y))}
theorem LK.q67_l0(N:Nat):Ah Try.prog 1 Try.f21.ntmps (bodyOf Try.f21) (TL.q67_l0 (R:=R) N):=
 Ai (i:=[0,2,4,5]) (o:=[0,2,4]) (h:=H.q67) hC hm (Ae TK.q1 Ac) WF.f21 Ab (by kernel_rfl) (λ d=>Aj rfl) N (F.iz N) _ (λ _ _=>rfl) (λ _ _ _=>by kernel_rfl)
theorem TK.q67(N:Nat):Ak Try.prog (T.q67 (R:=R) N):=
 Al (h:=H.q67) hC hm (Ae TK.q1 Ac) WF.f21 (λ d=>(Af (LK.q67_l0 N) Ab)) (λ _ _=>by kernel_rfl)
abbrev E.q68_a:Enc (List AV×List Blk):=bS (lU (pB 0 0) rfl (lN AV)) rfl (lO B0)
abbrev E.q68_r:Enc (AV×List (Option Blk)×List Blk):=bO Vs (bO (lO (sM B0)) (lC Ar Mz))
def T.q68(N:Nat):Au R:={f:=9,arg:=E.q68_a,res:=E.q68_r,fn:=F.nr N}
def H.q68:A4:={lp:=[]}
theorem WF.f9:Bb Try.prog 9 Try.f9:=Aq Try.func9 (by decide) (by kernel_rfl)
theorem TK.q68(N:Nat):Ak Try.prog (T.q68 (R:=R) N):=
 Al (h:=H.q68) A5 hm (Ae TK.q2 (Ae (TK.q64 N) (Ae TK.q66 (Ae (TK.q67 N) Ac)))) WF.f9 (λ d=>Ab) (λ _ _=>by kernel_rfl)
abbrev E.q69_a:Enc (List AV×List Blk):=bQ (lO en0) (lN Blk) rfl
abbrev E.q69_r:Enc (AV×List (Option Blk)×List Blk):=bO Aj0 (bS (lN (Option Blk)) rfl (lC Ar Mz))
def T.q69(N:Nat):Au R:={f:=4,arg:=E.q69_a,res:=E.q69_r,fn:=F.cz N}
def H.q69:A4:={lp:=[]}
theorem WF.f4:Bb Try.prog 4 Try.f4:=Aq Try.func4 (by decide) (by kernel_rfl)
theorem TK.q69(N:Nat):Ak Try.prog (T.q69 (R:=R) N):=
 Al (h:=H.q69) hC hm (Ae (TK.q68 N) Ac) WF.f4 (λ d=>Ab) (λ _ _=>by kernel_rfl)
abbrev E.q70_a:Enc (List AV×List Blk):=bO (vA [(iN .i64),Aj4,Aj4]) (aL [])
abbrev E.q70_r:Enc (AV×List (Option Blk)×List Blk):=bO bB (bO (aL []) (aL []))
def T.q70:Au R:={f:=24,arg:=E.q70_a,res:=E.q70_r,fn:=λ d k=>F.rt d.1.1 d.1.2.1.1 d.1.2.2.1.1 (λ x0=>k (x0,((),())))}
def H.q70:A4:={lp:=[]}
theorem WF.f24:Bb Try.prog 24 Try.f24:=Aq Try.func24 (by decide) (by kernel_rfl)
theorem F.ya(d:E.q70_a.D)(k:AV->List (Option Blk)->List Blk->Option R):
  Hr cfg (B1 []) (Bg []) H.q70 Try.f24 (E.q70_a.to d).1 (E.q70_a.to d).2 k=(T.q70).fn d λ x=>k (E.q70_r.to x).1 (E.q70_r.to x).2.1 (E.q70_r.to x).2.2:=by kernel_rfl
theorem TK.q70:Ak Try.prog (T.q70 (R:=R)):=
 Al (h:=H.q70) hC hm Ac WF.f24 (λ d=>Ab) (F.ya)
abbrev E.q71_l0_i:Enc St:=sT 2 (aL [(kY 0 Hh),(kY 1 Aj5),(kY 7 (iN .i64)),(kY 8 (iN .i64))]) (aL [(kY 0 Cz),(kY 1 Cz)])
abbrev E.q71_l0_oe0:Enc St:=sT 2 (aL [(kY 4 uN)]) (aL [(kY 0 Cz),(kY 1 Cz)])
abbrev E.q71_l0_oret:Enc St:=sT 2 (aL [(kY 4 (iN .i64))]) (aL [(kY 0 Cz),(kY 1 Cz)])
abbrev E.q71_a:Enc (List AV×List Blk):=bO (vA [Hh,Aj5]) (aL [Cz,Cz])
abbrev E.q71_r:Enc (AV×List (Option Blk)×List Blk):=bO (iN .i64) (bO (aL [(sM Cz),(sM Cz)]) (aL []))
def T.q71(N:Nat):Au R:={f:=36,arg:=E.q71_a,res:=E.q71_r,fn:=λ d k=>F.qz N d.1.1 d.2.1.1 d.2.2.1.1 (λ x0 x1 x2=>k (x0,(((x1,()),((x2,()),())),())))}
def H.q71:A4:={lp:=[(0,[0,1,7,8],[4])]}
theorem WF.f36:Bb Try.prog 36 Try.f36:=Aq Try.func36 (by decide) (by kernel_rfl)
def G.slices_IndexFunc_l0(N:Nat)(n:Nat)(d:E.q71_l0_i.D)(k:Ex->St->Option R):Option R:=F.bd N n d.1.1 d.1.2.2.1 d.1.2.2.2.1 d.2.1.1 d.2.2.1.1 (λ y0 y1=>k (.exit 0) (E.q71_l0_oe0.to (((),()),((y0,()),((y1,()),()))))) (λ y0 y1 y2=>k .ret (E.q71_l0_oret.to ((y0,()),((y1,()),((y2,()),())))))
def TL.q71_l0(N:Nat):Am R:={b:=0,st:=E.q71_l0_i,fn:=λ d k=>G.slices_IndexFunc_l0 N N d k}
def Q.slices_IndexFunc_l0(N:Nat)(d:E.q71_l0_i.D)(k:Ex->St->Option R)(next:E.q71_l0_i.D->Option R):Option R:=F.jg N d.1.1 d.1.2.2.1 d.1.2.2.2.1 d.2.1.1 d.2.2.1.1 (λ x0 x1 x2 x3 x4=>next ((x0,(((),((),())),(x1,(x2,())))),((x3,()),((x4,()),())))) (λ y0 y1=>k (.exit 0) (E.q71_l0_oe0.to (((),()),((y0,()),((y1,()),()))))) (λ y0 y1 y2=>k .ret (E.q71_l0_oret.to ((y0,()),((y1,()),((y2,()),())))))
theorem F.vh(N:Nat)(d:E.q71_l0_i.D)(next:St->Option R)(k:Ex->St->Option R):
  stepE cfg (B1 [T.q70]) (Bg []) 2 H.q71 0 (bodyOf Try.f36 0) [0,1,7,8] [4] (E.q71_l0_i.to d) next k=Q.slices_IndexFunc_l0 N d k λ x=>next (E.q71_l0_i.to x):=by kernel_rfl
theorem LK.q71_l0(N:Nat):Ah Try.prog 2 Try.f36.ntmps (bodyOf Try.f36) (TL.q71_l0 (R:=R) N):=
 De (i:=[0,1,7,8]) (o:=[4]) (h:=H.q71) hC hm (Ae TK.q70 Ac) WF.f36 Ab (by kernel_rfl) (λ d=>Aj rfl) (G.slices_IndexFunc_l0 N) N (Q.slices_IndexFunc_l0 N) (λ _ _=>rfl) (λ _ _=>rfl) (λ _ _ _=>rfl) (F.vh N)
theorem F.wy(N:Nat)(d:E.q71_a.D)(k:AV->List (Option Blk)->List Blk->Option R):
  Hr cfg (B1 []) (Bg [TL.q71_l0 N]) H.q71 Try.f36 (E.q71_a.to d).1 (E.q71_a.to d).2 k=(T.q71 N).fn d λ x=>k (E.q71_r.to x).1 (E.q71_r.to x).2.1 (E.q71_r.to x).2.2:=by kernel_rfl
theorem TK.q71(N:Nat):Ak Try.prog (T.q71 (R:=R) N):=
 Al (h:=H.q71) hC hm Ac WF.f36 (λ d=>(Af (LK.q71_l0 N) Ab)) (F.wy N)
abbrev E.q72_a:Enc (List AV×List Blk):=bO (vA [Hh,Aj5]) (aL [Cz,Cz])
abbrev E.q72_r:Enc (AV×List (Option Blk)×List Blk):=bO bB (bO (aL [(sM Cz),(sM Cz)]) (aL []))
def T.q72(N:Nat):Au R:={f:=23,arg:=E.q72_a,res:=E.q72_r,fn:=λ d k=>F.pg N d.1.1 d.2.1.1 d.2.2.1.1 (λ x0 x1 x2=>k (x0,(((x1,()),((x2,()),())),())))}
def H.q72:A4:={lp:=[]}
theorem WF.f23:Bb Try.prog 23 Try.f23:=Aq Try.func23 (by decide) (by kernel_rfl)
theorem F.vi(N:Nat)(d:E.q72_a.D)(k:AV->List (Option Blk)->List Blk->Option R):
  Hr cfg (B1 [T.q71 N]) (Bg []) H.q72 Try.f23 (E.q72_a.to d).1 (E.q72_a.to d).2 k=(T.q72 N).fn d λ x=>k (E.q72_r.to x).1 (E.q72_r.to x).2.1 (E.q72_r.to x).2.2:=by kernel_rfl
theorem TK.q72(N:Nat):Ak Try.prog (T.q72 (R:=R) N):=
 Al (h:=H.q72) hC hm (Ae (TK.q71 N) Ac) WF.f23 (λ d=>Ab) (F.vi N)
abbrev E.q73_a:Enc (List AV×List Blk):=bO (vA [Hh,(iN .i64),(iN .i64)]) (aL [])
abbrev E.q73_r:Enc (AV×List (Option Blk)×List Blk):=bO bB (bO (aL []) (aL []))
def T.q73(N:Nat):Au R:={f:=22,arg:=E.q73_a,res:=E.q73_r,fn:=λ d k=>F.li N d.1.1 d.1.2.1 d.1.2.2.1 (λ x0=>k (x0,((),())))}
def H.q73:A4:={lp:=[]}
theorem WF.f22:Bb Try.prog 22 Try.f22:=Aq Try.func22 (by decide) (by kernel_rfl)
theorem F.ze(N:Nat)(d:E.q73_a.D)(k:AV->List (Option Blk)->List Blk->Option R):
  Hr cfg (B1 [T.q72 N]) (Bg []) H.q73 Try.f22 (E.q73_a.to d).1 (E.q73_a.to d).2 k=(T.q73 N).fn d λ x=>k (E.q73_r.to x).1 (E.q73_r.to x).2.1 (E.q73_r.to x).2.2:=by kernel_rfl
theorem TK.q73(N:Nat):Ak Try.prog (T.q73 (R:=R) N):=
 Al (h:=H.q73) hC hm (Ae (TK.q72 N) Ac) WF.f22 (λ d=>Ab) (F.ze N)
abbrev E.q74_a:Enc (List AV×List Blk):=bO (vA [Ae8]) (aL [])
abbrev E.q74_r:Enc (AV×List (Option Blk)×List Blk):=bO bB (bO (aL []) (aL []))
def T.q74(N:Nat):Au R:={f:=10,arg:=E.q74_a,res:=E.q74_r,fn:=λ d k=>F.rp N d.1.1.1 d.1.1.2.1 d.1.1.2.2.1 d.1.1.2.2.2.1 d.1.1.2.2.2.2.1 (λ x0=>k (x0,((),())))}
def H.q74:A4:={lp:=[]}
theorem WF.f10:Bb Try.prog 10 Try.f10:=Aq Try.func10 (by decide) (by kernel_rfl)
theorem F.zp(N:Nat)(d:E.q74_a.D)(k:AV->List (Option Blk)->List Blk->Option R):
  Hr cfg (B1 [T.q73 N]) (Bg []) H.q74 Try.f10 (E.q74_a.to d).1 (E.q74_a.to d).2 k=(T.q74 N).fn d λ x=>k (E.q74_r.to x).1 (E.q74_r.to x).2.1 (E.q74_r.to x).2.2:=by kernel_rfl
theorem TK.q74(N:Nat):Ak Try.prog (T.q74 (R:=R) N):=
 Al (h:=H.q74) hC hm (Ae (TK.q73 N) Ac) WF.f10 (λ d=>Ab) (F.zp N)
abbrev E.q75_a:Enc (List AV×List Blk):=bS (lN AV) rfl (lN Blk)
abbrev E.q75_r:Enc (AV×List (Option Blk)×List Blk):=bS (fN 29 (lN AV)) rfl (bS (lN (Option Blk)) rfl (lN Blk))
def T.q75:Au R:={f:=13,arg:=E.q75_a,res:=E.q75_r,fn:=F.az}
def H.q75:A4:={lp:=[]}
theorem WF.f13:Bb Try.prog 13 Try.f13:=Aq Try.func13 (by decide) (by kernel_rfl)
theorem TK.q75:Ak Try.prog (T.q75 (R:=R)):=
 Al (h:=H.q75) hC hm Ac WF.f13 (λ d=>Ab) (λ _ _=>by kernel_rfl)
abbrev E.q76_a:Enc (List AV×List Blk):=bO (vA [Ae8,(iN .i64),(iN .i64)]) (aL [])
abbrev E.q76_r:Enc (AV×List (Option Blk)×List Blk):=bO (iN .i64) (bO (aL []) (aL []))
def T.q76:Au R:={f:=14,arg:=E.q76_a,res:=E.q76_r,fn:=λ d k=>F.ly d.1.1.1 d.1.1.2.1 d.1.1.2.2.1 d.1.1.2.2.2.1 d.1.1.2.2.2.2.1 d.1.2.1 d.1.2.2.1 (λ x0=>k (x0,((),())))}
def H.q76:A4:={lp:=[]}
theorem WF.f14:Bb Try.prog 14 Try.f14:=Aq Try.func14 (by decide) (by kernel_rfl)
theorem F.yk(d:E.q76_a.D)(k:AV->List (Option Blk)->List Blk->Option R):
  Hr cfg (B1 []) (Bg []) H.q76 Try.f14 (E.q76_a.to d).1 (E.q76_a.to d).2 k=(T.q76).fn d λ x=>k (E.q76_r.to x).1 (E.q76_r.to x).2.1 (E.q76_r.to x).2.2:=by kernel_rfl
theorem TK.q76:Ak Try.prog (T.q76 (R:=R)):=
 Al (h:=H.q76) hC hm Ac WF.f14 (λ d=>Ab) (F.yk)
abbrev E.q77_l2_i:Enc St:=sT 6 (aL [(kY 1 (pB 0 0)),(kY 3 (pB 1 0)),(kY 4 (pB 2 0)),(kY 5 (pB 3 0)),(kY 21 Agz)]) (aL [(kY 0 V2),(kY 1 Ri),(kY 2 Ae9),(kY 3 Cz),(kY 4 Atr),(kY 5 en5)])
abbrev E.q77_l2_onormal:Enc St:=sT 6 (aL [(kY 1 (pB 0 0)),(kY 3 (pB 1 0)),(kY 4 (pB 2 0)),(kY 5 (pB 3 0))]) (aL [(kY 0 V2),(kY 1 Ri),(kY 2 Ae9),(kY 3 Cz),(kY 4 Atr),(kY 5 en5)])
abbrev E.q77_l0_i:Enc St:=sT 6 (aL [(kY 1 (pB 0 0)),(kY 3 (pB 1 0)),(kY 4 (pB 2 0)),(kY 5 (pB 3 0))]) (aL [(kY 0 V2),(kY 1 Ri),(kY 2 Ae9),(kY 3 Cz),(kY 4 Atr),(kY 5 en5)])
abbrev E.q77_l0_oe0:Enc St:=sT 2 (aL [(kY 4 (pB 0 0))]) (aL [(kY 0 (cE (vA [(sL 1)]))),(kY 1 en5)])
abbrev E.q77_a:Enc (List AV×List Blk):=bO (vA [Ae8]) (aL [])
abbrev E.q77_r:Enc (AV×List (Option Blk)×List Blk):=bO (sL 0) (bO (aL []) (aL [en5]))
def T.q77(N:Nat):Au R:={f:=11,arg:=E.q77_a,res:=E.q77_r,fn:=λ d k=>F.lj N d.1.1.1 d.1.1.2.1 d.1.1.2.2.1 d.1.1.2.2.2.1 d.1.1.2.2.2.2.1 (λ x0=>k ((),((),((x0,()),()))))}
def H.q77:A4:={lp:=[(0,[1,3,4,5],[4]),(2,[1,3,4,5,21],[1,3,4,5])]}
theorem WF.f11:Bb Try.prog 11 Try.f11:=Aq Try.func11 (by decide) (by kernel_rfl)
theorem CK.f29:Yx Try.prog 29 256:=Ai6 Try.func29 (by decide) (by kernel_rfl)
def G.impl_Dfa_reached_l2(C N:Nat)(n j:Nat)(d:E.q77_l2_i.D)(k:Ex->St->Option R):Option R:=F.be C N n j d.2.1.1 d.2.1.2.1 d.2.1.2.2.1 d.2.1.2.2.2.1 d.2.1.2.2.2.2.1 d.2.2.2.2.1.1 d.2.2.2.2.2.1.1 d.2.2.2.2.2.2.1.1 (λ y0 y1 y2 y3 y4 y5 y6 y7=>k .normal (E.q77_l2_onormal.to (((),((),((),((),())))),((y0,(y1,(y2,(y3,(y4,()))))),(((),()),(((),()),((y5,()),((y6,()),((y7,()),())))))))))
def TL.q77_l2(C N:Nat):Am R:={b:=2,st:=E.q77_l2_i,fn:=λ d k=>G.impl_Dfa_reached_l2 C N C 0 d k}
def Q.impl_Dfa_reached_l2(C N:Nat)(j:Nat)(d:E.q77_l2_i.D)(next:E.q77_l2_i.D->Option R):Option R:=F.oi C N j d.2.1.1 d.2.1.2.1 d.2.1.2.2.1 d.2.1.2.2.2.1 d.2.1.2.2.2.2.1 d.2.2.2.2.1.1 d.2.2.2.2.2.1.1 d.2.2.2.2.2.2.1.1 (λ x0 x1 x2 x3 x4 x5 x6 x7=>next (((),((),((),((),((),()))))),((x0,(x1,(x2,(x3,(x4,()))))),(((),()),(((),()),((x5,()),((x6,()),((x7,()),()))))))))
theorem F.vj(C N:Nat)(j:Nat)(d:E.q77_l2_i.D)(next:St->Option R):
  roundE cfg (B1 [T.q76]) (Bg []) 0 H.q77 2 22 (rfA (bodyOf Try.f11 2)) (rfB (bodyOf Try.f11 2)) [1,3,4,5,21] j (E.q77_l2_i.to d) next=Q.impl_Dfa_reached_l2 C N j d λ x=>next (E.q77_l2_i.to x):=by kernel_rfl
theorem F.ur(C N:Nat)(j:Nat)(d:E.q77_l2_i.D)(k:Ex->St->Option R):Hm 0 H.q77 [1,3,4,5] (E.q77_l2_i.to d) k=G.impl_Dfa_reached_l2 C N 0 j d k:=by kernel_rfl
theorem LK.q77_l2(N:Nat):Ah Try.prog 0 Try.f11.ntmps (bodyOf Try.f11) (TL.q77_l2 (R:=R) 256 N):=
 Gm (i:=[1,3,4,5,21]) (o:=[1,3,4,5]) (h:=H.q77) (p:=22) (gf:=29) (K:=256) hC hm (Ae TK.q76 Ac) WF.f11 Ab (by kernel_rfl) CK.f29 (by kernel_rfl) (λ d=>Aj rfl) (λ d=>by kernel_rfl) (G.impl_Dfa_reached_l2 256 N) (Q.impl_Dfa_reached_l2 256 N) (λ _ _=>rfl) (F.ur 256 N) (λ _ _ _ _=>rfl) (F.vj 256 N)
def G.impl_Dfa_reached_l0(C N:Nat)(n:Nat)(d:E.q77_l0_i.D)(k:Ex->St->Option R):Option R:=F.dz C N n d.2.1.1 d.2.1.2.1 d.2.1.2.2.1 d.2.1.2.2.2.1 d.2.1.2.2.2.2.1 d.2.2.2.2.1.1 d.2.2.2.2.2.1.1 d.2.2.2.2.2.2.1.1 (λ y0=>k (.exit 0) (E.q77_l0_oe0.to (((),()),(((),()),((y0,()),())))))
def TL.q77_l0(C N:Nat):Am R:={b:=0,st:=E.q77_l0_i,fn:=λ d k=>G.impl_Dfa_reached_l0 C N N d k}
def Q.impl_Dfa_reached_l0(C N:Nat)(d:E.q77_l0_i.D)(k:Ex->St->Option R)(next:E.q77_l0_i.D->Option R):Option R:=F.oj C N d.2.1.1 d.2.1.2.1 d.2.1.2.2.1 d.2.1.2.2.2.1 d.2.1.2.2.2.2.1 d.2.2.2.2.1.1 d.2.2.2.2.2.1.1 d.2.2.2.2.2.2.1.1 (λ x0 x1 x2 x3 x4 x5 x6 x7=>next (((),((),((),((),())))),((x0,(x1,(x2,(x3,(x4,()))))),(((),()),(((),()),((x5,()),((x6,()),((x7,()),())))))))) (λ y0=>k (.exit 0) (E.q77_l0_oe0.to (((),()),(((),()),((y0,()),())))))
theorem F.vm(C N:Nat)(d:E.q77_l0_i.D)(next:St->Option R)(k:Ex->St->Option R):
  stepE cfg (B1 [T.q75]) (Bg [TL.q77_l2 C N]) 0 H.q77 0 (bodyOf Try.f11 0) [1,3,4,5] [4] (E.q77_l0_i.to d) next k=Q.impl_Dfa_reached_l0 C N d k λ x=>next (E.q77_l0_i.to x):=by kernel_rfl
theorem LK.q77_l0(N:Nat):Ah Try.prog 0 Try.f11.ntmps (bodyOf Try.f11) (TL.q77_l0 (R:=R) 256 N):=
 De (i:=[1,3,4,5]) (o:=[4]) (h:=H.q77) hC hm (Ae TK.q75 Ac) WF.f11 (Af (LK.q77_l2 N) Ab) (by kernel_rfl) (λ d=>Aj rfl) (G.impl_Dfa_reached_l0 256 N) N (Q.impl_Dfa_reached_l0 256 N) (λ _ _=>rfl) (λ _ _=>rfl) (λ _ _ _=>rfl) (F.vm 256 N)
def T.q77_c(C N:Nat):Au R:={f:=11,arg:=E.q77_a,res:=E.q77_r,fn:=λ d k=>F.pz C N d.1.1.1 d.1.1.2.1 d.1.1.2.2.1 d.1.1.2.2.2.1 d.1.1.2.2.2.2.1 (λ x0=>k ((),((),((x0,()),()))))}
theorem F.wz(C N:Nat)(d:E.q77_a.D)(k:AV->List (Option Blk)->List Blk->Option R):
  Hr cfg (B1 []) (Bg [TL.q77_l0 C N]) H.q77 Try.f11 (E.q77_a.to d).1 (E.q77_a.to d).2 k=(T.q77_c C N).fn d λ x=>k (E.q77_r.to x).1 (E.q77_r.to x).2.1 (E.q77_r.to x).2.2:=by kernel_rfl
theorem TK.q77(N:Nat):Ak Try.prog (T.q77 (R:=R) N):=
 Al (h:=H.q77) hC hm Ac WF.f11 (λ d=>(Af (LK.q77_l0 N) Ab)) (F.wz 256 N)
abbrev E.q78_a:Enc (List AV×List Blk):=bO (vA [(iN .i64),Arz]) (aL [])
abbrev E.q78_r:Enc (AV×List (Option Blk)×List Blk):=bO (aR 2 (.int .i64)) (bO (aL []) (aL []))
def T.q78:Au R:={f:=26,arg:=E.q78_a,res:=E.q78_r,fn:=λ d k=>F.nt d.1.1 d.1.2.1.1 d.1.2.1.2.1 d.1.2.1.2.2.1 d.1.2.1.2.2.2.1 d.1.2.1.2.2.2.2.1 (λ x0=>k (x0,((),())))}
def H.q78:A4:={lp:=[]}
theorem WF.f26:Bb Try.prog 26 Try.f26:=Aq Try.func26 (by decide) (by kernel_rfl)
theorem F.wc(d:E.q78_a.D)(k:AV->List (Option Blk)->List Blk->Option R):
  Hr cfg (B1 []) (Bg []) H.q78 Try.f26 (E.q78_a.to d).1 (E.q78_a.to d).2 k=(T.q78).fn d λ x=>k (E.q78_r.to x).1 (E.q78_r.to x).2.1 (E.q78_r.to x).2.2:=by kernel_rfl
theorem TK.q78:Ak Try.prog (T.q78 (R:=R)):=
 Al (h:=H.q78) hC hm Ac WF.f26 (λ d=>Ab) (F.wc)
abbrev E.q79_l0_i:Enc St:=sT 7 (aL [(kY 0 Ar0),(kY 1 (pB 1 0)),(kY 3 (pB 2 0)),(kY 5 (mP 4)),(kY 6 (sL 5)),(kY 16 Hh),(kY 17 (iN .i64)),(kY 18 (iN .i64))]) (aL [(kY 0 Rj),(kY 1 Aj6),(kY 2 Cz),(kY 4 Afb),(kY 5 en5),(kY 6 en5)])
abbrev E.q79_l0_oe0:Enc St:=sT 7 (aL [(kY 1 (pB 1 0)),(kY 3 (pB 2 0)),(kY 5 (mP 4)),(kY 6 (sL 5))]) (aL [(kY 0 Rj),(kY 1 Aj6),(kY 2 Cz),(kY 4 Afb),(kY 5 en5),(kY 6 en5)])
abbrev E.q79_a:Enc (List AV×List Blk):=bO (vA [Ar0,(pB 1 0),(pR 0 0 (vA [Hh])),(pB 2 0)]) (aL [Rj,(cE (vA [(sL 3)])),Cz,en5])
abbrev E.q79_r:Enc (AV×List (Option Blk)×List Blk):=bO (tP (vA [])) (bO (aL [(sM Rj),(sM Ri),(sM Cz),(nO Blk)]) (aL [en5]))
def T.q79(N:Nat):Au R:={f:=25,arg:=E.q79_a,res:=E.q79_r,fn:=λ d k=>F.nu N d.1.2.2.1.1 d.2.1.1 d.2.1.2.1 d.2.1.2.2.1 d.2.1.2.2.2.1 d.2.1.2.2.2.2.1 d.2.2.2.1.1 d.2.2.2.2.1.1 (λ x0 x1 x2 x3 x4 x5 x6=>k ((),(((x0,(x1,(x2,(x3,(x4,()))))),(((),()),((x5,()),((),())))),((x6,()),()))))}
def H.q79:A4:={lp:=[(0,[0,1,3,5,6,16,17,18],[1,3,5,6])]}
theorem WF.f25:Bb Try.prog 25 Try.f25:=Aq Try.func25 (by decide) (by kernel_rfl)
def G.impl_Dfa_blocks_1_l0(N:Nat)(n:Nat)(d:E.q79_l0_i.D)(k:Ex->St->Option R):Option R:=F.ba N n d.1.2.2.2.2.2.1 d.1.2.2.2.2.2.2.1 d.1.2.2.2.2.2.2.2.1 d.2.1.1 d.2.1.2.1 d.2.1.2.2.1 d.2.1.2.2.2.1 d.2.1.2.2.2.2.1 d.2.2.2.1.1 d.2.2.2.2.1 d.2.2.2.2.2.1.1 d.2.2.2.2.2.2.1.1 (λ y0 y1 y2 y3 y4 y5 y6 y7 y8=>k (.exit 0) (E.q79_l0_oe0.to (((),((),((),((),())))),((y0,(y1,(y2,(y3,(y4,()))))),(((),()),((y5,()),(y6,((y7,()),((y8,()),())))))))))
def TL.q79_l0(N:Nat):Am R:={b:=0,st:=E.q79_l0_i,fn:=λ d k=>G.impl_Dfa_blocks_1_l0 N N d k}
def Q.impl_Dfa_blocks_1_l0(N:Nat)(d:E.q79_l0_i.D)(k:Ex->St->Option R)(next:E.q79_l0_i.D->Option R):Option R:=F.bg N d.1.2.2.2.2.2.1 d.1.2.2.2.2.2.2.1 d.1.2.2.2.2.2.2.2.1 d.2.1.1 d.2.1.2.1 d.2.1.2.2.1 d.2.1.2.2.2.1 d.2.1.2.2.2.2.1 d.2.2.2.1.1 d.2.2.2.2.1 d.2.2.2.2.2.1.1 d.2.2.2.2.2.2.1.1 (λ x0 x1 x2 x3 x4 x5 x6 x7 x8 x9 x10 x11=>next ((((),()),((),((),((),((),(x0,(x1,(x2,())))))))),((x3,(x4,(x5,(x6,(x7,()))))),(((),()),((x8,()),(x9,((x10,()),((x11,()),())))))))) (λ y0 y1 y2 y3 y4 y5 y6 y7 y8=>k (.exit 0) (E.q79_l0_oe0.to (((),((),((),((),())))),((y0,(y1,(y2,(y3,(y4,()))))),(((),()),((y5,()),(y6,((y7,()),((y8,()),())))))))))
theorem F.ut(N:Nat)(d:E.q79_l0_i.D)(next:St->Option R)(k:Ex->St->Option R):
  stepE cfg (B1 [T.q78]) (Bg []) 4 H.q79 0 (bodyOf Try.f25 0) [0,1,3,5,6,16,17,18] [1,3,5,6] (E.q79_l0_i.to d) next k=Q.impl_Dfa_blocks_1_l0 N d k λ x=>next (E.q79_l0_i.to x):=Eq.trans (b:=F.bg N d.1.2.2.2.2.2.1 d.1.2.2.2.2.2.2.1 d.1.2.2.2.2.2.2.2.1 d.2.1.1 d.2.1.2.1 d.2.1.2.2.1 d.2.1.2.2.2.1 d.2.1.2.2.2.2.1 d.2.2.2.1.1 d.2.2.2.2.1 d.2.2.2.2.2.1.1 d.2.2.2.2.2.2.1.1 (λ x0 x1 x2 x3 x4 x5 x6 x7 x8 x9 x10 x11=>next {tm:=[(0,(.fn 26 [(.pb 0 0 [])])),(1,(.pb 1 0 [])),(3,(.pb 2 0 [])),(5,(.mp 4)),(6,(.sl 5)),(16,(.ro (.reg 1) (.int .i64) x0)),(17,(.int .i64 x1)),(18,(.int .i64 x2))],st:=[(0,(.cell false 0 [(.ro (.reg 2) (.int .i64) x3),(.int .i64 x4),(.ro (.reg 2) (.int .i64) x5),(.ro (.reg 2) (.int .i64) x6),(.ro (.reg 2) (.int .i64) x7)])),(1,(.cell false 0 [(.sl 6)])),(2,(.cell false 0 [(.int .i64 x8)])),(4,(.map Ag9 (.int .i64) x9)),(5,(.cell false 0 [(.rw (.int .i64) x10)])),(6,(.cell false 0 [(.rw (.int .i64) x11)]))],nx:=7}) (λ y0 y1 y2 y3 y4 y5 y6 y7 y8=>k (.exit 0) {tm:=[(1,(.pb 1 0 [])),(3,(.pb 2 0 [])),(5,(.mp 4)),(6,(.sl 5))],st:=[(0,(.cell false 0 [(.ro (.reg 2) (.int .i64) y0),(.int .i64 y1),(.ro (.reg 2) (.int .i64) y2),(.ro (.reg 2) (.int .i64) y3),(.ro (.reg 2) (.int .i64) y4)])),(1,(.cell false 0 [(.sl 6)])),(2,(.cell false 0 [(.int .i64 y5)])),(4,(.map Ag9 (.int .i64) y6)),(5,(.cell false 0 [(.rw (.int .i64) y7)])),(6,(.cell false 0 [(.rw (.int .i64) y8)]))],nx:=7})) (by kernel_rfl) (by kernel_rfl)
theorem LK.q79_l0(N:Nat):Ah Try.prog 4 Try.f25.ntmps (bodyOf Try.f25) (TL.q79_l0 (R:=R) N):=
 De (i:=[0,1,3,5,6,16,17,18]) (o:=[1,3,5,6]) (h:=H.q79) hC hm (Ae TK.q78 Ac) WF.f25 Ab (by kernel_rfl) (λ d=>Aj rfl) (G.impl_Dfa_blocks_1_l0 N) N (Q.impl_Dfa_blocks_1_l0 N) (λ _ _=>rfl) (λ _ _=>rfl) (λ _ _ _=>rfl) (F.ut N)
theorem F.we(N:Nat)(d:E.q79_a.D)(k:AV->List (Option Blk)->List Blk->Option R):
  Hr cfg (B1 []) (Bg [TL.q79_l0 N]) H.q79 Try.f25 (E.q79_a.to d).1 (E.q79_a.to d).2 k=(T.q79 N).fn d λ x=>k (E.q79_r.to x).1 (E.q79_r.to x).2.1 (E.q79_r.to x).2.2:=by kernel_rfl
theorem TK.q79(N:Nat):Ak Try.prog (T.q79 (R:=R) N):=
 Al (h:=H.q79) hC hm Ac WF.f25 (λ d=>(Af (LK.q79_l0 N) Ab)) (F.we N)
abbrev E.q80_l0_i:Enc St:=sT 0 (aL [(kY 0 Hh),(kY 1 (iN .i64)),(kY 7 (iN .i64)),(kY 8 (iN .i64))]) (aL [])
abbrev E.q80_l0_oe0:Enc St:=sT 0 (aL [(kY 4 uN)]) (aL [])
abbrev E.q80_l0_oret:Enc St:=sT 0 (aL [(kY 4 (iN .i64))]) (aL [])
abbrev E.q80_a:Enc (List AV×List Blk):=bO (vA [Hh,(iN .i64)]) (aL [])
abbrev E.q80_r:Enc (AV×List (Option Blk)×List Blk):=bO (iN .i64) (bO (aL []) (aL []))
def T.q80(N:Nat):Au R:={f:=27,arg:=E.q80_a,res:=E.q80_r,fn:=λ d k=>F.rq N d.1.1 d.1.2.1 (λ x0=>k (x0,((),())))}
def H.q80:A4:={lp:=[(0,[0,1,7,8],[4])]}
theorem WF.f27:Bb Try.prog 27 Try.f27:=Aq Try.func27 (by decide) (by kernel_rfl)
def G.slices_Index_l0(N:Nat)(n:Nat)(d:E.q80_l0_i.D)(k:Ex->St->Option R):Option R:=F.na N n d.1.1 d.1.2.1 d.1.2.2.1 d.1.2.2.2.1 (λ _=>k (.exit 0) (E.q80_l0_oe0.to (((),()),()))) (λ y0=>k .ret (E.q80_l0_oret.to ((y0,()),())))
def TL.q80_l0(N:Nat):Am R:={b:=0,st:=E.q80_l0_i,fn:=λ d k=>G.slices_Index_l0 N N d k}
def Q.slices_Index_l0(N:Nat)(d:E.q80_l0_i.D)(k:Ex->St->Option R)(next:E.q80_l0_i.D->Option R):Option R:=F.qn N d.1.1 d.1.2.1 d.1.2.2.1 d.1.2.2.2.1 (λ x0 x1 x2 x3=>next ((x0,(x1,(x2,(x3,())))),())) (λ _=>k (.exit 0) (E.q80_l0_oe0.to (((),()),()))) (λ y0=>k .ret (E.q80_l0_oret.to ((y0,()),())))
theorem F.xn(N:Nat)(d:E.q80_l0_i.D)(next:St->Option R)(k:Ex->St->Option R):
  stepE cfg (B1 []) (Bg []) 0 H.q80 0 (bodyOf Try.f27 0) [0,1,7,8] [4] (E.q80_l0_i.to d) next k=Q.slices_Index_l0 N d k λ x=>next (E.q80_l0_i.to x):=by kernel_rfl
theorem LK.q80_l0(N:Nat):Ah Try.prog 0 Try.f27.ntmps (bodyOf Try.f27) (TL.q80_l0 (R:=R) N):=
 De (i:=[0,1,7,8]) (o:=[4]) (h:=H.q80) hC hm Ac WF.f27 Ab (by kernel_rfl) (λ d=>Aj rfl) (G.slices_Index_l0 N) N (Q.slices_Index_l0 N) (λ _ _=>rfl) (λ _ _=>rfl) (λ _ _ _=>rfl) (F.xn N)
theorem F.zf(N:Nat)(d:E.q80_a.D)(k:AV->List (Option Blk)->List Blk->Option R):
  Hr cfg (B1 []) (Bg [TL.q80_l0 N]) H.q80 Try.f27 (E.q80_a.to d).1 (E.q80_a.to d).2 k=(T.q80 N).fn d λ x=>k (E.q80_r.to x).1 (E.q80_r.to x).2.1 (E.q80_r.to x).2.2:=by kernel_rfl
theorem TK.q80(N:Nat):Ak Try.prog (T.q80 (R:=R) N):=
 Al (h:=H.q80) hC hm Ac WF.f27 (λ d=>(Af (LK.q80_l0 N) Ab)) (F.zf N)
abbrev E.q81_a:Enc (List AV×List Blk):=bO (vA [(iN .i64),(pR 0 0 (vA [Ec])),Arz,Aj4]) (aL [])
abbrev E.q81_r:Enc (AV×List (Option Blk)×List Blk):=bO (aR 2 (.int .i64)) (bO (aL []) (aL []))
def T.q81:Au R:={f:=28,arg:=E.q81_a,res:=E.q81_r,fn:=λ d k=>F.nv d.1.1 d.1.2.1.1 d.1.2.2.1.1 d.1.2.2.1.2.1 d.1.2.2.1.2.2.1 d.1.2.2.1.2.2.2.1 d.1.2.2.1.2.2.2.2.1 d.1.2.2.2.1.1 (λ x0=>k (x0,((),())))}
def H.q81:A4:={lp:=[]}
theorem WF.f28:Bb Try.prog 28 Try.f28:=Aq Try.func28 (by decide) (by kernel_rfl)
theorem F.wg(d:E.q81_a.D)(k:AV->List (Option Blk)->List Blk->Option R):
  Hr cfg (B1 [T.q76]) (Bg []) H.q81 Try.f28 (E.q81_a.to d).1 (E.q81_a.to d).2 k=(T.q81).fn d λ x=>k (E.q81_r.to x).1 (E.q81_r.to x).2.1 (E.q81_r.to x).2.2:=by kernel_rfl
theorem TK.q81:Ak Try.prog (T.q81 (R:=R)):=
 Al (h:=H.q81) hC hm (Ae TK.q76 Ac) WF.f28 (λ d=>Ab) (F.wg)
abbrev E.q82_l0_i:Enc St:=sT 8 (aL [(kY 0 Ar1),(kY 1 (pB 0 0)),(kY 3 (pB 3 0)),(kY 5 (mP 5)),(kY 6 (sL 6)),(kY 16 Hh),(kY 17 (iN .i64)),(kY 18 (iN .i64))]) (aL [(kY 0 (cE (vA [(sL 7)]))),(kY 1 Rj),(kY 2 Cz),(kY 3 Cz),(kY 5 Afb),(kY 6 en5),(kY 7 en5)])
abbrev E.q82_l0_oe0:Enc St:=sT 8 (aL [(kY 1 (pB 0 0)),(kY 3 (pB 3 0)),(kY 5 (mP 5)),(kY 6 (sL 6))]) (aL [(kY 0 (cE (vA [(sL 7)]))),(kY 1 Rj),(kY 2 Cz),(kY 3 Cz),(kY 5 Afb),(kY 6 en5),(kY 7 en5)])
abbrev E.q82_a:Enc (List AV×List Blk):=bO (vA [Ar1,(pB 0 0),(pR 0 0 (vA [Hh])),(pB 3 0)]) (aL [Ri,Rj,Cz,Cz,en5])
abbrev E.q82_r:Enc (AV×List (Option Blk)×List Blk):=bO (tP (vA [])) (bO (aL [(sM Ae9),(sM Rj),(sM Cz),(sM Cz),(nO Blk)]) (aL [en5]))
def T.q82(N:Nat):Au R:={f:=25,arg:=E.q82_a,res:=E.q82_r,fn:=λ d k=>F.km N d.1.2.2.1.1 d.2.2.1.1 d.2.2.1.2.1 d.2.2.1.2.2.1 d.2.2.1.2.2.2.1 d.2.2.1.2.2.2.2.1 d.2.2.2.1.1 d.2.2.2.2.1.1 d.2.2.2.2.2.1.1 (λ x0 x1 x2 x3 x4 x5 x6 x7=>k ((),((((),()),((x0,(x1,(x2,(x3,(x4,()))))),((x5,()),((x6,()),((),()))))),((x7,()),()))))}
def H.q82:A4:={lp:=[(0,[0,1,3,5,6,16,17,18],[1,3,5,6])]}
def G.impl_Dfa_blocks_1_v1_l0(N:Nat)(n:Nat)(d:E.q82_l0_i.D)(k:Ex->St->Option R):Option R:=F.ap N n d.1.2.2.2.2.2.1 d.1.2.2.2.2.2.2.1 d.1.2.2.2.2.2.2.2.1 d.2.2.1.1 d.2.2.1.2.1 d.2.2.1.2.2.1 d.2.2.1.2.2.2.1 d.2.2.1.2.2.2.2.1 d.2.2.2.1.1 d.2.2.2.2.1.1 d.2.2.2.2.2.1 d.2.2.2.2.2.2.1.1 d.2.2.2.2.2.2.2.1.1 (λ y0 y1 y2 y3 y4 y5 y6 y7 y8 y9=>k (.exit 0) (E.q82_l0_oe0.to (((),((),((),((),())))),(((),()),((y0,(y1,(y2,(y3,(y4,()))))),((y5,()),((y6,()),(y7,((y8,()),((y9,()),()))))))))))
def TL.q82_l0(N:Nat):Am R:={b:=0,st:=E.q82_l0_i,fn:=λ d k=>G.impl_Dfa_blocks_1_v1_l0 N N d k}
def Q.impl_Dfa_blocks_1_v1_l0(N:Nat)(d:E.q82_l0_i.D)(k:Ex->St->Option R)(next:E.q82_l0_i.D->Option R):Option R:=F.aq N d.1.2.2.2.2.2.1 d.1.2.2.2.2.2.2.1 d.1.2.2.2.2.2.2.2.1 d.2.2.1.1 d.2.2.1.2.1 d.2.2.1.2.2.1 d.2.2.1.2.2.2.1 d.2.2.1.2.2.2.2.1 d.2.2.2.1.1 d.2.2.2.2.1.1 d.2.2.2.2.2.1 d.2.2.2.2.2.2.1.1 d.2.2.2.2.2.2.2.1.1 (λ x0 x1 x2 x3 x4 x5 x6 x7 x8 x9 x10 x11 x12=>next ((((),((),((),()))),((),((),((),((),(x0,(x1,(x2,())))))))),(((),()),((x3,(x4,(x5,(x6,(x7,()))))),((x8,()),((x9,()),(x10,((x11,()),((x12,()),()))))))))) (λ y0 y1 y2 y3 y4 y5 y6 y7 y8 y9=>k (.exit 0) (E.q82_l0_oe0.to (((),((),((),((),())))),(((),()),((y0,(y1,(y2,(y3,(y4,()))))),((y5,()),((y6,()),(y7,((y8,()),((y9,()),()))))))))))
theorem F.si(N:Nat)(d:E.q82_l0_i.D)(next:St->Option R)(k:Ex->St->Option R):
  stepE cfg (B1 [T.q81]) (Bg []) 5 H.q82 0 (bodyOf Try.f25 0) [0,1,3,5,6,16,17,18] [1,3,5,6] (E.q82_l0_i.to d) next k=Q.impl_Dfa_blocks_1_v1_l0 N d k λ x=>next (E.q82_l0_i.to x):=Eq.trans (b:=F.aq N d.1.2.2.2.2.2.1 d.1.2.2.2.2.2.2.1 d.1.2.2.2.2.2.2.2.1 d.2.2.1.1 d.2.2.1.2.1 d.2.2.1.2.2.1 d.2.2.1.2.2.2.1 d.2.2.1.2.2.2.2.1 d.2.2.2.1.1 d.2.2.2.2.1.1 d.2.2.2.2.2.1 d.2.2.2.2.2.2.1.1 d.2.2.2.2.2.2.2.1.1 (λ x0 x1 x2 x3 x4 x5 x6 x7 x8 x9 x10 x11 x12=>next {tm:=[(0,(.fn 28 [(.pb 0 0 []),(.pb 1 0 []),(.pb 2 0 [])])),(1,(.pb 0 0 [])),(3,(.pb 3 0 [])),(5,(.mp 5)),(6,(.sl 6)),(16,(.ro (.reg 1) (.int .i64) x0)),(17,(.int .i64 x1)),(18,(.int .i64 x2))],st:=[(0,(.cell false 0 [(.sl 7)])),(1,(.cell false 0 [(.ro (.reg 2) (.int .i64) x3),(.int .i64 x4),(.ro (.reg 2) (.int .i64) x5),(.ro (.reg 2) (.int .i64) x6),(.ro (.reg 2) (.int .i64) x7)])),(2,(.cell false 0 [(.int .i64 x8)])),(3,(.cell false 0 [(.int .i64 x9)])),(5,(.map Ag9 (.int .i64) x10)),(6,(.cell false 0 [(.rw (.int .i64) x11)])),(7,(.cell false 0 [(.rw (.int .i64) x12)]))],nx:=8}) (λ y0 y1 y2 y3 y4 y5 y6 y7 y8 y9=>k (.exit 0) {tm:=[(1,(.pb 0 0 [])),(3,(.pb 3 0 [])),(5,(.mp 5)),(6,(.sl 6))],st:=[(0,(.cell false 0 [(.sl 7)])),(1,(.cell false 0 [(.ro (.reg 2) (.int .i64) y0),(.int .i64 y1),(.ro (.reg 2) (.int .i64) y2),(.ro (.reg 2) (.int .i64) y3),(.ro (.reg 2) (.int .i64) y4)])),(2,(.cell false 0 [(.int .i64 y5)])),(3,(.cell false 0 [(.int .i64 y6)])),(5,(.map Ag9 (.int .i64) y7)),(6,(.cell false 0 [(.rw (.int .i64) y8)])),(7,(.cell false 0 [(.rw (.int .i64) y9)]))],nx:=8})) (by kernel_rfl) (by kernel_rfl)
theorem LK.q82_l0(N:Nat):Ah Try.prog 5 Try.f25.ntmps (bodyOf Try.f25) (TL.q82_l0 (R:=R) N):=
 De (i:=[0,1,3,5,6,16,17,18]) (o:=[1,3,5,6]) (h:=H.q82) hC hm (Ae TK.q81 Ac) WF.f25 Ab (by kernel_rfl) (λ d=>Aj rfl) (G.impl_Dfa_blocks_1_v1_l0 N) N (Q.impl_Dfa_blocks_1_v1_l0 N) (λ _ _=>rfl) (λ _ _=>rfl) (λ _ _ _=>rfl) (F.si N)
theorem F.uv(N:Nat)(d:E.q82_a.D)(k:AV->List (Option Blk)->List Blk->Option R):
  Hr cfg (B1 []) (Bg [TL.q82_l0 N]) H.q82 Try.f25 (E.q82_a.to d).1 (E.q82_a.to d).2 k=(T.q82 N).fn d λ x=>k (E.q82_r.to x).1 (E.q82_r.to x).2.1 (E.q82_r.to x).2.2:=by kernel_rfl
theorem TK.q82(N:Nat):Ak Try.prog (T.q82 (R:=R) N):=
 Al (h:=H.q82) hC hm Ac WF.f25 (λ d=>(Af (LK.q82_l0 N) Ab)) (F.uv N)
abbrev E.q83_l2_i:Enc St:=sT 6 (aL [(kY 2 (pB 0 0)),(kY 5 (pB 1 0)),(kY 6 (pB 2 0)),(kY 7 (pB 3 0)),(kY 8 (iN .i64)),(kY 22 Agz)]) (aL [(kY 0 V2),(kY 1 Ri),(kY 2 Cz),(kY 3 Aj7),(kY 4 en5),(kY 5 Aj8)])
abbrev E.q83_l2_onormal:Enc St:=sT 6 (aL [(kY 2 (pB 0 0)),(kY 5 (pB 1 0)),(kY 6 (pB 2 0)),(kY 7 (pB 3 0)),(kY 8 (iN .i64))]) (aL [(kY 0 V2),(kY 1 Ri),(kY 2 Cz),(kY 3 Aj7),(kY 4 en5),(kY 5 Aj8)])
abbrev E.q83_l0_i:Enc St:=sT 6 (aL [(kY 2 (pB 0 0)),(kY 5 (pB 1 0)),(kY 6 (pB 2 0)),(kY 7 (pB 3 0)),(kY 8 (iN .i64))]) (aL [(kY 0 V2),(kY 1 Ri),(kY 2 Cz),(kY 3 Aj7),(kY 4 en5),(kY 5 Aj8)])
abbrev E.q83_l0_oe0:Enc St:=sT 2 (aL [(kY 5 (pB 0 0))]) (aL [(kY 0 (cE (vA [(sL 1)]))),(kY 1 en5)])
abbrev E.q83_a:Enc (List AV×List Blk):=bO (vA [Ae8,Ec]) (aL [])
abbrev E.q83_r:Enc (AV×List (Option Blk)×List Blk):=bO (sL 0) (bO (aL []) (aL [en5]))
def T.q83(N:Nat):Au R:={f:=12,arg:=E.q83_a,res:=E.q83_r,fn:=λ d k=>F.nh N d.1.1.1 d.1.1.2.1 d.1.1.2.2.1 d.1.1.2.2.2.1 d.1.1.2.2.2.2.1 d.1.2.1 (λ x0=>k ((),((),((x0,()),()))))}
def H.q83:A4:={lp:=[(0,[2,5,6,7,8],[5]),(2,[2,5,6,7,8,22],[2,5,6,7,8])]}
theorem WF.f12:Bb Try.prog 12 Try.f12:=Aq Try.func12 (by decide) (by kernel_rfl)
def G.impl_Dfa_blocks_l2(C N:Nat)(n j:Nat)(d:E.q83_l2_i.D)(k:Ex->St->Option R):Option R:=F.al C N n j d.1.2.2.2.2.1 d.2.1.1 d.2.1.2.1 d.2.1.2.2.1 d.2.1.2.2.2.1 d.2.1.2.2.2.2.1 d.2.2.2.1.1 d.2.2.2.2.2.1.1 d.2.2.2.2.2.2.1.1 (λ y0 y1 y2 y3 y4 y5 y6 y7 y8=>k .normal (E.q83_l2_onormal.to (((),((),((),((),(y0,()))))),((y1,(y2,(y3,(y4,(y5,()))))),(((),()),((y6,()),((((),((),((),()))),()),((y7,()),((y8,()),())))))))))
def TL.q83_l2(C N:Nat):Am R:={b:=2,st:=E.q83_l2_i,fn:=λ d k=>G.impl_Dfa_blocks_l2 C N C 0 d k}
def Q.impl_Dfa_blocks_l2(C N:Nat)(j:Nat)(d:E.q83_l2_i.D)(next:E.q83_l2_i.D->Option R):Option R:=F.oy C N j d.1.2.2.2.2.1 d.2.1.1 d.2.1.2.1 d.2.1.2.2.1 d.2.1.2.2.2.1 d.2.1.2.2.2.2.1 d.2.2.2.1.1 d.2.2.2.2.2.1.1 d.2.2.2.2.2.2.1.1 (λ x0 x1 x2 x3 x4 x5 x6 x7 x8=>next (((),((),((),((),(x0,((),())))))),((x1,(x2,(x3,(x4,(x5,()))))),(((),()),((x6,()),((((),((),((),()))),()),((x7,()),((x8,()),()))))))))
theorem F.vz(C N:Nat)(j:Nat)(d:E.q83_l2_i.D)(next:St->Option R):
  roundE cfg (B1 [T.q80 N,T.q82 N]) (Bg []) 0 H.q83 2 23 (rfA (bodyOf Try.f12 2)) (rfB (bodyOf Try.f12 2)) [2,5,6,7,8,22] j (E.q83_l2_i.to d) next=Q.impl_Dfa_blocks_l2 C N j d λ x=>next (E.q83_l2_i.to x):=by kernel_rfl
theorem F.vn(C N:Nat)(j:Nat)(d:E.q83_l2_i.D)(k:Ex->St->Option R):Hm 0 H.q83 [2,5,6,7,8] (E.q83_l2_i.to d) k=G.impl_Dfa_blocks_l2 C N 0 j d k:=by kernel_rfl
theorem LK.q83_l2(N:Nat):Ah Try.prog 0 Try.f12.ntmps (bodyOf Try.f12) (TL.q83_l2 (R:=R) 256 N):=
 Gm (i:=[2,5,6,7,8,22]) (o:=[2,5,6,7,8]) (h:=H.q83) (p:=23) (gf:=29) (K:=256) hC hm (Ae (TK.q80 N) (Ae (TK.q82 N) Ac)) WF.f12 Ab (by kernel_rfl) CK.f29 (by kernel_rfl) (λ d=>Aj rfl) (λ d=>by kernel_rfl) (G.impl_Dfa_blocks_l2 256 N) (Q.impl_Dfa_blocks_l2 256 N) (λ _ _=>rfl) (F.vn 256 N) (λ _ _ _ _=>rfl) (F.vz 256 N)
def G.impl_Dfa_blocks_l0(C N:Nat)(n:Nat)(d:E.q83_l0_i.D)(k:Ex->St->Option R):Option R:=F.bo C N n d.1.2.2.2.2.1 d.2.1.1 d.2.1.2.1 d.2.1.2.2.1 d.2.1.2.2.2.1 d.2.1.2.2.2.2.1 d.2.2.2.1.1 d.2.2.2.2.2.1.1 d.2.2.2.2.2.2.1.1 (λ y0=>k (.exit 0) (E.q83_l0_oe0.to (((),()),(((),()),((y0,()),())))))
def TL.q83_l0(C N:Nat):Am R:={b:=0,st:=E.q83_l0_i,fn:=λ d k=>G.impl_Dfa_blocks_l0 C N N d k}
def Q.impl_Dfa_blocks_l0(C N:Nat)(d:E.q83_l0_i.D)(k:Ex->St->Option R)(next:E.q83_l0_i.D->Option R):Option R:=F.kq C N d.1.2.2.2.2.1 d.2.1.1 d.2.1.2.1 d.2.1.2.2.1 d.2.1.2.2.2.1 d.2.1.2.2.2.2.1 d.2.2.2.1.1 d.2.2.2.2.2.1.1 d.2.2.2.2.2.2.1.1 (λ x0 x1 x2 x3 x4 x5 x6 x7 x8=>next (((),((),((),((),(x0,()))))),((x1,(x2,(x3,(x4,(x5,()))))),(((),()),((x6,()),((((),((),((),()))),()),((x7,()),((x8,()),())))))))) (λ y0=>k (.exit 0) (E.q83_l0_oe0.to (((),()),(((),()),((y0,()),())))))
theorem F.wa(C N:Nat)(d:E.q83_l0_i.D)(next:St->Option R)(k:Ex->St->Option R):
  stepE cfg (B1 [T.q75]) (Bg [TL.q83_l2 C N]) 0 H.q83 0 (bodyOf Try.f12 0) [2,5,6,7,8] [5] (E.q83_l0_i.to d) next k=Q.impl_Dfa_blocks_l0 C N d k λ x=>next (E.q83_l0_i.to x):=by kernel_rfl
theorem LK.q83_l0(N:Nat):Ah Try.prog 0 Try.f12.ntmps (bodyOf Try.f12) (TL.q83_l0 (R:=R) 256 N):=
 De (i:=[2,5,6,7,8]) (o:=[5]) (h:=H.q83) hC hm (Ae TK.q75 Ac) WF.f12 (Af (LK.q83_l2 N) Ab) (by kernel_rfl) (λ d=>Aj rfl) (G.impl_Dfa_blocks_l0 256 N) N (Q.impl_Dfa_blocks_l0 256 N) (λ _ _=>rfl) (λ _ _=>rfl) (λ _ _ _=>rfl) (F.wa 256 N)
def T.q83_c(C N:Nat):Au R:={f:=12,arg:=E.q83_a,res:=E.q83_r,fn:=λ d k=>F.qo C N d.1.1.1 d.1.1.2.1 d.1.1.2.2.1 d.1.1.2.2.2.1 d.1.1.2.2.2.2.1 d.1.2.1 (λ x0=>k ((),((),((x0,()),()))))}
theorem F.xo(C N:Nat)(d:E.q83_a.D)(k:AV->List (Option Blk)->List Blk->Option R):
  Hr cfg (B1 [T.q79 N]) (Bg [TL.q83_l0 C N]) H.q83 Try.f12 (E.q83_a.to d).1 (E.q83_a.to d).2 k=(T.q83_c C N).fn d λ x=>k (E.q83_r.to x).1 (E.q83_r.to x).2.1 (E.q83_r.to x).2.2:=by kernel_rfl
theorem TK.q83(N:Nat):Ak Try.prog (T.q83 (R:=R) N):=
 Al (h:=H.q83) hC hm (Ae (TK.q79 N) Ac) WF.f12 (λ d=>(Af (LK.q83_l0 N) Ab)) (F.xo 256 N)
abbrev E.q84_l0_i:Enc St:=sT 14 (aL [(kY 1 (pB 0 0)),(kY 2 (pB 1 0)),(kY 4 (pB 2 0)),(kY 5 (pB 3 0)),(kY 6 (sL 4)),(kY 7 (pB 5 0)),(kY 39 (sL 6)),(kY 40 (iN .i64)),(kY 41 (iN .i64))]) (aL [(kY 0 Qm),(kY 1 en3),(kY 2 Afc),(kY 3 (cE (vA [(mP 12)]))),(kY 4 en5),(kY 5 (cE (vA [(sL 13)]))),(kY 6 en5),(kY 7 en5),(kY 8 en5),(kY 9 en5),(kY 10 en5),(kY 11 en5),(kY 12 Z8),(kY 13 Jo)])
abbrev E.q84_l0_oe0:Enc St:=sT 13 (aL [(kY 1 (pB 0 0)),(kY 2 (pB 1 0)),(kY 4 (pB 2 0)),(kY 5 (pB 3 0)),(kY 6 (sL 4)),(kY 7 (pB 5 0))]) (aL [(kY 0 Qm),(kY 1 Agy),(kY 2 Z9),(kY 3 (cE (vA [(mP 11)]))),(kY 4 en5),(kY 5 Afd),(kY 6 en5),(kY 7 en5),(kY 8 en5),(kY 9 en5),(kY 10 en5),(kY 11 Z8),(kY 12 Jo)])
abbrev E.q84_l4_i:Enc St:=sT 15 (aL [(kY 1 (pB 0 0)),(kY 2 (pB 1 0)),(kY 4 (pB 2 0)),(kY 5 (pB 3 0)),(kY 6 (sL 4)),(kY 7 (pB 5 0)),(kY 13 (pB 6 0)),(kY 14 (pB 7 0)),(kY 68 (sL 4)),(kY 69 (iN .i64)),(kY 70 (iN .i64)),(kY 74 Agz)]) (aL [(kY 0 Qm),(kY 1 Avi),(kY 2 Afd),(kY 3 (cE (vA [(mP 13)]))),(kY 4 en5),(kY 5 (cE (vA [(sL 14)]))),(kY 6 Cz),(kY 7 (cE (vA [(aR 256 (.int .i64))]))),(kY 8 en5),(kY 9 en5),(kY 10 en5),(kY 11 en5),(kY 12 en5),(kY 13 Z8),(kY 14 Jo)])
abbrev E.q84_l4_onormal:Enc St:=sT 14 (aL [(kY 1 (pB 0 0)),(kY 2 (pB 1 0)),(kY 4 (pB 2 0)),(kY 5 (pB 3 0)),(kY 6 (sL 4)),(kY 7 (pB 5 0)),(kY 14 (pB 6 0)),(kY 68 (sL 4)),(kY 69 (iN .i64)),(kY 70 (iN .i64))]) (aL [(kY 0 Qm),(kY 1 en3),(kY 2 Afc),(kY 3 (cE (vA [(mP 12)]))),(kY 4 en5),(kY 5 (cE (vA [(sL 13)]))),(kY 6 (cE (vA [(aR 256 (.int .i64))]))),(kY 7 en5),(kY 8 en5),(kY 9 en5),(kY 10 en5),(kY 11 en5),(kY 12 Z8),(kY 13 Jo)])
abbrev E.q84_l2_i:Enc St:=sT 13 (aL [(kY 1 (pB 0 0)),(kY 2 (pB 1 0)),(kY 4 (pB 2 0)),(kY 5 (pB 3 0)),(kY 6 (sL 4)),(kY 7 (pB 5 0)),(kY 68 (sL 4)),(kY 69 (iN .i64)),(kY 70 (iN .i64))]) (aL [(kY 0 Qm),(kY 1 Agy),(kY 2 Z9),(kY 3 (cE (vA [(mP 11)]))),(kY 4 en5),(kY 5 Afd),(kY 6 en5),(kY 7 en5),(kY 8 en5),(kY 9 en5),(kY 10 en5),(kY 11 Z8),(kY 12 Jo)])
abbrev E.q84_l2_oe2:Enc St:=sT 9 (aL [(kY 1 (pB 0 0)),(kY 2 (pB 1 0)),(kY 6 (sL 2)),(kY 7 (pB 3 0))]) (aL [(kY 0 Qm),(kY 1 (cE (vA [(sL 4),(iN .i64),(sL 5),(sL 6),(sL 7)]))),(kY 2 en5),(kY 3 (cE (vA [(sL 8)]))),(kY 4 en5),(kY 5 en5),(kY 6 en5),(kY 7 en5),(kY 8 Jo)])
abbrev E.q84_l8_i:Enc St:=sT 19 (aL [(kY 1 (pB 0 0)),(kY 2 (pB 1 0)),(kY 6 (sL 2)),(kY 7 (pB 3 0)),(kY 16 (pB 4 0)),(kY 17 (pB 5 0)),(kY 18 (pB 6 0)),(kY 19 (iN .i64)),(kY 20 (sL 7)),(kY 95 Agz),(kY 97 (sL 8)),(kY 98 (iN .i64)),(kY 99 (iN .i64))]) (aL [(kY 0 Qm),(kY 1 (cE (vA [(sL 9),(iN .i64),(sL 10),(sL 11),(sL 12)]))),(kY 2 en5),(kY 3 (cE (vA [(sL 8)]))),(kY 4 Ar2),(kY 5 (cE (vA [(mP 17)]))),(kY 6 (cE (vA [(sL 18)]))),(kY 7 (cE (vA [(rW (.int .u8))]))),(kY 8 Jo),(kY 9 en5),(kY 10 en5),(kY 11 en5),(kY 12 en5),(kY 13 en5),(kY 14 en5),(kY 15 en5),(kY 16 en5),(kY 17 Aj9),(kY 18 en5)])
abbrev E.q84_l8_oe8:Enc St:=sT 19 (aL [(kY 1 (pB 0 0)),(kY 2 (pB 1 0)),(kY 6 (sL 2)),(kY 7 (pB 3 0)),(kY 16 (pB 4 0)),(kY 17 (pB 5 0)),(kY 18 (pB 6 0)),(kY 19 (iN .i64)),(kY 20 (sL 7)),(kY 95 Agz)]) (aL [(kY 0 Qm),(kY 1 Avi),(kY 2 en5),(kY 3 Afd),(kY 4 Ar2),(kY 5 (cE (vA [(mP 17)]))),(kY 6 (cE (vA [(sL 18)]))),(kY 7 (cE (vA [(rW (.int .u8))]))),(kY 8 en5),(kY 9 en5),(kY 10 en5),(kY 11 en5),(kY 12 Jo),(kY 13 en5),(kY 14 en5),(kY 15 en5),(kY 16 en5),(kY 17 Aj9),(kY 18 en5)])
abbrev E.q84_l6_i:Enc St:=sT 18 (aL [(kY 1 (pB 0 0)),(kY 2 (pB 1 0)),(kY 6 (sL 2)),(kY 7 (pB 3 0)),(kY 16 (pB 4 0)),(kY 17 (pB 5 0)),(kY 18 (pB 6 0)),(kY 95 Agz)]) (aL [(kY 0 Qm),(kY 1 en3),(kY 2 en5),(kY 3 Afc),(kY 4 Avh),(kY 5 (cE (vA [(mP 16)]))),(kY 6 (cE (vA [(sL 17)]))),(kY 7 en5),(kY 8 en5),(kY 9 en5),(kY 10 en5),(kY 11 Jo),(kY 12 en5),(kY 13 en5),(kY 14 en5),(kY 15 en5),(kY 16 Aj9),(kY 17 en5)])
abbrev E.q84_l6_onormal:Enc St:=sT 16 (aL [(kY 1 (pB 0 0)),(kY 2 (pB 1 0)),(kY 6 (sL 2)),(kY 7 (pB 3 0)),(kY 16 (pB 4 0)),(kY 18 (pB 5 0))]) (aL [(kY 0 Qm),(kY 1 Agy),(kY 2 en5),(kY 3 Z9),(kY 4 Ats),(kY 5 Aka),(kY 6 en5),(kY 7 en5),(kY 8 en5),(kY 9 en5),(kY 10 Jo),(kY 11 en5),(kY 12 en5),(kY 13 en5),(kY 14 en5),(kY 15 en5)])
abbrev E.q84_l12_i:Enc St:=sT 16 (aL [(kY 1 (pB 0 0)),(kY 2 (pB 1 0)),(kY 7 (pB 2 0)),(kY 16 (pB 3 0)),(kY 18 (pB 4 0)),(kY 25 (iN .i64)),(kY 145 (sL 5)),(kY 146 (iN .i64)),(kY 147 (iN .i64)),(kY 172 (sL 6)),(kY 173 (iN .i64)),(kY 174 (iN .i64))]) (aL [(kY 0 Qm),(kY 1 en3),(kY 2 Afc),(kY 3 Avh),(kY 4 Aj6),(kY 5 en5),(kY 6 en5),(kY 7 en5),(kY 8 en5),(kY 9 en5),(kY 10 en5),(kY 11 Jo),(kY 12 en5),(kY 13 en5),(kY 14 en5),(kY 15 en5)])
abbrev E.q84_l12_oe12:Enc St:=sT 16 (aL [(kY 1 (pB 0 0)),(kY 2 (pB 1 0)),(kY 7 (pB 2 0)),(kY 16 (pB 3 0)),(kY 18 (pB 4 0)),(kY 145 (sL 5)),(kY 146 (iN .i64)),(kY 147 (iN .i64))]) (aL [(kY 0 Qm),(kY 1 Agy),(kY 2 Z9),(kY 3 Ats),(kY 4 Aka),(kY 5 en5),(kY 6 en5),(kY 7 en5),(kY 8 en5),(kY 9 en5),(kY 10 Jo),(kY 11 en5),(kY 12 en5),(kY 13 en5),(kY 14 en5),(kY 15 en5)])
abbrev E.q84_l10_i:Enc St:=sT 16 (aL [(kY 1 (pB 0 0)),(kY 2 (pB 1 0)),(kY 7 (pB 2 0)),(kY 16 (pB 3 0)),(kY 18 (pB 4 0)),(kY 145 (sL 5)),(kY 146 (iN .i64)),(kY 147 (iN .i64))]) (aL [(kY 0 Qm),(kY 1 Agy),(kY 2 Z9),(kY 3 Ats),(kY 4 Aka),(kY 5 en5),(kY 6 en5),(kY 7 en5),(kY 8 en5),(kY 9 en5),(kY 10 Jo),(kY 11 en5),(kY 12 en5),(kY 13 en5),(kY 14 en5),(kY 15 en5)])
abbrev E.q84_l10_oe10:Enc St:=sT 10 (aL [(kY 2 (pB 0 0)),(kY 16 (pB 1 0))]) (aL [(kY 0 (cE (vA [(sL 2),(iN .i64),(sL 3),(sL 4),(sL 5)]))),(kY 1 Agy),(kY 2 en5),(kY 3 en5),(kY 4 en5),(kY 5 en5),(kY 6 en5),(kY 7 en5),(kY 8 en5),(kY 9 en5)])
abbrev E.q84_a:Enc (List AV×List Blk):=bO (vA [(aG (vA [Ec,(iN .i64),Ec,Ec,Ec]))]) (aL [])
abbrev E.q84_r:Enc (AV×List (Option Blk)×List Blk):=bO (aG (vA [(sL 0),(iN .i64),(sL 1),(sL 2),(sL 3)])) (bO (aL []) (aL [en5,en5,en5,en5]))
def T.q84(N:Nat):Au R:={f:=5,arg:=E.q84_a,res:=E.q84_r,fn:=λ d k=>F.jh N d.1.1.1 d.1.1.2.1 d.1.1.2.2.1 d.1.1.2.2.2.1 d.1.1.2.2.2.2.1 (λ x0 x1 x2 x3 x4=>k (((),(x0,((),((),((),()))))),((),((x1,()),((x2,()),((x3,()),((x4,()),())))))))}
def H.q84:A4:={lp:=[(0,[1,2,4,5,6,7,39,40,41],[1,2,4,5,6,7]),(2,[1,2,4,5,6,7,68,69,70],[1,2,6,7]),(4,[1,2,4,5,6,7,13,14,68,69,70,74],[1,2,4,5,6,7,14,68,69,70]),(6,[1,2,6,7,16,17,18,95],[1,2,6,7,16,18]),(8,[1,2,6,7,16,17,18,19,20,95,97,98,99],[1,2,6,7,16,17,18,19,20,95]),(10,[1,2,7,16,18,145,146,147],[2,16]),(12,[1,2,7,16,18,25,145,146,147,172,173,174],[1,2,7,16,18,145,146,147])]}
theorem WF.f5:Bb Try.prog 5 Try.f5:=Aq Try.func5 (by decide) (by kernel_rfl)
def G.impl_Minimize_l0(C N:Nat)(n:Nat)(d:E.q84_l0_i.D)(k:Ex->St->Option R):Option R:=F.fm C N n d.1.2.2.2.2.2.2.2.1 d.1.2.2.2.2.2.2.2.2.1 d.2.1.1 d.2.1.2.1 d.2.1.2.2.1 d.2.1.2.2.2.1 d.2.1.2.2.2.2.1 d.2.2.1.2.1 d.2.2.2.2.2.1.1 d.2.2.2.2.2.2.2.1.1 d.2.2.2.2.2.2.2.2.1.1 d.2.2.2.2.2.2.2.2.2.1.1 d.2.2.2.2.2.2.2.2.2.2.1.1 d.2.2.2.2.2.2.2.2.2.2.2.1.1 d.2.2.2.2.2.2.2.2.2.2.2.2.1.1 d.2.2.2.2.2.2.2.2.2.2.2.2.2.1 d.2.2.2.2.2.2.2.2.2.2.2.2.2.2.1.1 (λ y0 y1 y2 y3 y4 y5 y6 y7 y8 y9 y10 y11 y12 y13=>k (.exit 0) (E.q84_l0_oe0.to (((),((),((),((),((),((),())))))),((y0,(y1,(y2,(y3,(y4,()))))),(((),(y5,((),((),((),()))))),(((),()),(((),()),((y6,()),(((),()),((y7,()),((y8,()),((y9,()),((y10,()),((y11,()),(y12,((y13,()),()))))))))))))))))
def TL.q84_l0(C N:Nat):Am R:={b:=0,st:=E.q84_l0_i,fn:=λ d k=>G.impl_Minimize_l0 C N N d k}
def Q.impl_Minimize_l0(C N:Nat)(d:E.q84_l0_i.D)(k:Ex->St->Option R)(next:E.q84_l0_i.D->Option R):Option R:=F.ja C N d.1.2.2.2.2.2.2.2.1 d.1.2.2.2.2.2.2.2.2.1 d.2.1.1 d.2.1.2.1 d.2.1.2.2.1 d.2.1.2.2.2.1 d.2.1.2.2.2.2.1 d.2.2.1.2.1 d.2.2.2.2.2.1.1 d.2.2.2.2.2.2.2.1.1 d.2.2.2.2.2.2.2.2.1.1 d.2.2.2.2.2.2.2.2.2.1.1 d.2.2.2.2.2.2.2.2.2.2.1.1 d.2.2.2.2.2.2.2.2.2.2.2.1.1 d.2.2.2.2.2.2.2.2.2.2.2.2.1.1 d.2.2.2.2.2.2.2.2.2.2.2.2.2.1 d.2.2.2.2.2.2.2.2.2.2.2.2.2.2.1.1 (λ x0 x1 x2 x3 x4 x5 x6 x7 x8 x9 x10 x11 x12 x13 x14 x15 x16=>next (((),((),((),((),((),((),((),(x0,(x1,()))))))))),((x2,(x3,(x4,(x5,(x6,()))))),(((),(x7,((),((),((),()))))),(((),()),(((),()),((x8,()),(((),()),((x9,()),((x10,()),((x11,()),((x12,()),((x13,()),((x14,()),(x15,((x16,()),())))))))))))))))) (λ y0 y1 y2 y3 y4 y5 y6 y7 y8 y9 y10 y11 y12 y13=>k (.exit 0) (E.q84_l0_oe0.to (((),((),((),((),((),((),())))))),((y0,(y1,(y2,(y3,(y4,()))))),(((),(y5,((),((),((),()))))),(((),()),(((),()),((y6,()),(((),()),((y7,()),((y8,()),((y9,()),((y10,()),((y11,()),(y12,((y13,()),()))))))))))))))))
theorem F.xa(C N:Nat)(d:E.q84_l0_i.D)(next:St->Option R)(k:Ex->St->Option R):
  stepE cfg (B1 []) (Bg []) 0 H.q84 0 (bodyOf Try.f5 0) [1,2,4,5,6,7,39,40,41] [1,2,4,5,6,7] (E.q84_l0_i.to d) next k=Q.impl_Minimize_l0 C N d k λ x=>next (E.q84_l0_i.to x):=Eq.trans (b:=F.ja C N d.1.2.2.2.2.2.2.2.1 d.1.2.2.2.2.2.2.2.2.1 d.2.1.1 d.2.1.2.1 d.2.1.2.2.1 d.2.1.2.2.2.1 d.2.1.2.2.2.2.1 d.2.2.1.2.1 d.2.2.2.2.2.1.1 d.2.2.2.2.2.2.2.1.1 d.2.2.2.2.2.2.2.2.1.1 d.2.2.2.2.2.2.2.2.2.1.1 d.2.2.2.2.2.2.2.2.2.2.1.1 d.2.2.2.2.2.2.2.2.2.2.2.1.1 d.2.2.2.2.2.2.2.2.2.2.2.2.1.1 d.2.2.2.2.2.2.2.2.2.2.2.2.2.1 d.2.2.2.2.2.2.2.2.2.2.2.2.2.2.1.1 (λ x0 x1 x2 x3 x4 x5 x6 x7 x8 x9 x10 x11 x12 x13 x14 x15 x16=>next {tm:=[(1,(.pb 0 0 [])),(2,(.pb 1 0 [])),(4,(.pb 2 0 [])),(5,(.pb 3 0 [])),(6,(.sl 4)),(7,(.pb 5 0 [])),(39,(.sl 6)),(40,(.int .i64 x0)),(41,(.int .i64 x1))],st:=[(0,(.cell false 0 [(.ro (.reg 0) (.int .i64) x2),(.int .i64 x3),(.ro (.reg 0) (.int .i64) x4),(.ro (.reg 0) (.int .i64) x5),(.ro (.reg 0) (.int .i64) x6)])),(1,(.cell false 0 [(.sl 7),(.int .i64 x7),(.sl 8),(.sl 9),(.sl 10)])),(2,(.cell false 0 [(.sl 11)])),(3,(.cell false 0 [(.mp 12)])),(4,(.cell false 0 [(.rw (.int .i64) x8)])),(5,(.cell false 0 [(.sl 13)])),(6,(.cell false 0 [(.rw (.int .i64) x9)])),(7,(.cell false 0 [(.rw (.int .i64) x10)])),(8,(.cell false 0 [(.rw (.int .i64) x11)])),(9,(.cell false 0 [(.rw (.int .i64) x12)])),(10,(.cell false 0 [(.rw (.int .i64) x13)])),(11,(.cell false 0 [(.rw (.int .i64) x14)])),(12,(.map (.int .i64) (.int .i64) x15)),(13,(.cell false 0 [(.rw Qt x16)]))],nx:=14}) (λ y0 y1 y2 y3 y4 y5 y6 y7 y8 y9 y10 y11 y12 y13=>k (.exit 0) {tm:=[(1,(.pb 0 0 [])),(2,(.pb 1 0 [])),(4,(.pb 2 0 [])),(5,(.pb 3 0 [])),(6,(.sl 4)),(7,(.pb 5 0 []))],st:=[(0,(.cell false 0 [(.ro (.reg 0) (.int .i64) y0),(.int .i64 y1),(.ro (.reg 0) (.int .i64) y2),(.ro (.reg 0) (.int .i64) y3),(.ro (.reg 0) (.int .i64) y4)])),(1,(.cell false 0 [(.sl 6),(.int .i64 y5),(.sl 7),(.sl 8),(.sl 9)])),(2,(.cell false 0 [(.sl 10)])),(3,(.cell false 0 [(.mp 11)])),(4,(.cell false 0 [(.rw (.int .i64) y6)])),(5,(.cell false 0 [(.sl 12)])),(6,(.cell false 0 [(.rw (.int .i64) y7)])),(7,(.cell false 0 [(.rw (.int .i64) y8)])),(8,(.cell false 0 [(.rw (.int .i64) y9)])),(9,(.cell false 0 [(.rw (.int .i64) y10)])),(10,(.cell false 0 [(.rw (.int .i64) y11)])),(11,(.map (.int .i64) (.int .i64) y12)),(12,(.cell false 0 [(.rw Qt y13)]))],nx:=13})) (by kernel_rfl) (by kernel_rfl)
theorem LK.q84_l0(N:Nat):Ah Try.prog 0 Try.f5.ntmps (bodyOf Try.f5) (TL.q84_l0 (R:=R) 256 N):=
 De (i:=[1,2,4,5,6,7,39,40,41]) (o:=[1,2,4,5,6,7]) (h:=H.q84) hC hm Ac WF.f5 Ab (by kernel_rfl) (λ d=>Aj rfl) (G.impl_Minimize_l0 256 N) N (Q.impl_Minimize_l0 256 N) (λ _ _=>rfl) (λ _ _=>rfl) (λ _ _ _=>rfl) (F.xa 256 N)
def G.impl_Minimize_l4(C N:Nat)(n j:Nat)(d:E.q84_l4_i.D)(k:Ex->St->Option R):Option R:=F.ft C N n j d.1.2.2.2.2.2.2.2.2.2.1 d.1.2.2.2.2.2.2.2.2.2.2.1 d.2.1.1 d.2.1.2.1 d.2.1.2.2.1 d.2.1.2.2.2.1 d.2.1.2.2.2.2.1 d.2.2.1.2.1 d.2.2.2.2.2.1.1 d.2.2.2.2.2.2.2.1.1 d.2.2.2.2.2.2.2.2.1.1 d.2.2.2.2.2.2.2.2.2.1.1 d.2.2.2.2.2.2.2.2.2.2.1.1 d.2.2.2.2.2.2.2.2.2.2.2.1.1 d.2.2.2.2.2.2.2.2.2.2.2.2.1.1 d.2.2.2.2.2.2.2.2.2.2.2.2.2.1.1 d.2.2.2.2.2.2.2.2.2.2.2.2.2.2.1 d.2.2.2.2.2.2.2.2.2.2.2.2.2.2.2.1.1 (λ y0 y1 y2 y3 y4 y5 y6 y7 y8 y9 y10 y11 y12 y13 y14 y15 y16=>k .normal (E.q84_l4_onormal.to (((),((),((),((),((),((),((),((),(y0,(y1,())))))))))),((y2,(y3,(y4,(y5,(y6,()))))),(((),(y7,((),((),((),()))))),(((),()),(((),()),((y8,()),(((),()),((y9,()),((y10,()),((y11,()),((y12,()),((y13,()),((y14,()),(y15,((y16,()),())))))))))))))))))
def TL.q84_l4(C N:Nat):Am R:={b:=4,st:=E.q84_l4_i,fn:=λ d k=>G.impl_Minimize_l4 C N C 0 d k}
def Q.impl_Minimize_l4(C N:Nat)(j:Nat)(d:E.q84_l4_i.D)(next:E.q84_l4_i.D->Option R):Option R:=F.qa C N j d.1.2.2.2.2.2.2.2.2.2.1 d.1.2.2.2.2.2.2.2.2.2.2.1 d.2.1.1 d.2.1.2.1 d.2.1.2.2.1 d.2.1.2.2.2.1 d.2.1.2.2.2.2.1 d.2.2.1.2.1 d.2.2.2.2.2.1.1 d.2.2.2.2.2.2.2.1.1 d.2.2.2.2.2.2.2.2.1.1 d.2.2.2.2.2.2.2.2.2.1.1 d.2.2.2.2.2.2.2.2.2.2.1.1 d.2.2.2.2.2.2.2.2.2.2.2.1.1 d.2.2.2.2.2.2.2.2.2.2.2.2.1.1 d.2.2.2.2.2.2.2.2.2.2.2.2.2.1.1 d.2.2.2.2.2.2.2.2.2.2.2.2.2.2.1 d.2.2.2.2.2.2.2.2.2.2.2.2.2.2.2.1.1 (λ x0 x1 x2 x3 x4 x5 x6 x7 x8 x9 x10 x11 x12 x13 x14 x15 x16 x17=>next (((),((),((),((),((),((),((),((),((),(x0,(x1,((),())))))))))))),((x2,(x3,(x4,(x5,(x6,()))))),(((),(x7,((),((),((),()))))),(((),()),(((),()),((x8,()),(((),()),((x9,()),((x10,()),((x11,()),((x12,()),((x13,()),((x14,()),((x15,()),(x16,((x17,()),())))))))))))))))))
theorem F.xb(C N:Nat)(j:Nat)(d:E.q84_l4_i.D)(next:St->Option R):
  roundE cfg (B1 [T.q76]) (Bg []) 0 H.q84 4 75 (rfA (bodyOf Try.f5 4)) (rfB (bodyOf Try.f5 4)) [1,2,4,5,6,7,13,14,68,69,70,74] j (E.q84_l4_i.to d) next=Q.impl_Minimize_l4 C N j d λ x=>next (E.q84_l4_i.to x):=by kernel_rfl
theorem F.wh(C N:Nat)(j:Nat)(d:E.q84_l4_i.D)(k:Ex->St->Option R):Hm 0 H.q84 [1,2,4,5,6,7,14,68,69,70] (E.q84_l4_i.to d) k=G.impl_Minimize_l4 C N 0 j d k:=by kernel_rfl
theorem LK.q84_l4(N:Nat):Ah Try.prog 0 Try.f5.ntmps (bodyOf Try.f5) (TL.q84_l4 (R:=R) 256 N):=
 Gm (i:=[1,2,4,5,6,7,13,14,68,69,70,74]) (o:=[1,2,4,5,6,7,14,68,69,70]) (h:=H.q84) (p:=75) (gf:=29) (K:=256) hC hm (Ae TK.q76 Ac) WF.f5 Ab (by kernel_rfl) CK.f29 (by kernel_rfl) (λ d=>Aj rfl) (λ d=>by kernel_rfl) (G.impl_Minimize_l4 256 N) (Q.impl_Minimize_l4 256 N) (λ _ _=>rfl) (F.wh 256 N) (λ _ _ _ _=>rfl) (F.xb 256 N)
def G.impl_Minimize_l2(C N:Nat)(n:Nat)(d:E.q84_l2_i.D)(k:Ex->St->Option R):Option R:=F.fu C N n d.1.2.2.2.2.2.2.2.1 d.1.2.2.2.2.2.2.2.2.1 d.2.1.1 d.2.1.2.1 d.2.1.2.2.1 d.2.1.2.2.2.1 d.2.1.2.2.2.2.1 d.2.2.1.2.1 d.2.2.2.2.2.1.1 d.2.2.2.2.2.2.2.1.1 d.2.2.2.2.2.2.2.2.1.1 d.2.2.2.2.2.2.2.2.2.1.1 d.2.2.2.2.2.2.2.2.2.2.1.1 d.2.2.2.2.2.2.2.2.2.2.2.1.1 d.2.2.2.2.2.2.2.2.2.2.2.2.1 d.2.2.2.2.2.2.2.2.2.2.2.2.2.1.1 (λ y0 y1 y2 y3 y4 y5 y6 y7 y8 y9 y10 y11=>k (.exit 2) (E.q84_l2_oe2.to (((),((),((),((),())))),((y0,(y1,(y2,(y3,(y4,()))))),(((),(y5,((),((),((),()))))),((y6,()),(((),()),((y7,()),((y8,()),((y9,()),((y10,()),((y11,()),()))))))))))))
def TL.q84_l2(C N:Nat):Am R:={b:=2,st:=E.q84_l2_i,fn:=λ d k=>G.impl_Minimize_l2 C N N d k}
def Q.impl_Minimize_l2(C N:Nat)(d:E.q84_l2_i.D)(k:Ex->St->Option R)(next:E.q84_l2_i.D->Option R):Option R:=F.jb C N d.1.2.2.2.2.2.2.2.1 d.1.2.2.2.2.2.2.2.2.1 d.2.1.1 d.2.1.2.1 d.2.1.2.2.1 d.2.1.2.2.2.1 d.2.1.2.2.2.2.1 d.2.2.1.2.1 d.2.2.2.2.2.1.1 d.2.2.2.2.2.2.2.1.1 d.2.2.2.2.2.2.2.2.1.1 d.2.2.2.2.2.2.2.2.2.1.1 d.2.2.2.2.2.2.2.2.2.2.1.1 d.2.2.2.2.2.2.2.2.2.2.2.1.1 d.2.2.2.2.2.2.2.2.2.2.2.2.1 d.2.2.2.2.2.2.2.2.2.2.2.2.2.1.1 (λ x0 x1 x2 x3 x4 x5 x6 x7 x8 x9 x10 x11 x12 x13 x14 x15=>next (((),((),((),((),((),((),((),(x0,(x1,()))))))))),((x2,(x3,(x4,(x5,(x6,()))))),(((),(x7,((),((),((),()))))),(((),()),(((),()),((x8,()),(((),()),((x9,()),((x10,()),((x11,()),((x12,()),((x13,()),(x14,((x15,()),()))))))))))))))) (λ y0 y1 y2 y3 y4 y5 y6 y7 y8 y9 y10 y11=>k (.exit 2) (E.q84_l2_oe2.to (((),((),((),((),())))),((y0,(y1,(y2,(y3,(y4,()))))),(((),(y5,((),((),((),()))))),((y6,()),(((),()),((y7,()),((y8,()),((y9,()),((y10,()),((y11,()),()))))))))))))
theorem F.xc(C N:Nat)(d:E.q84_l2_i.D)(next:St->Option R)(k:Ex->St->Option R):
  stepE cfg (B1 [T.q75]) (Bg [TL.q84_l4 C N]) 0 H.q84 2 (bodyOf Try.f5 2) [1,2,4,5,6,7,68,69,70] [1,2,6,7] (E.q84_l2_i.to d) next k=Q.impl_Minimize_l2 C N d k λ x=>next (E.q84_l2_i.to x):=Eq.trans (b:=F.jb C N d.1.2.2.2.2.2.2.2.1 d.1.2.2.2.2.2.2.2.2.1 d.2.1.1 d.2.1.2.1 d.2.1.2.2.1 d.2.1.2.2.2.1 d.2.1.2.2.2.2.1 d.2.2.1.2.1 d.2.2.2.2.2.1.1 d.2.2.2.2.2.2.2.1.1 d.2.2.2.2.2.2.2.2.1.1 d.2.2.2.2.2.2.2.2.2.1.1 d.2.2.2.2.2.2.2.2.2.2.1.1 d.2.2.2.2.2.2.2.2.2.2.2.1.1 d.2.2.2.2.2.2.2.2.2.2.2.2.1 d.2.2.2.2.2.2.2.2.2.2.2.2.2.1.1 (λ x0 x1 x2 x3 x4 x5 x6 x7 x8 x9 x10 x11 x12 x13 x14 x15=>next {tm:=[(1,(.pb 0 0 [])),(2,(.pb 1 0 [])),(4,(.pb 2 0 [])),(5,(.pb 3 0 [])),(6,(.sl 4)),(7,(.pb 5 0 [])),(68,(.sl 4)),(69,(.int .i64 x0)),(70,(.int .i64 x1))],st:=[(0,(.cell false 0 [(.ro (.reg 0) (.int .i64) x2),(.int .i64 x3),(.ro (.reg 0) (.int .i64) x4),(.ro (.reg 0) (.int .i64) x5),(.ro (.reg 0) (.int .i64) x6)])),(1,(.cell false 0 [(.sl 6),(.int .i64 x7),(.sl 7),(.sl 8),(.sl 9)])),(2,(.cell false 0 [(.sl 10)])),(3,(.cell false 0 [(.mp 11)])),(4,(.cell false 0 [(.rw (.int .i64) x8)])),(5,(.cell false 0 [(.sl 12)])),(6,(.cell false 0 [(.rw (.int .i64) x9)])),(7,(.cell false 0 [(.rw (.int .i64) x10)])),(8,(.cell false 0 [(.rw (.int .i64) x11)])),(9,(.cell false 0 [(.rw (.int .i64) x12)])),(10,(.cell false 0 [(.rw (.int .i64) x13)])),(11,(.map (.int .i64) (.int .i64) x14)),(12,(.cell false 0 [(.rw Qt x15)]))],nx:=13}) (λ y0 y1 y2 y3 y4 y5 y6 y7 y8 y9 y10 y11=>k (.exit 2) {tm:=[(1,(.pb 0 0 [])),(2,(.pb 1 0 [])),(6,(.sl 2)),(7,(.pb 3 0 []))],st:=[(0,(.cell false 0 [(.ro (.reg 0) (.int .i64) y0),(.int .i64 y1),(.ro (.reg 0) (.int .i64) y2),(.ro (.reg 0) (.int .i64) y3),(.ro (.reg 0) (.int .i64) y4)])),(1,(.cell false 0 [(.sl 4),(.int .i64 y5),(.sl 5),(.sl 6),(.sl 7)])),(2,(.cell false 0 [(.rw (.int .i64) y6)])),(3,(.cell false 0 [(.sl 8)])),(4,(.cell false 0 [(.rw (.int .i64) y7)])),(5,(.cell false 0 [(.rw (.int .i64) y8)])),(6,(.cell false 0 [(.rw (.int .i64) y9)])),(7,(.cell false 0 [(.rw (.int .i64) y10)])),(8,(.cell false 0 [(.rw Qt y11)]))],nx:=9})) (by kernel_rfl) (by kernel_rfl)
theorem LK.q84_l2(N:Nat):Ah Try.prog 0 Try.f5.ntmps (bodyOf Try.f5) (TL.q84_l2 (R:=R) 256 N):=
 De (i:=[1,2,4,5,6,7,68,69,70]) (o:=[1,2,6,7]) (h:=H.q84) hC hm (Ae TK.q75 Ac) WF.f5 (Af (LK.q84_l4 N) Ab) (by kernel_rfl) (λ d=>Aj rfl) (G.impl_Minimize_l2 256 N) N (Q.impl_Minimize_l2 256 N) (λ _ _=>rfl) (λ _ _=>rfl) (λ _ _ _=>rfl) (F.xc 256 N)
def G.impl_Minimize_l8(C N:Nat)(n:Nat)(d:E.q84_l8_i.D)(k:Ex->St->Option R):Option R:=F.fv C N n d.1.2.2.2.2.2.2.2.1 d.1.2.2.2.2.2.2.2.2.2.2.2.1 d.1.2.2.2.2.2.2.2.2.2.2.2.2.1 d.2.1.1 d.2.1.2.1 d.2.1.2.2.1 d.2.1.2.2.2.1 d.2.1.2.2.2.2.1 d.2.2.1.2.1 d.2.2.2.1.1 d.2.2.2.2.2.1.2.1 d.2.2.2.2.2.2.2.2.1.1 d.2.2.2.2.2.2.2.2.2.1.1 d.2.2.2.2.2.2.2.2.2.2.1.1 d.2.2.2.2.2.2.2.2.2.2.2.1.1 d.2.2.2.2.2.2.2.2.2.2.2.2.1.1 d.2.2.2.2.2.2.2.2.2.2.2.2.2.1.1 d.2.2.2.2.2.2.2.2.2.2.2.2.2.2.1.1 d.2.2.2.2.2.2.2.2.2.2.2.2.2.2.2.1.1 d.2.2.2.2.2.2.2.2.2.2.2.2.2.2.2.2.1.1 d.2.2.2.2.2.2.2.2.2.2.2.2.2.2.2.2.2.1.1 d.2.2.2.2.2.2.2.2.2.2.2.2.2.2.2.2.2.2.1 d.2.2.2.2.2.2.2.2.2.2.2.2.2.2.2.2.2.2.2.1.1 (λ y0 y1 y2 y3 y4 y5 y6 y7 y8 y9 y10 y11 y12 y13 y14 y15 y16 y17 y18 y19 y20=>k (.exit 8) (E.q84_l8_oe8.to (((),((),((),((),((),((),((),(y0,((),((),())))))))))),((y1,(y2,(y3,(y4,(y5,()))))),(((),(y6,((),((),((),()))))),((y7,()),(((),()),(((),(y8,((),((),((),()))))),(((),()),(((),()),((y9,()),((y10,()),((y11,()),((y12,()),((y13,()),((y14,()),((y15,()),((y16,()),((y17,()),((y18,()),(y19,((y20,()),()))))))))))))))))))))))
def TL.q84_l8(C N:Nat):Am R:={b:=8,st:=E.q84_l8_i,fn:=λ d k=>G.impl_Minimize_l8 C N N d k}
def Q.impl_Minimize_l8(C N:Nat)(d:E.q84_l8_i.D)(k:Ex->St->Option R)(next:E.q84_l8_i.D->Option R):Option R:=F.jc C N d.1.2.2.2.2.2.2.2.1 d.1.2.2.2.2.2.2.2.2.2.2.2.1 d.1.2.2.2.2.2.2.2.2.2.2.2.2.1 d.2.1.1 d.2.1.2.1 d.2.1.2.2.1 d.2.1.2.2.2.1 d.2.1.2.2.2.2.1 d.2.2.1.2.1 d.2.2.2.1.1 d.2.2.2.2.2.1.2.1 d.2.2.2.2.2.2.2.2.1.1 d.2.2.2.2.2.2.2.2.2.1.1 d.2.2.2.2.2.2.2.2.2.2.1.1 d.2.2.2.2.2.2.2.2.2.2.2.1.1 d.2.2.2.2.2.2.2.2.2.2.2.2.1.1 d.2.2.2.2.2.2.2.2.2.2.2.2.2.1.1 d.2.2.2.2.2.2.2.2.2.2.2.2.2.2.1.1 d.2.2.2.2.2.2.2.2.2.2.2.2.2.2.2.1.1 d.2.2.2.2.2.2.2.2.2.2.2.2.2.2.2.2.1.1 d.2.2.2.2.2.2.2.2.2.2.2.2.2.2.2.2.2.1.1 d.2.2.2.2.2.2.2.2.2.2.2.2.2.2.2.2.2.2.1 d.2.2.2.2.2.2.2.2.2.2.2.2.2.2.2.2.2.2.2.1.1 (λ x0 x1 x2 x3 x4 x5 x6 x7 x8 x9 x10 x11 x12 x13 x14 x15 x16 x17 x18 x19 x20 x21 x22=>next (((),((),((),((),((),((),((),(x0,((),((),((),(x1,(x2,()))))))))))))),((x3,(x4,(x5,(x6,(x7,()))))),(((),(x8,((),((),((),()))))),((x9,()),(((),()),(((),(x10,((),((),((),()))))),(((),()),(((),()),((x11,()),((x12,()),((x13,()),((x14,()),((x15,()),((x16,()),((x17,()),((x18,()),((x19,()),((x20,()),(x21,((x22,()),()))))))))))))))))))))) (λ y0 y1 y2 y3 y4 y5 y6 y7 y8 y9 y10 y11 y12 y13 y14 y15 y16 y17 y18 y19 y20=>k (.exit 8) (E.q84_l8_oe8.to (((),((),((),((),((),((),((),(y0,((),((),())))))))))),((y1,(y2,(y3,(y4,(y5,()))))),(((),(y6,((),((),((),()))))),((y7,()),(((),()),(((),(y8,((),((),((),()))))),(((),()),(((),()),((y9,()),((y10,()),((y11,()),((y12,()),((y13,()),((y14,()),((y15,()),((y16,()),((y17,()),((y18,()),(y19,((y20,()),()))))))))))))))))))))))
theorem F.xd(C N:Nat)(d:E.q84_l8_i.D)(next:St->Option R)(k:Ex->St->Option R):
  stepE cfg (B1 []) (Bg []) 0 H.q84 8 (bodyOf Try.f5 8) [1,2,6,7,16,17,18,19,20,95,97,98,99] [1,2,6,7,16,17,18,19,20,95] (E.q84_l8_i.to d) next k=Q.impl_Minimize_l8 C N d k λ x=>next (E.q84_l8_i.to x):=Eq.trans (b:=F.jc C N d.1.2.2.2.2.2.2.2.1 d.1.2.2.2.2.2.2.2.2.2.2.2.1 d.1.2.2.2.2.2.2.2.2.2.2.2.2.1 d.2.1.1 d.2.1.2.1 d.2.1.2.2.1 d.2.1.2.2.2.1 d.2.1.2.2.2.2.1 d.2.2.1.2.1 d.2.2.2.1.1 d.2.2.2.2.2.1.2.1 d.2.2.2.2.2.2.2.2.1.1 d.2.2.2.2.2.2.2.2.2.1.1 d.2.2.2.2.2.2.2.2.2.2.1.1 d.2.2.2.2.2.2.2.2.2.2.2.1.1 d.2.2.2.2.2.2.2.2.2.2.2.2.1.1 d.2.2.2.2.2.2.2.2.2.2.2.2.2.1.1 d.2.2.2.2.2.2.2.2.2.2.2.2.2.2.1.1 d.2.2.2.2.2.2.2.2.2.2.2.2.2.2.2.1.1 d.2.2.2.2.2.2.2.2.2.2.2.2.2.2.2.2.1.1 d.2.2.2.2.2.2.2.2.2.2.2.2.2.2.2.2.2.1.1 d.2.2.2.2.2.2.2.2.2.2.2.2.2.2.2.2.2.2.1 d.2.2.2.2.2.2.2.2.2.2.2.2.2.2.2.2.2.2.2.1.1 (λ x0 x1 x2 x3 x4 x5 x6 x7 x8 x9 x10 x11 x12 x13 x14 x15 x16 x17 x18 x19 x20 x21 x22=>next {tm:=[(1,(.pb 0 0 [])),(2,(.pb 1 0 [])),(6,(.sl 2)),(7,(.pb 3 0 [])),(16,(.pb 4 0 [])),(17,(.pb 5 0 [])),(18,(.pb 6 0 [])),(19,(.int .i64 x0)),(20,(.sl 7)),(95,(.fn 29 [])),(97,(.sl 8)),(98,(.int .i64 x1)),(99,(.int .i64 x2))],st:=[(0,(.cell false 0 [(.ro (.reg 0) (.int .i64) x3),(.int .i64 x4),(.ro (.reg 0) (.int .i64) x5),(.ro (.reg 0) (.int .i64) x6),(.ro (.reg 0) (.int .i64) x7)])),(1,(.cell false 0 [(.sl 9),(.int .i64 x8),(.sl 10),(.sl 11),(.sl 12)])),(2,(.cell false 0 [(.rw (.int .i64) x9)])),(3,(.cell false 0 [(.sl 8)])),(4,(.cell false 0 [(.sl 13),(.int .i64 x10),(.sl 14),(.sl 15),(.sl 16)])),(5,(.cell false 0 [(.mp 17)])),(6,(.cell false 0 [(.sl 18)])),(7,(.cell false 0 [(.rw (.int .u8) x11)])),(8,(.cell false 0 [(.rw Qt x12)])),(9,(.cell false 0 [(.rw (.int .i64) x13)])),(10,(.cell false 0 [(.rw (.int .i64) x14)])),(11,(.cell false 0 [(.rw (.int .i64) x15)])),(12,(.cell false 0 [(.rw (.int .i64) x16)])),(13,(.cell false 0 [(.rw (.int .i64) x17)])),(14,(.cell false 0 [(.rw (.int .i64) x18)])),(15,(.cell false 0 [(.rw (.int .i64) x19)])),(16,(.cell false 0 [(.rw (.int .i64) x20)])),(17,(.map .str (.int .i64) x21)),(18,(.cell false 0 [(.rw (.int .i64) x22)]))],nx:=19}) (λ y0 y1 y2 y3 y4 y5 y6 y7 y8 y9 y10 y11 y12 y13 y14 y15 y16 y17 y18 y19 y20=>k (.exit 8) {tm:=[(1,(.pb 0 0 [])),(2,(.pb 1 0 [])),(6,(.sl 2)),(7,(.pb 3 0 [])),(16,(.pb 4 0 [])),(17,(.pb 5 0 [])),(18,(.pb 6 0 [])),(19,(.int .i64 y0)),(20,(.sl 7)),(95,(.fn 29 []))],st:=[(0,(.cell false 0 [(.ro (.reg 0) (.int .i64) y1),(.int .i64 y2),(.ro (.reg 0) (.int .i64) y3),(.ro (.reg 0) (.int .i64) y4),(.ro (.reg 0) (.int .i64) y5)])),(1,(.cell false 0 [(.sl 8),(.int .i64 y6),(.sl 9),(.sl 10),(.sl 11)])),(2,(.cell false 0 [(.rw (.int .i64) y7)])),(3,(.cell false 0 [(.sl 12)])),(4,(.cell false 0 [(.sl 13),(.int .i64 y8),(.sl 14),(.sl 15),(.sl 16)])),(5,(.cell false 0 [(.mp 17)])),(6,(.cell false 0 [(.sl 18)])),(7,(.cell false 0 [(.rw (.int .u8) y9)])),(8,(.cell false 0 [(.rw (.int .i64) y10)])),(9,(.cell false 0 [(.rw (.int .i64) y11)])),(10,(.cell false 0 [(.rw (.int .i64) y12)])),(11,(.cell false 0 [(.rw (.int .i64) y13)])),(12,(.cell false 0 [(.rw Qt y14)])),(13,(.cell false 0 [(.rw (.int .i64) y15)])),(14,(.cell false 0 [(.rw (.int .i64) y16)])),(15,(.cell false 0 [(.rw (.int .i64) y17)])),(16,(.cell false 0 [(.rw (.int .i64) y18)])),(17,(.map .str (.int .i64) y19)),(18,(.cell false 0 [(.rw (.int .i64) y20)]))],nx:=19})) (by kernel_rfl) (by kernel_rfl)
theorem LK.q84_l8(N:Nat):Ah Try.prog 0 Try.f5.ntmps (bodyOf Try.f5) (TL.q84_l8 (R:=R) 256 N):=
 De (i:=[1,2,6,7,16,17,18,19,20,95,97,98,99]) (o:=[1,2,6,7,16,17,18,19,20,95]) (h:=H.q84) hC hm Ac WF.f5 Ab (by kernel_rfl) (λ d=>Aj rfl) (G.impl_Minimize_l8 256 N) N (Q.impl_Minimize_l8 256 N) (λ _ _=>rfl) (λ _ _=>rfl) (λ _ _ _=>rfl) (F.xd 256 N)
def G.impl_Minimize_l6(C N:Nat)(n j:Nat)(d:E.q84_l6_i.D)(k:Ex->St->Option R):Option R:=F.fw C N n j d.2.1.1 d.2.1.2.1 d.2.1.2.2.1 d.2.1.2.2.2.1 d.2.1.2.2.2.2.1 d.2.2.1.2.1 d.2.2.2.1.1 d.2.2.2.2.2.1.2.1 d.2.2.2.2.2.2.2.2.1.1 d.2.2.2.2.2.2.2.2.2.1.1 d.2.2.2.2.2.2.2.2.2.2.1.1 d.2.2.2.2.2.2.2.2.2.2.2.1.1 d.2.2.2.2.2.2.2.2.2.2.2.2.1.1 d.2.2.2.2.2.2.2.2.2.2.2.2.2.1.1 d.2.2.2.2.2.2.2.2.2.2.2.2.2.2.1.1 d.2.2.2.2.2.2.2.2.2.2.2.2.2.2.2.1.1 d.2.2.2.2.2.2.2.2.2.2.2.2.2.2.2.2.1.1 d.2.2.2.2.2.2.2.2.2.2.2.2.2.2.2.2.2.1 d.2.2.2.2.2.2.2.2.2.2.2.2.2.2.2.2.2.2.1.1 (λ y0 y1 y2 y3 y4 y5 y6 y7 y8 y9 y10 y11 y12 y13 y14 y15 y16 y17=>k .normal (E.q84_l6_onormal.to (((),((),((),((),((),((),())))))),((y0,(y1,(y2,(y3,(y4,()))))),(((),(y5,((),((),((),()))))),((y6,()),(((),()),(((),(y7,((),((),((),()))))),(((),()),((y8,()),((y9,()),((y10,()),((y11,()),((y12,()),((y13,()),((y14,()),((y15,()),((y16,()),((y17,()),())))))))))))))))))))
def TL.q84_l6(C N:Nat):Am R:={b:=6,st:=E.q84_l6_i,fn:=λ d k=>G.impl_Minimize_l6 C N C 0 d k}
def Q.impl_Minimize_l6(C N:Nat)(j:Nat)(d:E.q84_l6_i.D)(next:E.q84_l6_i.D->Option R):Option R:=F.qb C N j d.2.1.1 d.2.1.2.1 d.2.1.2.2.1 d.2.1.2.2.2.1 d.2.1.2.2.2.2.1 d.2.2.1.2.1 d.2.2.2.1.1 d.2.2.2.2.2.1.2.1 d.2.2.2.2.2.2.2.2.1.1 d.2.2.2.2.2.2.2.2.2.1.1 d.2.2.2.2.2.2.2.2.2.2.1.1 d.2.2.2.2.2.2.2.2.2.2.2.1.1 d.2.2.2.2.2.2.2.2.2.2.2.2.1.1 d.2.2.2.2.2.2.2.2.2.2.2.2.2.1.1 d.2.2.2.2.2.2.2.2.2.2.2.2.2.2.1.1 d.2.2.2.2.2.2.2.2.2.2.2.2.2.2.2.1.1 d.2.2.2.2.2.2.2.2.2.2.2.2.2.2.2.2.1.1 d.2.2.2.2.2.2.2.2.2.2.2.2.2.2.2.2.2.1 d.2.2.2.2.2.2.2.2.2.2.2.2.2.2.2.2.2.2.1.1 (λ x0 x1 x2 x3 x4 x5 x6 x7 x8 x9 x10 x11 x12 x13 x14 x15 x16 x17 x18=>next (((),((),((),((),((),((),((),((),())))))))),((x0,(x1,(x2,(x3,(x4,()))))),(((),(x5,((),((),((),()))))),((x6,()),(((),()),(((),(x7,((),((),((),()))))),(((),()),(((),()),((x8,()),((x9,()),((x10,()),((x11,()),((x12,()),((x13,()),((x14,()),((x15,()),((x16,()),(x17,((x18,()),()))))))))))))))))))))
theorem F.xe(C N:Nat)(j:Nat)(d:E.q84_l6_i.D)(next:St->Option R):
  roundE cfg (B1 []) (Bg [TL.q84_l8 C N]) 0 H.q84 6 96 (rfA (bodyOf Try.f5 6)) (rfB (bodyOf Try.f5 6)) [1,2,6,7,16,17,18,95] j (E.q84_l6_i.to d) next=Q.impl_Minimize_l6 C N j d λ x=>next (E.q84_l6_i.to x):=by kernel_rfl
theorem F.wj(C N:Nat)(j:Nat)(d:E.q84_l6_i.D)(k:Ex->St->Option R):Hm 0 H.q84 [1,2,6,7,16,18] (E.q84_l6_i.to d) k=G.impl_Minimize_l6 C N 0 j d k:=by kernel_rfl
theorem LK.q84_l6(N:Nat):Ah Try.prog 0 Try.f5.ntmps (bodyOf Try.f5) (TL.q84_l6 (R:=R) 256 N):=
 Gm (i:=[1,2,6,7,16,17,18,95]) (o:=[1,2,6,7,16,18]) (h:=H.q84) (p:=96) (gf:=29) (K:=256) hC hm Ac WF.f5 (Af (LK.q84_l8 N) Ab) (by kernel_rfl) CK.f29 (by kernel_rfl) (λ d=>Aj rfl) (λ d=>by kernel_rfl) (G.impl_Minimize_l6 256 N) (Q.impl_Minimize_l6 256 N) (λ _ _=>rfl) (F.wj 256 N) (λ _ _ _ _=>rfl) (F.xe 256 N)
def G.impl_Minimize_l12(C N:Nat)(n:Nat)(d:E.q84_l12_i.D)(k:Ex->St->Option R):Option R:=F.da C N n d.1.2.2.2.2.2.1 d.1.2.2.2.2.2.2.2.1 d.1.2.2.2.2.2.2.2.2.1 d.1.2.2.2.2.2.2.2.2.2.2.1 d.1.2.2.2.2.2.2.2.2.2.2.2.1 d.2.1.1 d.2.1.2.1 d.2.1.2.2.1 d.2.1.2.2.2.1 d.2.1.2.2.2.2.1 d.2.2.1.2.1 d.2.2.2.2.1.2.1 d.2.2.2.2.2.2.1.1 d.2.2.2.2.2.2.2.1.1 d.2.2.2.2.2.2.2.2.1.1 d.2.2.2.2.2.2.2.2.2.1.1 d.2.2.2.2.2.2.2.2.2.2.1.1 d.2.2.2.2.2.2.2.2.2.2.2.1.1 d.2.2.2.2.2.2.2.2.2.2.2.2.1.1 d.2.2.2.2.2.2.2.2.2.2.2.2.2.1.1 d.2.2.2.2.2.2.2.2.2.2.2.2.2.2.1.1 d.2.2.2.2.2.2.2.2.2.2.2.2.2.2.2.1.1 d.2.2.2.2.2.2.2.2.2.2.2.2.2.2.2.2.1.1 (λ y0 y1 y2 y3 y4 y5 y6 y7 y8 y9 y10 y11 y12 y13 y14 y15 y16 y17 y18 y19=>k (.exit 12) (E.q84_l12_oe12.to (((),((),((),((),((),((),(y0,(y1,())))))))),((y2,(y3,(y4,(y5,(y6,()))))),(((),(y7,((),((),((),()))))),(((),()),(((),(y8,((),((),((),()))))),(((),()),((y9,()),((y10,()),((y11,()),((y12,()),((y13,()),((y14,()),((y15,()),((y16,()),((y17,()),((y18,()),((y19,()),())))))))))))))))))))
def TL.q84_l12(C N:Nat):Am R:={b:=12,st:=E.q84_l12_i,fn:=λ d k=>G.impl_Minimize_l12 C N N d k}
def Q.impl_Minimize_l12(C N:Nat)(d:E.q84_l12_i.D)(k:Ex->St->Option R)(next:E.q84_l12_i.D->Option R):Option R:=F.eb C N d.1.2.2.2.2.2.1 d.1.2.2.2.2.2.2.2.1 d.1.2.2.2.2.2.2.2.2.1 d.1.2.2.2.2.2.2.2.2.2.2.1 d.1.2.2.2.2.2.2.2.2.2.2.2.1 d.2.1.1 d.2.1.2.1 d.2.1.2.2.1 d.2.1.2.2.2.1 d.2.1.2.2.2.2.1 d.2.2.1.2.1 d.2.2.2.2.1.2.1 d.2.2.2.2.2.2.1.1 d.2.2.2.2.2.2.2.1.1 d.2.2.2.2.2.2.2.2.1.1 d.2.2.2.2.2.2.2.2.2.1.1 d.2.2.2.2.2.2.2.2.2.2.1.1 d.2.2.2.2.2.2.2.2.2.2.2.1.1 d.2.2.2.2.2.2.2.2.2.2.2.2.1.1 d.2.2.2.2.2.2.2.2.2.2.2.2.2.1.1 d.2.2.2.2.2.2.2.2.2.2.2.2.2.2.1.1 d.2.2.2.2.2.2.2.2.2.2.2.2.2.2.2.1.1 d.2.2.2.2.2.2.2.2.2.2.2.2.2.2.2.2.1.1 (λ x0 x1 x2 x3 x4 x5 x6 x7 x8 x9 x10 x11 x12 x13 x14 x15 x16 x17 x18 x19 x20 x21 x22=>next (((),((),((),((),((),(x0,((),(x1,(x2,((),(x3,(x4,())))))))))))),((x5,(x6,(x7,(x8,(x9,()))))),(((),(x10,((),((),((),()))))),(((),()),(((),(x11,((),((),((),()))))),(((),()),((x12,()),((x13,()),((x14,()),((x15,()),((x16,()),((x17,()),((x18,()),((x19,()),((x20,()),((x21,()),((x22,()),())))))))))))))))))) (λ y0 y1 y2 y3 y4 y5 y6 y7 y8 y9 y10 y11 y12 y13 y14 y15 y16 y17 y18 y19=>k (.exit 12) (E.q84_l12_oe12.to (((),((),((),((),((),((),(y0,(y1,())))))))),((y2,(y3,(y4,(y5,(y6,()))))),(((),(y7,((),((),((),()))))),(((),()),(((),(y8,((),((),((),()))))),(((),()),((y9,()),((y10,()),((y11,()),((y12,()),((y13,()),((y14,()),((y15,()),((y16,()),((y17,()),((y18,()),((y19,()),())))))))))))))))))))
theorem F.wm(C N:Nat)(d:E.q84_l12_i.D)(next:St->Option R)(k:Ex->St->Option R):
  stepE cfg (B1 []) (Bg []) 0 H.q84 12 (bodyOf Try.f5 12) [1,2,7,16,18,25,145,146,147,172,173,174] [1,2,7,16,18,145,146,147] (E.q84_l12_i.to d) next k=Q.impl_Minimize_l12 C N d k λ x=>next (E.q84_l12_i.to x):=Eq.trans (b:=F.eb C N d.1.2.2.2.2.2.1 d.1.2.2.2.2.2.2.2.1 d.1.2.2.2.2.2.2.2.2.1 d.1.2.2.2.2.2.2.2.2.2.2.1 d.1.2.2.2.2.2.2.2.2.2.2.2.1 d.2.1.1 d.2.1.2.1 d.2.1.2.2.1 d.2.1.2.2.2.1 d.2.1.2.2.2.2.1 d.2.2.1.2.1 d.2.2.2.2.1.2.1 d.2.2.2.2.2.2.1.1 d.2.2.2.2.2.2.2.1.1 d.2.2.2.2.2.2.2.2.1.1 d.2.2.2.2.2.2.2.2.2.1.1 d.2.2.2.2.2.2.2.2.2.2.1.1 d.2.2.2.2.2.2.2.2.2.2.2.1.1 d.2.2.2.2.2.2.2.2.2.2.2.2.1.1 d.2.2.2.2.2.2.2.2.2.2.2.2.2.1.1 d.2.2.2.2.2.2.2.2.2.2.2.2.2.2.1.1 d.2.2.2.2.2.2.2.2.2.2.2.2.2.2.2.1.1 d.2.2.2.2.2.2.2.2.2.2.2.2.2.2.2.2.1.1 (λ x0 x1 x2 x3 x4 x5 x6 x7 x8 x9 x10 x11 x12 x13 x14 x15 x16 x17 x18 x19 x20 x21 x22=>next {tm:=[(1,(.pb 0 0 [])),(2,(.pb 1 0 [])),(7,(.pb 2 0 [])),(16,(.pb 3 0 [])),(18,(.pb 4 0 [])),(25,(.int .i64 x0)),(145,(.sl 5)),(146,(.int .i64 x1)),(147,(.int .i64 x2)),(172,(.sl 6)),(173,(.int .i64 x3)),(174,(.int .i64 x4))],st:=[(0,(.cell false 0 [(.ro (.reg 0) (.int .i64) x5),(.int .i64 x6),(.ro (.reg 0) (.int .i64) x7),(.ro (.reg 0) (.int .i64) x8),(.ro (.reg 0) (.int .i64) x9)])),(1,(.cell false 0 [(.sl 7),(.int .i64 x10),(.sl 8),(.sl 9),(.sl 10)])),(2,(.cell false 0 [(.sl 11)])),(3,(.cell false 0 [(.sl 12),(.int .i64 x11),(.sl 13),(.sl 14),(.sl 15)])),(4,(.cell false 0 [(.sl 6)])),(5,(.cell false 0 [(.rw (.int .i64) x12)])),(6,(.cell false 0 [(.rw (.int .i64) x13)])),(7,(.cell false 0 [(.rw (.int .i64) x14)])),(8,(.cell false 0 [(.rw (.int .i64) x15)])),(9,(.cell false 0 [(.rw (.int .i64) x16)])),(10,(.cell false 0 [(.rw (.int .i64) x17)])),(11,(.cell false 0 [(.rw Qt x18)])),(12,(.cell false 0 [(.rw (.int .i64) x19)])),(13,(.cell false 0 [(.rw (.int .i64) x20)])),(14,(.cell false 0 [(.rw (.int .i64) x21)])),(15,(.cell false 0 [(.rw (.int .i64) x22)]))],nx:=16}) (λ y0 y1 y2 y3 y4 y5 y6 y7 y8 y9 y10 y11 y12 y13 y14 y15 y16 y17 y18 y19=>k (.exit 12) {tm:=[(1,(.pb 0 0 [])),(2,(.pb 1 0 [])),(7,(.pb 2 0 [])),(16,(.pb 3 0 [])),(18,(.pb 4 0 [])),(145,(.sl 5)),(146,(.int .i64 y0)),(147,(.int .i64 y1))],st:=[(0,(.cell false 0 [(.ro (.reg 0) (.int .i64) y2),(.int .i64 y3),(.ro (.reg 0) (.int .i64) y4),(.ro (.reg 0) (.int .i64) y5),(.ro (.reg 0) (.int .i64) y6)])),(1,(.cell false 0 [(.sl 6),(.int .i64 y7),(.sl 7),(.sl 8),(.sl 9)])),(2,(.cell false 0 [(.sl 10)])),(3,(.cell false 0 [(.sl 11),(.int .i64 y8),(.sl 12),(.sl 13),(.sl 14)])),(4,(.cell false 0 [(.sl 15)])),(5,(.cell false 0 [(.rw (.int .i64) y9)])),(6,(.cell false 0 [(.rw (.int .i64) y10)])),(7,(.cell false 0 [(.rw (.int .i64) y11)])),(8,(.cell false 0 [(.rw (.int .i64) y12)])),(9,(.cell false 0 [(.rw (.int .i64) y13)])),(10,(.cell false 0 [(.rw Qt y14)])),(11,(.cell false 0 [(.rw (.int .i64) y15)])),(12,(.cell false 0 [(.rw (.int .i64) y16)])),(13,(.cell false 0 [(.rw (.int .i64) y17)])),(14,(.cell false 0 [(.rw (.int .i64) y18)])),(15,(.cell false 0 [(.rw (.int .i64) y19)]))],nx:=16})) (by kernel_rfl) (by kernel_rfl)
theorem LK.q84_l12(N:Nat):Ah Try.prog 0 Try.f5.ntmps (bodyOf Try.f5) (TL.q84_l12 (R:=R) 256 N):=
 De (i:=[1,2,7,16,18,25,145,146,147,172,173,174]) (o:=[1,2,7,16,18,145,146,147]) (h:=H.q84) hC hm Ac WF.f5 Ab (by kernel_rfl) (λ d=>Aj rfl) (G.impl_Minimize_l12 256 N) N (Q.impl_Minimize_l12 256 N) (λ _ _=>rfl) (λ _ _=>rfl) (λ _ _ _=>rfl) (F.wm 256 N)
def G.impl_Minimize_l10(C N:Nat)(n:Nat)(d:E.q84_l10_i.D)(k:Ex->St->Option R):Option R:=F.dc C N n d.1.2.2.2.2.2.2.1 d.1.2.2.2.2.2.2.2.1 d.2.1.1 d.2.1.2.1 d.2.1.2.2.1 d.2.1.2.2.2.1 d.2.1.2.2.2.2.1 d.2.2.1.2.1 d.2.2.2.2.1.2.1 d.2.2.2.2.2.2.1.1 d.2.2.2.2.2.2.2.1.1 d.2.2.2.2.2.2.2.2.1.1 d.2.2.2.2.2.2.2.2.2.1.1 d.2.2.2.2.2.2.2.2.2.2.1.1 d.2.2.2.2.2.2.2.2.2.2.2.1.1 d.2.2.2.2.2.2.2.2.2.2.2.2.1.1 d.2.2.2.2.2.2.2.2.2.2.2.2.2.1.1 d.2.2.2.2.2.2.2.2.2.2.2.2.2.2.1.1 d.2.2.2.2.2.2.2.2.2.2.2.2.2.2.2.1.1 d.2.2.2.2.2.2.2.2.2.2.2.2.2.2.2.2.1.1 (λ y0 y1 y2 y3 y4 y5 y6 y7 y8 y9=>k (.exit 10) (E.q84_l10_oe10.to (((),((),())),(((),(y0,((),((),((),()))))),(((),(y1,((),((),((),()))))),((y2,()),((y3,()),((y4,()),((y5,()),((y6,()),((y7,()),((y8,()),((y9,()),())))))))))))))
def TL.q84_l10(C N:Nat):Am R:={b:=10,st:=E.q84_l10_i,fn:=λ d k=>G.impl_Minimize_l10 C N N d k}
def Q.impl_Minimize_l10(C N:Nat)(d:E.q84_l10_i.D)(k:Ex->St->Option R)(next:E.q84_l10_i.D->Option R):Option R:=F.ec C N d.1.2.2.2.2.2.2.1 d.1.2.2.2.2.2.2.2.1 d.2.1.1 d.2.1.2.1 d.2.1.2.2.1 d.2.1.2.2.2.1 d.2.1.2.2.2.2.1 d.2.2.1.2.1 d.2.2.2.2.1.2.1 d.2.2.2.2.2.2.1.1 d.2.2.2.2.2.2.2.1.1 d.2.2.2.2.2.2.2.2.1.1 d.2.2.2.2.2.2.2.2.2.1.1 d.2.2.2.2.2.2.2.2.2.2.1.1 d.2.2.2.2.2.2.2.2.2.2.2.1.1 d.2.2.2.2.2.2.2.2.2.2.2.2.1.1 d.2.2.2.2.2.2.2.2.2.2.2.2.2.1.1 d.2.2.2.2.2.2.2.2.2.2.2.2.2.2.1.1 d.2.2.2.2.2.2.2.2.2.2.2.2.2.2.2.1.1 d.2.2.2.2.2.2.2.2.2.2.2.2.2.2.2.2.1.1 (λ x0 x1 x2 x3 x4 x5 x6 x7 x8 x9 x10 x11 x12 x13 x14 x15 x16 x17 x18 x19=>next (((),((),((),((),((),((),(x0,(x1,())))))))),((x2,(x3,(x4,(x5,(x6,()))))),(((),(x7,((),((),((),()))))),(((),()),(((),(x8,((),((),((),()))))),(((),()),((x9,()),((x10,()),((x11,()),((x12,()),((x13,()),((x14,()),((x15,()),((x16,()),((x17,()),((x18,()),((x19,()),())))))))))))))))))) (λ y0 y1 y2 y3 y4 y5 y6 y7 y8 y9=>k (.exit 10) (E.q84_l10_oe10.to (((),((),())),(((),(y0,((),((),((),()))))),(((),(y1,((),((),((),()))))),((y2,()),((y3,()),((y4,()),((y5,()),((y6,()),((y7,()),((y8,()),((y9,()),())))))))))))))
theorem F.wo(C N:Nat)(d:E.q84_l10_i.D)(next:St->Option R)(k:Ex->St->Option R):
  stepE cfg (B1 []) (Bg [TL.q84_l12 C N]) 0 H.q84 10 (bodyOf Try.f5 10) [1,2,7,16,18,145,146,147] [2,16] (E.q84_l10_i.to d) next k=Q.impl_Minimize_l10 C N d k λ x=>next (E.q84_l10_i.to x):=Eq.trans (b:=F.ec C N d.1.2.2.2.2.2.2.1 d.1.2.2.2.2.2.2.2.1 d.2.1.1 d.2.1.2.1 d.2.1.2.2.1 d.2.1.2.2.2.1 d.2.1.2.2.2.2.1 d.2.2.1.2.1 d.2.2.2.2.1.2.1 d.2.2.2.2.2.2.1.1 d.2.2.2.2.2.2.2.1.1 d.2.2.2.2.2.2.2.2.1.1 d.2.2.2.2.2.2.2.2.2.1.1 d.2.2.2.2.2.2.2.2.2.2.1.1 d.2.2.2.2.2.2.2.2.2.2.2.1.1 d.2.2.2.2.2.2.2.2.2.2.2.2.1.1 d.2.2.2.2.2.2.2.2.2.2.2.2.2.1.1 d.2.2.2.2.2.2.2.2.2.2.2.2.2.2.1.1 d.2.2.2.2.2.2.2.2.2.2.2.2.2.2.2.1.1 d.2.2.2.2.2.2.2.2.2.2.2.2.2.2.2.2.1.1 (λ x0 x1 x2 x3 x4 x5 x6 x7 x8 x9 x10 x11 x12 x13 x14 x15 x16 x17 x18 x19=>next {tm:=[(1,(.pb 0 0 [])),(2,(.pb 1 0 [])),(7,(.pb 2 0 [])),(16,(.pb 3 0 [])),(18,(.pb 4 0 [])),(145,(.sl 5)),(146,(.int .i64 x0)),(147,(.int .i64 x1))],st:=[(0,(.cell false 0 [(.ro (.reg 0) (.int .i64) x2),(.int .i64 x3),(.ro (.reg 0) (.int .i64) x4),(.ro (.reg 0) (.int .i64) x5),(.ro (.reg 0) (.int .i64) x6)])),(1,(.cell false 0 [(.sl 6),(.int .i64 x7),(.sl 7),(.sl 8),(.sl 9)])),(2,(.cell false 0 [(.sl 10)])),(3,(.cell false 0 [(.sl 11),(.int .i64 x8),(.sl 12),(.sl 13),(.sl 14)])),(4,(.cell false 0 [(.sl 15)])),(5,(.cell false 0 [(.rw (.int .i64) x9)])),(6,(.cell false 0 [(.rw (.int .i64) x10)])),(7,(.cell false 0 [(.rw (.int .i64) x11)])),(8,(.cell false 0 [(.rw (.int .i64) x12)])),(9,(.cell false 0 [(.rw (.int .i64) x13)])),(10,(.cell false 0 [(.rw Qt x14)])),(11,(.cell false 0 [(.rw (.int .i64) x15)])),(12,(.cell false 0 [(.rw (.int .i64) x16)])),(13,(.cell false 0 [(.rw (.int .i64) x17)])),(14,(.cell false 0 [(.rw (.int .i64) x18)])),(15,(.cell false 0 [(.rw (.int .i64) x19)]))],nx:=16}) (λ y0 y1 y2 y3 y4 y5 y6 y7 y8 y9=>k (.exit 10) {tm:=[(2,(.pb 0 0 [])),(16,(.pb 1 0 []))],st:=[(0,(.cell false 0 [(.sl 2),(.int .i64 y0),(.sl 3),(.sl 4),(.sl 5)])),(1,(.cell false 0 [(.sl 6),(.int .i64 y1),(.sl 7),(.sl 8),(.sl 9)])),(2,(.cell false 0 [(.rw (.int .i64) y2)])),(3,(.cell false 0 [(.rw (.int .i64) y3)])),(4,(.cell false 0 [(.rw (.int .i64) y4)])),(5,(.cell false 0 [(.rw (.int .i64) y5)])),(6,(.cell false 0 [(.rw (.int .i64) y6)])),(7,(.cell false 0 [(.rw (.int .i64) y7)])),(8,(.cell false 0 [(.rw (.int .i64) y8)])),(9,(.cell false 0 [(.rw (.int .i64) y9)]))],nx:=10})) (by kernel_rfl) (by kernel_rfl)
theorem LK.q84_l10(N:Nat):Ah Try.prog 0 Try.f5.ntmps (bodyOf Try.f5) (TL.q84_l10 (R:=R) 256 N):=
 De (i:=[1,2,7,16,18,145,146,147]) (o:=[2,16]) (h:=H.q84) hC hm Ac WF.f5 (Af (LK.q84_l12 N) Ab) (by kernel_rfl) (λ d=>Aj rfl) (G.impl_Minimize_l10 256 N) N (Q.impl_Minimize_l10 256 N) (λ _ _=>rfl) (λ _ _=>rfl) (λ _ _ _=>rfl) (F.wo 256 N)
def T.q84_c(C N:Nat):Au R:={f:=5,arg:=E.q84_a,res:=E.q84_r,fn:=λ d k=>F.px C N d.1.1.1 d.1.1.2.1 d.1.1.2.2.1 d.1.1.2.2.2.1 d.1.1.2.2.2.2.1 (λ x0 x1 x2 x3 x4=>k (((),(x0,((),((),((),()))))),((),((x1,()),((x2,()),((x3,()),((x4,()),())))))))}
theorem F.ym(C N:Nat)(d:E.q84_a.D)(k:AV->List (Option Blk)->List Blk->Option R):
  Hr cfg (B1 [T.q74 N,T.q77 N,T.q83 N,T.q75]) (Bg [TL.q84_l0 C N,TL.q84_l2 C N,TL.q84_l6 C N,TL.q84_l10 C N]) H.q84 Try.f5 (E.q84_a.to d).1 (E.q84_a.to d).2 k=(T.q84_c C N).fn d λ x=>k (E.q84_r.to x).1 (E.q84_r.to x).2.1 (E.q84_r.to x).2.2:=by kernel_rfl
theorem TK.q84(N:Nat):Ak Try.prog (T.q84 (R:=R) N):=
 Al (h:=H.q84) hC hm (Ae (TK.q74 N) (Ae (TK.q77 N) (Ae (TK.q83 N) (Ae TK.q75 Ac)))) WF.f5 (λ d=>(Af (LK.q84_l0 N) (Af (LK.q84_l2 N) (Af (LK.q84_l6 N) (Af (LK.q84_l10 N) Ab))))) (F.ym 256 N)
abbrev E.q85_l2_i:Enc St:=sT 2 (lU Bk rfl (lC Ca (lU Dq rfl (lC B9 (lO C5))))) Ke
abbrev E.q85_l2_oe2:Enc St:=sT 2 (lU Bk rfl Ar3) Ke
abbrev E.q85_l0_i:Enc St:=sT 2 (lU Bk rfl Ar3) Ke
abbrev E.q85_l0_oe0:Enc St:=sT 2 (lU Bk rfl (lR Ca Ae4 rfl)) Ke
abbrev E.q85_l10_i:Enc St:=sT 2 (lU Bk rfl (lC Ca (lU Dq rfl (lC Tg (lC D4 (lC Ce (lO He))))))) Ke
abbrev E.q85_l10_oe10:Enc St:=sT 2 (lU Bk rfl (lC Ca (lU Dq rfl (lC Tg (lC D4 (lO Ce)))))) Ke
abbrev E.q85_l8_i:Enc St:=sT 2 (lU Bk rfl (lC Ca (lU Dq rfl (lC Tg (lC D4 (lO Ce)))))) Ke
abbrev E.q85_l8_oe8:Enc St:=sT 2 (lU Bk rfl (lC Ca (lU Dq rfl (lC Tg (lO D4))))) Ke
abbrev E.q85_l6_i:Enc St:=sT 2 (lU Bk rfl (lC Ca (lU Dq rfl (lC Tg (lO D4))))) Ke
abbrev E.q85_l6_oe6:Enc St:=sT 2 (lU Bk rfl Ar4) Ke
abbrev E.q85_l4_i:Enc St:=sT 2 (lU Bk rfl Ar4) Ke
abbrev E.q85_l4_oe4:Enc St:=sT 1 (lR Ca (lU Zw rfl (lN (Nat×AV))) rfl) (lO (kY 0 Ch))
abbrev E.q85_l14_i:Enc St:=sT 1 (lC Ca (lU Zw rfl (lC Ff (lO Hg)))) (lO (kY 0 Ch))
abbrev E.q85_l14_oe14:Enc St:=sT 1 (lU Ou rfl Akb) (lO (kY 0 Ch))
abbrev E.q85_l14_oret:Enc St:=sT 1 (lC Rg Akb) (lO (kY 0 Ch))
abbrev E.q85_l12_i:Enc St:=sT 1 Akb (lO (kY 0 Ch))
abbrev E.q85_l12_oe12:Enc St:=sR 0 Aey rfl (lN (Nat×Blk))
abbrev E.q85_l12_oret:Enc St:=sQ 0 (lO Rg) (lN (Nat×Blk)) rfl
abbrev E.q85_j40:Enc St:=sT 2 (lU Bk rfl (lC Ca (lU Dq rfl (lC Tg (lC D4 (lC Ce (lC He (lO (kY 86 bB))))))))) Ke
abbrev E.q85_a:Enc (List AV×List Blk):=bQ (lO (aG K6)) (lN Blk) rfl
abbrev E.q85_r:Enc (AV×List (Option Blk)×List Blk):=bQ bB (bS (lN (Option Blk)) rfl (lN Blk)) rfl
def T.q85(N:Nat):Au R:={f:=7,arg:=E.q85_a,res:=E.q85_r,fn:=F.qk N}
def H.q85:A4:={lp:=[(0,[1,3,4,5],[1,3,4]),(2,[1,3,4,5,6],[1,3,4,5]),(4,[1,3,4,7],[3,4]),(6,[1,3,4,7,8],[1,3,4,7]),(8,[1,3,4,7,8,9],[1,3,4,7,8]),(10,[1,3,4,7,8,9,10],[1,3,4,7,8,9]),(12,[3,4,11],[2]),(14,[3,4,11,12],[2,3,4,11])],jn:=[(40,[1,3,4,7,8,9,10,86],E.q85_j40)]}
theorem WF.f7:Bb Try.prog 7 Try.f7:=Aq Try.func7 (by decide) (by kernel_rfl)
def TL.q85_l2(N:Nat):Am R:={b:=2,st:=E.q85_l2_i,fn:=λ d k=>lp (F.ef N) N d (λ y=>k (.exit 2) (E.q85_l2_oe2.to y))}
theorem LK.q85_l2(N:Nat):Ah Try.prog 0 Try.f7.ntmps (bodyOf Try.f7) (TL.q85_l2 (R:=R) N):=
 Ai (i:=[1,3,4,5,6]) (o:=[1,3,4,5]) (h:=H.q85) hC hm Ac WF.f7 Ab (by kernel_rfl) (λ d=>Aj rfl) N (F.ef N) _ (λ _ _=>rfl) (λ _ _ _=>by kernel_rfl)
def TL.q85_l0(N:Nat):Am R:={b:=0,st:=E.q85_l0_i,fn:=λ d k=>lp (F.eh N) N d (λ y=>k (.exit 0) (E.q85_l0_oe0.to y))}
theorem LK.q85_l0(N:Nat):Ah Try.prog 0 Try.f7.ntmps (bodyOf Try.f7) (TL.q85_l0 (R:=R) N):=
 Ai (i:=[1,3,4,5]) (o:=[1,3,4]) (h:=H.q85) hC hm Ac WF.f7 (Af (LK.q85_l2 N) Ab) (by kernel_rfl) (λ d=>Aj rfl) N (F.eh N) _ (λ _ _=>rfl) (λ _ _ _=>by kernel_rfl)
def TL.q85_l10(N:Nat):Am R:={b:=10,st:=E.q85_l10_i,fn:=λ d k=>lp (F.cg N) N d (λ y=>k (.exit 10) (E.q85_l10_oe10.to y))}
theorem LK.q85_l10(N:Nat):Ah Try.prog 0 Try.f7.ntmps (bodyOf Try.f7) (TL.q85_l10 (R:=R) N):=
 Ai (i:=[1,3,4,7,8,9,10]) (o:=[1,3,4,7,8,9]) (h:=H.q85) hC hm Ac WF.f7 Ab (by kernel_rfl) (λ d=>Aj rfl) N (F.cg N) _ (λ _ _=>rfl) (λ _ _ _=>by kernel_rfl)
def TL.q85_l8(N:Nat):Am R:={b:=8,st:=E.q85_l8_i,fn:=λ d k=>lp (F.ej N) N d (λ y=>k (.exit 8) (E.q85_l8_oe8.to y))}
theorem LK.q85_l8(N:Nat):Ah Try.prog 0 Try.f7.ntmps (bodyOf Try.f7) (TL.q85_l8 (R:=R) N):=
 Ai (i:=[1,3,4,7,8,9]) (o:=[1,3,4,7,8]) (h:=H.q85) hC hm Ac WF.f7 (Af (LK.q85_l10 N) Ab) (by kernel_rfl) (λ d=>Aj rfl) N (F.ej N) _ (λ _ _=>rfl) (λ _ _ _=>by kernel_rfl)
def TL.q85_l6(N:Nat):Am R:={b:=6,st:=E.q85_l6_i,fn:=λ d k=>lp (F.eu N) N d (λ y=>k (.exit 6) (E.q85_l6_oe6.to y))}
theorem LK.q85_l6(N:Nat):Ah Try.prog 0 Try.f7.ntmps (bodyOf Try.f7) (TL.q85_l6 (R:=R) N):=
 Ai (i:=[1,3,4,7,8]) (o:=[1,3,4,7]) (h:=H.q85) hC hm Ac WF.f7 (Af (LK.q85_l8 N) Ab) (by kernel_rfl) (λ d=>Aj rfl) N (F.eu N) _ (λ _ _=>rfl) (λ _ _ _=>by kernel_rfl)
def TL.q85_l4(N:Nat):Am R:={b:=4,st:=E.q85_l4_i,fn:=λ d k=>lp (F.ew N) N d (λ y=>k (.exit 4) (E.q85_l4_oe4.to y))}
theorem LK.q85_l4(N:Nat):Ah Try.prog 0 Try.f7.ntmps (bodyOf Try.f7) (TL.q85_l4 (R:=R) N):=
 Ai (i:=[1,3,4,7]) (o:=[3,4]) (h:=H.q85) hC hm Ac WF.f7 (Af (LK.q85_l6 N) Ab) (by kernel_rfl) (λ d=>Aj rfl) N (F.ew N) _ (λ _ _=>rfl) (λ _ _ _=>by kernel_rfl)
def TL.q85_l14(N:Nat):Am R:={b:=14,st:=E.q85_l14_i,fn:=λ d k=>lp (F.co N) N d (λ y=>k (.exit 14) (E.q85_l14_oe14.to y),λ y=>k .ret (E.q85_l14_oret.to y))}
theorem LK.q85_l14(N:Nat):Ah Try.prog 0 Try.f7.ntmps (bodyOf Try.f7) (TL.q85_l14 (R:=R) N):=
 Ai (i:=[3,4,11,12]) (o:=[2,3,4,11]) (h:=H.q85) hC hm Ac WF.f7 Ab (by kernel_rfl) (λ d=>Aj rfl) N (F.co N) _ (λ _ _=>rfl) (λ _ _ _=>by kernel_rfl)
def TL.q85_l12(N:Nat):Am R:={b:=12,st:=E.q85_l12_i,fn:=λ d k=>lp (F.cq N) N d (λ y=>k (.exit 12) (E.q85_l12_oe12.to y),λ y=>k .ret (E.q85_l12_oret.to y))}
theorem LK.q85_l12(N:Nat):Ah Try.prog 0 Try.f7.ntmps (bodyOf Try.f7) (TL.q85_l12 (R:=R) N):=
 Ai (i:=[3,4,11]) (o:=[2]) (h:=H.q85) hC hm Ac WF.f7 (Af (LK.q85_l14 N) Ab) (by kernel_rfl) (λ d=>Aj rfl) N (F.cq N) _ (λ _ _=>rfl) (λ _ _ _=>by kernel_rfl)
theorem TK.q85(N:Nat):Ak Try.prog (T.q85 (R:=R) N):=
 Al (h:=H.q85) hC hm Ac WF.f7 (λ d=>(Af (LK.q85_l0 N) (Af (LK.q85_l4 N) (Af (LK.q85_l12 N) Ab)))) (λ _ _=>by kernel_rfl)
abbrev E.q86_l0_i:Enc St:=sQ 0 (lC (kY 0 Hh) (lC (kY 1 Hh) (lC Hg (lO Z1)))) (lN (Nat×Blk)) rfl
abbrev E.q86_l0_oe0:Enc St:=sR 0 Zz rfl (lN (Nat×Blk))
abbrev E.q86_l0_oret:Enc St:=sQ 0 (lO Kz) (lN (Nat×Blk)) rfl
abbrev E.q86_a:Enc (List AV×List Blk):=bQ (lC Hh (lO Hh)) (lN Blk) rfl
abbrev E.q86_r:Enc (AV×List (Option Blk)×List Blk):=bQ bB (bS (lN (Option Blk)) rfl (lN Blk)) rfl
def T.q86(N:Nat):Au R:={f:=17,arg:=E.q86_a,res:=E.q86_r,fn:=F.fx N}
def H.q86:A4:={lp:=[(0,[0,1,12,13],[4])]}
theorem WF.f17:Bb Try.prog 17 Try.f17:=Aq Try.func17 (by decide) (by kernel_rfl)
def TL.q86_l0(N:Nat):Am R:={b:=0,st:=E.q86_l0_i,fn:=λ d k=>lp (F.ey N) N d (λ y=>k (.exit 0) (E.q86_l0_oe0.to y),λ y=>k .ret (E.q86_l0_oret.to y))}
theorem LK.q86_l0(N:Nat):Ah Try.prog 0 Try.f17.ntmps (bodyOf Try.f17) (TL.q86_l0 (R:=R) N):=
 Ai (i:=[0,1,12,13]) (o:=[4]) (h:=H.q86) hC hm Ac WF.f17 Ab (by kernel_rfl) (λ d=>Aj rfl) N (F.ey N) _ (λ _ _=>rfl) (λ _ _ _=>by kernel_rfl)
theorem TK.q86(N:Nat):Ak Try.prog (T.q86 (R:=R) N):=
 Al (h:=H.q86) hC hm Ac WF.f17 (λ d=>(Af (LK.q86_l0 N) Ab)) (λ _ _=>by kernel_rfl)
abbrev E.q87_a:Enc (List AV×List Blk):=bQ (lC (aG K6) (lO (aG K6))) (lN Blk) rfl
abbrev E.q87_r:Enc (AV×List (Option Blk)×List Blk):=bQ bB (bS (lN (Option Blk)) rfl (lN Blk)) rfl
def T.q87(N:Nat):Au R:={f:=8,arg:=E.q87_a,res:=E.q87_r,fn:=F.qx N}
def H.q87:A4:={lp:=[]}
theorem WF.f8:Bb Try.prog 8 Try.f8:=Aq Try.func8 (by decide) (by kernel_rfl)
theorem TK.q87(N:Nat):Ak Try.prog (T.q87 (R:=R) N):=
 Al (h:=H.q87) hC hm (Ae (TK.q86 N) Ac) WF.f8 (λ d=>Ab) (λ _ _=>by kernel_rfl)
end Go.Proofs.Ytfeppeacchjbeaa.fnMinimal
