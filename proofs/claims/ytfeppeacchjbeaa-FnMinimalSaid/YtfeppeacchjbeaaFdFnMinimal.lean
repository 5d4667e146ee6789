/- What the Go functions that the law uses answer, as plain functions. -/
import Derived.Test.YtfeppeacchjbeaaEa
open List renaming length->z9,getD->zB,replicate->zD,set->zE,take->zF,drop->zG
open Int renaming toNat->zA,tmod->zH
open Nat renaming ble->zC
set_option linter.unusedVariables false
set_option maxHeartbeats 4000000
namespace Go.Proofs.Ytfeppeacchjbeaa.fnMinimal
open Go.Ev
abbrev ty0:Type:=(List (Int×Int))
abbrev ty2:Type:=(Int×(ty0×(Int×(Int×Int))))
abbrev ty4:Type:=(Bool×(Bool×(List ty2)))
abbrev ty5:Type:=((List ty4)×Int)
abbrev ty7:Type:=(Int×(Int×((List Bool)×(Int×Int))))
abbrev ty9:Type:=(List (List ty7))
abbrev Kl:Type:=(List (List ty2))
abbrev Ms:Type:=(Int×(Int×(Int×ty0)))
abbrev Py:Type:=(Int×(Bool×(Bool×Int)))
abbrev Abx:Type:=(List (List Bool))
abbrev E5:Type:=(List (List Int))
abbrev Ge:Type:=(Int×(List Int)×Int×Int)
abbrev F4:Type:=((List Int)×Int×Int)
abbrev Ht:Type:=((List Int)×(List Int)×(List Int))
abbrev Avv:Type:=((List Int)×(List Int)×(List Int)×Ht)
abbrev Oc:Type:=(Int×(List Int)×(List Int)×Avv)
abbrev Yq:Type:=((Int×Int)×F4×Int×Oc)
abbrev Ah1:Type:=(Int×F4×Int×Oc)
abbrev Apy:Type:=((Int×Int×Int)×F4×Int×Oc)
abbrev Aec:Type:=(F4×Int×Oc)
abbrev Aed:Type:=(Int×F4×(List Int)×Ht)
abbrev And:Type:=(F4×Int×(List ty2)×(List ty4))
abbrev Ab8:Type:=((Int×Int×Int×Int)×And)
abbrev Sd:Type:=((Int×Int)×And)
abbrev Avw:Type:=(Int×Int×Int×Int×Bool)
abbrev Apz:Type:=((Int×Int×Int×Int×Int×Bool)×And)
abbrev Aut:Type:=(Int×F4×(List ty4))
abbrev Ap0:Type:=(((List ty2)×Int×Int)×Ht)
abbrev Auu:Type:=(Bool×Ht)
abbrev Avx:Type:=(Int×Int×(List ty2)×Int×Int)
abbrev Awb:Type:=((Int×Avx)×(List Int)×(List Int)×((List Int)×Int×ty0×Int×Int×Int))
abbrev Awc:Type:=(Bool×(List Int)×(List Int))
abbrev Ap1:Type:=(Int×ty0×Int×Int×Int)
abbrev Ap2:Type:=(((List ty2)×(List ty2)×Int×Int)×Ht)
abbrev Auv:Type:=((List ty2)×(List Int))
abbrev Ap3:Type:=(Int×(List ty4)×Int×Int)
abbrev Ee:Type:=(List UInt8×(List Int)×Int×Int)
abbrev Ap4:Type:=((Int×List UInt8)×(List Int)×Int×Int)
abbrev Ap5:Type:=(Int×List UInt8×Int×Int)
abbrev Anm:Type:=(Ap5×(List Int)×Int×Int)
abbrev Avy:Type:=((Int×List UInt8×Int×Int×Bool)×(List Int)×Int×Int)
abbrev Yr:Type:=((List UInt8×Int)×(List Int)×Int×Int)
abbrev Ah2:Type:=((List UInt8×List UInt8)×(List Int)×Int×Int)
abbrev Ut:Type:=(List UInt8×Int×Int)
abbrev Ann:Type:=(Int×List UInt8×Int)
abbrev Ap6:Type:=(List UInt8×Int)
abbrev Uu:Type:=((Int×Int)×(List Bool))
abbrev Se:Type:=(Int×(List Bool))
abbrev Ano:Type:=((List UInt8×Int×Bool×Int×Int)×(List Bool))
abbrev Auw:Type:=((List UInt8×Bool×Int×(Int×List UInt8×Bool×Int×Int))×(List Bool)×(List (List UInt8)))
abbrev Avz:Type:=((List UInt8×(Bool×Int×Int×List UInt8×Bool))×(List Bool))
abbrev Aux:Type:=((List UInt8×(Bool×Int×Int×List UInt8×Int))×(List Bool))
abbrev Ap7:Type:=((List UInt8×Int×Bool×Int×Int×Int)×(List Bool))
abbrev Va:Type:=((List UInt8×Int×Bool×Int)×(List Bool))
abbrev Av0:Type:=(Bool×Int×Int×Int×Int×Bool)
abbrev Ap8:Type:=(Ut×(List ty7))
abbrev Auy:Type:=((Int×Int)×(List ty7))
abbrev Sf:Type:=((List ty7)×Int×Int)
abbrev Ap9:Type:=((List ty7)×Int)
abbrev Anp:Type:=((List ty7)×Int×Int×Int)
abbrev Al5:Type:=(((List ty7)×Int)×ty9)
abbrev Al6:Type:=((Kl×Int×Kl×Int×Int)×(List ty2))
abbrev Al7:Type:=((Kl×Int×Int)×(List ty2))
abbrev Agb:Type:=(((List Bool)×Int)×ty0)
abbrev Abt:Type:=(Sf×Kl)
abbrev Al8:Type:=(((List ty7)×Int×Int×Int×Int)×Kl×Kl×ty9)
abbrev Agc:Type:=(((List ty7)×Int)×Kl)
abbrev Al9:Type:=((List UInt8×(List ty7)×Int×Int)×Int×(List ty4))
abbrev Abu:Type:=(((List ty7)×Int)×Int×(List ty4))
abbrev R0:Type:=(Int×Int×(List ty4)×(List ty4))
abbrev Agd:Type:=((Int×Int)×Int×(Int×ty9×(List ty4)×(List ty4)))
abbrev Ama:Type:=((Int×Int×Int)×F4×(List ty5))
abbrev Age:Type:=((ty0×Int×Int)×Int×ty0×Int×Int×Int)
abbrev Asf:Type:=(Bool×Int×ty0×Int×Int×Int)
abbrev Amb:Type:=(Ap3×((List ty4)×Int)×(List Int))
abbrev Abv:Type:=(Int×((List ty4)×Int)×(List Int))
abbrev Amc:Type:=(((List ty4)×Avx)×((List ty4)×Int)×(List Int))
abbrev Abw:Type:=(((List ty4)×Int×Int)×((List ty4)×Int)×(List Int))
abbrev Asg:Type:=((Bool×(List ty4)×Int×Int)×((List ty4)×Int)×(List Int))
abbrev Ash:Type:=(((List ty4)×Int)×(List Int))
abbrev Asi:Type:=(Bool×((List ty4)×Int)×(List Int))
abbrev Amd:Type:=((Int×Int×Int×Int)×((List ty4)×Int)×(List Int))
abbrev Asj:Type:=((Int×Int)×((List ty4)×Int)×(List Int))
abbrev Ame:Type:=(Bool×(List ty4)×Int)
abbrev Amf:Type:=(Int×(List ty5)×Int×Int)
abbrev D8:Type:=(Int×(List Ms)×(List Py))
abbrev Amg:Type:=((List Int)×(List Int)×List UInt8)
abbrev I6:Type:=((((List ty2)×Amg)×Int)×(List Ms)×(List Py))
abbrev R1:Type:=((((List ty2)×Amg)×Int×Int×Int)×(List Ms)×(List Py))
abbrev Ask:Type:=(((List ty2)×Amg)×(List Ms)×(List Py))
abbrev Agf:Type:=((List Py)×(List Ms)×(List Py))
abbrev Amh:Type:=((Int×(List ty5)×(Int×Int×(List ty4)×Int×Int))×(List Ms)×Agf)
abbrev Aby:Type:=(((List ty5)×Int×Int)×(List Ms)×Agf)
abbrev Ju:Type:=((List Ms)×(List Py))
abbrev Ami:Type:=(Int×ty0×Int×Int)
abbrev Amj:Type:=((Int×Int×Int×Int×Bool×(Int×Int×(List Ms)×Int×Int))×Ju×(List Int)×(List Int))
abbrev Agg:Type:=(Int×Int×Int×Bool×Int×Int)
abbrev Asl:Type:=(Agg×Ju×(List Int)×(List Int))
abbrev Amk:Type:=((Int×Int×Int×Int)×Ju×(List Int)×(List Int))
abbrev Asm:Type:=((Int×Int)×Ju×(List Int)×(List Int))
abbrev Aml:Type:=(Int×Ju×(List Int)×(List Int))
abbrev Abz:Type:=((List Int)×(List Int))
abbrev Wy:Type:=(Ju×Int)
abbrev Wz:Type:=(Ju×Int×(List Bool))
abbrev Amm:Type:=((Bool×(List Bool)×(Bool×Int×(List Py)×Int×Int))×(List Ms)×(List Py))
abbrev W0:Type:=((Ju×Int×Bool×(List Bool)×Int)×(List Bool))
abbrev Amn:Type:=((Bool×((List Bool)×Int×(List Py)×Int×Int))×Ju×(List Bool))
abbrev Amo:Type:=((List Bool)×(List Bool)×Int×Int)
abbrev Amp:Type:=(Int×Int×(List Int)×Int×Int)
abbrev Asn:Type:=((Int×Bool)×(List Int)×Int×Ht)
abbrev Br:Type:=((List Int)×Int×Ht)
abbrev Amq:Type:=((Int×Int)×Br×(List Int))
abbrev Ab0:Type:=(Int×Br×(List Int))
abbrev Amr:Type:=(((List Int)×Int×(List Int)×Int×Int)×Br×(List Int))
abbrev Aso:Type:=(((List Int)×Int)×Br×(List Int))
abbrev Ams:Type:=(F4×Br×(List Int)×(List Int))
abbrev Asp:Type:=(((List Int)×Int)×Br×(List Int)×(List Int))
abbrev Amt:Type:=((List Int)×(List Int)×Abx×(List Bool))
abbrev Amu:Type:=(((List Int)×Int×Int×Int)×Br×Amt)
abbrev Pz:Type:=(Br×(List Int)×(List Int)×Abx)
abbrev Ab1:Type:=(Int×Bool×Int×Int×Int×Int)
abbrev Amv:Type:=(((List Int)×Ab1)×Pz)
abbrev Ab2:Type:=(((List Int)×Int×Bool×Int×Int)×Pz)
abbrev Ab3:Type:=(((List Int)×Int×Bool×Int)×Pz)
abbrev Ab4:Type:=(((List Int)×Int×Bool)×Pz)
abbrev Amw:Type:=(Int×Int×Int×Int×Int)
abbrev Amx:Type:=(Abx×(List Int)×(List Int)×Ht)
abbrev Amy:Type:=(Amw×Br×Int×(List Int)×Amx)
abbrev Asq:Type:=((Int×Int×Int×Int)×Br×Int×(List Int)×Amx)
abbrev Amz:Type:=((Int×Int)×Br×Int×(List Int)×Amx)
abbrev Kj:Type:=(Int×(List Int)×(List Int)×Ht)
abbrev Am0:Type:=(Int×(List Int)×(List Int)×(E5×(List Int)×(List Int)×Ht))
abbrev Am1:Type:=((Int×Int)×Br×Am0)
abbrev Am2:Type:=((List Int)×E5×(List Int)×Ht)
abbrev Am3:Type:=(Int×Br×Int×(List Int)×Am2)
abbrev R2:Type:=((List Int)×(List Int)×(List Int)×Avv)
abbrev P0:Type:=(Int×(List Int)×E5×Int×R2)
abbrev Am4:Type:=((Int×Int×Int×Ab1)×Br×P0)
abbrev Am5:Type:=((Int×Int×Int×Int)×Br×P0)
abbrev Am6:Type:=(Int×Br×P0)
abbrev Asr:Type:=(Int×Int×Int×Int×Int×Int)
abbrev Am7:Type:=(Int×E5×Int×(List Int)×R2)
abbrev Am8:Type:=(Asr×Br×Am7)
abbrev Ass:Type:=((Int×Int×Int)×Br×Am7)
abbrev Am9:Type:=((Int×Int)×Br×Am7)
abbrev W3:Type:=(Int×(List Int)×Ht)
abbrev Ast:Type:=((List Int)×(List Int)×(List Int)×((List Ms)×(List Py)×(List Int)×Ht))
abbrev Asu:Type:=(Abx×(List Bool)×(List Int)×Ast)
abbrev Ana:Type:=(Asr×Int×(List Int)×Int×Asu)
abbrev Asv:Type:=(Amw×Int×(List Int)×Int×Asu)
abbrev Asw:Type:=((List Int)×Int×Abx×(List Int)×Ast)
abbrev Anb:Type:=((Int×Int×Int×Int)×Int×Asw)
abbrev Ab5:Type:=((Int×Int)×Int×Asw)
abbrev R3:Type:=((Int×Int×Int)×F4×Br×Int×Oc)
abbrev Asx:Type:=((Int×Int)×F4×Br×Int×Oc)
abbrev Anc:Type:=(Amw×F4×Br×Int×Oc)
abbrev Ab6:Type:=((Int×Int×Int×Int)×F4×Br×Int×Oc)
abbrev Ane:Type:=((Int×Int×Int)×Br×(List Bool))
abbrev Ab7:Type:=((Int×Int)×Br×(List Bool))
abbrev Agh:Type:=((Int×Bool×Int×Int×Int)×Br×(List Bool))
abbrev W4:Type:=((Int×Bool×Int×Int)×Br×(List Bool))
abbrev Ab9:Type:=((Int×Bool×Int)×Br×(List Bool))
abbrev Aca:Type:=((Int×Bool)×Br×(List Bool))
abbrev Anf:Type:=((Int×Int×Int)×(List Bool))
abbrev Asy:Type:=((Bool×Int×Int)×(List Bool))
abbrev Ang:Type:=((List Int)×(List Int)×Int×Int)
abbrev Anh:Type:=((Int×Agg)×Int×Int×(List Int)×R2)
abbrev Asz:Type:=(Avw×Int×Int×(List Int)×R2)
abbrev As0:Type:=(Av0×Int×Int×(List Int)×R2)
abbrev Ani:Type:=((Int×Int)×Int×Int×(List Int)×R2)
abbrev Acb:Type:=(Int×Int×Int×(List Int)×R2)
abbrev As1:Type:=((Bool×Int)×Int×Int×(List Int)×R2)
abbrev Anj:Type:=((Int×Int)×Kj)
abbrev Agi:Type:=(Bool×Int×(List Int)×Ht)
abbrev Ank:Type:=((Int×Bool×Int)×Int×(List Int)×Ht)
abbrev As2:Type:=((Int×Bool)×Int×(List Int)×Ht)
abbrev Anl:Type:=(Int×Int×(List Int)×Ht)
abbrev zr0:(Bool×(List ty2)):=(false,([]:List ty2))
abbrev zr2:(Int×Int):=((0:Int),(0:Int))
abbrev zr3:(ty0×(Int×(Int×Int))):=(([]:List (Int×Int)),((0:Int),zr2))
abbrev zr5:ty7:=((0:Int),((0:Int),(([]:List Bool),zr2)))
abbrev zr6:ty5:=(([]:List ty4),(0:Int))
abbrev zr7:(Int×(Int×ty0)):=((0:Int),((0:Int),([]:List (Int×Int))))
abbrev zr8:(Bool×(Bool×Int)):=(false,(false,(0:Int)))
variable{R:Type}
def F.jd:F4->(Ge->Option R)->Option R
 | (x1,x2,x3),k=>
 bif decide (x2>=(z9 x1:Int)) then
  k (0,x1,x2,x3)
 else
  chk (inB (Aa .i64 ((Aa .i64 (x2+1))-1)) (z9 x1))<|
  k (Aa .i64 (zB x1 (zA (Aa .i64 ((Aa .i64 (x2+1))-1))) (0:Int)),x1,Aa .i64 (x2+1),x3)
def F.aa:Ge->(Ge->Option R)->Option R
 | (x1,x2,x3,x4),k=>
 bif decide (x1<=1) then
  k (0,x2,x3,x4)
 else
  bif decide (x1<=256) then
   F.jd (x2,x3,x4) λ(r5,r6,r7,r8)=>
   chk (!(x1==0))<|
   k (zH r5 x1,r6,r7,r8)
  else
   F.jd (x2,x3,x4) λ(r9,r10,r11,r12)=>
   F.jd (r10,r11,r12) λ(r13,r14,r15,r16)=>
   chk (!(x1==0))<|
   k (zH (Aa .i64 ((Aa .i64 (r9*256))+r13)) x1,r14,r15,r16)
def F.pi:F4->(Ge->Option R)->Option R
 | (x1,x2,x3),k=>
 F.aa (10,x1,x2,x3) λ(r4,r5,r6,r7)=>
 bif r4==9 then
  k (2,r5,r6,r7)
 else
  bif r4==7 then
   k (1,r5,r6,r7)
  else
   bif r4==8 then k (1,r5,r6,r7) else k (0,r5,r6,r7)
def F.gh(N:Nat):Yq->(Yq->Option R)->(Ah1->Option R)->Option R
 | ((x12,x13),(x14,x15,x16),x17,x18,x19,x20,x21,x22,x23,x24,x25,x26),next,ke0=>
 bif decide (x13<6) then
  F.aa (x18,x14,x15,x16) λ(r27,r28,r29,r30)=>
  chk (inB (Aa .i64 (97+x13)) (z9 x23))<|
  next ((x12,Aa .i64 (x13+1)),(r28,r29,r30),x17,x18,x19,x20,x21,x22,zE x23 (zA (Aa .i64 (97+x13))) r27,x24,x25,x26)
 else
  ke0 (x12,(x14,x15,x16),x17,x18,x19,x20,x21,x22,x23,x24,x25,x26)
def F.tj(N:Nat):Nat->Yq->(Ah1->Option R)->Option R:=lp (F.gh N)
def F.gj(N:Nat):Apy->(Apy->Option R)->(Yq->Option R)->Option R
 | ((x193,x194,x195),(x196,x197,x198),x199,x200,x201,x202,x203,x204,x205,x206,x207,x208),next,ke4=>
 bif decide (x195<x200) then
  F.aa (x193,x196,x197,x198) λ(r209,r210,r211,r212)=>
  chk (zC (z9 x206+z9 [r209]) (Ap 8))<|
  next ((x193,x194,Aa .i64 (x195+1)),(r210,r211,r212),x199,x200,x201,x202,x203,x204,x205,x206++[r209],x207,x208)
 else
  ke4 ((x193,x194),(x196,x197,x198),x199,x200,x201,x202,x203,x204,x205,x206,x207,x208)
def F.tn(N:Nat):Nat->Apy->(Yq->Option R)->Option R:=lp (F.gj N)
def F.lz(N:Nat)(next:Yq->Option R):(Aec->Option R)->Apy->Option R
 | ke2,((w232,w233,w234),(w235,w236,w237),w238,w239,w240,w241,w242,w243,w244,w245,w246,w247)=>
 chk (zC (z9 w246+z9 [w234]) (Ap 8))<|
 F.aa (4,w235,w236,w237) λ(r248,r249,r250,r251)=>
 bif r248==3 then
  F.aa (3,r249,r250,r251) λ(r252,r253,r254,r255)=>
  chk (zC (z9 w247+z9 [Aa .i64 (r252-1)]) (Ap 8))<|
  next ((w232,Aa .i64 (w233+1)),(r253,r254,r255),w238,w239,w240,w241,w242,w243,w244,w245,w246++[w234],w247++[Aa .i64 (r252-1)])
 else
  chk (zC (z9 w247+z9 [w234]) (Ap 8))<|
  next ((w232,Aa .i64 (w233+1)),(r249,r250,r251),w238,w239,w240,w241,w242,w243,w244,w245,w246++[w234],w247++[w234])
def F.gk(N:Nat):Yq->(Yq->Option R)->(Aec->Option R)->Option R
 | ((x178,x179),(x180,x181,x182),x183,x184,x185,x186,x187,x188,x189,x190,x191,x192),next,ke2=>
 bif decide (x179<x178) then
  F.tn N N ((x178,x179,0),(x180,x181,x182),x183,x184,x185,x186,x187,x188,x189,x190,x191,x192) λ((y213,y214),(y215,y216,y217),y218,y219,y220,y221,y222,y223,y224,y225,y226,y227)=>
  F.aa (6,y215,y216,y217) λ(r228,r229,r230,r231)=>
  bif decide ((Aa .i64 (r228-3))<(-1)) then
   jn (F.lz N next ke2) ((y213,y214,(-1)),(r229,r230,r231),y218,y219,y220,y221,y222,y223,y224,y225,y226,y227)
  else
   jn (F.lz N next ke2) ((y213,y214,Aa .i64 (r228-3)),(r229,r230,r231),y218,y219,y220,y221,y222,y223,y224,y225,y226,y227)
 else
  ke2 ((x180,x181,x182),x183,x184,x185,x186,x187,x188,x189,x190,x191,x192)
def F.qy(N:Nat):Nat->Yq->(Aec->Option R)->Option R:=lp (F.gk N)
def F.df(N:Nat):F4->(Aed->Option R)->Option R
 | (x1,x2,x3),k=>
 F.aa (13,x1,x2,x3) λ(r4,r5,r6,r7)=>
 F.aa (4,r5,r6,r7) λ(r8,r9,r10,r11)=>
 chk (decide (0<=256))<|
 chk (zC (zA 256) (Ap 8))<|
 F.tj N N ((Aa .i64 (2+r4),0),(r9,r10,r11),0,Aa .i64 (2+r8),([]:List Int),([]:List Int),([]:List Int),([]:List Int),zD (zA 256) (0:Int),([]:List Int),([]:List Int),([]:List Int)) λ(y31,(y32,y33,y34),y35,y36,y37,y38,y39,y40,y41,y42,y43,y44)=>
 F.aa (3,y32,y33,y34) λ(r45,r46,r47,r48)=>
 bif r45==2 then
  F.aa (256,r46,r47,r48) λ(r49,r50,r51,r52)=>
  F.aa (y36,r50,r51,r52) λ(r53,r54,r55,r56)=>
  chk (inB r49 (z9 y41))<|
  F.qy N N ((y31,0),(r54,r55,r56),y35,y36,y37,y38,y39,y40,zE y41 (zA r49) r53,y42,y43,y44) λ((y272,y273,y274),y275,y276,y277,y278,y279,y280,y281,y282,y283,y284)=>
  k (y276,(y272,y273,y274),y281,y282,y283,y284)
 else
  F.qy N N ((y31,0),(r46,r47,r48),y35,y36,y37,y38,y39,y40,y41,y42,y43,y44) λ((y285,y286,y287),y288,y289,y290,y291,y292,y293,y294,y295,y296,y297)=>
  k (y289,(y285,y286,y287),y294,y295,y296,y297)
def F.lm(N:Nat)(next:Ab8->Option R):(Sd->Option R)->(Avw×And)->Option R
 | ke0,((w82,w83,w84,w85,w86),(w87,w88,w89),w90,w91,w92)=>
 bif w86 then
  chk (zC (z9 w91+z9 [(5,(([]:List (Int×Int)),(0,(0,Aa .i64 (w83+1)))))]) (Ap 56))<|
  next ((w82,Aa .i64 (w83+1),w84,Aa .i64 (w85+1)),(w87,w88,w89),w90,w91++[(5,(([]:List (Int×Int)),(0,(0,Aa .i64 (w83+1)))))],w92)
 else
  F.aa (3,w87,w88,w89) λ(r93,r94,r95,r96)=>
  F.aa (2,r94,r95,r96) λ(r97,r98,r99,r100)=>
  chk (zC (z9 w91+z9 [(1,([(Aa .i64 (97+r93),Aa .i64 ((Aa .i64 (97+r93))+r97))],(0,(0,0))))]) (Ap 56))<|
  next ((Aa .i64 (w82+1),w83,w84,Aa .i64 (w85+1)),(r98,r99,r100),w90,w91++[(1,([(Aa .i64 (97+r93),Aa .i64 ((Aa .i64 (97+r93))+r97))],(0,(0,0))))],w92)
def F.lq(N:Nat)(next:Ab8->Option R):(Sd->Option R)->Apz->Option R
 | ke0,((w66,w67,w68,w69,w70,w71),(w72,w73,w74),w75,w76,w77)=>
 bif w71 then
  F.aa (2,w72,w73,w74) λ(r78,r79,r80,r81)=>
  chk (zC (z9 w76+z9 [(4,(([]:List (Int×Int)),(r78,((-1),0))))]) (Ap 56))<|
  next ((w66,w67,w68,Aa .i64 (w69+1)),(r79,r80,r81),w75,w76++[(4,(([]:List (Int×Int)),(r78,((-1),0))))],w77)
 else
  bif decide (w66>=1) then
   jn (F.lm N next ke0) ((w66,w67,w68,w69,w70==5),(w72,w73,w74),w75,w76,w77)
  else
   jn (F.lm N next ke0) ((w66,w67,w68,w69,false),(w72,w73,w74),w75,w76,w77)
def F.lr(N:Nat)(next:Ab8->Option R):(Sd->Option R)->Apz->Option R
 | ke0,((w46,w47,w48,w49,w50,w51),(w52,w53,w54),w55,w56,w57)=>
 bif w51 then
  F.aa (3,w52,w53,w54) λ(r58,r59,r60,r61)=>
  F.aa (3,r59,r60,r61) λ(r62,r63,r64,r65)=>
  chk (zC (z9 w56+z9 [(4,(([]:List (Int×Int)),(r58,(Aa .i64 (r58+r62),0))))]) (Ap 56))<|
  next ((w46,w47,w48,Aa .i64 (w49+1)),(r63,r64,r65),w55,w56++[(4,(([]:List (Int×Int)),(r58,(Aa .i64 (r58+r62),0))))],w57)
 else
  bif decide (w46>=1) then
   jn (F.lq N next ke0) ((w46,w47,w48,w49,w50,w50==4),(w52,w53,w54),w55,w56,w57)
  else
   jn (F.lq N next ke0) ((w46,w47,w48,w49,w50,false),(w52,w53,w54),w55,w56,w57)
def F.lu(N:Nat)(next:Ab8->Option R):(Sd->Option R)->Apz->Option R
 | ke0,((w34,w35,w36,w37,w38,w39),(w40,w41,w42),w43,w44,w45)=>
 bif w39 then
  chk (zC (z9 w44+z9 [(3,(([]:List (Int×Int)),(0,(0,0))))]) (Ap 56))<|
  next ((Aa .i64 (w34-1),w35,w36,Aa .i64 (w37+1)),(w40,w41,w42),w43,w44++[(3,(([]:List (Int×Int)),(0,(0,0))))],w45)
 else
  bif decide (w34>=1) then
   jn (F.lr N next ke0) ((w34,w35,w36,w37,w38,w38==3),(w40,w41,w42),w43,w44,w45)
  else
   jn (F.lr N next ke0) ((w34,w35,w36,w37,w38,false),(w40,w41,w42),w43,w44,w45)
def F.lw(N:Nat)(next:Ab8->Option R):(Sd->Option R)->Apz->Option R
 | ke0,((w22,w23,w24,w25,w26,w27),(w28,w29,w30),w31,w32,w33)=>
 bif w27 then
  chk (zC (z9 w32+z9 [(2,(([]:List (Int×Int)),(0,(0,0))))]) (Ap 56))<|
  next ((Aa .i64 (w22-1),w23,w24,Aa .i64 (w25+1)),(w28,w29,w30),w31,w32++[(2,(([]:List (Int×Int)),(0,(0,0))))],w33)
 else
  bif decide (w22>=2) then
   jn (F.lu N next ke0) ((w22,w23,w24,w25,w26,w26==2),(w28,w29,w30),w31,w32,w33)
  else
   jn (F.lu N next ke0) ((w22,w23,w24,w25,w26,false),(w28,w29,w30),w31,w32,w33)
def F.bp(N:Nat):Ab8->(Ab8->Option R)->(Sd->Option R)->Option R
 | ((x8,x9,x10,x11),(x12,x13,x14),x15,x16,x17),next,ke0=>
 bif decide (x11<x10) then
  F.aa (6,x12,x13,x14) λ(r18,r19,r20,r21)=>
  bif decide (x8>=2) then
   jn (F.lw N next ke0) ((x8,x9,x10,x11,r18,r18==1),(r19,r20,r21),x15,x16,x17)
  else
   jn (F.lw N next ke0) ((x8,x9,x10,x11,r18,false),(r19,r20,r21),x15,x16,x17)
 else
  ke0 ((x8,x9),(x12,x13,x14),x15,x16,x17)
def F.sa(N:Nat):Nat->Ab8->(Sd->Option R)->Option R:=lp (F.bp N)
def F.bq(N:Nat):Sd->(Sd->Option R)->(Sd->Option R)->Option R
 | ((x159,x160),(x161,x162,x163),x164,x165,x166),next,ke2=>
 bif decide (x159>1) then
  F.aa (3,x161,x162,x163) λ(r167,r168,r169,r170)=>
  bif r167==2 then
   chk (zC (z9 x165+z9 [(3,(([]:List (Int×Int)),(0,(0,0))))]) (Ap 56))<|
   next ((Aa .i64 (x159-1),x160),(r168,r169,r170),x164,x165++[(3,(([]:List (Int×Int)),(0,(0,0))))],x166)
  else
   chk (zC (z9 x165+z9 [(2,(([]:List (Int×Int)),(0,(0,0))))]) (Ap 56))<|
   next ((Aa .i64 (x159-1),x160),(r168,r169,r170),x164,x165++[(2,(([]:List (Int×Int)),(0,(0,0))))],x166)
 else
  ke2 ((x159,x160),(x161,x162,x163),x164,x165,x166)
def F.sb(N:Nat):Nat->Sd->(Sd->Option R)->Option R:=lp (F.bq N)
def F.kh(N:Nat):(Aut->Option R)->(Int×And)->Option R
 | k,(w188,(w189,w190,w191),w192,w193,w194)=>
 F.aa (6,w189,w190,w191) λ(r195,r196,r197,r198)=>
 F.aa (6,r196,r197,r198) λ(r199,r200,r201,r202)=>
 chk (zC (z9 ([]:List ty4)+z9 [(r195==5,(r199==5,w193))]) (Ap 32))<|
 F.aa (4,r200,r201,r202) λ(r203,r204,r205,r206)=>
 bif r203==3 then
  chk (zC (z9 (([]:List ty4)++[(r195==5,(r199==5,w193))])+z9 [(false,(false,[(1,([(97,97)],(0,(0,0))))]))]) (Ap 32))<|
  k (w188,(r204,r205,r206),(([]:List ty4)++[(r195==5,(r199==5,w193))])++[(false,(false,[(1,([(97,97)],(0,(0,0))))]))])
 else
  k (w188,(r204,r205,r206),([]:List ty4)++[(r195==5,(r199==5,w193))])
def F.pj(N:Nat):F4->(Aut->Option R)->Option R
 | (x1,x2,x3),k=>
 F.aa (12,x1,x2,x3) λ(r4,r5,r6,r7)=>
 F.sa N N ((0,0,Aa .i64 (1+r4),0),(r5,r6,r7),0,([]:List ty2),([]:List ty4)) λ((y151,y152),(y153,y154,y155),y156,y157,y158)=>
 F.sb N N ((y151,y152),(y153,y154,y155),y156,y157,y158) λ((y180,y181),(y182,y183,y184),y185,y186,y187)=>
 bif y180==0 then
  chk (zC (z9 y186+z9 [(1,(([]:List (Int×Int)),(0,(0,0))))]) (Ap 56))<|
  jn (F.kh N k) (y181,(y182,y183,y184),y185,y186++[(1,(([]:List (Int×Int)),(0,(0,0))))],y187)
 else
  jn (F.kh N k) (y181,(y182,y183,y184),y185,y186,y187)
def F.ny:Int->(Int->Option R)->Option R
 | x1,k=>
 bif x1==2 then
  k 2
 else
  bif x1==3 then
   k 2
  else
   bif x1==4 then
    k 1
   else
    bif x1==5 then k 1 else k 0
def F.pk(N:Nat)(next:Ap0->Option R):((Ht->Option R)×(Auu->Option R))->Awb->Option R
 | (ke0,kret),((w10,w11,w12,w13,w14,w15),w16,w17,w18,w19,w20,w21,w22,w23)=>
 F.ny w19 λ r24=>
 bif decide (r24>=1) then
  chk (inB (Aa .i64 ((z9 w18:Int)-1)) (z9 w18))<|
  chk (decide (0<=(Aa .i64 ((z9 w18:Int)-1)))&&decide ((Aa .i64 ((z9 w18:Int)-1))<=(z9 w18:Int)))<|
  chk (zC (z9 w16+z9 [zB w18 (zA (Aa .i64 ((z9 w18:Int)-1))) (0:Int)]) (Ap 8))<|
  chk (zC (z9 w17+z9 [w12]) (Ap 8))<|
  chk (zC (z9 (zF ((zA (Aa .i64 ((z9 w18:Int)-1)))-0) (zG 0 w18))+z9 [w10]) (Ap 8))<|
  next ((w13,w14,Aa .i64 (w15+1)),w16++[zB w18 (zA (Aa .i64 ((z9 w18:Int)-1))) (0:Int)],w17++[w12],(zF ((zA (Aa .i64 ((z9 w18:Int)-1)))-0) (zG 0 w18))++[w10])
 else
  chk (zC (z9 w16+z9 [w11]) (Ap 8))<|
  chk (zC (z9 w17+z9 [w12]) (Ap 8))<|
  chk (zC (z9 w18+z9 [w10]) (Ap 8))<|
  next ((w13,w14,Aa .i64 (w15+1)),w16++[w11],w17++[w12],w18++[w10])
def F.bh(N:Nat):Ap0->(Ap0->Option R)->((Ht->Option R)×(Auu->Option R))->Option R
 | ((x2,x3,x4),x5,x6,x7),next,(ke0,kret)=>
 bif decide (x4<x3) then
  chk (inB x4 (z9 x2))<|
  F.ny ((zB x2 (zA x4) ((0:Int),zr3)).1) λ r8=>
  bif decide ((z9 x7:Int)<r8) then
   kret (false,x5,x6,x7)
  else
   F.ny ((zB x2 (zA x4) ((0:Int),zr3)).1) λ r9=>
   bif r9==2 then
    chk (inB (Aa .i64 ((z9 x7:Int)-1)) (z9 x7))<|
    chk (decide (0<=(Aa .i64 ((z9 x7:Int)-1)))&&decide ((Aa .i64 ((z9 x7:Int)-1))<=(z9 x7:Int)))<|
    jn (F.pk N next (ke0,kret)) ((x4,(-1),zB x7 (zA (Aa .i64 ((z9 x7:Int)-1))) (0:Int),x2,x3,x4),x5,x6,zF ((zA (Aa .i64 ((z9 x7:Int)-1)))-0) (zG 0 x7),(zB x2 (zA x4) ((0:Int),zr3)).1,((zB x2 (zA x4) ((0:Int),zr3)).2).1,(((zB x2 (zA x4) ((0:Int),zr3)).2).2).1,((((zB x2 (zA x4) ((0:Int),zr3)).2).2).2).1,((((zB x2 (zA x4) ((0:Int),zr3)).2).2).2).2)
   else
    jn (F.pk N next (ke0,kret)) ((x4,(-1),(-1),x2,x3,x4),x5,x6,x7,(zB x2 (zA x4) ((0:Int),zr3)).1,((zB x2 (zA x4) ((0:Int),zr3)).2).1,(((zB x2 (zA x4) ((0:Int),zr3)).2).2).1,((((zB x2 (zA x4) ((0:Int),zr3)).2).2).2).1,((((zB x2 (zA x4) ((0:Int),zr3)).2).2).2).2)
 else
  ke0 (x5,x6,x7)
def F.vo(N:Nat):Nat->Ap0->((Ht->Option R)×(Auu->Option R))->Option R:=lp (F.bh N)
def F.am(N:Nat):(List ty2)->(Awc->Option R)->Option R
 | x1,k=>
 F.vo N N ((x1,(z9 x1:Int),0),([]:List Int),([]:List Int),([]:List Int)) (λ(y34,y35,y36)=>
  k ((z9 y36:Int)==1,y34,y35),
  λ(y37,y38,y39,y40)=>
  k (y37,y38,y39))
def F.oz:Ap1->(Int->Option R)->Option R
 | (x1,x2,x3,x4,x5),k=>
 bif x4==(-1) then
  k (Aa .i64 (x3+1))
 else
  bif decide (x4<1) then k 1 else k x4
def F.ah(N:Nat)(next:Ap2->Option R):(Auv->Option R)->(((List ty2)×Int×(List ty2)×Int×Int)×Ht)->Option R
 | ke0,((w46,w47,w48,w49,w50),w51,w52,w53)=>
 chk (inB w47 (z9 w53))<|
 bif decide ((zB w53 (zA w47) (0:Int))>2000) then
  chk (inB w47 (z9 w53))<|
  next ((w46,w48,w49,Aa .i64 (w50+1)),w51,w52,zE w53 (zA w47) 2001)
 else
  next ((w46,w48,w49,Aa .i64 (w50+1)),w51,w52,w53)
def F.au(N:Nat):Ap2->(Ap2->Option R)->(Auv->Option R)->Option R
 | ((x5,x6,x7,x8),x9,x10,x11),next,ke0=>
 bif decide (x8<x7) then
  chk (inB x8 (z9 x6))<|
  bif((zB x6 (zA x8) ((0:Int),zr3)).1)==1 then
   chk (inB x8 (z9 x11))<|
   jn (F.ah N next ke0) ((x5,x8,x6,x7,x8),x9,x10,zE x11 (zA x8) 1)
  else
   bif((zB x6 (zA x8) ((0:Int),zr3)).1)==2 then
    bif((zB x6 (zA x8) ((0:Int),zr3)).1)==2 then
     chk (inB x8 (z9 x9))<|
     chk (inB (zB x9 (zA x8) (0:Int)) (z9 x11))<|
     chk (inB x8 (z9 x10))<|
     chk (inB (zB x10 (zA x8) (0:Int)) (z9 x11))<|
     chk (inB x8 (z9 x11))<|
     jn (F.ah N next ke0) ((x5,x8,x6,x7,x8),x9,x10,zE x11 (zA x8) (Aa .i64 ((zB x11 (zA (zB x9 (zA x8) (0:Int))) (0:Int))+(zB x11 (zA (zB x10 (zA x8) (0:Int))) (0:Int)))))
    else
     bif((zB x6 (zA x8) ((0:Int),zr3)).1)==4 then
      chk (inB x8 (z9 x9))<|
      chk (inB (zB x9 (zA x8) (0:Int)) (z9 x11))<|
      F.oz ((zB x6 (zA x8) ((0:Int),zr3)).1,((zB x6 (zA x8) ((0:Int),zr3)).2).1,(((zB x6 (zA x8) ((0:Int),zr3)).2).2).1,((((zB x6 (zA x8) ((0:Int),zr3)).2).2).2).1,((((zB x6 (zA x8) ((0:Int),zr3)).2).2).2).2) λ r12=>
      chk (inB x8 (z9 x11))<|
      jn (F.ah N next ke0) ((x5,x8,x6,x7,x8),x9,x10,zE x11 (zA x8) (Aa .i64 ((zB x11 (zA (zB x9 (zA x8) (0:Int))) (0:Int))*r12)))
     else
      bif((zB x6 (zA x8) ((0:Int),zr3)).1)==5 then
       chk (inB x8 (z9 x9))<|
       chk (inB (zB x9 (zA x8) (0:Int)) (z9 x11))<|
       chk (inB x8 (z9 x11))<|
       jn (F.ah N next ke0) ((x5,x8,x6,x7,x8),x9,x10,zE x11 (zA x8) (zB x11 (zA (zB x9 (zA x8) (0:Int))) (0:Int)))
      else
       jn (F.ah N next ke0) ((x5,x8,x6,x7,x8),x9,x10,x11)
   else
    bif((zB x6 (zA x8) ((0:Int),zr3)).1)==3 then
     chk (inB x8 (z9 x9))<|
     chk (inB (zB x9 (zA x8) (0:Int)) (z9 x11))<|
     chk (inB x8 (z9 x10))<|
     chk (inB (zB x10 (zA x8) (0:Int)) (z9 x11))<|
     chk (inB x8 (z9 x11))<|
     jn (F.ah N next ke0) ((x5,x8,x6,x7,x8),x9,x10,zE x11 (zA x8) (Aa .i64 ((zB x11 (zA (zB x9 (zA x8) (0:Int))) (0:Int))+(zB x11 (zA (zB x10 (zA x8) (0:Int))) (0:Int)))))
    else
     bif((zB x6 (zA x8) ((0:Int),zr3)).1)==4 then
      chk (inB x8 (z9 x9))<|
      chk (inB (zB x9 (zA x8) (0:Int)) (z9 x11))<|
      F.oz ((zB x6 (zA x8) ((0:Int),zr3)).1,((zB x6 (zA x8) ((0:Int),zr3)).2).1,(((zB x6 (zA x8) ((0:Int),zr3)).2).2).1,((((zB x6 (zA x8) ((0:Int),zr3)).2).2).2).1,((((zB x6 (zA x8) ((0:Int),zr3)).2).2).2).2) λ r29=>
      chk (inB x8 (z9 x11))<|
      jn (F.ah N next ke0) ((x5,x8,x6,x7,x8),x9,x10,zE x11 (zA x8) (Aa .i64 ((zB x11 (zA (zB x9 (zA x8) (0:Int))) (0:Int))*r29)))
     else
      bif((zB x6 (zA x8) ((0:Int),zr3)).1)==5 then
       chk (inB x8 (z9 x9))<|
       chk (inB (zB x9 (zA x8) (0:Int)) (z9 x11))<|
       chk (inB x8 (z9 x11))<|
       jn (F.ah N next ke0) ((x5,x8,x6,x7,x8),x9,x10,zE x11 (zA x8) (zB x11 (zA (zB x9 (zA x8) (0:Int))) (0:Int)))
      else
       jn (F.ah N next ke0) ((x5,x8,x6,x7,x8),x9,x10,x11)
 else
  ke0 (x5,x11)
def F.tu(N:Nat):Nat->Ap2->(Auv->Option R)->Option R:=lp (F.au N)
def F.pc(N:Nat):(List ty2)->(Int->Option R)->Option R
 | x1,k=>
 F.am N x1 λ(r2,r3,r4)=>
 bif !r2 then
  k 0
 else
  chk (decide (0<=(z9 x1:Int)))<|
  chk (zC (zA (z9 x1:Int)) (Ap 8))<|
  F.tu N N ((x1,x1,(z9 x1:Int),0),r3,r4,zD (zA (z9 x1:Int)) (0:Int)) λ(y61,y62)=>
  chk (inB (Aa .i64 ((z9 y61:Int)-1)) (z9 y62))<|
  k (zB y62 (zA (Aa .i64 ((z9 y61:Int)-1))) (0:Int))
def F.an(N:Nat):Ap3->(Ap3->Option R)->(Int->Option R)->Option R
 | (x3,x4,x5,x6),next,ke0=>
 bif decide (x6<x5) then
  chk (inB x6 (z9 x4))<|
  F.pc N (((zB x4 (zA x6) (false,zr0)).2).2) λ r7=>
  next (Aa .i64 (x3+r7),x4,x5,Aa .i64 (x6+1))
 else
  ke0 x3
def F.wb(N:Nat):Nat->Ap3->(Int->Option R)->Option R:=lp (F.an N)
def F.aj(N:Nat):ty5->(Int->Option R)->Option R
 | (x1,x2),k=>
 F.wb N N (0,x1,(z9 x1:Int),0) λ y8=>
 k y8
def F.ma(N:Nat)(rw0:Ge->(Ee->Option R)->Option R)(next:Ap4->Option R):(Ee->Option R)->((Int×List UInt8×Bool)×(List Int)×Int×Int)->Option R
 | ke0,((w18,w19,w20),w21,w22,w23)=>
 bif w20 then
  rw0 (w18,w21,w22,w23) λ(r24,r25,r26,r27)=>
  chk (zC (z9 [124]+z9 r24) big)<|
  chk (zC (z9 w19+z9 ([124]++r24)) big)<|
  next ((w18,w19++([124]++r24)),r25,r26,r27)
 else
  ke0 (w19,w21,w22,w23)
def F.br(N:Nat)(rw0:Ge->(Ee->Option R)->Option R):Ap4->(Ap4->Option R)->(Ee->Option R)->Option R
 | ((x9,x10),x11,x12,x13),next,ke0=>
 bif decide (x13>0) then
  F.aa (3,x11,x12,x13) λ(r14,r15,r16,r17)=>
  jn (F.ma N rw0 next ke0) ((x9,x10,r14==1),r15,r16,r17)
 else
  jn (F.ma N rw0 next ke0) ((x9,x10,false),x11,x12,x13)
def F.xf(N:Nat)(rw0:Ge->(Ee->Option R)->Option R):Nat->Ap4->(Ee->Option R)->Option R:=lp (F.br N rw0)
def F.pm(N:Nat)(rw0:Ge->(Ee->Option R)->Option R):Ge->(Ee->Option R)->Option R
 | (x1,x2,x3,x4),k=>
 rw0 (x1,x2,x3,x4) λ(r5,r6,r7,r8)=>
 F.xf N rw0 N ((x1,r5),r6,r7,r8) λ(y28,y29,y30,y31)=>
 k (y28,y29,y30,y31)
def F.pp:F4->(Ee->Option R)->Option R
 | (x1,x2,x3),k=>
 F.aa ((z9 [[97],[98],[99],[97],[98],[97,98],[91,97,98,93],[46],[91,94,97,93],[91,97,45,99,93],[91,98,45,93],[91,91,58,100,105,103,105,116,58,93,93],[49],[92,46],[91,93,97,93],[91,94,91,58,97,108,112,104,97,58,93,98,93],[91,91,58,120,100,105,103,105,116,58,93,45,93],[91,97,45,99,98,45,102,93],[45],[125],[91,94,93,45,97,93],[92,92],[91,91,58,117,112,112,101,114,58,93,91,58,115,112,97,99,101,58,93,120,93],[91,92,93]]:Int),x1,x2,x3) λ(r4,r5,r6,r7)=>
 chk (inB r4 (z9 [[97],[98],[99],[97],[98],[97,98],[91,97,98,93],[46],[91,94,97,93],[91,97,45,99,93],[91,98,45,93],[91,91,58,100,105,103,105,116,58,93,93],[49],[92,46],[91,93,97,93],[91,94,91,58,97,108,112,104,97,58,93,98,93],[91,91,58,120,100,105,103,105,116,58,93,45,93],[91,97,45,99,98,45,102,93],[45],[125],[91,94,93,45,97,93],[92,92],[91,91,58,117,112,112,101,114,58,93,91,58,115,112,97,99,101,58,93,120,93],[91,92,93]]))<|
 k (zB [[97],[98],[99],[97],[98],[97,98],[91,97,98,93],[46],[91,94,97,93],[91,97,45,99,93],[91,98,45,93],[91,91,58,100,105,103,105,116,58,93,93],[49],[92,46],[91,93,97,93],[91,94,91,58,97,108,112,104,97,58,93,98,93],[91,91,58,120,100,105,103,105,116,58,93,45,93],[91,97,45,99,98,45,102,93],[45],[125],[91,94,93,45,97,93],[92,92],[91,91,58,117,112,112,101,114,58,93,91,58,115,112,97,99,101,58,93,120,93],[91,92,93]] (zA r4) ([]:List UInt8),r5,r6,r7)
def F.mb:F4->(Ee->Option R)->Option R
 | (x1,x2,x3),k=>
 F.aa ((z9 [[],[],[],[42],[43],[63],[123,50,125],[123,49,44,50,125],[123,48,44,50,125],[123,50,44,125],[123,48,125],[42],[63],[123,49,44,51,125],[123,48,44,125],[123,48,51,125]]:Int),x1,x2,x3) λ(r4,r5,r6,r7)=>
 chk (inB r4 (z9 [[],[],[],[42],[43],[63],[123,50,125],[123,49,44,50,125],[123,48,44,50,125],[123,50,44,125],[123,48,125],[42],[63],[123,49,44,51,125],[123,48,44,125],[123,48,51,125]]))<|
 k (zB [[],[],[],[42],[43],[63],[123,50,125],[123,49,44,50,125],[123,48,44,50,125],[123,50,44,125],[123,48,125],[42],[63],[123,49,44,51,125],[123,48,44,125],[123,48,51,125]] (zA r4) ([]:List UInt8),r5,r6,r7)
def F.gl(N:Nat)(rw0:Ge->(Ee->Option R)->Option R)(next:Anm->Option R):(Ee->Option R)->Avy->Option R
 | ke0,((w28,w29,w30,w31,w32),w33,w34,w35)=>
 bif w32 then
  F.pm N rw0 (Aa .i64 (w28+1),w33,w34,w35) λ(r36,r37,r38,r39)=>
  chk (zC (z9 [40]+z9 r36) big)<|
  chk (zC (z9 ([40]++r36)+z9 [41]) big)<|
  chk (zC (z9 w29+z9 (([40]++r36)++[41])) big)<|
  F.mb (r37,r38,r39) λ(r55,r56,r57,r58)=>
  chk (zC (z9 (w29++(([40]++r36)++[41]))+z9 r55) big)<|
  next ((w28,(w29++(([40]++r36)++[41]))++r55,w30,Aa .i64 (w31+1)),r56,r57,r58)
 else
  F.pp (w33,w34,w35) λ(r40,r41,r42,r43)=>
  chk (zC (z9 w29+z9 r40) big)<|
  F.mb (r41,r42,r43) λ(r59,r60,r61,r62)=>
  chk (zC (z9 (w29++r40)+z9 r59) big)<|
  next ((w28,(w29++r40)++r59,w30,Aa .i64 (w31+1)),r60,r61,r62)
def F.cw(N:Nat)(rw0:Ge->(Ee->Option R)->Option R)(next:Anm->Option R):(Ee->Option R)->Avy->Option R
 | ke0,((w16,w17,w18,w19,w20),w21,w22,w23)=>
 bif w20 then
  bif decide (w16<3) then
   bif decide ((Aa .i64 (w23-1))>0) then
    F.aa (3,w21,w22,Aa .i64 (w23-1)) λ(r24,r25,r26,r27)=>
    jn (F.gl N rw0 next ke0) ((w16,w17,w18,w19,r24==1),r25,r26,r27)
   else
    jn (F.gl N rw0 next ke0) ((w16,w17,w18,w19,false),w21,w22,Aa .i64 (w23-1))
  else
   jn (F.gl N rw0 next ke0) ((w16,w17,w18,w19,false),w21,w22,Aa .i64 (w23-1))
 else
  ke0 (w17,w21,w22,w23)
def F.di(N:Nat)(rw0:Ge->(Ee->Option R)->Option R):Anm->(Anm->Option R)->(Ee->Option R)->Option R
 | ((x9,x10,x11,x12),x13,x14,x15),next,ke0=>
 bif decide (x12<x11) then
  bif x12==0 then
   jn (F.cw N rw0 next ke0) ((x9,x10,x11,x12,true),x13,x14,x15)
  else
   jn (F.cw N rw0 next ke0) ((x9,x10,x11,x12,decide (x15>0)),x13,x14,x15)
 else
  jn (F.cw N rw0 next ke0) ((x9,x10,x11,x12,false),x13,x14,x15)
def F.xp(N:Nat)(rw0:Ge->(Ee->Option R)->Option R):Nat->Anm->(Ee->Option R)->Option R:=lp (F.di N rw0)
def F.om(N:Nat)(rw0:Ge->(Ee->Option R)->Option R):Ge->(Ee->Option R)->Option R
 | (x1,x2,x3,x4),k=>
 F.aa (4,x2,x3,x4) λ(r5,r6,r7,r8)=>
 F.xp N rw0 N ((x1,[],Aa .i64 (1+r5),0),r6,r7,r8) λ(y63,y64,y65,y66)=>
 k (y63,y64,y65,y66)
def F.kr(N:Nat):Nat->Ge->(Ee->Option R)->Option R:=rc (F.om N)
def F.ga(N:Nat)(next:Yr->Option R):((Ee->Option R)×(Ah2->Option R))->Yr->Option R
 | (ke0,kret),((w39,w40),w41,w42,w43)=>
 bif decide (w43<=0) then
  kret ((w39,w39),w41,w42,w43)
 else
  F.aa (3,w41,w42,w43) λ(r44,r45,r46,r47)=>
  bif r44 !=1 then kret ((w39,w39),r45,r46,r47) else next ((w39,Aa .i64 (w40+1)),r45,r46,r47)
def F.bf(N:Nat)(next:Yr->Option R):((Ee->Option R)×(Ah2->Option R))->((List UInt8×Int×Bool)×(List Int)×Int×Int)->Option R
 | (ke0,kret),((w33,w34,w35),w36,w37,w38)=>
 bif w35 then
  chk (zC (z9 w33+z9 [36]) big)<|
  jn (F.ga N next (ke0,kret)) ((w33++[36],w34),w36,w37,w38)
 else
  jn (F.ga N next (ke0,kret)) ((w33,w34),w36,w37,w38)
def F.gb(N:Nat)(next:Yr->Option R):((Ee->Option R)×(Ah2->Option R))->(Ut×(List Int)×Int×Int)->Option R
 | (ke0,kret),((w19,w20,w21),w22,w23,w24)=>
 F.kr N N (0,w22,w23,w24) λ(r25,r26,r27,r28)=>
 chk (zC (z9 w19+z9 r25) big)<|
 bif w21==7 then
  jn (F.bf N next (ke0,kret)) ((w19++r25,w20,true),r26,r27,r28)
 else
  bif w21==6 then
   F.aa (2,r26,r27,r28) λ(r29,r30,r31,r32)=>
   jn (F.bf N next (ke0,kret)) ((w19++r25,w20,r29==1),r30,r31,r32)
  else
   jn (F.bf N next (ke0,kret)) ((w19++r25,w20,false),r26,r27,r28)
def F.gc(N:Nat)(next:Yr->Option R):((Ee->Option R)×(Ah2->Option R))->Yr->Option R
 | (ke0,kret),((w10,w11),w12,w13,w14)=>
 F.aa (8,w12,w13,w14) λ(r15,r16,r17,r18)=>
 bif r15==6 then
  chk (zC (z9 w10+z9 [94]) big)<|
  jn (F.gb N next (ke0,kret)) ((w10++[94],w11,r15),r16,r17,r18)
 else
  jn (F.gb N next (ke0,kret)) ((w10,w11,r15),r16,r17,r18)
def F.bb(N:Nat):Yr->(Yr->Option R)->((Ee->Option R)×(Ah2->Option R))->Option R
 | ((x5,x6),x7,x8,x9),next,(ke0,kret)=>
 bif decide (x6<4) then
  bif decide (x6>0) then
   chk (zC (z9 x5+z9 [124]) big)<|
   jn (F.gc N next (ke0,kret)) ((x5++[124],x6),x7,x8,x9)
  else
   jn (F.gc N next (ke0,kret)) ((x5,x6),x7,x8,x9)
 else
  ke0 (x5,x7,x8,x9)
def F.vp(N:Nat):Nat->Yr->((Ee->Option R)×(Ah2->Option R))->Option R:=lp (F.bb N)
def F.mf(N:Nat):Ge->(Ee->Option R)->Option R
 | (x1,x2,x3,x4),k=>
 F.vp N N (([],0),x2,x3,x1) (λ(y54,y55,y56,y57)=>
  k (y54,y55,y56,y57),
  λ((y58,y59),y60,y61,y62)=>
  k (y58,y60,y61,y62))
def F.af:(Int×Int×Int)->(Bool->Option R)->Option R
 | (x1,x2,x3),k=>
 bif decide (x2<=x1) then k (decide (x1<=x3)) else k false
def F.ji(N:Nat):Ut->(Ut->Option R)->((Int->Option R)×((Int×Int)->Option R))->Option R
 | (x11,x12,x13),next,(ke0,kret)=>
 bif decide (x13<(z9 x11:Int)) then
  chk (inB x13 (z9 x11))<|
  F.af (Aa .i64 (Ao x11 x13),48,57) λ r14=>
  bif !r14 then
   kret ((-1),x12)
  else
   chk (inB x13 (z9 x11))<|
   next (x11,Aa .i64 ((Aa .i64 (x12*10))+(Aa .i64 (Aa .u8 ((Ao x11 x13)-48)))),Aa .i64 (x13+1))
 else
  ke0 x12
def F.yn(N:Nat):Nat->Ut->((Int->Option R)×((Int×Int)->Option R))->Option R:=lp (F.ji N)
def F.oa(N:Nat):List UInt8->(Int->Option R)->Option R
 | x1,k=>
 bif decide ((z9 x1:Int)<1) then
  k (-1)
 else
  bif decide ((z9 x1:Int)>3) then
   k (-1)
  else
   F.yn N N (x1,0,0) (λ y15=>
    bif decide (y15>255) then k (-1) else k y15,
    λ(y16,y17)=>
    k y16)
def F.bu(N:Nat):Ut->(Ut->Option R)->(Ut->Option R)->Option R
 | (x3,x4,x5),next,ke0=>
 bif decide (x5<(z9 x3:Int)) then
  chk (inB x5 (z9 x3))<|
  bif(Ao x3 x5) !=125 then next (x3,x4,Aa .i64 (x5+1)) else ke0 (x3,x4,x5)
 else
  ke0 (x3,x4,x5)
def F.xg(N:Nat):Nat->Ut->(Ut->Option R)->Option R:=lp (F.bu N)
def F.bx(N:Nat):Ap5->(Ap5->Option R)->(Ann->Option R)->Option R
 | (x13,x14,x15,x16),next,ke2=>
 bif decide (x16>=0) then
  chk (inB x16 (z9 x14))<|
  bif(Ao x14 x16)==44 then next (x13,x14,x16,Aa .i64 (x16-1)) else next (x13,x14,x15,Aa .i64 (x16-1))
 else
  ke2 (x13,x14,x15)
def F.xh(N:Nat):Nat->Ap5->(Ann->Option R)->Option R:=lp (F.bx N)
def F.bc(N:Nat):Ap6->((Int×Int×Int)->Option R)->Option R
 | (x1,x2),k=>
 F.xg N N (x1,x2,x2) λ(y10,y11,y12)=>
 bif y12==(z9 y10:Int) then
  k (0,0,(-1))
 else
  chk (decide (0<=y12)&&decide (y12<=(z9 y10:Int)))<|
  chk (decide (0<=(Aa .i64 (y11+1)))&&decide ((Aa .i64 (y11+1))<=y12))<|
  F.xh N N (y12,zG (zA (Aa .i64 (y11+1))) (zF (zA y12) y10),(-1),Aa .i64 ((z9 (zG (zA (Aa .i64 (y11+1))) (zF (zA y12) y10)):Int)-1)) λ(y21,y22,y23)=>
  bif decide (y23<0) then
   F.oa N y22 λ r24=>
   bif decide (r24<0) then k (0,0,(-1)) else k (r24,r24,Aa .i64 (y21+1))
  else
   chk (decide (0<=y23)&&decide (y23<=(z9 y22:Int)))<|
   F.oa N (zG 0 (zF (zA y23) y22)) λ r25=>
   bif decide (r25<0) then
    k (0,0,(-1))
   else
    bif y23==(Aa .i64 ((z9 y22:Int)-1)) then
     k (r25,(-1),Aa .i64 (y21+1))
    else
     chk (decide (0<=(Aa .i64 (y23+1)))&&decide ((Aa .i64 (y23+1))<=(z9 y22:Int)))<|
     F.oa N (zG (zA (Aa .i64 (y23+1))) (zF (z9 y22) y22)) λ r26=>
     bif decide (r26<r25) then k (0,0,(-1)) else k (r25,r26,Aa .i64 (y21+1))
def F.dg:Ap6->(Int->Option R)->Option R
 | (x1,x2),k=>
 bif decide (x2<0) then
  k (-1)
 else
  bif decide (x2>=(z9 x1:Int)) then
   k (-1)
  else
   chk (inB x2 (z9 x1))<|
   k (Aa .i64 (Ao x1 x2))
def F.ql:Unit->((List (List UInt8))->Option R)->Option R
 | _,k=>
 k [[97,108,112,104,97],[100,105,103,105,116],[97,108,110,117,109],[117,112,112,101,114],[108,111,119,101,114],[115,112,97,99,101],[98,108,97,110,107],[112,117,110,99,116],[120,100,105,103,105,116]]
def F.qc:Ap6->(Bool->Option R)->Option R
 | (x1,x2),k=>
 F.af (x2,65,90) λ r3=>
 F.af (x2,97,122) λ r4=>
 F.af (x2,48,57) λ r5=>
 bif x1==[97,108,112,104,97] then
  bif r3 then k true else k r4
 else
  bif x1==[100,105,103,105,116] then
   k r5
  else
   bif x1==[97,108,110,117,109] then
    bif r3 then
     k true
    else
     bif r4 then k true else k r5
   else
    bif x1==[117,112,112,101,114] then
     k r3
    else
     bif x1==[108,111,119,101,114] then
      k r4
     else
      bif x1==[115,112,97,99,101] then
       F.af (x2,9,13) λ r8=>
       bif r8 then k true else k (x2==32)
      else
       bif x1==[98,108,97,110,107] then
        bif x2==9 then k true else k (x2==32)
       else
        bif x1==[112,117,110,99,116] then
         F.af (x2,33,126) λ r11=>
         bif r11 then
          bif !r3 then
           bif !r4 then k (!r5) else k false
          else
           k false
         else
          k false
        else
         bif x1==[120,100,105,103,105,116] then
          bif r5 then
           k true
          else
           F.af (x2,65,70) λ r13=>
           bif r13 then
            k true
           else
            F.af (x2,97,102) λ r14=>
            k r14
         else
          k false
def F.dj(N:Nat):Uu->(Uu->Option R)->(Se->Option R)->Option R
 | ((x160,x161),x162),next,ke2=>
 bif decide (x161<256) then
  chk (inB x161 (z9 x162))<|
  chk (inB x161 (z9 x162))<|
  next ((x160,Aa .i64 (x161+1)),zE x162 (zA x161) (!(zB x162 (zA x161) false)))
 else
  ke2 (x160,x162)
def F.sj(N:Nat):Nat->Uu->(Se->Option R)->Option R:=lp (F.dj N)
def F.dk(N:Nat):Ano->(Ano->Option R)->(Ano->Option R)->Option R
 | ((x182,x183,x184,x185,x186),x187),next,ke4=>
 bif decide ((Aa .i64 (x186+1))<(z9 x182:Int)) then
  chk (inB x186 (z9 x182))<|
  bif(Ao x182 x186)==58 then
   chk (inB (Aa .i64 (x186+1)) (z9 x182))<|
   bif !((Ao x182 (Aa .i64 (x186+1)))==93) then next ((x182,x183,x184,x185,Aa .i64 (x186+1)),x187) else ke4 ((x182,x183,x184,x185,x186),x187)
  else
   next ((x182,x183,x184,x185,Aa .i64 (x186+1)),x187)
 else
  ke4 ((x182,x183,x184,x185,x186),x187)
def F.sk(N:Nat):Nat->Ano->(Ano->Option R)->Option R:=lp (F.dk N)
def F.dl(N:Nat):Auw->(Auw->Option R)->(Avz->Option R)->Option R
 | ((x202,x203,x204,x205,x206,x207,x208,x209),x210,x211),next,ke6=>
 bif decide (x209<x208) then
  chk (inB x209 (z9 x211))<|
  bif(zB x211 (zA x209) ([]:List UInt8))==x206 then next ((x202,x203,x204,x205,x206,true,x208,Aa .i64 (x209+1)),x210,x211) else next ((x202,x203,x204,x205,x206,x207,x208,Aa .i64 (x209+1)),x210,x211)
 else
  ke6 ((x202,x203,x204,x205,x206,x207),x210)
def F.sn(N:Nat):Nat->Auw->(Avz->Option R)->Option R:=lp (F.dl N)
def F.dm(N:Nat):Aux->(Aux->Option R)->(((List UInt8×Bool×Int×Int)×(List Bool))->Option R)->Option R
 | ((x229,x230,x231,x232,x233,x234),x235),next,ke8=>
 bif decide (x234<256) then
  F.qc (x233,x234) λ r236=>
  bif r236 then
   chk (inB x234 (z9 x235))<|
   next ((x229,x230,x231,x232,x233,Aa .i64 (x234+1)),zE x235 (zA x234) true)
  else
   next ((x229,x230,x231,x232,x233,Aa .i64 (x234+1)),x235)
 else
  ke8 ((x229,x230,x231,x232),x235)
def F.so(N:Nat):Nat->Aux->(((List UInt8×Bool×Int×Int)×(List Bool))->Option R)->Option R:=lp (F.dm N)
def F.bz(N:Nat):Ap7->(Ap7->Option R)->(Va->Option R)->Option R
 | ((x275,x276,x277,x278,x279,x280),x281),next,ke10=>
 bif decide (x280<=x279) then
  chk (inB x280 (z9 x281))<|
  next ((x275,x276,x277,x278,x279,Aa .i64 (x280+1)),zE x281 (zA x280) true)
 else
  ke10 ((x275,x276,x277,x278),x281)
def F.sc(N:Nat):Nat->Ap7->(Va->Option R)->Option R:=lp (F.bz N)
def F.dn(N:Nat)(next:Va->Option R):(((List Bool)->Option R)×(Se->Option R))->Ap7->Option R
 | (ke0,kret),((w268,w269,w270,w271,w272,w273),w274)=>
 F.sc N N ((w268,w269,w270,w271,w273,w272),w274) λ((y282,y283,y284,y285),y286)=>
 next ((y282,Aa .i64 (y283+1),y284,y285),y286)
def F.gn(N:Nat)(next:Va->Option R):(((List Bool)->Option R)×(Se->Option R))->((List UInt8×Int×Av0)×(List Bool))->Option R
 | (ke0,kret),((w250,w251,w252,w253,w254,w255,w256,w257),w258)=>
 bif w257 then
  F.dg (w250,Aa .i64 (w251+3)) λ r259=>
  bif w256==91 then
   bif r259==46 then
    kret ((-1),w258)
   else
    bif r259==61 then
     kret ((-1),w258)
    else
     bif r259==58 then
      kret ((-1),w258)
     else
      bif decide (w256<w254) then
       kret ((-1),w258)
      else
       jn (F.dn N next (ke0,kret)) ((w250,Aa .i64 (w251+2),w252,w253,w254,w256),w258)
  else
   bif decide (w256<w254) then
    kret ((-1),w258)
   else
    jn (F.dn N next (ke0,kret)) ((w250,Aa .i64 (w251+2),w252,w253,w254,w256),w258)
 else
  jn (F.dn N next (ke0,kret)) ((w250,w251,w252,w253,w254,w255),w258)
def F.mg(N:Nat)(next:Va->Option R):(((List Bool)->Option R)×(Se->Option R))->((List UInt8×Int×Bool×Int×Int×Bool)×(List Bool))->Option R
 | (ke0,kret),((w175,w176,w177,w178,w179,w180),w181)=>
 bif w180 then
  F.sk N N ((w175,w176,w177,w178,Aa .i64 (w176+2)),w181) λ((y195,y196,y197,y198,y199),y200)=>
  bif decide ((Aa .i64 (y199+1))>=(z9 y195:Int)) then
   kret ((-1),y200)
  else
   chk (decide (0<=y199)&&decide (y199<=(z9 y195:Int)))<|
   chk (decide (0<=(Aa .i64 (y196+2)))&&decide ((Aa .i64 (y196+2))<=y199))<|
   F.ql () λ r201=>
   F.sn N N ((y195,y197,y198,y199,zG (zA (Aa .i64 (y196+2))) (zF (zA y199) y195),false,(z9 r201:Int),0),y200,r201) λ((y222,y223,y224,y225,y226,y227),y228)=>
   bif !y227 then
    kret ((-1),y228)
   else
    F.so N N ((y222,y223,y224,y225,y226,0),y228) λ((y244,y245,y246,y247),y248)=>
    next ((y244,Aa .i64 (y247+2),y245,y246),y248)
 else
  chk (inB w176 (z9 w175))<|
  F.dg (w175,Aa .i64 (w176+2)) λ r249=>
  bif w179==45 then
   bif decide (r249>=0) then
    jn (F.gn N next (ke0,kret)) ((w175,w176,w177,w178,Aa .i64 (Ao w175 w176),Aa .i64 (Ao w175 w176),r249,r249 !=93),w181)
   else
    jn (F.gn N next (ke0,kret)) ((w175,w176,w177,w178,Aa .i64 (Ao w175 w176),Aa .i64 (Ao w175 w176),r249,false),w181)
  else
   jn (F.gn N next (ke0,kret)) ((w175,w176,w177,w178,Aa .i64 (Ao w175 w176),Aa .i64 (Ao w175 w176),r249,false),w181)
def F.gp(N:Nat)(next:Va->Option R):(((List Bool)->Option R)×(Se->Option R))->((List UInt8×Int×Bool×Int×Int×Bool)×(List Bool))->Option R
 | (ke0,kret),((w168,w169,w170,w171,w172,w173),w174)=>
 bif w173 then
  kret ((-1),w174)
 else
  chk (inB w169 (z9 w168))<|
  bif(Ao w168 w169)==91 then
   jn (F.mg N next (ke0,kret)) ((w168,w169,w170,w171,w172,w172==58),w174)
  else
   jn (F.mg N next (ke0,kret)) ((w168,w169,w170,w171,w172,false),w174)
def F.mh(N:Nat)(next:Va->Option R):(((List Bool)->Option R)×(Se->Option R))->((List UInt8×Int×Bool×Int×Bool)×(List Bool))->Option R
 | (ke0,kret),((w154,w155,w156,w157,w158),w159)=>
 bif w158 then
  bif w156 then
   F.sj N N ((w155,0),w159) λ(y163,y164)=>
   kret (Aa .i64 (y163+1),y164)
  else
   kret (Aa .i64 (w155+1),w159)
 else
  F.dg (w154,Aa .i64 (w155+1)) λ r167=>
  chk (inB w155 (z9 w154))<|
  bif(Ao w154 w155)==91 then
   bif r167==46 then
    jn (F.gp N next (ke0,kret)) ((w154,w155,w156,w157,r167,true),w159)
   else
    jn (F.gp N next (ke0,kret)) ((w154,w155,w156,w157,r167,r167==61),w159)
  else
   jn (F.gp N next (ke0,kret)) ((w154,w155,w156,w157,r167,false),w159)
def F.dp(N:Nat):Va->(Va->Option R)->(((List Bool)->Option R)×(Se->Option R))->Option R
 | ((x149,x150,x151,x152),x153),next,(ke0,kret)=>
 bif decide (x150<(z9 x149:Int)) then
  chk (inB x150 (z9 x149))<|
  bif(Ao x149 x150)==93 then
   jn (F.mh N next (ke0,kret)) ((x149,x150,x151,x152,decide (x150>x152)),x153)
  else
   jn (F.mh N next (ke0,kret)) ((x149,x150,x151,x152,false),x153)
 else
  ke0 x153
def F.qm(N:Nat):Nat->Va->(((List Bool)->Option R)×(Se->Option R))->Option R:=lp (F.dp N)
def F.bi(N:Nat):Ap6->(Se->Option R)->Option R
 | (x1,x2),k=>
 chk (decide (0<=256))<|
 chk (zC (zA 256) (Ap 1))<|
 F.dg (x1,Aa .i64 (x2+1)) λ r3=>
 bif r3==94 then
  F.qm N N ((x1,Aa .i64 ((Aa .i64 (x2+1))+1),r3==94,Aa .i64 ((Aa .i64 (x2+1))+1)),zD (zA 256) false) (λ y287=>
   k ((-1),y287),
   λ(y288,y289)=>
   k (y288,y289))
 else
  F.qm N N ((x1,Aa .i64 (x2+1),r3==94,Aa .i64 (x2+1)),zD (zA 256) false) (λ y290=>
   k ((-1),y290),
   λ(y291,y292)=>
   k (y291,y292))
def F.jj(N:Nat):Uu->(Uu->Option R)->((List Bool)->Option R)->Option R
 | ((x3,x4),x5),next,ke0=>
 bif decide (x4<=x3) then
  chk (inB x4 (z9 x5))<|
  next ((x3,Aa .i64 (x4+1)),zE x5 (zA x4) true)
 else
  ke0 x5
def F.yo(N:Nat):Nat->Uu->((List Bool)->Option R)->Option R:=lp (F.jj N)
def F.ai(N:Nat):(Int×Int)->((List Bool)->Option R)->Option R
 | (x1,x2),k=>
 chk (decide (0<=256))<|
 chk (zC (zA 256) (Ap 1))<|
 F.yo N N ((x2,x1),zD (zA 256) false) λ y6=>
 k y6
def F.bj(N:Nat):Ann->(Ann->Option R)->((Unit->Option R)×(Bool->Option R))->Option R
 | (x2,x3,x4),next,(ke0,kret)=>
 bif decide (x4<(z9 x3:Int)) then
  chk (inB x4 (z9 x3))<|
  bif(Aa .i64 (Ao x3 x4))==x2 then kret true else next (x2,x3,Aa .i64 (x4+1))
 else
  ke0 ()
def F.ww(N:Nat):Nat->Ann->((Unit->Option R)×(Bool->Option R))->Option R:=lp (F.bj N)
def F.aw(N:Nat):Int->(Bool->Option R)->Option R
 | x1,k=>
 F.ww N N (x1,[92,94,46,91,93,36,40,41,124,42,43,63,123,125],0) (λ _=>
  k false,
  λ y5=>
  k y5)
def F.ae(N:Nat)(next:Ap8->Option R):(((List ty7)->Option R)×(Auy->Option R))->(Ut×(List ty7)×((Int×Int×Int×Int)×(List Bool)))->Option R
 | (ke0,kret),((w79,w80,w81),w82,(w83,w84,w85,w86),w87)=>
 chk (zC (z9 w82+z9 [(w83,(w84,(w87,(w85,w86))))]) (Ap 56))<|
 next ((w79,w80,w81),w82++[(w83,(w84,(w87,(w85,w86))))])
def F.mi(N:Nat):Ap8->(Ap8->Option R)->(((List ty7)->Option R)×(Auy->Option R))->Option R
 | ((x2,x3,x4),x5),next,(ke0,kret)=>
 bif decide (x4<(z9 x2:Int)) then
  chk (inB x4 (z9 x2))<|
  bif(Ao x2 x4)==94 then
   bif(Ao x2 x4)==94 then
    chk (zC (z9 x5+z9 [(Ao x2 x4,(x4,(([]:List Bool),(0,0))))]) (Ap 56))<|
    next ((x2,x3,Aa .i64 (x4+1)),x5++[(Ao x2 x4,(x4,(([]:List Bool),(0,0))))])
   else
    bif(Ao x2 x4)==40 then
     jn (F.ae N next (ke0,kret)) ((x2,Aa .i64 (x3+1),Aa .i64 (x4+1)),x5,(Ao x2 x4,x4,Aa .i64 (x3+1),0),([]:List Bool))
    else
     bif(Ao x2 x4)==42 then
      jn (F.ae N next (ke0,kret)) ((x2,x3,Aa .i64 (x4+1)),x5,(114,x4,0,(-1)),([]:List Bool))
     else
      bif(Ao x2 x4)==43 then
       jn (F.ae N next (ke0,kret)) ((x2,x3,Aa .i64 (x4+1)),x5,(114,x4,1,(-1)),([]:List Bool))
      else
       bif(Ao x2 x4)==63 then
        jn (F.ae N next (ke0,kret)) ((x2,x3,Aa .i64 (x4+1)),x5,(114,x4,0,1),([]:List Bool))
       else
        bif(Ao x2 x4)==123 then
         F.bc N (x2,x4) λ(r6,r7,r8)=>
         bif decide (r8<0) then
          kret ((4,x4),x5)
         else
          jn (F.ae N next (ke0,kret)) ((x2,x3,r8),x5,(114,x4,r6,r7),([]:List Bool))
        else
         bif(Ao x2 x4)==91 then
          F.bi N (x2,x4) λ(r9,r10)=>
          bif decide (r9<0) then
           kret ((3,x4),x5)
          else
           jn (F.ae N next (ke0,kret)) ((x2,x3,r9),x5,(97,x4,0,0),r10)
         else
          bif(Ao x2 x4)==46 then
           F.ai N (0,255) λ r11=>
           jn (F.ae N next (ke0,kret)) ((x2,x3,Aa .i64 (x4+1)),x5,(97,x4,0,0),r11)
          else
           bif(Ao x2 x4)==92 then
            F.dg (x2,Aa .i64 (x4+1)) λ r12=>
            F.aw N r12 λ r13=>
            bif !r13 then
             kret ((2,x4),x5)
            else
             F.ai N (r12,r12) λ r14=>
             jn (F.ae N next (ke0,kret)) ((x2,x3,Aa .i64 (x4+2)),x5,(97,x4,0,0),r14)
           else
            F.ai N (Aa .i64 (Ao x2 x4),Aa .i64 (Ao x2 x4)) λ r15=>
            jn (F.ae N next (ke0,kret)) ((x2,x3,Aa .i64 (x4+1)),x5,(97,x4,0,0),r15)
  else
   bif(Ao x2 x4)==36 then
    bif(Ao x2 x4)==36 then
     chk (zC (z9 x5+z9 [(Ao x2 x4,(x4,(([]:List Bool),(0,0))))]) (Ap 56))<|
     next ((x2,x3,Aa .i64 (x4+1)),x5++[(Ao x2 x4,(x4,(([]:List Bool),(0,0))))])
    else
     bif(Ao x2 x4)==40 then
      jn (F.ae N next (ke0,kret)) ((x2,Aa .i64 (x3+1),Aa .i64 (x4+1)),x5,(Ao x2 x4,x4,Aa .i64 (x3+1),0),([]:List Bool))
     else
      bif(Ao x2 x4)==42 then
       jn (F.ae N next (ke0,kret)) ((x2,x3,Aa .i64 (x4+1)),x5,(114,x4,0,(-1)),([]:List Bool))
      else
       bif(Ao x2 x4)==43 then
        jn (F.ae N next (ke0,kret)) ((x2,x3,Aa .i64 (x4+1)),x5,(114,x4,1,(-1)),([]:List Bool))
       else
        bif(Ao x2 x4)==63 then
         jn (F.ae N next (ke0,kret)) ((x2,x3,Aa .i64 (x4+1)),x5,(114,x4,0,1),([]:List Bool))
        else
         bif(Ao x2 x4)==123 then
          F.bc N (x2,x4) λ(r88,r89,r90)=>
          bif decide (r90<0) then
           kret ((4,x4),x5)
          else
           jn (F.ae N next (ke0,kret)) ((x2,x3,r90),x5,(114,x4,r88,r89),([]:List Bool))
         else
          bif(Ao x2 x4)==91 then
           F.bi N (x2,x4) λ(r91,r92)=>
           bif decide (r91<0) then
            kret ((3,x4),x5)
           else
            jn (F.ae N next (ke0,kret)) ((x2,x3,r91),x5,(97,x4,0,0),r92)
          else
           bif(Ao x2 x4)==46 then
            F.ai N (0,255) λ r93=>
            jn (F.ae N next (ke0,kret)) ((x2,x3,Aa .i64 (x4+1)),x5,(97,x4,0,0),r93)
           else
            bif(Ao x2 x4)==92 then
             F.dg (x2,Aa .i64 (x4+1)) λ r94=>
             F.aw N r94 λ r95=>
             bif !r95 then
              kret ((2,x4),x5)
             else
              F.ai N (r94,r94) λ r96=>
              jn (F.ae N next (ke0,kret)) ((x2,x3,Aa .i64 (x4+2)),x5,(97,x4,0,0),r96)
            else
             F.ai N (Aa .i64 (Ao x2 x4),Aa .i64 (Ao x2 x4)) λ r97=>
             jn (F.ae N next (ke0,kret)) ((x2,x3,Aa .i64 (x4+1)),x5,(97,x4,0,0),r97)
   else
    bif(Ao x2 x4)==41 then
     bif(Ao x2 x4)==41 then
      chk (zC (z9 x5+z9 [(Ao x2 x4,(x4,(([]:List Bool),(0,0))))]) (Ap 56))<|
      next ((x2,x3,Aa .i64 (x4+1)),x5++[(Ao x2 x4,(x4,(([]:List Bool),(0,0))))])
     else
      bif(Ao x2 x4)==40 then
       jn (F.ae N next (ke0,kret)) ((x2,Aa .i64 (x3+1),Aa .i64 (x4+1)),x5,(Ao x2 x4,x4,Aa .i64 (x3+1),0),([]:List Bool))
      else
       bif(Ao x2 x4)==42 then
        jn (F.ae N next (ke0,kret)) ((x2,x3,Aa .i64 (x4+1)),x5,(114,x4,0,(-1)),([]:List Bool))
       else
        bif(Ao x2 x4)==43 then
         jn (F.ae N next (ke0,kret)) ((x2,x3,Aa .i64 (x4+1)),x5,(114,x4,1,(-1)),([]:List Bool))
        else
         bif(Ao x2 x4)==63 then
          jn (F.ae N next (ke0,kret)) ((x2,x3,Aa .i64 (x4+1)),x5,(114,x4,0,1),([]:List Bool))
         else
          bif(Ao x2 x4)==123 then
           F.bc N (x2,x4) λ(r161,r162,r163)=>
           bif decide (r163<0) then
            kret ((4,x4),x5)
           else
            jn (F.ae N next (ke0,kret)) ((x2,x3,r163),x5,(114,x4,r161,r162),([]:List Bool))
          else
           bif(Ao x2 x4)==91 then
            F.bi N (x2,x4) λ(r164,r165)=>
            bif decide (r164<0) then
             kret ((3,x4),x5)
            else
             jn (F.ae N next (ke0,kret)) ((x2,x3,r164),x5,(97,x4,0,0),r165)
           else
            bif(Ao x2 x4)==46 then
             F.ai N (0,255) λ r166=>
             jn (F.ae N next (ke0,kret)) ((x2,x3,Aa .i64 (x4+1)),x5,(97,x4,0,0),r166)
            else
             bif(Ao x2 x4)==92 then
              F.dg (x2,Aa .i64 (x4+1)) λ r167=>
              F.aw N r167 λ r168=>
              bif !r168 then
               kret ((2,x4),x5)
              else
               F.ai N (r167,r167) λ r169=>
               jn (F.ae N next (ke0,kret)) ((x2,x3,Aa .i64 (x4+2)),x5,(97,x4,0,0),r169)
             else
              F.ai N (Aa .i64 (Ao x2 x4),Aa .i64 (Ao x2 x4)) λ r170=>
              jn (F.ae N next (ke0,kret)) ((x2,x3,Aa .i64 (x4+1)),x5,(97,x4,0,0),r170)
    else
     bif(Ao x2 x4)==124 then
      chk (zC (z9 x5+z9 [(Ao x2 x4,(x4,(([]:List Bool),(0,0))))]) (Ap 56))<|
      next ((x2,x3,Aa .i64 (x4+1)),x5++[(Ao x2 x4,(x4,(([]:List Bool),(0,0))))])
     else
      bif(Ao x2 x4)==40 then
       jn (F.ae N next (ke0,kret)) ((x2,Aa .i64 (x3+1),Aa .i64 (x4+1)),x5,(Ao x2 x4,x4,Aa .i64 (x3+1),0),([]:List Bool))
      else
       bif(Ao x2 x4)==42 then
        jn (F.ae N next (ke0,kret)) ((x2,x3,Aa .i64 (x4+1)),x5,(114,x4,0,(-1)),([]:List Bool))
       else
        bif(Ao x2 x4)==43 then
         jn (F.ae N next (ke0,kret)) ((x2,x3,Aa .i64 (x4+1)),x5,(114,x4,1,(-1)),([]:List Bool))
        else
         bif(Ao x2 x4)==63 then
          jn (F.ae N next (ke0,kret)) ((x2,x3,Aa .i64 (x4+1)),x5,(114,x4,0,1),([]:List Bool))
         else
          bif(Ao x2 x4)==123 then
           F.bc N (x2,x4) λ(r234,r235,r236)=>
           bif decide (r236<0) then
            kret ((4,x4),x5)
           else
            jn (F.ae N next (ke0,kret)) ((x2,x3,r236),x5,(114,x4,r234,r235),([]:List Bool))
          else
           bif(Ao x2 x4)==91 then
            F.bi N (x2,x4) λ(r237,r238)=>
            bif decide (r237<0) then
             kret ((3,x4),x5)
            else
             jn (F.ae N next (ke0,kret)) ((x2,x3,r237),x5,(97,x4,0,0),r238)
           else
            bif(Ao x2 x4)==46 then
             F.ai N (0,255) λ r239=>
             jn (F.ae N next (ke0,kret)) ((x2,x3,Aa .i64 (x4+1)),x5,(97,x4,0,0),r239)
            else
             bif(Ao x2 x4)==92 then
              F.dg (x2,Aa .i64 (x4+1)) λ r240=>
              F.aw N r240 λ r241=>
              bif !r241 then
               kret ((2,x4),x5)
              else
               F.ai N (r240,r240) λ r242=>
               jn (F.ae N next (ke0,kret)) ((x2,x3,Aa .i64 (x4+2)),x5,(97,x4,0,0),r242)
             else
              F.ai N (Aa .i64 (Ao x2 x4),Aa .i64 (Ao x2 x4)) λ r243=>
              jn (F.ae N next (ke0,kret)) ((x2,x3,Aa .i64 (x4+1)),x5,(97,x4,0,0),r243)
 else
  ke0 x5
def F.wq(N:Nat):Nat->Ap8->(((List ty7)->Option R)×(Auy->Option R))->Option R:=lp (F.mi N)
def F.th(N:Nat):List UInt8->(Sf->Option R)->Option R
 | x1,k=>
 F.wq N N ((x1,0,0),([]:List ty7)) (λ y307=>
  k (y307,0,0),
  λ((y308,y309),y310)=>
  k (y310,y308,y309))
def F.np:Ap9->(Int->Option R)->Option R
 | (x1,x2),k=>
 bif decide (x2<0) then
  k 46
 else
  bif decide (x2>=(z9 x1:Int)) then
   k 46
  else
   chk (inB x2 (z9 x1))<|
   k ((zB x1 (zA x2) zr5).1)
def F.oo(N:Nat)(next:Anp->Option R):(Int->Option R)->Anp->Option R
 | ke0,(w7,w8,w9,w10)=>
 chk (inB w10 (z9 w7))<|
 bif((zB w7 (zA w10) zr5).1)==41 then next (w7,w8,Aa .i64 (w9-1),Aa .i64 (w10+1)) else next (w7,w8,w9,Aa .i64 (w10+1))
def F.jk(N:Nat):Anp->(Anp->Option R)->(Int->Option R)->Option R
 | (x3,x4,x5,x6),next,ke0=>
 bif decide (x6<x4) then
  chk (inB x6 (z9 x3))<|
  bif((zB x3 (zA x6) zr5).1)==40 then
   jn (F.oo N next ke0) (x3,x4,Aa .i64 (x5+1),x6)
  else
   jn (F.oo N next ke0) (x3,x4,x5,x6)
 else
  ke0 x5
def F.yp(N:Nat):Nat->Anp->(Int->Option R)->Option R:=lp (F.jk N)
def F.gq(N:Nat):Ap9->(Int->Option R)->Option R
 | (x1,x2),k=>
 F.yp N N (x1,x2,0,0) λ y15=>
 k y15
def F.je(N:Nat):(Int->Option R)->((List ty7)×Int×Int×Int×Int×Bool)->Option R
 | k,(w6,w7,w8,w9,w10,w11)=>
 chk (inB w7 (z9 w6))<|
 bif((zB w6 (zA w7) zr5).1)==40 then
  chk (inB w7 (z9 w6))<|
  bif decide ((((((zB w6 (zA w7) zr5).2).2).2).1)>500) then k 9 else k 0
 else
  bif((zB w6 (zA w7) zr5).1)==41 then
   bif w10==0 then
    k 7
   else
    bif w11 then k 6 else k 0
  else
   bif((zB w6 (zA w7) zr5).1)==124 then
    bif w11 then k 6 else k 0
   else
    bif((zB w6 (zA w7) zr5).1)==114 then
     bif w8 !=97 then
      bif w8 !=41 then k 6 else k 0
     else
      k 0
    else
     bif((zB w6 (zA w7) zr5).1)==94 then
      bif w10 !=0 then
       k 5
      else
       bif decide (w7>0) then
        bif w8 !=124 then k 5 else k 0
       else
        k 0
     else
      bif((zB w6 (zA w7) zr5).1)==36 then
       bif w10 !=0 then
        k 5
       else
        bif decide ((Aa .i64 (w7+1))<(z9 w6:Int)) then
         bif w9 !=124 then
          k 5
         else
          bif w11 then k 6 else k 0
        else
         bif w11 then k 6 else k 0
      else
       k 0
def F.ra(N:Nat):Ap9->(Int->Option R)->Option R
 | (x1,x2),k=>
 F.np (x1,Aa .i64 (x2-1)) λ r3=>
 F.np (x1,Aa .i64 (x2+1)) λ r4=>
 F.gq N (x1,x2) λ r5=>
 bif x2==0 then
  jn (F.je N k) (x1,x2,r3,r4,r5,true)
 else
  bif r3==40 then
   jn (F.je N k) (x1,x2,r3,r4,r5,true)
  else
   bif r3==124 then
    jn (F.je N k) (x1,x2,r3,r4,r5,true)
   else
    jn (F.je N k) (x1,x2,r3,r4,r5,r3==94)
def F.cd(N:Nat):Sf->(Sf->Option R)->((Unit->Option R)×(Bool->Option R))->Option R
 | (x3,x4,x5),next,(ke0,kret)=>
 bif decide (x5<=(z9 x3:Int)) then
  chk (decide (0<=x4)&&decide (x4<=(z9 x3:Int)))<|
  F.gq N (zG (zA x4) (zF (z9 x3) x3),Aa .i64 (x5-x4)) λ r6=>
  bif r6==0 then kret false else next (x3,x4,Aa .i64 (x5+1))
 else
  ke0 ()
def F.xi(N:Nat):Nat->Sf->((Unit->Option R)×(Bool->Option R))->Option R:=lp (F.cd N)
def F.pq(N:Nat):Ap9->(Bool->Option R)->Option R
 | (x1,x2),k=>
 F.xi N N (x1,x2,Aa .i64 (x2+1)) (λ _=>
  k true,
  λ y7=>
  k y7)
def F.oq(N:Nat)(next:(Sf×ty9)->Option R):(Al5->Option R)->(((List ty7)×Int×Int×Bool)×ty9)->Option R
 | ke0,((w7,w8,w9,w10),w11)=>
 bif w10 then
  chk (decide (0<=w9)&&decide (w9<=(z9 w7:Int)))<|
  chk (decide (0<=w8)&&decide (w8<=w9))<|
  chk (zC (z9 w11+z9 [zG (zA w8) (zF (zA w9) w7)]) (Ap 24))<|
  next ((w7,Aa .i64 (w9+1),Aa .i64 (w9+1)),w11++[zG (zA w8) (zF (zA w9) w7)])
 else
  next ((w7,w8,Aa .i64 (w9+1)),w11)
def F.jl(N:Nat):(Sf×ty9)->((Sf×ty9)->Option R)->(Al5->Option R)->Option R
 | ((x2,x3,x4),x5),next,ke0=>
 bif decide (x4<(z9 x2:Int)) then
  chk (inB x4 (z9 x2))<|
  bif((zB x2 (zA x4) zr5).1)==124 then
   F.gq N (x2,x4) λ r6=>
   jn (F.oq N next ke0) ((x2,x3,x4,r6==0),x5)
  else
   jn (F.oq N next ke0) ((x2,x3,x4,false),x5)
 else
  ke0 ((x2,x3),x5)
def F.yq(N:Nat):Nat->(Sf×ty9)->(Al5->Option R)->Option R:=lp (F.jl N)
def F.py(N:Nat):(List ty7)->(ty9->Option R)->Option R
 | x1,k=>
 F.yq N N ((x1,0,0),([]:List (List ty7))) λ((y16,y17),y18)=>
 chk (decide (0<=y17)&&decide (y17<=(z9 y16:Int)))<|
 chk (zC (z9 y18+z9 [zG (zA y17) (zF (z9 y16) y16)]) (Ap 24))<|
 k (y18++[zG (zA y17) (zF (z9 y16) y16)])
def F.kw(N:Nat):Al6->(Al6->Option R)->(((Kl×Int)×(List ty2))->Option R)->Option R
 | ((x3,x4,x5,x6,x7),x8),next,ke0=>
 bif decide (x7<x6) then
  chk (inB x7 (z9 x5))<|
  chk (zC (z9 x8+z9 (zB x5 (zA x7) ([]:List ty2))) (Ap 56))<|
  next ((x3,x4,x5,x6,Aa .i64 (x7+1)),x8++(zB x5 (zA x7) ([]:List ty2)))
 else
  ke0 ((x3,x4),x8)
def F.zg(N:Nat):Nat->Al6->(((Kl×Int)×(List ty2))->Option R)->Option R:=lp (F.kw N)
def F.kx(N:Nat):Al7->(Al7->Option R)->((List ty2)->Option R)->Option R
 | ((x12,x13,x14),x15),next,ke2=>
 bif decide (x14<(z9 x12:Int)) then
  chk (zC (z9 x15+z9 [(x13,(([]:List (Int×Int)),(0,(0,0))))]) (Ap 56))<|
  next ((x12,x13,Aa .i64 (x14+1)),x15++[(x13,(([]:List (Int×Int)),(0,(0,0))))])
 else
  ke2 x15
def F.zh(N:Nat):Nat->Al7->((List ty2)->Option R)->Option R:=lp (F.kx N)
def F.qp(N:Nat):(Kl×Int)->((List ty2)->Option R)->Option R
 | (x1,x2),k=>
 F.zg N N ((x1,x2,x1,(z9 x1:Int),0),([]:List ty2)) λ((y9,y10),y11)=>
 F.zh N N ((y9,y10,1),y11) λ y16=>
 k y16
def F.nq(N:Nat)(next:Agb->Option R):(ty0->Option R)->(((List Bool)×Int×Bool)×ty0)->Option R
 | ke0,((w5,w6,w7),w8)=>
 bif w7 then
  chk (inB (Aa .i64 ((z9 w8:Int)-1)) (z9 w8))<|
  next ((w5,Aa .i64 (w6+1)),zE w8 (zA (Aa .i64 ((z9 w8:Int)-1))) ((zB w8 (zA (Aa .i64 ((z9 w8:Int)-1))) zr2).1,w6))
 else
  chk (zC (z9 w8+z9 [(w6,w6)]) (Ap 16))<|
  next ((w5,Aa .i64 (w6+1)),w8++[(w6,w6)])
def F.gt(N:Nat):Agb->(Agb->Option R)->(ty0->Option R)->Option R
 | ((x2,x3),x4),next,ke0=>
 bif decide (x3<256) then
  chk (inB x3 (z9 x2))<|
  bif !(zB x2 (zA x3) false) then
   next ((x2,Aa .i64 (x3+1)),x4)
  else
   bif decide (x3>0) then
    chk (inB (Aa .i64 (x3-1)) (z9 x2))<|
    jn (F.nq N next ke0) ((x2,x3,zB x2 (zA (Aa .i64 (x3-1))) false),x4)
   else
    jn (F.nq N next ke0) ((x2,x3,false),x4)
 else
  ke0 x4
def F.yb(N:Nat):Nat->Agb->(ty0->Option R)->Option R:=lp (F.gt N)
def F.qq(N:Nat):(List Bool)->(ty0->Option R)->Option R
 | x1,k=>
 F.yb N N ((x1,0),([]:List (Int×Int))) λ y12=>
 k y12
def F.mm(N:Nat)(rw1:(List ty7)->((List ty2)->Option R)->Option R):Abt->(Abt->Option R)->(Abt->Option R)->Option R
 | ((x5,x6,x7),x8),next,ke2=>
 chk (decide (0<=x6)&&decide (x6<=(z9 x5:Int)))<|
 F.gq N (zG (zA x6) (zF (z9 x5) x5),Aa .i64 (x7-x6)) λ r9=>
 bif decide (r9>0) then next ((x5,x6,Aa .i64 (x7+1)),x8) else ke2 ((x5,x6,x7),x8)
def F.wu(N:Nat)(rw1:(List ty7)->((List ty2)->Option R)->Option R):Nat->Abt->(Abt->Option R)->Option R:=lp (F.mm N rw1)
def F.mq(N:Nat)(rw1:(List ty7)->((List ty2)->Option R)->Option R):Al8->(Al8->Option R)->((Sf×Kl×Kl)->Option R)->Option R
 | ((x15,x16,x17,x18,x19),x20,x21,x22),next,ke4=>
 bif decide (x19<x18) then
  chk (inB x19 (z9 x22))<|
  rw1 (zB x22 (zA x19) ([]:List ty7)) λ r23=>
  chk (zC (z9 x21+z9 [r23]) (Ap 24))<|
  next ((x15,x16,x17,x18,Aa .i64 (x19+1)),x20,x21++[r23],x22)
 else
  ke4 ((x15,x16,x17),x20,x21)
def F.wv(N:Nat)(rw1:(List ty7)->((List ty2)->Option R)->Option R):Nat->Al8->((Sf×Kl×Kl)->Option R)->Option R:=lp (F.mq N rw1)
def F.qd(N:Nat)(rw1:(List ty7)->((List ty2)->Option R)->Option R)(next:Agc->Option R):(Kl->Option R)->(((List ty7)×Int)×Kl×(List ty2))->Option R
 | ke0,((w31,w32),w33,w34)=>
 F.np (w31,w32) λ r35=>
 bif r35==114 then
  chk (inB w32 (z9 w31))<|
  chk (inB w32 (z9 w31))<|
  chk (zC (z9 w34+z9 [(4,(([]:List (Int×Int)),(((((zB w31 (zA w32) zr5).2).2).2).1,(((((zB w31 (zA w32) zr5).2).2).2).2,0))))]) (Ap 56))<|
  chk (zC (z9 w33+z9 [w34++[(4,(([]:List (Int×Int)),(((((zB w31 (zA w32) zr5).2).2).2).1,(((((zB w31 (zA w32) zr5).2).2).2).2,0))))]]) (Ap 24))<|
  next ((w31,Aa .i64 (w32+1)),w33++[w34++[(4,(([]:List (Int×Int)),(((((zB w31 (zA w32) zr5).2).2).2).1,(((((zB w31 (zA w32) zr5).2).2).2).2,0))))]])
 else
  chk (zC (z9 w33+z9 [w34]) (Ap 24))<|
  next ((w31,w32),w33++[w34])
def F.mr(N:Nat)(rw1:(List ty7)->((List ty2)->Option R)->Option R):Agc->(Agc->Option R)->(Kl->Option R)->Option R
 | ((x2,x3),x4),next,ke0=>
 bif decide (x3<(z9 x2:Int)) then
  chk (inB x3 (z9 x2))<|
  bif((zB x2 (zA x3) zr5).1)==40 then
   F.wu N rw1 N ((x2,x3,Aa .i64 (x3+1)),x4) λ((y10,y11,y12),y13)=>
   chk (decide (0<=(Aa .i64 (y12-1)))&&decide ((Aa .i64 (y12-1))<=(z9 y10:Int)))<|
   chk (decide (0<=(Aa .i64 (y11+1)))&&decide ((Aa .i64 (y11+1))<=(Aa .i64 (y12-1))))<|
   F.py N (zG (zA (Aa .i64 (y11+1))) (zF (zA (Aa .i64 (y12-1))) y10)) λ r14=>
   F.wv N rw1 N ((y10,y11,y12,(z9 r14:Int),0),y13,([]:List (List ty2)),r14) λ((y24,y25,y26),y27,y28)=>
   F.qp N (y28,3) λ r29=>
   chk (inB y25 (z9 y24))<|
   chk (zC (z9 r29+z9 [(5,(([]:List (Int×Int)),(0,(0,((((zB y24 (zA y25) zr5).2).2).2).1))))]) (Ap 56))<|
   jn (F.qd N rw1 next ke0) ((y24,y26),y27,r29++[(5,(([]:List (Int×Int)),(0,(0,((((zB y24 (zA y25) zr5).2).2).2).1))))])
  else
   chk (inB x3 (z9 x2))<|
   F.qq N ((((zB x2 (zA x3) zr5).2).2).1) λ r30=>
   chk (zC (z9 ([]:List ty2)+z9 [(1,(r30,(0,(0,0))))]) (Ap 56))<|
   jn (F.qd N rw1 next ke0) ((x2,Aa .i64 (x3+1)),x4,([]:List ty2)++[(1,(r30,(0,(0,0))))])
 else
  ke0 x4
def F.zl(N:Nat)(rw1:(List ty7)->((List ty2)->Option R)->Option R):Nat->Agc->(Kl->Option R)->Option R:=lp (F.mr N rw1)
def F.rg(N:Nat)(rw1:(List ty7)->((List ty2)->Option R)->Option R):(List ty7)->((List ty2)->Option R)->Option R
 | x1,k=>
 F.zl N rw1 N ((x1,0),([]:List (List ty2))) λ y40=>
 F.qp N (y40,2) λ r41=>
 k r41
def F.ou(N:Nat):Nat->(List ty7)->((List ty2)->Option R)->Option R:=rc (F.rg N)
def F.gu(N:Nat):Al9->(Al9->Option R)->((((List UInt8×(List ty7))×Int×(List ty4))->Option R)×(((List UInt8×Int×Int×(List ty7))×Int×(List ty4))->Option R))->Option R
 | ((x5,x6,x7,x8),x9,x10),next,(ke0,kret)=>
 bif decide (x8<x7) then
  F.ra N (x6,x8) λ r11=>
  bif r11 !=0 then
   chk (inB x8 (z9 x6))<|
   kret ((x5,r11,((zB x6 (zA x8) zr5).2).1,x6),0,([]:List ty4))
  else
   next ((x5,x6,x7,Aa .i64 (x8+1)),x9,x10)
 else
  ke0 ((x5,x6),x9,x10)
def F.yc(N:Nat):Nat->Al9->((((List UInt8×(List ty7))×Int×(List ty4))->Option R)×(((List UInt8×Int×Int×(List ty7))×Int×(List ty4))->Option R))->Option R:=lp (F.gu N)
def F.gv(N:Nat):Abu->(Abu->Option R)->(Abu->Option R)->Option R
 | ((x23,x24),x25,x26),next,ke2=>
 chk (inB x24 (z9 x23))<|
 bif((zB x23 (zA x24) zr5).1)==40 then
  F.pq N (x23,x24) λ r27=>
  bif !r27 then next ((x23,Aa .i64 (x24-1)),x25,x26) else ke2 ((x23,x24),x25,x26)
 else
  next ((x23,Aa .i64 (x24-1)),x25,x26)
def F.yd(N:Nat):Nat->Abu->(Abu->Option R)->Option R:=lp (F.gv N)
def F.gw(N:Nat):(((List ty7)×(List ty7)×Int×Int)×R0)->((((List ty7)×(List ty7)×Int×Int)×R0)->Option R)->(((List ty7)×R0)->Option R)->Option R
 | ((x37,x38,x39,x40),x41,x42,x43,x44),next,ke4=>
 bif decide (x40<x39) then
  chk (inB x40 (z9 x38))<|
  bif((zB x38 (zA x40) zr5).1)==40 then next ((x37,x38,x39,Aa .i64 (x40+1)),x41,Aa .i64 (x42+1),x43,x44) else next ((x37,x38,x39,Aa .i64 (x40+1)),x41,x42,x43,x44)
 else
  ke4 (x37,x41,x42,x43,x44)
def F.ye(N:Nat):Nat->(((List ty7)×(List ty7)×Int×Int)×R0)->(((List ty7)×R0)->Option R)->Option R:=lp (F.gw N)
def F.mu(N:Nat)(next:Agd->Option R):(R0->Option R)->(Sf×(Int×Int×(Bool×Bool)×ty9×((List ty4)×(List ty4)×(List ty2))))->Option R
 | ke6,((w66,w67,w68),w69,w70,(w71,w72),w73,w74,w75,w76)=>
 chk (inB (Aa .i64 ((z9 w66:Int)-1)) (z9 w66))<|
 bif((zB w66 (zA (Aa .i64 ((z9 w66:Int)-1))) zr5).1)==36 then
  chk (decide (0<=(Aa .i64 ((z9 w66:Int)-1)))&&decide ((Aa .i64 ((z9 w66:Int)-1))<=(z9 w66:Int)))<|
  F.ou N N (zG 0 (zF (zA (Aa .i64 ((z9 w66:Int)-1))) w66)) λ r89=>
  chk (zC (z9 w75+z9 [(w71,(true,r89))]) (Ap 32))<|
  next ((w67,Aa .i64 (w68+1)),w69,w70,w73,w74,w75++[(w71,(true,r89))])
 else
  F.ou N N w66 λ r90=>
  chk (zC (z9 w75+z9 [(w71,(w72,r90))]) (Ap 32))<|
  next ((w67,Aa .i64 (w68+1)),w69,w70,w73,w74,w75++[(w71,(w72,r90))])
def F.gx(N:Nat):Agd->(Agd->Option R)->(R0->Option R)->Option R
 | ((x59,x60),x61,x62,x63,x64,x65),next,ke6=>
 bif decide (x60<x59) then
  chk (inB x60 (z9 x63))<|
  chk (inB 0 (z9 (zB x63 (zA x60) ([]:List ty7))))<|
  bif((zB (zB x63 (zA x60) ([]:List ty7)) (zA 0) zr5).1)==94 then
   chk (decide (0<=1)&&decide (1<=(z9 (zB x63 (zA x60) ([]:List ty7)):Int)))<|
   jn (F.mu N next ke6) ((zG (zA 1) (zF (z9 (zB x63 (zA x60) ([]:List ty7))) (zB x63 (zA x60) ([]:List ty7))),x59,x60),x61,x62,(true,false),x63,x64,x65,([]:List ty2))
  else
   jn (F.mu N next ke6) ((zB x63 (zA x60) ([]:List ty7),x59,x60),x61,x62,(false,false),x63,x64,x65,([]:List ty2))
 else
  ke6 (x61,x62,x64,x65)
def F.yf(N:Nat):Nat->Agd->(R0->Option R)->Option R:=lp (F.gx N)
def F.cx(N:Nat):(((Int×Int×Int)×(List ty4))->Option R)->((List UInt8×(List ty7)×Bool)×Int×(List ty4))->Option R
 | k,((w17,w18,w19),w20,w21)=>
 bif w19 then
  k ((0,6,(z9 w17:Int)),([]:List ty4))
 else
  F.gq N (w18,(z9 w18:Int)) λ r22=>
  bif decide (r22>0) then
   F.yd N N ((w18,Aa .i64 ((z9 w18:Int)-1)),w20,w21) λ((y33,y34),y35,y36)=>
   chk (inB y34 (z9 y33))<|
   k ((0,8,((zB y33 (zA y34) zr5).2).1),([]:List ty4))
  else
   F.ye N N ((w18,w18,(z9 w18:Int),0),w20,0,w21,([]:List ty4)) λ(y53,y54,y55,y56,y57)=>
   F.py N y53 λ r58=>
   F.yf N N (((z9 r58:Int),0),y54,y55,r58,y56,y57) λ(y91,y92,y93,y94)=>
   F.aj N (y94,y92) λ r95=>
   bif decide (r95>2000) then k ((0,10,0),([]:List ty4)) else k ((y92,0,0),y94)
def F.lx(N:Nat):List UInt8->(((Int×Int×Int)×(List ty4))->Option R)->Option R
 | x1,k=>
 bif decide ((z9 x1:Int)>2000) then
  k ((0,1,2000),([]:List ty4))
 else
  F.th N x1 λ(r2,r3,r4)=>
  bif r3 !=0 then
   k ((0,r3,r4),([]:List ty4))
  else
   F.yc N N ((x1,r2,(z9 r2:Int),0),0,([]:List ty4)) (λ((y12,y13),y14,y15)=>
    F.np (y13,Aa .i64 ((z9 y13:Int)-1)) λ r16=>
    bif(z9 y13:Int)==0 then
     jn (F.cx N k) ((y12,y13,true),y14,y15)
    else
     bif r16==40 then
      jn (F.cx N k) ((y12,y13,true),y14,y15)
     else
      bif r16==124 then
       jn (F.cx N k) ((y12,y13,true),y14,y15)
      else
       jn (F.cx N k) ((y12,y13,r16==94),y14,y15),
    λ((y96,y97,y98,y99),y100,y101)=>
    k ((y100,y97,y98),y101))
def F.pu(N:Nat):Ge->(Aut->Option R)->Option R
 | (x1,x2,x3,x4),k=>
 F.mf N (x1,x2,x3,x4) λ(r5,r6,r7,r8)=>
 F.lx N r5 λ((r9,r10,r11),r12)=>
 bif r10 !=0 then
  F.lx N [97,124,98] λ((r13,r14,r15),r16)=>
  k (r13,(r6,r7,r8),r16)
 else
  k (r9,(r6,r7,r8),r12)
def F.bk(N:Nat):Ama->(Ama->Option R)->((F4×(List ty5))->Option R)->Option R
 | ((x10,x11,x12),(x13,x14,x15),x16),next,ke0=>
 bif decide (x12<x11) then
  F.aa (8,x13,x14,x15) λ(r17,r18,r19,r20)=>
  bif r17==7 then
   F.pj N (r18,r19,r20) λ(r21,(r22,r23,r24),r25)=>
   F.aj N (r25,r21) λ r26=>
   bif decide (r26<=12) then
    chk (zC (z9 x16+z9 [(r25,r21)]) (Ap 32))<|
    next ((x10,x11,Aa .i64 (x12+1)),(r22,r23,r24),x16++[(r25,r21)])
   else
    next ((x10,x11,Aa .i64 (x12+1)),(r22,r23,r24),x16)
  else
   F.pu N (x10,r18,r19,r20) λ(r34,(r35,r36,r37),r38)=>
   F.aj N (r38,r34) λ r39=>
   bif decide (r39>24) then
    F.lx N [97,98,124,98,36] λ((r40,r41,r42),r43)=>
    chk (zC (z9 x16+z9 [(r43,r40)]) (Ap 32))<|
    next ((x10,x11,Aa .i64 (x12+1)),(r35,r36,r37),x16++[(r43,r40)])
   else
    chk (zC (z9 x16+z9 [(r38,r34)]) (Ap 32))<|
    next ((x10,x11,Aa .i64 (x12+1)),(r35,r36,r37),x16++[(r38,r34)])
 else
  ke0 ((x13,x14,x15),x16)
def F.wx(N:Nat):Nat->Ama->((F4×(List ty5))->Option R)->Option R:=lp (F.bk N)
def F.ov(N:Nat):((Int×Int)×(List Int)×Int×Int)->(((List ty5)×(List Int)×Int×Int)->Option R)->Option R
 | ((x1,x2),x3,x4,x5),k=>
 F.aa (x1,x3,x4,x5) λ(r6,r7,r8,r9)=>
 F.wx N N ((x2,Aa .i64 (1+r6),0),(r7,r8,r9),([]:List ty5)) λ((y53,y54,y55),y56)=>
 k (y56,y53,y54,y55)
def F.jm(N:Nat)(next:Age->Option R):((Unit->Option R)×(Bool->Option R))->((Int×ty0×Int×Int×Bool)×Ap1×Int×Int)->Option R
 | (ke0,kret),((w106,w107,w108,w109,w110),(w111,w112,w113,w114,w115),w116,w117)=>
 bif w110 then
  kret false
 else
  bif decide (w106>0) then
   chk (inB (Aa .i64 (w106-1)) (z9 w112))<|
   bif decide (w116<(Aa .i64 (((zB w112 (zA (Aa .i64 (w106-1))) zr2).2)+2))) then kret false else next ((w107,w108,Aa .i64 (w109+1)),w111,w112,w113,w114,w115)
  else
   next ((w107,w108,Aa .i64 (w109+1)),w111,w112,w113,w114,w115)
def F.gy(N:Nat):Age->(Age->Option R)->((Unit->Option R)×(Bool->Option R))->Option R
 | ((x98,x99,x100),x101,x102,x103,x104,x105),next,(ke0,kret)=>
 bif decide (x100<x99) then
  chk (inB x100 (z9 x98))<|
  bif decide (((zB x98 (zA x100) zr2).1)<0) then
   jn (F.jm N next (ke0,kret)) ((x100,x98,x99,x100,true),(x101,x102,x103,x104,x105),(zB x98 (zA x100) zr2).1,(zB x98 (zA x100) zr2).2)
  else
   bif decide (((zB x98 (zA x100) zr2).1)>((zB x98 (zA x100) zr2).2)) then
    jn (F.jm N next (ke0,kret)) ((x100,x98,x99,x100,true),(x101,x102,x103,x104,x105),(zB x98 (zA x100) zr2).1,(zB x98 (zA x100) zr2).2)
   else
    jn (F.jm N next (ke0,kret)) ((x100,x98,x99,x100,decide (((zB x98 (zA x100) zr2).2)>255)),(x101,x102,x103,x104,x105),(zB x98 (zA x100) zr2).1,(zB x98 (zA x100) zr2).2)
 else
  ke0 ()
def F.tx(N:Nat):Nat->Age->((Unit->Option R)×(Bool->Option R))->Option R:=lp (F.gy N)
def F.jo(N:Nat):(Bool->Option R)->Ap1->Option R
 | k,(w93,w94,w95,w96,w97)=>
 F.tx N N ((w94,(z9 w94:Int),0),w93,w94,w95,w96,w97) (λ _=>
  k true,
  λ y127=>
  k y127)
def F.cy(N:Nat):(Bool->Option R)->Asf->Option R
 | k,(w73,w74,w75,w76,w77,w78)=>
 bif w73 then
  k false
 else
  bif w74 !=4 then
   bif w76 !=0 then
    k false
   else
    bif w77 !=0 then
     k false
    else
     jn (F.jo N k) (w74,w75,w76,w77,w78)
  else
   F.af (w76,0,255) λ r85=>
   bif !r85 then
    k false
   else
    bif w77 !=(-1) then
     F.af (w77,w76,255) λ r86=>
     bif !r86 then
      k false
     else
      jn (F.jo N k) (w74,w75,w76,w77,w78)
    else
     jn (F.jo N k) (w74,w75,w76,w77,w78)
def F.ow(N:Nat):(Bool->Option R)->Asf->Option R
 | k,(w6,w7,w8,w9,w10,w11)=>
 bif w6 then
  k false
 else
  bif w7 !=1 then
   bif(z9 w8:Int) !=0 then
    k false
   else
    bif w7 !=5 then
     jn (F.cy N k) (w11 !=0,w7,w8,w9,w10,w11)
    else
     jn (F.cy N k) (false,w7,w8,w9,w10,w11)
  else
   bif w7 !=5 then
    jn (F.cy N k) (w11 !=0,w7,w8,w9,w10,w11)
   else
    jn (F.cy N k) (false,w7,w8,w9,w10,w11)
def F.qr(N:Nat):Ap1->(Bool->Option R)->Option R
 | (x1,x2,x3,x4,x5),k=>
 bif decide (x1<1) then
  jn (F.ow N k) (true,x1,x2,x3,x4,x5)
 else
  jn (F.ow N k) (decide (x1>5),x1,x2,x3,x4,x5)
def F.ky(N:Nat):Amb->(Amb->Option R)->(Abv->Option R)->Option R
 | ((x8,x9,x10,x11),(x12,x13),x14),next,ke0=>
 bif decide (x11<x10) then
  chk (inB x11 (z9 x9))<|
  next ((Aa .i64 (x8+(z9 (((zB x9 (zA x11) (false,zr0)).2).2):Int)),x9,x10,Aa .i64 (x11+1)),(x12,x13),x14)
 else
  ke0 (x8,(x12,x13),x14)
def F.zi(N:Nat):Nat->Amb->(Abv->Option R)->Option R:=lp (F.ky N)
def F.kz(N:Nat):Amc->(Amc->Option R)->((Abw->Option R)×(Asg->Option R))->Option R
 | ((x28,x29,x30,x31,x32,x33),(x34,x35),x36),next,(ke4,kret)=>
 bif decide (x33<x32) then
  chk (inB x33 (z9 x31))<|
  F.qr N ((zB x31 (zA x33) ((0:Int),zr3)).1,((zB x31 (zA x33) ((0:Int),zr3)).2).1,(((zB x31 (zA x33) ((0:Int),zr3)).2).2).1,((((zB x31 (zA x33) ((0:Int),zr3)).2).2).2).1,((((zB x31 (zA x33) ((0:Int),zr3)).2).2).2).2) λ r37=>
  bif !r37 then
   kret ((false,x28,x29,x30),(x34,x35),x36)
  else
   bif((zB x31 (zA x33) ((0:Int),zr3)).1)==5 then
    chk (zC (z9 x36+z9 [((((zB x31 (zA x33) ((0:Int),zr3)).2).2).2).2]) (Ap 8))<|
    next ((x28,x29,x30,x31,x32,Aa .i64 (x33+1)),(x34,x35),x36++[((((zB x31 (zA x33) ((0:Int),zr3)).2).2).2).2])
   else
    next ((x28,x29,x30,x31,x32,Aa .i64 (x33+1)),(x34,x35),x36)
 else
  ke4 ((x28,x29,x30),(x34,x35),x36)
def F.vq(N:Nat):Nat->Amc->((Abw->Option R)×(Asg->Option R))->Option R:=lp (F.kz N)
def F.la(N:Nat):Abw->(Abw->Option R)->((Ash->Option R)×(Asi->Option R))->Option R
 | ((x19,x20,x21),(x22,x23),x24),next,(ke2,kret)=>
 bif decide (x21<x20) then
  chk (inB x21 (z9 x19))<|
  F.am N (((zB x19 (zA x21) (false,zr0)).2).2) λ(r25,r26,r27)=>
  bif !r25 then
   kret (false,(x22,x23),x24)
  else
   F.vq N N ((x19,x20,x21,((zB x19 (zA x21) (false,zr0)).2).2,(z9 (((zB x19 (zA x21) (false,zr0)).2).2):Int),0),(x22,x23),x24) (λ((y47,y48,y49),(y50,y51),y52)=>
    next ((y47,y48,Aa .i64 (y49+1)),(y50,y51),y52),
    λ((y53,y54,y55,y56),(y57,y58),y59)=>
    kret (y53,(y57,y58),y59))
 else
  ke2 ((x22,x23),x24)
def F.vt(N:Nat):Nat->Abw->((Ash->Option R)×(Asi->Option R))->Option R:=lp (F.la N)
def F.ld(N:Nat):Amd->(Amd->Option R)->(Asj->Option R)->Option R
 | ((x67,x68,x69,x70),(x71,x72),x73),next,ke8=>
 bif decide (x70<x69) then
  chk (inB x70 (z9 x73))<|
  bif(zB x73 (zA x70) (0:Int))==x67 then next ((x67,Aa .i64 (x68+1),x69,Aa .i64 (x70+1)),(x71,x72),x73) else next ((x67,x68,x69,Aa .i64 (x70+1)),(x71,x72),x73)
 else
  ke8 ((x67,x68),(x71,x72),x73)
def F.vu(N:Nat):Nat->Amd->(Asj->Option R)->Option R:=lp (F.ld N)
def F.lf(N:Nat):Abv->(Abv->Option R)->((ty5->Option R)×(Ame->Option R))->Option R
 | (x63,(x64,x65),x66),next,(ke6,kret)=>
 bif decide (x63<=x65) then
  F.vu N N ((x63,0,(z9 x66:Int),0),(x64,x65),x66) λ((y81,y82),(y83,y84),y85)=>
  bif y82 !=1 then kret (false,y83,y84) else next (Aa .i64 (y81+1),(y83,y84),y85)
 else
  ke6 (x64,x65)
def F.zj(N:Nat):Nat->Abv->((ty5->Option R)×(Ame->Option R))->Option R:=lp (F.lf N)
def F.qe(N:Nat):(Bool->Option R)->Ame->Option R
 | k,(w5,w6,w7)=>
 bif w5 then
  k false
 else
  F.zi N N ((0,w6,(z9 w6:Int),0),(w6,w7),([]:List Int)) λ(y15,(y16,y17),y18)=>
  bif decide (y15>5000) then
   k false
  else
   F.vt N N ((y16,(z9 y16:Int),0),(y16,y17),y18) (λ((y60,y61),y62)=>
    bif(z9 y62:Int) !=y61 then
     k false
    else
     F.zj N N (1,(y60,y61),y62) (λ(y86,y87)=>
      F.aj N (y86,y87) λ r88=>
      k (decide (r88<=2000)),
      λ(y89,y90,y91)=>
      k y89),
    λ(y92,(y93,y94),y95)=>
    k y92)
def F.rx(N:Nat):ty5->(Bool->Option R)->Option R
 | (x1,x2),k=>
 F.af ((z9 x1:Int),1,2000) λ r3=>
 bif !r3 then
  jn (F.qe N k) (true,x1,x2)
 else
  F.af (x2,0,500) λ r4=>
  jn (F.qe N k) (!r4,x1,x2)
def F.gz(N:Nat):Amf->(Amf->Option R)->((Int->Option R)×((Bool×Int)->Option R))->Option R
 | (x2,x3,x4,x5),next,(ke0,kret)=>
 bif decide (x5<x4) then
  chk (inB x5 (z9 x3))<|
  F.rx N ((zB x3 (zA x5) zr6).1,(zB x3 (zA x5) zr6).2) λ r6=>
  bif !r6 then
   kret (false,x2)
  else
   F.aj N ((zB x3 (zA x5) zr6).1,(zB x3 (zA x5) zr6).2) λ r7=>
   next (Aa .i64 (x2+r7),x3,x4,Aa .i64 (x5+1))
 else
  ke0 x2
def F.yg(N:Nat):Nat->Amf->((Int->Option R)×((Bool×Int)->Option R))->Option R:=lp (F.gz N)
def F.qt(N:Nat):(List ty5)->(Bool->Option R)->Option R
 | x1,k=>
 bif decide ((z9 x1:Int)>100) then
  k false
 else
  F.yg N N (0,x1,(z9 x1:Int),0) (λ y8=>
   k (decide (y8<=4000)),
   λ(y9,y10)=>
   k y9)
def F.tz(N:Nat):((Bool×Bool×(List ty2))×List UInt8)->((((List ty2)×List UInt8)×(List Int)×(List Int))->Option R)->Option R
 | ((x1,x2,x3),x4),k=>
 F.am N x3 λ(r5,r6,r7)=>
 k ((x3,x4),r6,r7)
def F.ag:((Int×Int×Int×ty0)×(List Ms)×(List Py))->(D8->Option R)->Option R
 | ((x1,x2,x3,x4),x5,x6),k=>
 chk (zC (z9 x5+z9 [(x1,(x2,(x3,x4)))]) (Ap 48))<|
 k (Aa .i64 ((z9 (x5++[(x1,(x2,(x3,x4)))]):Int)-1),x5++[(x1,(x2,(x3,x4)))],x6)
def F.dh(N:Nat)(rw2:I6->(D8->Option R)->Option R)(rw3:R1->(D8->Option R)->Option R):(D8->Option R)->((Int×Int×Int)×Ask)->Option R
 | k,((w29,w30,w31),(w32,w33,w34,w35),w36,w37)=>
 bif decide (w30>0) then
  rw2 (((w32,w33,w34,w35),w29),w36,w37) λ(r38,r39,r40)=>
  rw3 (((w32,w33,w34,w35),w29,Aa .i64 (w30-1),w31),r39,r40) λ(r41,r42,r43)=>
  F.ag ((113,r38,r41,([]:ty0)),r42,r43) λ(r44,r45,r46)=>
  k (r44,r45,r46)
 else
  rw2 (((w32,w33,w34,w35),w29),w36,w37) λ(r47,r48,r49)=>
  rw3 (((w32,w33,w34,w35),w29,0,w31),r48,r49) λ(r50,r51,r52)=>
  F.ag ((113,r47,r50,([]:ty0)),r51,r52) λ(r53,r54,r55)=>
  F.ag ((101,0,0,([]:ty0)),r54,r55) λ(r56,r57,r58)=>
  F.ag ((111,r53,r56,([]:ty0)),r57,r58) λ(r59,r60,r61)=>
  k (r59,r60,r61)
def F.gg(N:Nat)(rw2:I6->(D8->Option R)->Option R)(rw3:R1->(D8->Option R)->Option R):(D8->Option R)->((Int×Int×Int×Bool)×Ask)->Option R
 | k,((w10,w11,w12,w13),(w14,w15,w16,w17),w18,w19)=>
 bif w13 then
  rw2 (((w14,w15,w16,w17),w10),w18,w19) λ(r20,r21,r22)=>
  F.ag ((42,r20,0,([]:ty0)),r21,r22) λ(r23,r24,r25)=>
  k (r23,r24,r25)
 else
  bif w12==0 then
   F.ag ((101,0,0,([]:ty0)),w18,w19) λ(r26,r27,r28)=>
   k (r26,r27,r28)
  else
   bif decide (w12>0) then
    jn (F.dh N rw2 rw3 k) ((w10,w11,Aa .i64 (w12-1)),(w14,w15,w16,w17),w18,w19)
   else
    jn (F.dh N rw2 rw3 k) ((w10,w11,w12),(w14,w15,w16,w17),w18,w19)
def F.jf(N:Nat)(rw2:I6->(D8->Option R)->Option R)(rw3:R1->(D8->Option R)->Option R):R1->(D8->Option R)->Option R
 | (((x1,x2,x3,x4),x5,x6,x7),x8,x9),k=>
 bif x6==0 then
  jn (F.gg N rw2 rw3 k) ((x5,x6,x7,x7==(-1)),(x1,x2,x3,x4),x8,x9)
 else
  jn (F.gg N rw2 rw3 k) ((x5,x6,x7,false),(x1,x2,x3,x4),x8,x9)
def F.ao(N:Nat)(rw2:I6->(D8->Option R)->Option R):Nat->R1->(D8->Option R)->Option R:=rc (F.jf N rw2)
def F.kj(N:Nat)(rw2:I6->(D8->Option R)->Option R):I6->(D8->Option R)->Option R
 | (((x1,x2,x3,x4),x5),x6,x7),k=>
 chk (inB x5 (z9 x1))<|
 bif((zB x1 (zA x5) ((0:Int),zr3)).1)==1 then
  F.ag ((115,0,0,((zB x1 (zA x5) ((0:Int),zr3)).2).1),x6,x7) λ(r8,r9,r10)=>
  k (r8,r9,r10)
 else
  bif((zB x1 (zA x5) ((0:Int),zr3)).1)==2 then
   bif((zB x1 (zA x5) ((0:Int),zr3)).1)==2 then
    chk (inB x5 (z9 x2))<|
    rw2 (((x1,x2,x3,x4),zB x2 (zA x5) (0:Int)),x6,x7) λ(r11,r12,r13)=>
    chk (inB x5 (z9 x3))<|
    rw2 (((x1,x2,x3,x4),zB x3 (zA x5) (0:Int)),r12,r13) λ(r14,r15,r16)=>
    bif((zB x1 (zA x5) ((0:Int),zr3)).1)==2 then
     F.ag ((113,r11,r14,([]:ty0)),r15,r16) λ(r17,r18,r19)=>
     k (r17,r18,r19)
    else
     F.ag ((111,r11,r14,([]:ty0)),r15,r16) λ(r20,r21,r22)=>
     k (r20,r21,r22)
   else
    bif((zB x1 (zA x5) ((0:Int),zr3)).1)==4 then
     chk (inB x5 (z9 x2))<|
     F.ao N rw2 N (((x1,x2,x3,x4),zB x2 (zA x5) (0:Int),(((zB x1 (zA x5) ((0:Int),zr3)).2).2).1,((((zB x1 (zA x5) ((0:Int),zr3)).2).2).2).1),x6,x7) λ(r23,r24,r25)=>
     k (r23,r24,r25)
    else
     chk (inB x5 (z9 x2))<|
     rw2 (((x1,x2,x3,x4),zB x2 (zA x5) (0:Int)),x6,x7) λ(r51,r52,r53)=>
     k (r51,r52,r53)
  else
   bif((zB x1 (zA x5) ((0:Int),zr3)).1)==3 then
    chk (inB x5 (z9 x2))<|
    rw2 (((x1,x2,x3,x4),zB x2 (zA x5) (0:Int)),x6,x7) λ(r26,r27,r28)=>
    chk (inB x5 (z9 x3))<|
    rw2 (((x1,x2,x3,x4),zB x3 (zA x5) (0:Int)),r27,r28) λ(r29,r30,r31)=>
    bif((zB x1 (zA x5) ((0:Int),zr3)).1)==2 then
     F.ag ((113,r26,r29,([]:ty0)),r30,r31) λ(r32,r33,r34)=>
     k (r32,r33,r34)
    else
     F.ag ((111,r26,r29,([]:ty0)),r30,r31) λ(r35,r36,r37)=>
     k (r35,r36,r37)
   else
    bif((zB x1 (zA x5) ((0:Int),zr3)).1)==4 then
     chk (inB x5 (z9 x2))<|
     F.ao N rw2 N (((x1,x2,x3,x4),zB x2 (zA x5) (0:Int),(((zB x1 (zA x5) ((0:Int),zr3)).2).2).1,((((zB x1 (zA x5) ((0:Int),zr3)).2).2).2).1),x6,x7) λ(r38,r39,r40)=>
     k (r38,r39,r40)
    else
     chk (inB x5 (z9 x2))<|
     rw2 (((x1,x2,x3,x4),zB x2 (zA x5) (0:Int)),x6,x7) λ(r54,r55,r56)=>
     k (r54,r55,r56)
def F.bm(N:Nat):Nat->I6->(D8->Option R)->Option R:=rc (F.kj N)
def F.jp(N:Nat):Amh->(Amh->Option R)->(Aby->Option R)->Option R
 | ((x9,x10,x11,x12,x13,x14,x15),x16,x17,x18,x19),next,ke2=>
 bif decide (x15<x14) then
  chk (inB x15 (z9 x13))<|
  F.tz N (((zB x13 (zA x15) (false,zr0)).1,((zB x13 (zA x15) (false,zr0)).2).1,((zB x13 (zA x15) (false,zr0)).2).2),[]) λ((r20,r21),r22,r23)=>
  F.bm N N (((r20,r22,r23,r21),Aa .i64 ((z9 (((zB x13 (zA x15) (false,zr0)).2).2):Int)-1)),x18,x19) λ(r24,r25,r26)=>
  chk (zC (z9 r26+z9 [(x9,((zB x13 (zA x15) (false,zr0)).1,(((zB x13 (zA x15) (false,zr0)).2).1,r24)))]) (Ap 24))<|
  next ((x9,x10,x11,x12,x13,x14,Aa .i64 (x15+1)),x16,x17,r25,r26++[(x9,((zB x13 (zA x15) (false,zr0)).1,(((zB x13 (zA x15) (false,zr0)).2).1,r24)))])
 else
  ke2 ((x10,x11,x12),x16,x17,x18,x19)
def F.uw(N:Nat):Nat->Amh->(Aby->Option R)->Option R:=lp (F.jp N)
def F.jq(N:Nat):Aby->(Aby->Option R)->(((List Ms)×Agf)->Option R)->Option R
 | ((x2,x3,x4),x5,x6,x7,x8),next,ke0=>
 bif decide (x4<x3) then
  chk (inB x4 (z9 x2))<|
  F.uw N N ((x4,x2,x3,x4,(zB x2 (zA x4) zr6).1,(z9 ((zB x2 (zA x4) zr6).1):Int),0),x5,x6,x7,x8) λ((y27,y28,y29),y30,y31,y32,y33)=>
  next ((y27,y28,Aa .i64 (y29+1)),y30,y31,y32,y33)
 else
  ke0 (x5,x6,x7,x8)
def F.yr(N:Nat):Nat->Aby->(((List Ms)×Agf)->Option R)->Option R:=lp (F.jq N)
def F.rh(N:Nat):(List ty5)->(Ju->Option R)->Option R
 | x1,k=>
 F.yr N N ((x1,(z9 x1:Int),0),([]:List Ms),([]:List Py),([]:List Ms),([]:List Py)) λ(y34,y35,y36,y37)=>
 k (y36,y37)
def F.mw(N:Nat):Ami->(Ami->Option R)->((Unit->Option R)×(Bool->Option R))->Option R
 | (x3,x4,x5,x6),next,(ke0,kret)=>
 bif decide (x6<x5) then
  chk (inB x6 (z9 x4))<|
  F.af (Aa .i64 x3,(zB x4 (zA x6) zr2).1,(zB x4 (zA x6) zr2).2) λ r7=>
  bif r7 then kret true else next (x3,x4,x5,Aa .i64 (x6+1))
 else
  ke0 ()
def F.zm(N:Nat):Nat->Ami->((Unit->Option R)×(Bool->Option R))->Option R:=lp (F.mw N)
def F.qf(N:Nat):(ty0×Int)->(Bool->Option R)->Option R
 | (x1,x2),k=>
 F.zm N N (x2,x1,(z9 x1:Int),0) (λ _=>
  k false,
  λ y8=>
  k y8)
def F.jr(N:Nat):Amj->(Amj->Option R)->(Asl->Option R)->Option R
 | ((x16,x17,x18,x19,x20,x21,x22,x23,x24,x25),(x26,x27),x28,x29),next,ke4=>
 bif decide (x25<x24) then
  chk (inB x25 (z9 x23))<|
  bif((zB x23 (zA x25) ((0:Int),zr7)).1)==115 then
   F.qf N ((((zB x23 (zA x25) ((0:Int),zr7)).2).2).2,Aa .u8 x16) λ r30=>
   F.qf N ((((zB x23 (zA x25) ((0:Int),zr7)).2).2).2,Aa .u8 x19) λ r31=>
   bif !(r30==r31) then ke4 ((x16,x17,x18,false,x21,x22),(x26,x27),x28,x29) else next ((x16,x17,x18,x19,x20,x21,x22,x23,x24,Aa .i64 (x25+1)),(x26,x27),x28,x29)
  else
   next ((x16,x17,x18,x19,x20,x21,x22,x23,x24,Aa .i64 (x25+1)),(x26,x27),x28,x29)
 else
  ke4 ((x16,x17,x18,x20,x21,x22),(x26,x27),x28,x29)
def F.ux(N:Nat):Nat->Amj->(Asl->Option R)->Option R:=lp (F.jr N)
def F.js(N:Nat):Amk->(Amk->Option R)->(Asm->Option R)->Option R
 | ((x8,x9,x10,x11),(x12,x13),x14,x15),next,ke2=>
 bif decide (x11<x10) then
  chk (inB x11 (z9 x15))<|
  F.ux N N ((x8,x9,x11,zB x15 (zA x11) (0:Int),true,x10,x11,x12,(z9 x12:Int),0),(x12,x13),x14,x15) λ((y47,y48,y49,y50,y51,y52),(y53,y54),y55,y56)=>
  bif y50 then ke2 ((y47,y49),(y53,y54),y55,y56) else next ((y47,y48,y51,Aa .i64 (y52+1)),(y53,y54),y55,y56)
 else
  ke2 ((x8,x9),(x12,x13),x14,x15)
def F.uy(N:Nat):Nat->Amk->(Asm->Option R)->Option R:=lp (F.js N)
def F.jt(N:Nat):Aml->(Aml->Option R)->(Abz->Option R)->Option R
 | (x3,(x4,x5),x6,x7),next,ke0=>
 bif decide (x3<256) then
  F.uy N N ((x3,(-1),(z9 x7:Int),0),(x4,x5),x6,x7) λ((y57,y58),(y59,y60),y61,y62)=>
  bif decide (y58<0) then
   chk (zC (z9 y62+z9 [y57]) (Ap 8))<|
   chk (zC (z9 y61+z9 [(z9 y62:Int)]) (Ap 8))<|
   next (Aa .i64 (y57+1),(y59,y60),y61++[(z9 y62:Int)],y62++[y57])
  else
   chk (zC (z9 y61+z9 [y58]) (Ap 8))<|
   next (Aa .i64 (y57+1),(y59,y60),y61++[y58],y62)
 else
  ke0 (x6,x7)
def F.ys(N:Nat):Nat->Aml->(Abz->Option R)->Option R:=lp (F.jt N)
def F.ri(N:Nat):Ju->(Abz->Option R)->Option R
 | (x1,x2),k=>
 F.ys N N (0,(x1,x2),([]:List Int),([]:List Int)) λ(y69,y70)=>
 k (y69,y70)
def F.qg(N:Nat)(rw4:Wy->(Bool->Option R)->Option R):Wy->(Bool->Option R)->Option R
 | ((x1,x2),x3),k=>
 chk (inB x3 (z9 x1))<|
 bif((zB x1 (zA x3) ((0:Int),zr7)).1)==115 then
  k false
 else
  bif((zB x1 (zA x3) ((0:Int),zr7)).1)==113 then
   rw4 ((x1,x2),((zB x1 (zA x3) ((0:Int),zr7)).2).1) λ r4=>
   bif r4 then
    rw4 ((x1,x2),(((zB x1 (zA x3) ((0:Int),zr7)).2).2).1) λ r5=>
    k r5
   else
    k false
  else
   bif((zB x1 (zA x3) ((0:Int),zr7)).1)==111 then
    rw4 ((x1,x2),((zB x1 (zA x3) ((0:Int),zr7)).2).1) λ r7=>
    bif r7 then
     k true
    else
     rw4 ((x1,x2),(((zB x1 (zA x3) ((0:Int),zr7)).2).2).1) λ r8=>
     k r8
   else
    k true
def F.ak(N:Nat):Nat->Wy->(Bool->Option R)->Option R:=rc (F.qg N)
def F.qh(N:Nat)(rw5:Wz->(Bool->Option R)->Option R):Wz->(Bool->Option R)->Option R
 | ((x1,x2),x3,x4),k=>
 chk (inB x3 (z9 x1))<|
 bif((zB x1 (zA x3) ((0:Int),zr7)).1)==115 then
  chk (inB x3 (z9 x4))<|
  k (zB x4 (zA x3) false)
 else
  bif((zB x1 (zA x3) ((0:Int),zr7)).1)==113 then
   rw5 ((x1,x2),(((zB x1 (zA x3) ((0:Int),zr7)).2).2).1,x4) λ r5=>
   bif r5 then
    k true
   else
    rw5 ((x1,x2),((zB x1 (zA x3) ((0:Int),zr7)).2).1,x4) λ r6=>
    bif r6 then
     F.ak N N ((x1,x2),(((zB x1 (zA x3) ((0:Int),zr7)).2).2).1) λ r7=>
     k r7
    else
     k false
  else
   bif((zB x1 (zA x3) ((0:Int),zr7)).1)==111 then
    rw5 ((x1,x2),((zB x1 (zA x3) ((0:Int),zr7)).2).1,x4) λ r9=>
    bif r9 then
     k true
    else
     rw5 ((x1,x2),(((zB x1 (zA x3) ((0:Int),zr7)).2).2).1,x4) λ r10=>
     k r10
   else
    bif((zB x1 (zA x3) ((0:Int),zr7)).1)==42 then
     rw5 ((x1,x2),((zB x1 (zA x3) ((0:Int),zr7)).2).1,x4) λ r12=>
     k r12
    else
     k false
def F.ay(N:Nat):Nat->Wz->(Bool->Option R)->Option R:=rc (F.qh N)
def F.ic(N:Nat):Amm->(Amm->Option R)->(Int->Option R)->Option R
 | ((x6,x7,x8,x9,x10,x11,x12),x13,x14),next,ke0=>
 bif decide (x12<x11) then
  chk (inB x12 (z9 x10))<|
  bif(((zB x10 (zA x12) ((0:Int),zr8)).2).2).1 then
   bif !x8 then
    next ((x6,x7,x8,x9,x10,x11,Aa .i64 (x12+1)),x13,x14)
   else
    F.ay N N ((x13,x14),(((zB x10 (zA x12) ((0:Int),zr8)).2).2).2,x7) λ r78=>
    bif r78 then
     bif decide (x9<0) then
      next ((x6,x7,x8,(zB x10 (zA x12) ((0:Int),zr8)).1,x10,x11,Aa .i64 (x12+1)),x13,x14)
     else
      bif decide (((zB x10 (zA x12) ((0:Int),zr8)).1)<x9) then next ((x6,x7,x8,(zB x10 (zA x12) ((0:Int),zr8)).1,x10,x11,Aa .i64 (x12+1)),x13,x14) else next ((x6,x7,x8,x9,x10,x11,Aa .i64 (x12+1)),x13,x14)
    else
     bif x6 then
      F.ak N N ((x13,x14),(((zB x10 (zA x12) ((0:Int),zr8)).2).2).2) λ r79=>
      bif r79 then
       bif decide (x9<0) then
        next ((x6,x7,x8,(zB x10 (zA x12) ((0:Int),zr8)).1,x10,x11,Aa .i64 (x12+1)),x13,x14)
       else
        bif decide (((zB x10 (zA x12) ((0:Int),zr8)).1)<x9) then next ((x6,x7,x8,(zB x10 (zA x12) ((0:Int),zr8)).1,x10,x11,Aa .i64 (x12+1)),x13,x14) else next ((x6,x7,x8,x9,x10,x11,Aa .i64 (x12+1)),x13,x14)
      else
       next ((x6,x7,x8,x9,x10,x11,Aa .i64 (x12+1)),x13,x14)
     else
      bif !(((zB x10 (zA x12) ((0:Int),zr8)).2).1) then
       F.ak N N ((x13,x14),(((zB x10 (zA x12) ((0:Int),zr8)).2).2).2) λ r80=>
       bif r80 then
        bif decide (x9<0) then
         next ((x6,x7,x8,(zB x10 (zA x12) ((0:Int),zr8)).1,x10,x11,Aa .i64 (x12+1)),x13,x14)
        else
         bif decide (((zB x10 (zA x12) ((0:Int),zr8)).1)<x9) then next ((x6,x7,x8,(zB x10 (zA x12) ((0:Int),zr8)).1,x10,x11,Aa .i64 (x12+1)),x13,x14) else next ((x6,x7,x8,x9,x10,x11,Aa .i64 (x12+1)),x13,x14)
       else
        next ((x6,x7,x8,x9,x10,x11,Aa .i64 (x12+1)),x13,x14)
      else
       next ((x6,x7,x8,x9,x10,x11,Aa .i64 (x12+1)),x13,x14)
  else
   F.ay N N ((x13,x14),(((zB x10 (zA x12) ((0:Int),zr8)).2).2).2,x7) λ r223=>
   bif r223 then
    bif decide (x9<0) then
     next ((x6,x7,x8,(zB x10 (zA x12) ((0:Int),zr8)).1,x10,x11,Aa .i64 (x12+1)),x13,x14)
    else
     bif decide (((zB x10 (zA x12) ((0:Int),zr8)).1)<x9) then next ((x6,x7,x8,(zB x10 (zA x12) ((0:Int),zr8)).1,x10,x11,Aa .i64 (x12+1)),x13,x14) else next ((x6,x7,x8,x9,x10,x11,Aa .i64 (x12+1)),x13,x14)
   else
    bif x6 then
     F.ak N N ((x13,x14),(((zB x10 (zA x12) ((0:Int),zr8)).2).2).2) λ r224=>
     bif r224 then
      bif decide (x9<0) then
       next ((x6,x7,x8,(zB x10 (zA x12) ((0:Int),zr8)).1,x10,x11,Aa .i64 (x12+1)),x13,x14)
      else
       bif decide (((zB x10 (zA x12) ((0:Int),zr8)).1)<x9) then next ((x6,x7,x8,(zB x10 (zA x12) ((0:Int),zr8)).1,x10,x11,Aa .i64 (x12+1)),x13,x14) else next ((x6,x7,x8,x9,x10,x11,Aa .i64 (x12+1)),x13,x14)
     else
      next ((x6,x7,x8,x9,x10,x11,Aa .i64 (x12+1)),x13,x14)
    else
     bif !(((zB x10 (zA x12) ((0:Int),zr8)).2).1) then
      F.ak N N ((x13,x14),(((zB x10 (zA x12) ((0:Int),zr8)).2).2).2) λ r225=>
      bif r225 then
       bif decide (x9<0) then
        next ((x6,x7,x8,(zB x10 (zA x12) ((0:Int),zr8)).1,x10,x11,Aa .i64 (x12+1)),x13,x14)
       else
        bif decide (((zB x10 (zA x12) ((0:Int),zr8)).1)<x9) then next ((x6,x7,x8,(zB x10 (zA x12) ((0:Int),zr8)).1,x10,x11,Aa .i64 (x12+1)),x13,x14) else next ((x6,x7,x8,x9,x10,x11,Aa .i64 (x12+1)),x13,x14)
      else
       next ((x6,x7,x8,x9,x10,x11,Aa .i64 (x12+1)),x13,x14)
     else
      next ((x6,x7,x8,x9,x10,x11,Aa .i64 (x12+1)),x13,x14)
 else
  ke0 x9
def F.yh(N:Nat):Nat->Amm->(Int->Option R)->Option R:=lp (F.ic N)
def F.pd(N:Nat):(Ju×Bool×(List Bool)×Bool)->(Int->Option R)->Option R
 | ((x1,x2),x3,x4,x5),k=>
 F.yh N N ((x3,x4,x5,(-1),x2,(z9 x2:Int),0),x1,x2) λ y368=>
 k y368
def F.qi(N:Nat)(rw6:W0->((List Bool)->Option R)->Option R):W0->((List Bool)->Option R)->Option R
 | (((x1,x2),x3,x4,x5,x6),x7),k=>
 chk (inB x3 (z9 x1))<|
 bif((zB x1 (zA x3) ((0:Int),zr7)).1)==115 then
  bif x4 then
   F.qf N ((((zB x1 (zA x3) ((0:Int),zr7)).2).2).2,x6) λ r8=>
   bif r8 then
    chk (inB x3 (z9 x7))<|
    k (zE x7 (zA x3) true)
   else
    k x7
  else
   k x7
 else
  bif((zB x1 (zA x3) ((0:Int),zr7)).1)==113 then
   rw6 (((x1,x2),((zB x1 (zA x3) ((0:Int),zr7)).2).1,x4,x5,x6),x7) λ r14=>
   bif x4 then
    F.ak N N ((x1,x2),((zB x1 (zA x3) ((0:Int),zr7)).2).1) λ r15=>
    bif r15 then
     rw6 (((x1,x2),(((zB x1 (zA x3) ((0:Int),zr7)).2).2).1,true,x5,x6),r14) λ r29=>
     k r29
    else
     F.ay N N ((x1,x2),((zB x1 (zA x3) ((0:Int),zr7)).2).1,x5) λ r16=>
     rw6 (((x1,x2),(((zB x1 (zA x3) ((0:Int),zr7)).2).2).1,r16,x5,x6),r14) λ r30=>
     k r30
   else
    F.ay N N ((x1,x2),((zB x1 (zA x3) ((0:Int),zr7)).2).1,x5) λ r17=>
    rw6 (((x1,x2),(((zB x1 (zA x3) ((0:Int),zr7)).2).2).1,r17,x5,x6),r14) λ r31=>
    k r31
  else
   bif((zB x1 (zA x3) ((0:Int),zr7)).1)==111 then
    rw6 (((x1,x2),((zB x1 (zA x3) ((0:Int),zr7)).2).1,x4,x5,x6),x7) λ r32=>
    rw6 (((x1,x2),(((zB x1 (zA x3) ((0:Int),zr7)).2).2).1,x4,x5,x6),r32) λ r33=>
    k r33
   else
    bif((zB x1 (zA x3) ((0:Int),zr7)).1)==42 then
     bif x4 then
      rw6 (((x1,x2),((zB x1 (zA x3) ((0:Int),zr7)).2).1,true,x5,x6),x7) λ r34=>
      k r34
     else
      F.ay N N ((x1,x2),((zB x1 (zA x3) ((0:Int),zr7)).2).1,x5) λ r35=>
      rw6 (((x1,x2),((zB x1 (zA x3) ((0:Int),zr7)).2).1,r35,x5,x6),x7) λ r36=>
      k r36
    else
     k x7
def F.lg(N:Nat):Nat->W0->((List Bool)->Option R)->Option R:=rc (F.qi N)
def F.ju(N:Nat):Amn->(Amn->Option R)->((List Bool)->Option R)->Option R
 | ((x6,x7,x8,x9,x10,x11),(x12,x13),x14),next,ke0=>
 bif decide (x11<x10) then
  chk (inB x11 (z9 x9))<|
  bif x6 then
   F.lg N N (((x12,x13),(((zB x9 (zA x11) ((0:Int),zr8)).2).2).2,true,x7,x8),x14) λ r15=>
   next ((x6,x7,x8,x9,x10,Aa .i64 (x11+1)),(x12,x13),r15)
  else
   F.lg N N (((x12,x13),(((zB x9 (zA x11) ((0:Int),zr8)).2).2).2, !(((zB x9 (zA x11) ((0:Int),zr8)).2).1),x7,x8),x14) λ r16=>
   next ((x6,x7,x8,x9,x10,Aa .i64 (x11+1)),(x12,x13),r16)
 else
  ke0 x14
def F.yu(N:Nat):Nat->Amn->((List Bool)->Option R)->Option R:=lp (F.ju N)
def F.rj(N:Nat):(Ju×Bool×(List Bool)×Int)->((List Bool)->Option R)->Option R
 | ((x1,x2),x3,x4,x5),k=>
 chk (decide (0<=(z9 x4:Int)))<|
 chk (zC (zA (z9 x4:Int)) (Ap 1))<|
 F.yu N N ((x3,x4,x5,x2,(z9 x2:Int),0),(x1,x2),zD (zA (z9 x4:Int)) false) λ y26=>
 k y26
def F.lh(N:Nat):Amo->(Amo->Option R)->((Unit->Option R)×(Bool->Option R))->Option R
 | (x3,x4,x5,x6),next,(ke0,kret)=>
 bif decide (x6<x5) then
  chk (inB x6 (z9 x3))<|
  chk (inB x6 (z9 x4))<|
  bif !((zB x3 (zA x6) false)==(zB x4 (zA x6) false)) then kret false else next (x3,x4,x5,Aa .i64 (x6+1))
 else
  ke0 ()
def F.zk(N:Nat):Nat->Amo->((Unit->Option R)×(Bool->Option R))->Option R:=lp (F.lh N)
def F.ry(N:Nat):((List Bool)×(List Bool))->(Bool->Option R)->Option R
 | (x1,x2),k=>
 F.zk N N (x1,x2,(z9 x1:Int),0) (λ _=>
  k true,
  λ y7=>
  k y7)
def F.my(N:Nat):Amp->(Amp->Option R)->((Unit->Option R)×(Bool->Option R))->Option R
 | (x4,x5,x6,x7,x8),next,(ke0,kret)=>
 bif decide (x8<x7) then
  chk (inB x8 (z9 x6))<|
  F.af (zB x6 (zA x8) (0:Int),x4,x5) λ r9=>
  bif !r9 then kret false else next (x4,x5,x6,x7,Aa .i64 (x8+1))
 else
  ke0 ()
def F.zn(N:Nat):Nat->Amp->((Unit->Option R)×(Bool->Option R))->Option R:=lp (F.my N)
def F.ox(N:Nat):F4->(Bool->Option R)->Option R
 | (x1,x2,x3),k=>
 F.zn N N (x2,x3,x1,(z9 x1:Int),0) (λ _=>
  k true,
  λ y10=>
  k y10)
def F.qu(N:Nat):(Bool->Option R)->Asn->Option R
 | k,((w15,w16),w17,w18,w19,w20,w21)=>
 bif w16 then
  k false
 else
  F.ox N (w17,0,Aa .i64 (w18-1)) λ r22=>
  bif r22 then
   F.ox N (w19,0,Aa .i64 (w15-1)) λ r23=>
   bif r23 then
    F.ox N (w20,(-1),99) λ r24=>
    bif r24 then
     F.ox N (w21,(-1),99) λ r25=>
     k r25
    else
     k false
   else
    k false
  else
   k false
def F.pe(N:Nat):(Bool->Option R)->Asn->Option R
 | k,((w8,w9),w10,w11,w12,w13,w14)=>
 bif w9 then
  k false
 else
  bif(z9 w14:Int) !=w8 then
   jn (F.qu N k) ((w8,true),w10,w11,w12,w13,w14)
  else
   jn (F.qu N k) ((w8,(z9 w12:Int) !=(Aa .i64 (w8*w11))),w10,w11,w12,w13,w14)
def F.mz(N:Nat):Br->(Bool->Option R)->Option R
 | (x1,x2,x3,x4,x5),k=>
 bif(z9 x1:Int) !=256 then
  jn (F.pe N k) (((z9 x4:Int),true),x1,x2,x3,x4,x5)
 else
  F.af (x2,1,256) λ r6=>
  bif !r6 then
   jn (F.pe N k) (((z9 x4:Int),true),x1,x2,x3,x4,x5)
  else
   F.af ((z9 x4:Int),1,4000) λ r7=>
   jn (F.pe N k) (((z9 x4:Int), !r7),x1,x2,x3,x4,x5)
def F.jv(N:Nat):Ge->(Ge->Option R)->((Unit->Option R)×(Int->Option R))->Option R
 | (x3,x4,x5,x6),next,(ke0,kret)=>
 bif decide (x6<x5) then
  chk (inB x6 (z9 x4))<|
  bif(zB x4 (zA x6) (0:Int))==x3 then kret x6 else next (x3,x4,x5,Aa .i64 (x6+1))
 else
  ke0 ()
def F.yw(N:Nat):Nat->Ge->((Unit->Option R)×(Int->Option R))->Option R:=lp (F.jv N)
def F.ce(N:Nat):((List Int)×Int)->(Int->Option R)->Option R
 | (x1,x2),k=>
 F.yw N N (x2,x1,(z9 x1:Int),0) (λ _=>
  k (-1),
  λ y7=>
  k y7)
def F.dq(N:Nat):Amq->(Amq->Option R)->(Ab0->Option R)->Option R
 | ((x13,x14),(x15,x16,x17,x18,x19),x20),next,ke2=>
 bif decide (x14<x16) then
  F.ce N (x15,x14) λ r21=>
  chk (inB x13 (z9 x20))<|
  chk (inB (Aa .i64 ((Aa .i64 ((zB x20 (zA x13) (0:Int))*x16))+x14)) (z9 x17))<|
  bif decide (r21>=0) then
   F.ce N (x20,zB x17 (zA (Aa .i64 ((Aa .i64 ((zB x20 (zA x13) (0:Int))*x16))+x14))) (0:Int)) λ r22=>
   bif decide (r22<0) then
    chk (zC (z9 x20+z9 [zB x17 (zA (Aa .i64 ((Aa .i64 ((zB x20 (zA x13) (0:Int))*x16))+x14))) (0:Int)]) (Ap 8))<|
    next ((x13,Aa .i64 (x14+1)),(x15,x16,x17,x18,x19),x20++[zB x17 (zA (Aa .i64 ((Aa .i64 ((zB x20 (zA x13) (0:Int))*x16))+x14))) (0:Int)])
   else
    next ((x13,Aa .i64 (x14+1)),(x15,x16,x17,x18,x19),x20)
  else
   next ((x13,Aa .i64 (x14+1)),(x15,x16,x17,x18,x19),x20)
 else
  ke2 (x13,(x15,x16,x17,x18,x19),x20)
def F.sq(N:Nat):Nat->Amq->(Ab0->Option R)->Option R:=lp (F.dq N)
def F.dt(N:Nat):Ab0->(Ab0->Option R)->((List Int)->Option R)->Option R
 | (x6,(x7,x8,x9,x10,x11),x12),next,ke0=>
 bif decide (x6<(z9 x12:Int)) then
  F.sq N N ((x6,0),(x7,x8,x9,x10,x11),x12) λ(y49,(y50,y51,y52,y53,y54),y55)=>
  next (Aa .i64 (y49+1),(y50,y51,y52,y53,y54),y55)
 else
  ke0 x12
def F.xq(N:Nat):Nat->Ab0->((List Int)->Option R)->Option R:=lp (F.dt N)
def F.qj(N:Nat):Br->((List Int)->Option R)->Option R
 | (x1,x2,x3,x4,x5),k=>
 F.xq N N (0,(x1,x2,x3,x4,x5),[0]) λ y56=>
 k y56
def F.jx(N:Nat):Amr->(Amr->Option R)->(Aso->Option R)->Option R
 | ((x7,x8,x9,x10,x11),(x12,x13,x14,x15,x16),x17),next,ke0=>
 bif decide (x11<x10) then
  chk (inB x11 (z9 x9))<|
  chk (inB (zB x9 (zA x11) (0:Int)) (z9 x17))<|
  next ((x7,x8,x9,x10,Aa .i64 (x11+1)),(x12,x13,x14,x15,x16),zE x17 (zA (zB x9 (zA x11) (0:Int))) x11)
 else
  ke0 ((x7,x8),(x12,x13,x14,x15,x16),x17)
def F.uz(N:Nat):Nat->Amr->(Aso->Option R)->Option R:=lp (F.jx N)
def F.jy(N:Nat):Ams->(Ams->Option R)->(Asp->Option R)->Option R
 | ((x26,x27,x28),(x29,x30,x31,x32,x33),x34,x35),next,ke2=>
 bif decide (x28<x30) then
  F.ce N (x29,x28) λ r36=>
  bif decide (r36>=0) then
   chk (zC (z9 x35+z9 [x28]) (Ap 8))<|
   next ((x26,x27,Aa .i64 (x28+1)),(x29,x30,x31,x32,x33),x34,x35++[x28])
  else
   next ((x26,x27,Aa .i64 (x28+1)),(x29,x30,x31,x32,x33),x34,x35)
 else
  ke2 ((x26,x27),(x29,x30,x31,x32,x33),x34,x35)
def F.va(N:Nat):Nat->Ams->(Asp->Option R)->Option R:=lp (F.jy N)
def F.jz(N:Nat):Amu->(Amu->Option R)->((F4×Br×Amt)->Option R)->Option R
 | ((x67,x68,x69,x70),(x71,x72,x73,x74,x75),x76,x77,x78,x79),next,ke6=>
 bif decide (x70<x68) then
  chk (inB x69 (z9 x67))<|
  chk (inB (zB x67 (zA x69) (0:Int)) (z9 x74))<|
  chk (inB x70 (z9 x67))<|
  chk (inB (zB x67 (zA x70) (0:Int)) (z9 x74))<|
  bif(zB x74 (zA (zB x67 (zA x69) (0:Int))) (0:Int)) !=(zB x74 (zA (zB x67 (zA x70) (0:Int))) (0:Int)) then
   chk (inB x70 (z9 x79))<|
   next ((x67,x68,x69,Aa .i64 (x70+1)),(x71,x72,x73,x74,x75),x76,x77,x78,zE x79 (zA x70) true)
  else
   chk (inB x69 (z9 x67))<|
   chk (inB (zB x67 (zA x69) (0:Int)) (z9 x75))<|
   chk (inB x70 (z9 x67))<|
   chk (inB (zB x67 (zA x70) (0:Int)) (z9 x75))<|
   chk (inB x70 (z9 x79))<|
   next ((x67,x68,x69,Aa .i64 (x70+1)),(x71,x72,x73,x74,x75),x76,x77,x78,zE x79 (zA x70) ((zB x75 (zA (zB x67 (zA x69) (0:Int))) (0:Int)) !=(zB x75 (zA (zB x67 (zA x70) (0:Int))) (0:Int))))
 else
  ke6 ((x67,x68,x69),(x71,x72,x73,x74,x75),x76,x77,x78,x79)
def F.vb(N:Nat):Nat->Amu->((F4×Br×Amt)->Option R)->Option R:=lp (F.jz N)
def F.ka(N:Nat):(F4×Pz)->((F4×Pz)->Option R)->((((List Int)×Int)×Pz)->Option R)->Option R
 | ((x56,x57,x58),(x59,x60,x61,x62,x63),x64,x65,x66),next,ke4=>
 bif decide (x58<x57) then
  chk (decide (0<=x57))<|
  chk (zC (zA x57) (Ap 1))<|
  F.vb N N ((x56,x57,x58,0),(x59,x60,x61,x62,x63),x64,x65,x66,zD (zA x57) false) λ((y93,y94,y95),(y96,y97,y98,y99,y100),y101,y102,y103,y104)=>
  chk (zC (z9 y103+z9 [y104]) (Ap 24))<|
  next ((y93,y94,Aa .i64 (y95+1)),(y96,y97,y98,y99,y100),y101,y102,y103++[y104])
 else
  ke4 ((x56,x57),(x59,x60,x61,x62,x63),x64,x65,x66)
def F.vc(N:Nat):Nat->(F4×Pz)->((((List Int)×Int)×Pz)->Option R)->Option R:=lp (F.ka N)
def F.ig(N:Nat):Amv->(Amv->Option R)->(Ab2->Option R)->Option R
 | ((x151,x152,x153,x154,x155,x156,x157),(x158,x159,x160,x161,x162),x163,x164,x165),next,ke14=>
 bif decide (x157<x156) then
  chk (inB x157 (z9 x164))<|
  chk (inB x154 (z9 x151))<|
  chk (inB (Aa .i64 ((Aa .i64 ((zB x151 (zA x154) (0:Int))*x159))+(zB x164 (zA x157) (0:Int)))) (z9 x160))<|
  chk (inB (zB x160 (zA (Aa .i64 ((Aa .i64 ((zB x151 (zA x154) (0:Int))*x159))+(zB x164 (zA x157) (0:Int))))) (0:Int)) (z9 x163))<|
  chk (inB x155 (z9 x151))<|
  chk (inB (Aa .i64 ((Aa .i64 ((zB x151 (zA x155) (0:Int))*x159))+(zB x164 (zA x157) (0:Int)))) (z9 x160))<|
  chk (inB (zB x160 (zA (Aa .i64 ((Aa .i64 ((zB x151 (zA x155) (0:Int))*x159))+(zB x164 (zA x157) (0:Int))))) (0:Int)) (z9 x163))<|
  chk (inB (zB x163 (zA (zB x160 (zA (Aa .i64 ((Aa .i64 ((zB x151 (zA x154) (0:Int))*x159))+(zB x164 (zA x157) (0:Int))))) (0:Int))) (0:Int)) (z9 x165))<|
  chk (inB (zB x163 (zA (zB x160 (zA (Aa .i64 ((Aa .i64 ((zB x151 (zA x155) (0:Int))*x159))+(zB x164 (zA x157) (0:Int))))) (0:Int))) (0:Int)) (z9 (zB x165 (zA (zB x163 (zA (zB x160 (zA (Aa .i64 ((Aa .i64 ((zB x151 (zA x154) (0:Int))*x159))+(zB x164 (zA x157) (0:Int))))) (0:Int))) (0:Int))) ([]:List Bool))))<|
  bif zB (zB x165 (zA (zB x163 (zA (zB x160 (zA (Aa .i64 ((Aa .i64 ((zB x151 (zA x154) (0:Int))*x159))+(zB x164 (zA x157) (0:Int))))) (0:Int))) (0:Int))) ([]:List Bool)) (zA (zB x163 (zA (zB x160 (zA (Aa .i64 ((Aa .i64 ((zB x151 (zA x155) (0:Int))*x159))+(zB x164 (zA x157) (0:Int))))) (0:Int))) (0:Int))) false then
   chk (inB x154 (z9 x165))<|
   chk (inB x155 (z9 (zB x165 (zA x154) ([]:List Bool))))<|
   next ((x151,x152,true,x154,x155,x156,Aa .i64 (x157+1)),(x158,x159,x160,x161,x162),x163,x164,zE x165 (zA x154) (zE (zB x165 (zA x154) ([]:List Bool)) (zA x155) true))
  else
   next ((x151,x152,x153,x154,x155,x156,Aa .i64 (x157+1)),(x158,x159,x160,x161,x162),x163,x164,x165)
 else
  ke14 ((x151,x152,x153,x154,x155),(x158,x159,x160,x161,x162),x163,x164,x165)
def F.ua(N:Nat):Nat->Amv->(Ab2->Option R)->Option R:=lp (F.ig N)
def F.ii(N:Nat):Ab2->(Ab2->Option R)->(Ab3->Option R)->Option R
 | ((x138,x139,x140,x141,x142),(x143,x144,x145,x146,x147),x148,x149,x150),next,ke12=>
 bif decide (x142<x139) then
  chk (inB x141 (z9 x150))<|
  chk (inB x142 (z9 (zB x150 (zA x141) ([]:List Bool))))<|
  bif zB (zB x150 (zA x141) ([]:List Bool)) (zA x142) false then
   next ((x138,x139,x140,x141,Aa .i64 (x142+1)),(x143,x144,x145,x146,x147),x148,x149,x150)
  else
   F.ua N N ((x138,x139,x140,x141,x142,(z9 x149:Int),0),(x143,x144,x145,x146,x147),x148,x149,x150) λ((y181,y182,y183,y184,y185),(y186,y187,y188,y189,y190),y191,y192,y193)=>
   next ((y181,y182,y183,y184,Aa .i64 (y185+1)),(y186,y187,y188,y189,y190),y191,y192,y193)
 else
  ke12 ((x138,x139,x140,x141),(x143,x144,x145,x146,x147),x148,x149,x150)
def F.uc(N:Nat):Nat->Ab2->(Ab3->Option R)->Option R:=lp (F.ii N)
def F.il(N:Nat):Ab3->(Ab3->Option R)->(Ab4->Option R)->Option R
 | ((x126,x127,x128,x129),(x130,x131,x132,x133,x134),x135,x136,x137),next,ke10=>
 bif decide (x129<x127) then
  F.uc N N ((x126,x127,x128,x129,0),(x130,x131,x132,x133,x134),x135,x136,x137) λ((y194,y195,y196,y197),(y198,y199,y200,y201,y202),y203,y204,y205)=>
  next ((y194,y195,y196,Aa .i64 (y197+1)),(y198,y199,y200,y201,y202),y203,y204,y205)
 else
  ke10 ((x126,x127,x128),(x130,x131,x132,x133,x134),x135,x136,x137)
def F.ud(N:Nat):Nat->Ab3->(Ab4->Option R)->Option R:=lp (F.il N)
def F.kb(N:Nat):Ab4->(Ab4->Option R)->(Abx->Option R)->Option R
 | ((x115,x116,x117),(x118,x119,x120,x121,x122),x123,x124,x125),next,ke8=>
 bif x117 then
  F.ud N N ((x115,x116,false,0),(x118,x119,x120,x121,x122),x123,x124,x125) λ((y206,y207,y208),(y209,y210,y211,y212,y213),y214,y215,y216)=>
  next ((y206,y207,y208),(y209,y210,y211,y212,y213),y214,y215,y216)
 else
  ke8 x125
def F.yx(N:Nat):Nat->Ab4->(Abx->Option R)->Option R:=lp (F.kb N)
def F.rk(N:Nat):(Br×(List Int))->(Abx->Option R)->Option R
 | ((x1,x2,x3,x4,x5),x6),k=>
 chk (decide (0<=(z9 x4:Int)))<|
 chk (zC (zA (z9 x4:Int)) (Ap 8))<|
 F.uz N N ((x6,(z9 x6:Int),x6,(z9 x6:Int),0),(x1,x2,x3,x4,x5),zD (zA (z9 x4:Int)) (0:Int)) λ((y18,y19),(y20,y21,y22,y23,y24),y25)=>
 F.va N N ((y18,y19,0),(y20,y21,y22,y23,y24),y25,([]:List Int)) λ((y47,y48),(y49,y50,y51,y52,y53),y54,y55)=>
 F.vc N N ((y47,y48,0),(y49,y50,y51,y52,y53),y54,y55,([]:List (List Bool))) λ((y105,y106),(y107,y108,y109,y110,y111),y112,y113,y114)=>
 F.yx N N ((y105,y106,true),(y107,y108,y109,y110,y111),y112,y113,y114) λ y217=>
 k y217
def F.vd:(Br×Int×Int)->(Int->Option R)->Option R
 | ((x1,x2,x3,x4,x5),x6,x7),k=>
 chk (inB x7 (z9 x1))<|
 chk (inB (Aa .i64 ((Aa .i64 (x6*x2))+(zB x1 (zA x7) (0:Int)))) (z9 x3))<|
 k (zB x3 (zA (Aa .i64 ((Aa .i64 (x6*x2))+(zB x1 (zA x7) (0:Int))))) (0:Int))
def F.im(N:Nat):Amy->(Amy->Option R)->(Asq->Option R)->Option R
 | ((x24,x25,x26,x27,x28),(x29,x30,x31,x32,x33),x34,x35,x36,x37,x38,x39,x40,x41),next,ke2=>
 chk (inB x24 (z9 x36))<|
 chk (inB x26 (z9 (zB x36 (zA x24) ([]:List Bool))))<|
 bif zB (zB x36 (zA x24) ([]:List Bool)) (zA x26) false then next ((x24,x25,Aa .i64 (x26+1),x27,x28),(x29,x30,x31,x32,x33),x34,x35,x36,x37,x38,x39,x40,x41) else ke2 ((x25,x26,x27,x28),(x29,x30,x31,x32,x33),x34,x35,x36,x37,x38,x39,x40,x41)
def F.ue(N:Nat):Nat->Amy->(Asq->Option R)->Option R:=lp (F.im N)
def F.io(N:Nat):Amz->(Amz->Option R)->((Br×Kj)->Option R)->Option R
 | ((x9,x10),(x11,x12,x13,x14,x15),x16,x17,x18,x19,x20,x21,x22,x23),next,ke0=>
 bif decide (x10<x9) then
  chk (inB x10 (z9 x17))<|
  F.ue N N ((x10,zB x17 (zA x10) (0:Int),0,x9,x10),(x11,x12,x13,x14,x15),x16,x17,x18,x19,x20,x21,x22,x23) λ((y42,y43,y44,y45),(y46,y47,y48,y49,y50),y51,y52,y53,y54,y55,y56,y57,y58)=>
  chk (inB y43 (z9 y52))<|
  chk (inB y42 (z9 y54))<|
  next ((y44,Aa .i64 (y45+1)),(y46,y47,y48,y49,y50),y51,y52,y53,zE y54 (zA y42) (zB y52 (zA y43) (0:Int)),y55,y56,y57,y58)
 else
  ke0 ((x11,x12,x13,x14,x15),x16,x19,x20,x21,x22,x23)
def F.uf(N:Nat):Nat->Amz->((Br×Kj)->Option R)->Option R:=lp (F.io N)
def F.ip(N:Nat):Am1->(Am1->Option R)->((Int×Br×Am0)->Option R)->Option R
 | ((x84,x85),(x86,x87,x88,x89,x90),x91,x92,x93,x94,x95,x96,x97,x98,x99),next,ke6=>
 bif decide (x85<256) then
  chk (inB x84 (z9 x93))<|
  F.vd ((x86,x87,x88,x89,x90),zB x93 (zA x84) (0:Int),x85) λ r100=>
  chk (inB r100 (z9 x92))<|
  F.ce N (x93,zB x92 (zA r100) (0:Int)) λ r101=>
  bif decide (r101<0) then
   chk (zC (z9 x93+z9 [zB x92 (zA r100) (0:Int)]) (Ap 8))<|
   F.ce N (x93++[zB x92 (zA r100) (0:Int)],zB x92 (zA r100) (0:Int)) λ r120=>
   chk (zC (z9 x95+z9 [r120]) (Ap 8))<|
   next ((x84,Aa .i64 (x85+1)),(x86,x87,x88,x89,x90),x91,x92,x93++[zB x92 (zA r100) (0:Int)],x94,x95++[r120],x96,x97,x98,x99)
  else
   F.ce N (x93,zB x92 (zA r100) (0:Int)) λ r121=>
   chk (zC (z9 x95+z9 [r121]) (Ap 8))<|
   next ((x84,Aa .i64 (x85+1)),(x86,x87,x88,x89,x90),x91,x92,x93,x94,x95++[r121],x96,x97,x98,x99)
 else
  ke6 (x84,(x86,x87,x88,x89,x90),x91,x92,x93,x94,x95,x96,x97,x98,x99)
def F.ug(N:Nat):Nat->Am1->((Int×Br×Am0)->Option R)->Option R:=lp (F.ip N)
def F.iq(N:Nat):Am3->(Am3->Option R)->((Br×Int×Am2)->Option R)->Option R
 | (x70,(x71,x72,x73,x74,x75),x76,x77,x78,x79,x80,x81,x82,x83),next,ke4=>
 bif decide (x70<(z9 x78:Int)) then
  F.ug N N ((x70,0),(x71,x72,x73,x74,x75),x76,x77,x78,x79,([]:List Int),x80,x81,x82,x83) λ(y122,(y123,y124,y125,y126,y127),y128,y129,y130,y131,y132,y133,y134,y135,y136)=>
  chk (zC (z9 y131+z9 [y132]) (Ap 24))<|
  next (Aa .i64 (y122+1),(y123,y124,y125,y126,y127),y128,y129,y130,y131++[y132],y133,y134,y135,y136)
 else
  ke4 ((x71,x72,x73,x74,x75),x76,x78,x79,x80,x81,x82,x83)
def F.uh(N:Nat):Nat->Am3->((Br×Int×Am2)->Option R)->Option R:=lp (F.iq N)
def F.du(N:Nat):Am4->(Am4->Option R)->((Agg×Br×P0)->Option R)->Option R
 | ((x190,x191,x192,x193,x194,x195,x196,x197,x198),(x199,x200,x201,x202,x203),x204,x205,x206,x207,x208,x209,x210,x211,x212,x213,x214,x215,x216),next,ke12=>
 bif decide (x198<x197) then
  chk (inB x198 (z9 x206))<|
  chk (inB x193 (z9 (zB x206 (zA x198) ([]:List Int))))<|
  chk (inB x190 (z9 (zB x206 (zA x198) ([]:List Int))))<|
  bif(zB (zB x206 (zA x198) ([]:List Int)) (zA x193) (0:Int)) !=(zB (zB x206 (zA x198) ([]:List Int)) (zA x190) (0:Int)) then next ((x190,x191,x192,x193,false,x195,x196,x197,Aa .i64 (x198+1)),(x199,x200,x201,x202,x203),x204,x205,x206,x207,x208,x209,x210,x211,x212,x213,x214,x215,x216) else next ((x190,x191,x192,x193,x194,x195,x196,x197,Aa .i64 (x198+1)),(x199,x200,x201,x202,x203),x204,x205,x206,x207,x208,x209,x210,x211,x212,x213,x214,x215,x216)
 else
  ke12 ((x190,x191,x192,x194,x195,x196),(x199,x200,x201,x202,x203),x204,x205,x206,x207,x208,x209,x210,x211,x212,x213,x214,x215,x216)
def F.sr(N:Nat):Nat->Am4->((Agg×Br×P0)->Option R)->Option R:=lp (F.du N)
def F.dw(N:Nat):Am5->(Am5->Option R)->(((Int×Int)×Br×P0)->Option R)->Option R
 | ((x168,x169,x170,x171),(x172,x173,x174,x175,x176),x177,x178,x179,x180,x181,x182,x183,x184,x185,x186,x187,x188,x189),next,ke10=>
 bif decide (x171<x170) then
  chk (inB x171 (z9 x181))<|
  F.sr N N ((x168,x169,x171,zB x181 (zA x171) (0:Int),true,x170,x171,(z9 x179:Int),0),(x172,x173,x174,x175,x176),x177,x178,x179,x180,x181,x182,x183,x184,x185,x186,x187,x188,x189) λ((y244,y245,y246,y247,y248,y249),(y250,y251,y252,y253,y254),y255,y256,y257,y258,y259,y260,y261,y262,y263,y264,y265,y266,y267)=>
  bif y247 then next ((y244,y246,y248,Aa .i64 (y249+1)),(y250,y251,y252,y253,y254),y255,y256,y257,y258,y259,y260,y261,y262,y263,y264,y265,y266,y267) else next ((y244,y245,y248,Aa .i64 (y249+1)),(y250,y251,y252,y253,y254),y255,y256,y257,y258,y259,y260,y261,y262,y263,y264,y265,y266,y267)
 else
  ke10 ((x168,x169),(x172,x173,x174,x175,x176),x177,x178,x179,x180,x181,x182,x183,x184,x185,x186,x187,x188,x189)
def F.su(N:Nat):Nat->Am5->(((Int×Int)×Br×P0)->Option R)->Option R:=lp (F.dw N)
def F.ir(N:Nat):Am6->(Am6->Option R)->((Br×P0)->Option R)->Option R
 | (x149,(x150,x151,x152,x153,x154),x155,x156,x157,x158,x159,x160,x161,x162,x163,x164,x165,x166,x167),next,ke8=>
 bif decide (x149<256) then
  F.su N N ((x149,(-1),(z9 x159:Int),0),(x150,x151,x152,x153,x154),x155,x156,x157,x158,x159,x160,x161,x162,x163,x164,x165,x166,x167) λ((y290,y291),(y292,y293,y294,y295,y296),y297,y298,y299,y300,y301,y302,y303,y304,y305,y306,y307,y308,y309)=>
  bif decide (y291<0) then
   chk (zC (z9 y301+z9 [y290]) (Ap 8))<|
   chk (zC (z9 y306+z9 [(z9 y301:Int)]) (Ap 8))<|
   next (Aa .i64 (y290+1),(y292,y293,y294,y295,y296),y297,y298,y299,y300,y301++[y290],y302,y303,y304,y305,y306++[(z9 y301:Int)],y307,y308,y309)
  else
   chk (zC (z9 y306+z9 [y291]) (Ap 8))<|
   next (Aa .i64 (y290+1),(y292,y293,y294,y295,y296),y297,y298,y299,y300,y301,y302,y303,y304,y305,y306++[y291],y307,y308,y309)
 else
  ke8 ((x150,x151,x152,x153,x154),x155,x156,x157,x158,x159,x160,x161,x162,x163,x164,x165,x166,x167)
def F.ui(N:Nat):Nat->Am6->((Br×P0)->Option R)->Option R:=lp (F.ir N)
def F.dx(N:Nat):Am8->(Am8->Option R)->(Ass->Option R)->Option R
 | ((x368,x369,x370,x371,x372,x373),(x374,x375,x376,x377,x378),x379,x380,x381,x382,x383,x384,x385,x386,x387,x388,x389,x390,x391),next,ke16=>
 bif decide (x373<x372) then
  chk (inB x373 (z9 x382))<|
  chk (inB x368 (z9 x380))<|
  chk (inB (zB x382 (zA x373) (0:Int)) (z9 (zB x380 (zA x368) ([]:List Int))))<|
  chk (zC (z9 x389+z9 [zB (zB x380 (zA x368) ([]:List Int)) (zA (zB x382 (zA x373) (0:Int))) (0:Int)]) (Ap 8))<|
  next ((x368,x369,x370,x371,x372,Aa .i64 (x373+1)),(x374,x375,x376,x377,x378),x379,x380,x381,x382,x383,x384,x385,x386,x387,x388,x389++[zB (zB x380 (zA x368) ([]:List Int)) (zA (zB x382 (zA x373) (0:Int))) (0:Int)],x390,x391)
 else
  ke16 ((x369,x370,x371),(x374,x375,x376,x377,x378),x379,x380,x381,x382,x383,x384,x385,x386,x387,x388,x389,x390,x391)
def F.sv(N:Nat):Nat->Am8->(Ass->Option R)->Option R:=lp (F.dx N)
def F.dy(N:Nat):Am9->(Am9->Option R)->((Int×Oc)->Option R)->Option R
 | ((x348,x349),(x350,x351,x352,x353,x354),x355,x356,x357,x358,x359,x360,x361,x362,x363,x364,x365,x366,x367),next,ke14=>
 bif decide (x349<x348) then
  chk (inB x349 (z9 x359))<|
  F.sv N N ((x349,zB x359 (zA x349) (0:Int),x348,x349,(z9 x358:Int),0),(x350,x351,x352,x353,x354),x355,x356,x357,x358,x359,x360,x361,x362,x363,x364,x365,x366,x367) λ((y392,y393,y394),(y395,y396,y397,y398,y399),y400,y401,y402,y403,y404,y405,y406,y407,y408,y409,y410,y411,y412)=>
  chk (inB y392 (z9 y398))<|
  chk (zC (z9 y411+z9 [zB y398 (zA y392) (0:Int)]) (Ap 8))<|
  chk (inB y392 (z9 y399))<|
  chk (zC (z9 y412+z9 [zB y399 (zA y392) (0:Int)]) (Ap 8))<|
  next ((y393,Aa .i64 (y394+1)),(y395,y396,y397,y398,y399),y400,y401,y402,y403,y404,y405,y406,y407,y408,y409,y410,y411++[zB y398 (zA y392) (0:Int)],y412++[zB y399 (zA y392) (0:Int)])
 else
  ke14 (x355,x357,x360,x361,x362,x363,x364,x365,x366,x367)
def F.sw(N:Nat):Nat->Am9->((Int×Oc)->Option R)->Option R:=lp (F.dy N)
def F.qv(N:Nat):Br->(W3->Option R)->Option R
 | (x1,x2,x3,x4,x5),k=>
 F.mz N (x1,x2,x3,x4,x5) λ r6=>
 bif !r6 then
  k (0,([]:List Int),([]:List Int),([]:List Int),([]:List Int))
 else
  F.qj N (x1,x2,x3,x4,x5) λ r7=>
  F.rk N ((x1,x2,x3,x4,x5),r7) λ r8=>
  chk (decide (0<=(z9 x4:Int)))<|
  chk (zC (zA (z9 x4:Int)) (Ap 8))<|
  F.uf N N (((z9 r7:Int),0),(x1,x2,x3,x4,x5),0,r7,r8,zD (zA (z9 x4:Int)) (0:Int),([]:List Int),([]:List Int),([]:List Int),([]:List Int)) λ((y59,y60,y61,y62,y63),y64,y65,y66,y67,y68,y69)=>
  chk (inB 0 (z9 y65))<|
  F.uh N N (0,(y59,y60,y61,y62,y63),y64,y65,[zB y65 (zA 0) (0:Int)],([]:List (List Int)),y66,y67,y68,y69) λ((y137,y138,y139,y140,y141),y142,y143,y144,y145,y146,y147,y148)=>
  F.ui N N (0,(y137,y138,y139,y140,y141),y142,y143,y144,0,([]:List Int),y145,y146,y147,y148,([]:List Int),([]:List Int),([]:List Int),([]:List Int)) λ((y330,y331,y332,y333,y334),y335,y336,y337,y338,y339,y340,y341,y342,y343,y344,y345,y346,y347)=>
  F.sw N N (((z9 y336:Int),0),(y330,y331,y332,y333,y334),y335,y337,(z9 y339:Int),y339,y336,y340,y341,y342,y343,y344,y345,y346,y347) λ(y413,y414,y415,y416,y417,y418,y419,y420,y421,y422)=>
  k (y414,y419,y420,y421,y422)
def F.ke(N:Nat):Ana->(Ana->Option R)->(Asv->Option R)->Option R
 | ((x46,x47,x48,x49,x50,x51),x52,x53,x54,x55,x56,x57,x58,x59,x60,x61,x62,x63,x64,x65,x66),next,ke4=>
 bif decide (x49<(z9 x55:Int)) then
  chk (inB x49 (z9 x55))<|
  F.ry N (zB x55 (zA x49) ([]:List Bool),x56) λ r67=>
  bif r67 then ke4 ((x46,x47,x49,x50,x51),x52,x53,x54,x55,x56,x57,x58,x59,x60,x61,x62,x63,x64,x65,x66) else next ((x46,x47,x48,Aa .i64 (x49+1),x50,x51),x52,x53,x54,x55,x56,x57,x58,x59,x60,x61,x62,x63,x64,x65,x66)
 else
  ke4 ((x46,x47,x48,x50,x51),x52,x53,x54,x55,x56,x57,x58,x59,x60,x61,x62,x63,x64,x65,x66)
def F.ve(N:Nat):Nat->Ana->(Asv->Option R)->Option R:=lp (F.ke N)
def F.kf(N:Nat):Anb->(Anb->Option R)->(Ab5->Option R)->Option R
 | ((x27,x28,x29,x30),x31,x32,x33,x34,x35,x36,x37,x38,x39,x40,x41,x42,x43,x44),next,ke2=>
 bif decide (x30<x29) then
  chk (inB x30 (z9 x32))<|
  chk (inB x28 (z9 x34))<|
  F.rj N ((x39,x40),x28==0,zB x34 (zA x28) ([]:List Bool),Aa .u8 (zB x32 (zA x30) (0:Int))) λ r45=>
  F.ve N N ((x27,x28,(-1),1,x29,x30),x31,x32,x33,x34,r45,x35,x36,x37,x38,x39,x40,x41,x42,x43,x44) λ((y68,y69,y70,y71,y72),y73,y74,y75,y76,y77,y78,y79,y80,y81,y82,y83,y84,y85,y86,y87)=>
  bif decide (y70<0) then
   chk (zC (z9 y76+z9 [y77]) (Ap 24))<|
   chk (zC (z9 y85+z9 [(z9 y76:Int)]) (Ap 8))<|
   next ((y68,y69,y71,Aa .i64 (y72+1)),y73,y74,y75,y76++[y77],y78,y79,y80,y81,y82,y83,y84,y85++[(z9 y76:Int)],y86,y87)
  else
   chk (zC (z9 y85+z9 [y70]) (Ap 8))<|
   next ((y68,y69,y71,Aa .i64 (y72+1)),y73,y74,y75,y76,y78,y79,y80,y81,y82,y83,y84,y85++[y70],y86,y87)
 else
  ke2 ((x27,x28),x31,x32,x33,x34,x35,x36,x37,x38,x39,x40,x41,x42,x43,x44)
def F.vf(N:Nat):Nat->Anb->(Ab5->Option R)->Option R:=lp (F.kf N)
def F.kg(N:Nat):Ab5->(Ab5->Option R)->(((Int×Oc)->Option R)×((Int×Int×Oc)->Option R))->Option R
 | ((x9,x10),x11,x12,x13,x14,x15,x16,x17,x18,x19,x20,x21,x22,x23,x24),next,(ke0,kret)=>
 bif decide (x10<(z9 x14:Int)) then
  chk (inB x10 (z9 x14))<|
  F.pd N ((x19,x20),x10==0,zB x14 (zA x10) ([]:List Bool),false) λ r25=>
  chk (zC (z9 x23+z9 [r25]) (Ap 8))<|
  chk (inB x10 (z9 x14))<|
  F.pd N ((x19,x20),x10==0,zB x14 (zA x10) ([]:List Bool),true) λ r26=>
  chk (zC (z9 x24+z9 [r26]) (Ap 8))<|
  F.vf N N ((x9,x10,(z9 x12:Int),0),x11,x12,x13,x14,x15,x16,x17,x18,x19,x20,x21,x22,x23++[r25],x24++[r26]) λ((y107,y108),y109,y110,y111,y112,y113,y114,y115,y116,y117,y118,y119,y120,y121,y122)=>
  bif decide ((z9 y112:Int)>y107) then kret (3,0,y111,([]:List Int),([]:List Int),([]:List Int),([]:List Int),y119,y120,y121,y122) else next ((y107,Aa .i64 (y108+1)),y109,y110,y111,y112,y113,y114,y115,y116,y117,y118,y119,y120,y121,y122)
 else
  ke0 (x11,x13,x15,x16,x17,x18,x21,x22,x23,x24)
def F.yy(N:Nat):Nat->Ab5->(((Int×Oc)->Option R)×((Int×Int×Oc)->Option R))->Option R:=lp (F.kg N)
def F.rn(N:Nat):((List ty5)×Int)->(((Int×Int)×(List Int)×Ht)->Option R)->Option R
 | (x1,x2),k=>
 F.af (x2,1,4000) λ r3=>
 bif !r3 then
  k ((0,1),([]:List Int),([]:List Int),([]:List Int),([]:List Int))
 else
  F.qt N x1 λ r4=>
  bif !r4 then
   k ((0,2),([]:List Int),([]:List Int),([]:List Int),([]:List Int))
  else
   F.rh N x1 λ(r5,r6)=>
   F.ri N (r5,r6) λ(r7,r8)=>
   chk (decide (0<=(z9 r5:Int)))<|
   chk (zC (zA (z9 r5:Int)) (Ap 1))<|
   F.yy N N ((x2,0),0,r8,(z9 r8:Int),[zD (zA (z9 r5:Int)) false],([]:List Int),([]:List Int),([]:List Int),([]:List Int),r5,r6,r7,([]:List Int),([]:List Int),([]:List Int)) (λ(y123,y124,y125,y126,y127,y128,y129,y130,y131,y132)=>
    F.qv N (y129,y124,y130,y131,y132) λ(r133,r134,r135,r136,r137)=>
    k ((r133,0),r134,r135,r136,r137),
    λ(y138,y139,y140,y141,y142,y143,y144,y145,y146,y147,y148)=>
    k ((y139,y138),y141,y142,y143,y144))
def F.iu(N:Nat):R3->(R3->Option R)->(Asx->Option R)->Option R
 | ((x13,x14,x15),(x16,x17,x18),(x19,x20,x21,x22,x23),x24,x25,x26,x27,x28,x29,x30,x31,x32,x33),next,ke0=>
 bif decide (x15<256) then
  chk (inB x15 (z9 x19))<|
  chk (!(2==0))<|
  chk (zC (z9 x30+z9 [Aa .i64 ((Aa .i64 ((zB x19 (zA x15) (0:Int))*2))+(zH x15 2))]) (Ap 8))<|
  next ((x13,x14,Aa .i64 (x15+1)),(x16,x17,x18),(x19,x20,x21,x22,x23),x24,x25,x26,x27,x28,x29,x30++[Aa .i64 ((Aa .i64 ((zB x19 (zA x15) (0:Int))*2))+(zH x15 2))],x31,x32,x33)
 else
  ke0 ((x13,x14),(x16,x17,x18),(x19,x20,x21,x22,x23),x24,x25,x26,x27,x28,x29,x30,x31,x32,x33)
def F.uj(N:Nat):Nat->R3->(Asx->Option R)->Option R:=lp (F.iu N)
def F.iw(N:Nat):Anc->(Anc->Option R)->(Ab6->Option R)->Option R
 | ((x97,x98,x99,x100,x101),(x102,x103,x104),(x105,x106,x107,x108,x109),x110,x111,x112,x113,x114,x115,x116,x117,x118,x119),next,ke6=>
 bif decide (x101<x106) then
  chk (inB (Aa .i64 ((Aa .i64 (x100*x106))+x101)) (z9 x107))<|
  F.aa (x98,x102,x103,x104) λ(r120,r121,r122,r123)=>
  F.aa (x98,r121,r122,r123) λ(r124,r125,r126,r127)=>
  chk (zC (z9 x117+z9 [Aa .i64 ((zB x107 (zA (Aa .i64 ((Aa .i64 (x100*x106))+x101))) (0:Int))+(Aa .i64 (r120*x97)))]) (Ap 8))<|
  chk (zC (z9 (x117++[Aa .i64 ((zB x107 (zA (Aa .i64 ((Aa .i64 (x100*x106))+x101))) (0:Int))+(Aa .i64 (r120*x97)))])+z9 [Aa .i64 ((zB x107 (zA (Aa .i64 ((Aa .i64 (x100*x106))+x101))) (0:Int))+(Aa .i64 (r124*x97)))]) (Ap 8))<|
  next ((x97,x98,x99,x100,Aa .i64 (x101+1)),(r125,r126,r127),(x105,x106,x107,x108,x109),x110,x111,x112,x113,x114,x115,x116,(x117++[Aa .i64 ((zB x107 (zA (Aa .i64 ((Aa .i64 (x100*x106))+x101))) (0:Int))+(Aa .i64 (r120*x97)))])++[Aa .i64 ((zB x107 (zA (Aa .i64 ((Aa .i64 (x100*x106))+x101))) (0:Int))+(Aa .i64 (r124*x97)))],x118,x119)
 else
  ke6 ((x97,x98,x99,x100),(x102,x103,x104),(x105,x106,x107,x108,x109),x110,x111,x112,x113,x114,x115,x116,x117,x118,x119)
def F.um(N:Nat):Nat->Anc->(Ab6->Option R)->Option R:=lp (F.iw N)
def F.ix(N:Nat):Ab6->(Ab6->Option R)->(R3->Option R)->Option R
 | ((x75,x76,x77,x78),(x79,x80,x81),(x82,x83,x84,x85,x86),x87,x88,x89,x90,x91,x92,x93,x94,x95,x96),next,ke4=>
 bif decide (x78<x75) then
  F.um N N ((x75,x76,x77,x78,0),(x79,x80,x81),(x82,x83,x84,x85,x86),x87,x88,x89,x90,x91,x92,x93,x94,x95,x96) λ((y128,y129,y130,y131),(y132,y133,y134),(y135,y136,y137,y138,y139),y140,y141,y142,y143,y144,y145,y146,y147,y148,y149)=>
  chk (inB y131 (z9 y138))<|
  chk (zC (z9 y148+z9 [zB y138 (zA y131) (0:Int)]) (Ap 8))<|
  chk (inB y131 (z9 y139))<|
  chk (zC (z9 y149+z9 [zB y139 (zA y131) (0:Int)]) (Ap 8))<|
  next ((y128,y129,y130,Aa .i64 (y131+1)),(y132,y133,y134),(y135,y136,y137,y138,y139),y140,y141,y142,y143,y144,y145,y146,y147,y148++[zB y138 (zA y131) (0:Int)],y149++[zB y139 (zA y131) (0:Int)])
 else
  ke4 ((x75,x76,x77),(x79,x80,x81),(x82,x83,x84,x85,x86),x87,x88,x89,x90,x91,x92,x93,x94,x95,x96)
def F.uo(N:Nat):Nat->Ab6->(R3->Option R)->Option R:=lp (F.ix N)
def F.iy(N:Nat):R3->(R3->Option R)->(Aec->Option R)->Option R
 | ((x54,x55,x56),(x57,x58,x59),(x60,x61,x62,x63,x64),x65,x66,x67,x68,x69,x70,x71,x72,x73,x74),next,ke2=>
 bif decide (x56<x55) then
  F.uo N N ((x54,x55,x56,0),(x57,x58,x59),(x60,x61,x62,x63,x64),x65,x66,x67,x68,x69,x70,x71,x72,x73,x74) λ((y150,y151,y152),(y153,y154,y155),(y156,y157,y158,y159,y160),y161,y162,y163,y164,y165,y166,y167,y168,y169,y170)=>
  next ((y150,y151,Aa .i64 (y152+1)),(y153,y154,y155),(y156,y157,y158,y159,y160),y161,y162,y163,y164,y165,y166,y167,y168,y169,y170)
 else
  ke2 ((x57,x58,x59),x65,x66,x67,x68,x69,x70,x71,x72,x73,x74)
def F.yi(N:Nat):Nat->R3->(Aec->Option R)->Option R:=lp (F.iy N)
def F.pf(N:Nat):(Br×(List Int)×Int×Int)->(Aed->Option R)->Option R
 | ((x1,x2,x3,x4,x5),x6,x7,x8),k=>
 F.aa (2,x6,x7,x8) λ(r9,r10,r11,r12)=>
 F.uj N N (((z9 x4:Int),Aa .i64 (2+r9),0),(r10,r11,r12),(x1,x2,x3,x4,x5),0,Aa .i64 (x2*2),([]:List Int),([]:List Int),([]:List Int),([]:List Int),([]:List Int),([]:List Int),([]:List Int),([]:List Int)) λ((y34,y35),(y36,y37,y38),(y39,y40,y41,y42,y43),y44,y45,y46,y47,y48,y49,y50,y51,y52,y53)=>
 F.yi N N ((y34,y35,0),(y36,y37,y38),(y39,y40,y41,y42,y43),y44,y45,y46,y47,y48,y49,y50,y51,y52,y53) λ((y171,y172,y173),y174,y175,y176,y177,y178,y179,y180,y181,y182,y183)=>
 k (y175,(y171,y172,y173),y180,y181,y182,y183)
def F.bn(N:Nat):(Aed->Option R)->Ah1->Option R
 | k,(w95,(w96,w97,w98),w99,w100,w101,w102,w103,w104,w105,w106,w107,w108)=>
 bif decide (w95>=3) then
  k (w100,(w96,w97,w98),w105,w106,w107,w108)
 else
  bif w95==2 then
   F.df N (w96,w97,w98) λ(r109,(r110,r111,r112),r113,r114,r115,r116)=>
   F.pf N ((r113,r109,r114,r115,r116),r110,r111,r112) λ(r117,(r118,r119,r120),r121,r122,r123,r124)=>
   k (r117,(r118,r119,r120),r121,r122,r123,r124)
  else
   F.pf N ((w105,w100,w106,w107,w108),w96,w97,w98) λ(r125,(r126,r127,r128),r129,r130,r131,r132)=>
   k (r125,(r126,r127,r128),r129,r130,r131,r132)
def F.oh(N:Nat):F4->(Aed->Option R)->Option R
 | (x1,x2,x3),k=>
 F.aa (6,x1,x2,x3) λ(r4,r5,r6,r7)=>
 bif r4==5 then
  F.df N (r5,r6,r7) λ(r8,(r9,r10,r11),r12,r13,r14,r15)=>
  k (r8,(r9,r10,r11),r12,r13,r14,r15)
 else
  F.ov N ((3,7),r5,r6,r7) λ(r16,r17,r18,r19)=>
  F.rn N (r16,90) λ((r20,r21),r22,r23,r24,r25)=>
  bif r21 !=0 then
   F.df N (r17,r18,r19) λ(r87,(r88,r89,r90),r91,r92,r93,r94)=>
   jn (F.bn N k) (r4,(r88,r89,r90),0,r87,([]:List Int),([]:List Int),([]:List Int),([]:List Int),r91,r92,r93,r94)
  else
   bif decide (r20>100) then
    F.df N (r17,r18,r19) λ(r133,(r134,r135,r136),r137,r138,r139,r140)=>
    jn (F.bn N k) (r4,(r134,r135,r136),0,r133,([]:List Int),([]:List Int),([]:List Int),([]:List Int),r137,r138,r139,r140)
   else
    jn (F.bn N k) (r4,(r17,r18,r19),0,r20,([]:List Int),([]:List Int),([]:List Int),([]:List Int),r22,r23,r24,r25)
def F.cf:(List Int)->((List Int)->Option R)->Option R
 | x1,k=>
 chk (zC (z9 ([]:List Int)+z9 x1) (Ap 8))<|
 k (([]:List Int)++x1)
def F.pw:Aed->((Int×(F4×(List Int)×Ht)×(List Int)×Ht)->Option R)->Option R
 | (x1,(x2,x3,x4),x5,x6,x7,x8),k=>
 F.cf x5 λ r9=>
 F.cf x6 λ r10=>
 F.cf x7 λ r11=>
 F.cf x8 λ r12=>
 F.aa (9,x2,x3,x4) λ(r13,r14,r15,r16)=>
 bif r13==0 then
  F.aa (256,r14,r15,r16) λ(r17,r18,r19,r20)=>
  F.aa (2,r18,r19,r20) λ(r21,r22,r23,r24)=>
  chk (inB r17 (z9 r9))<|
  k (x1,((r22,r23,r24),x5,x6,x7,x8),zE r9 (zA r17) (Aa .i64 (x1-r21)),r10,r11,r12)
 else
  bif r13==1 then
   chk (decide (0<=255)&&decide (255<=(z9 r9:Int)))<|
   k (x1,((r14,r15,r16),x5,x6,x7,x8),zF ((zA 255)-0) (zG 0 r9),r10,r11,r12)
  else
   bif r13==2 then
    F.aa (3,r14,r15,r16) λ(r25,r26,r27,r28)=>
    k (Aa .i64 (x1+(Aa .i64 (r25-1))),((r26,r27,r28),x5,x6,x7,x8),r9,r10,r11,r12)
   else
    bif r13==3 then
     F.aa ((z9 r10:Int),r14,r15,r16) λ(r29,r30,r31,r32)=>
     F.aa (2,r30,r31,r32) λ(r33,r34,r35,r36)=>
     chk (inB r29 (z9 r10))<|
     k (x1,((r34,r35,r36),x5,x6,x7,x8),r9,zE r10 (zA r29) (Aa .i64 ((z9 r11:Int)-r33)),r11,r12)
    else
     bif r13==4 then
      F.aa ((z9 r11:Int),r14,r15,r16) λ(r37,r38,r39,r40)=>
      F.aa (2,r38,r39,r40) λ(r41,r42,r43,r44)=>
      chk (inB r37 (z9 r11))<|
      k (x1,((r42,r43,r44),x5,x6,x7,x8),r9,r10,zE r11 (zA r37) (Aa .i64 (100-r41)),r12)
     else
      bif r13==5 then
       F.aa ((z9 r11:Int),r14,r15,r16) λ(r45,r46,r47,r48)=>
       F.aa (2,r46,r47,r48) λ(r49,r50,r51,r52)=>
       chk (inB r45 (z9 r12))<|
       k (x1,((r50,r51,r52),x5,x6,x7,x8),r9,r10,r11,zE r12 (zA r45) (Aa .i64 ((-1)-r49)))
      else
       bif r13==6 then
        chk (zC (z9 r12+z9 [(-1)]) (Ap 8))<|
        k (x1,((r14,r15,r16),x5,x6,x7,x8),r9,r10,r11,r12++[(-1)])
       else
        bif r13==7 then
         chk (decide (0<=(Aa .i64 ((z9 r10:Int)-1)))&&decide ((Aa .i64 ((z9 r10:Int)-1))<=(z9 r10:Int)))<|
         k (x1,((r14,r15,r16),x5,x6,x7,x8),r9,zF ((zA (Aa .i64 ((z9 r10:Int)-1)))-0) (zG 0 r10),r11,r12)
        else
         bif r13==8 then
          F.aa ((z9 r10:Int),r14,r15,r16) λ(r53,r54,r55,r56)=>
          chk (inB r53 (z9 r10))<|
          k (x1,((r54,r55,r56),x5,x6,x7,x8),r9,zE r10 (zA r53) (-1),r11,r12)
         else
          k (x1,((r14,r15,r16),x5,x6,x7,x8),r9,r10,r11,r12)
def F.iz(N:Nat):Ah1->(Ah1->Option R)->(Aec->Option R)->Option R
 | (x8,(x9,x10,x11),x12,x13,x14,x15,x16,x17,x18,x19,x20,x21),next,ke0=>
 bif decide (x8<5) then
  F.aa (3,x9,x10,x11) λ(r22,r23,r24,r25)=>
  chk (!(6==0))<|
  chk (inB x8 (z9 x19))<|
  next (Aa .i64 (x8+1),(r23,r24,r25),x12,x13,x14,x15,x16,x17,x18,zE x19 (zA x8) (zH (Aa .i64 ((Aa .i64 (x8+1))+r22)) 6),x20,x21)
 else
  ke0 ((x9,x10,x11),x12,x13,x14,x15,x16,x17,x18,x19,x20,x21)
def F.yj(N:Nat):Nat->Ah1->(Aec->Option R)->Option R:=lp (F.iz N)
def F.qw(N:Nat):F4->(Aed->Option R)->Option R
 | (x1,x2,x3),k=>
 F.aa (2,x1,x2,x3) λ(r4,r5,r6,r7)=>
 chk (decide (0<=256))<|
 chk (zC (zA 256) (Ap 8))<|
 chk (decide (0<=(Aa .i64 (4000+r4))))<|
 chk (zC (zA (Aa .i64 (4000+r4))) (Ap 8))<|
 chk (decide (0<=(Aa .i64 (4000+r4))))<|
 chk (zC (zA (Aa .i64 (4000+r4))) (Ap 8))<|
 chk (decide (0<=(Aa .i64 (4000+r4))))<|
 chk (zC (zA (Aa .i64 (4000+r4))) (Ap 8))<|
 F.yj N N (0,(r5,r6,r7),0,1,([]:List Int),([]:List Int),([]:List Int),([]:List Int),zD (zA 256) (0:Int),zD (zA (Aa .i64 (4000+r4))) (0:Int),zD (zA (Aa .i64 (4000+r4))) (0:Int),zD (zA (Aa .i64 (4000+r4))) (0:Int)) λ((y26,y27,y28),y29,y30,y31,y32,y33,y34,y35,y36,y37,y38)=>
 F.aa (6,y26,y27,y28) λ(r39,r40,r41,r42)=>
 chk (inB r39 (z9 y37))<|
 k (y30,(r40,r41,r42),y35,y36,zE y37 (zA r39) (-1),y38)
def F.nr(N:Nat):F4->(Aed->Option R)->Option R
 | (x1,x2,x3),k=>
 F.pi (x1,x2,x3) λ(r4,r5,r6,r7)=>
 bif r4==1 then
  F.oh N (r5,r6,r7) λ(r8,(r9,r10,r11),r12,r13,r14,r15)=>
  F.pw (r8,(r9,r10,r11),r12,r13,r14,r15) λ(r16,((r17,r18,r19),r20,r21,r22,r23),r24,r25,r26,r27)=>
  k (r16,(r17,r18,r19),r24,r25,r26,r27)
 else
  bif r4==2 then
   F.qw N (r5,r6,r7) λ(r28,(r29,r30,r31),r32,r33,r34,r35)=>
   k (r28,(r29,r30,r31),r32,r33,r34,r35)
  else
   F.oh N (r5,r6,r7) λ(r36,(r37,r38,r39),r40,r41,r42,r43)=>
   k (r36,(r37,r38,r39),r40,r41,r42,r43)
def F.cz(N:Nat):(List Int)->(W3->Option R)->Option R
 | x1,k=>
 F.nr N (x1,0,0) λ(r2,(r3,r4,r5),r6,r7,r8,r9)=>
 k (r2,r6,r7,r8,r9)
def F.rt(x1:Int)(x2:Int)(x3:Int)(k:Bool->Option R):Option R:=
 bif decide (x1<x2) then k true else k (decide (x1>x3))
def F.jg(N:Nat)(x4:(List Int))(x5:Int)(x6:Int)(x7:Int)(x8:Int)(next:(List Int)->Int->Int->Int->Int->Option R)(ke0:Int->Int->Option R)(kret:Int->Int->Int->Option R):Option R:=
 bif decide (x6<x5) then
  chk (inB x6 (z9 x4))<|
  F.rt (zB x4 (zA x6) (0:Int)) x7 x8 λ r9=>
  bif r9 then kret x6 x7 x8 else next x4 x5 (Aa .i64 (x6+1)) x7 x8
 else
  ke0 x7 x8
def F.bd(N:Nat):Nat->(List Int)->Int->Int->Int->Int->(Int->Int->Option R)->(Int->Int->Int->Option R)->Option R
 | 0,_,_,_,_,_,_,_=>none
 | n+1,x4,x5,x6,x7,x8,ke0,kret=>F.jg N x4 x5 x6 x7 x8 (λ x4 x5 x6 x7 x8=>F.bd N n x4 x5 x6 x7 x8 ke0 kret) ke0 kret
def F.qz(N:Nat)(x1:(List Int))(x2:Int)(x3:Int)(k:Int->Int->Int->Option R):Option R:=
 F.bd N N x1 (z9 x1:Int) 0 x2 x3
   (λ y10 y11=>
   k (-1) y10 y11)
   (λ y12 y13 y14=>
   k y12 y13 y14)
def F.pg(N:Nat)(x1:(List Int))(x2:Int)(x3:Int)(k:Bool->Int->Int->Option R):Option R:=
 F.qz N x1 x2 x3 λ r4 r5 r6=>
 k (decide (r4>=0)) r5 r6
def F.li(N:Nat)(x1:(List Int))(x2:Int)(x3:Int)(k:Bool->Option R):Option R:=
 F.pg N x1 x2 x3 λ r4 r5 r6=>
 k (!r4)
def F.rp(N:Nat)(x1:(List Int))(x2:Int)(x3:(List Int))(x4:(List Int))(x5:(List Int))(k:Bool->Option R):Option R:=
 bif(z9 x1:Int) !=256 then
  k false
 else
  bif decide (x2<1) then
   k false
  else
   bif decide (x2>256) then
    k false
   else
    bif decide ((z9 x4:Int)<1) then
     k false
    else
     bif decide ((z9 x4:Int)>4000) then
      k false
     else
      bif(z9 x5:Int) !=(z9 x4:Int) then
       k false
      else
       bif(z9 x3:Int) !=(Aa .i64 ((z9 x4:Int)*x2)) then
        k false
       else
        F.li N x1 0 (Aa .i64 (x2-1)) λ r6=>
        bif r6 then
         F.li N x3 0 (Aa .i64 ((z9 x4:Int)-1)) λ r7=>
         bif r7 then
          F.li N x4 (-1) 99 λ r8=>
          bif r8 then
           F.li N x5 (-1) 99 λ r9=>
           k r9
          else
           k false
         else
          k false
        else
         k false
def F.az:Unit->(Unit->Option R)->Option R
 | _,k=>
 k ()
def F.ly(x1:(List Int))(x2:Int)(x3:(List Int))(x4:(List Int))(x5:(List Int))(x6:Int)(x7:Int)(k:Int->Option R):Option R:=
 chk (inB x7 (z9 x1))<|
 chk (inB (Aa .i64 ((Aa .i64 (x6*x2))+(zB x1 (zA x7) (0:Int)))) (z9 x3))<|
 k (zB x3 (zA (Aa .i64 ((Aa .i64 (x6*x2))+(zB x1 (zA x7) (0:Int))))) (0:Int))
def F.oi(C N:Nat)(j:Nat)(x14:(List Int))(x15:Int)(x16:(List Int))(x17:(List Int))(x18:(List Int))(x19:Int)(x20:(List Bool))(x21:(List Int))(next:(List Int)->Int->(List Int)->(List Int)->(List Int)->Int->(List Bool)->(List Int)->Option R):Option R:=
 chk (inB x19 (z9 x21))<|
 F.ly x14 x15 x16 x17 x18 (zB x21 (zA x19) (0:Int)) (j:Int) λ r22=>
 chk (inB r22 (z9 x20))<|
 bif !(zB x20 (zA r22) false) then
  chk (inB r22 (z9 x20))<|
  chk (zC (z9 x21+z9 [r22]) (Ap 8))<|
  next x14 x15 x16 x17 x18 x19 (zE x20 (zA r22) true) (x21++[r22])
 else
  next x14 x15 x16 x17 x18 x19 x20 x21
def F.be(C N:Nat):Nat->Nat->(List Int)->Int->(List Int)->(List Int)->(List Int)->Int->(List Bool)->(List Int)->((List Int)->Int->(List Int)->(List Int)->(List Int)->Int->(List Bool)->(List Int)->Option R)->Option R
 | 0,j,x14,x15,x16,x17,x18,x19,x20,x21,knormal=>knormal x14 x15 x16 x17 x18 x19 x20 x21
 | n+1,j,x14,x15,x16,x17,x18,x19,x20,x21,knormal=>F.oi C N j x14 x15 x16 x17 x18 x19 x20 x21 (λ x14 x15 x16 x17 x18 x19 x20 x21=>F.be C N n (j+1) x14 x15 x16 x17 x18 x19 x20 x21 knormal)
def F.oj(C N:Nat)(x6:(List Int))(x7:Int)(x8:(List Int))(x9:(List Int))(x10:(List Int))(x11:Int)(x12:(List Bool))(x13:(List Int))(next:(List Int)->Int->(List Int)->(List Int)->(List Int)->Int->(List Bool)->(List Int)->Option R)(ke0:(List Int)->Option R):Option R:=
 bif decide (x11<(z9 x13:Int)) then
  F.az () λ _=>
  F.be C N C 0 x6 x7 x8 x9 x10 x11 x12 x13
    (λ y23 y24 y25 y26 y27 y28 y29 y30=>
    next y23 y24 y25 y26 y27 (Aa .i64 (y28+1)) y29 y30)
 else
  ke0 x13
def F.dz(C N:Nat):Nat->(List Int)->Int->(List Int)->(List Int)->(List Int)->Int->(List Bool)->(List Int)->((List Int)->Option R)->Option R
 | 0,_,_,_,_,_,_,_,_,_=>none
 | n+1,x6,x7,x8,x9,x10,x11,x12,x13,ke0=>F.oj C N x6 x7 x8 x9 x10 x11 x12 x13 (λ x6 x7 x8 x9 x10 x11 x12 x13=>F.dz C N n x6 x7 x8 x9 x10 x11 x12 x13 ke0) ke0
def F.pz(C N:Nat)(x1:(List Int))(x2:Int)(x3:(List Int))(x4:(List Int))(x5:(List Int))(k:(List Int)->Option R):Option R:=
 chk (decide (0<=(z9 x4:Int)))<|
 chk (zC (zA (z9 x4:Int)) (Ap 1))<|
 chk (inB 0 (z9 (zD (zA (z9 x4:Int)) false)))<|
 F.dz C N N x1 x2 x3 x4 x5 0 (zE (zD (zA (z9 x4:Int)) false) (zA 0) true) [0]
   (λ y31=>
   k y31)
def F.lj(N:Nat)(x1:(List Int))(x2:Int)(x3:(List Int))(x4:(List Int))(x5:(List Int))(k:(List Int)->Option R):Option R:=F.pz 256 N x1 x2 x3 x4 x5 k
def F.nt(x1:Int)(x2:(List Int))(x3:Int)(x4:(List Int))(x5:(List Int))(x6:(List Int))(k:(List Int)->Option R):Option R:=
 chk (inB x1 (z9 x5))<|
 chk (inB x1 (z9 x6))<|
 k (zE (zE (zD 2 (0:Int)) 0 (zB x5 (zA x1) (0:Int))) 1 (zB x6 (zA x1) (0:Int)))
def F.bg(N:Nat)(x9:(List Int))(x10:Int)(x11:Int)(x12:(List Int))(x13:Int)(x14:(List Int))(x15:(List Int))(x16:(List Int))(x17:Int)(x18:List ((List Int)×Int))(x19:(List Int))(x20:(List Int))(next:(List Int)->Int->Int->(List Int)->Int->(List Int)->(List Int)->(List Int)->Int->(List ((List Int)×Int))->(List Int)->(List Int)->Option R)(ke0:(List Int)->Int->(List Int)->(List Int)->(List Int)->Int->(List ((List Int)×Int))->(List Int)->(List Int)->Option R):Option R:=
 bif decide (x11<x10) then
  chk (inB x11 (z9 x9))<|
  F.nt (zB x9 (zA x11) (0:Int)) x12 x13 x14 x15 x16 λ r21=>
  bif !(Fy eqL r21 x18) then
   chk (inB (zB x9 (zA x11) (0:Int)) (z9 x19))<|
   next x9 x10 (Aa .i64 (x11+1)) x12 x13 x14 x15 x16 x17 (Jr eqL r21 (z9 x18:Int) x18) (zE x19 (zA (zB x9 (zA x11) (0:Int))) (mget eqL r21 (0:Int) (Jr eqL r21 (z9 x18:Int) x18))) x20
  else
   chk (inB (zB x9 (zA x11) (0:Int)) (z9 x19))<|
   next x9 x10 (Aa .i64 (x11+1)) x12 x13 x14 x15 x16 x17 x18 (zE x19 (zA (zB x9 (zA x11) (0:Int))) (mget eqL r21 (0:Int) x18)) x20
 else
  ke0 x12 x13 x14 x15 x16 x17 x18 x19 x20
def F.ba(N:Nat):Nat->(List Int)->Int->Int->(List Int)->Int->(List Int)->(List Int)->(List Int)->Int->(List ((List Int)×Int))->(List Int)->(List Int)->((List Int)->Int->(List Int)->(List Int)->(List Int)->Int->(List ((List Int)×Int))->(List Int)->(List Int)->Option R)->Option R
 | 0,_,_,_,_,_,_,_,_,_,_,_,_,_=>none
 | n+1,x9,x10,x11,x12,x13,x14,x15,x16,x17,x18,x19,x20,ke0=>F.bg N x9 x10 x11 x12 x13 x14 x15 x16 x17 x18 x19 x20 (λ x9 x10 x11 x12 x13 x14 x15 x16 x17 x18 x19 x20=>F.ba N n x9 x10 x11 x12 x13 x14 x15 x16 x17 x18 x19 x20 ke0) ke0
def F.nu(N:Nat)(x1:(List Int))(x2:(List Int))(x3:Int)(x4:(List Int))(x5:(List Int))(x6:(List Int))(x7:Int)(x8:(List Int))(k:(List Int)->Int->(List Int)->(List Int)->(List Int)->Int->(List Int)->Option R):Option R:=
 chk (decide (0<=(z9 x8:Int)))<|
 chk (zC (zA (z9 x8:Int)) (Ap 8))<|
 F.ba N N x1 (z9 x1:Int) 0 x2 x3 x4 x5 x6 x7 ([]:List ((List Int)×Int)) (zD (zA (z9 x8:Int)) (0:Int)) x8
   (λ y22 y23 y24 y25 y26 y27 y28 y29 y30=>
   k y22 y23 y24 y25 y26 (z9 y28:Int) y29)
def F.qn(N:Nat)(x3:(List Int))(x4:Int)(x5:Int)(x6:Int)(next:(List Int)->Int->Int->Int->Option R)(ke0:Unit->Option R)(kret:Int->Option R):Option R:=
 bif decide (x6<x5) then
  chk (inB x6 (z9 x3))<|
  bif x4==(zB x3 (zA x6) (0:Int)) then kret x6 else next x3 x4 x5 (Aa .i64 (x6+1))
 else
  ke0 ()
def F.na(N:Nat):Nat->(List Int)->Int->Int->Int->(Unit->Option R)->(Int->Option R)->Option R
 | 0,_,_,_,_,_,_=>none
 | n+1,x3,x4,x5,x6,ke0,kret=>F.qn N x3 x4 x5 x6 (λ x3 x4 x5 x6=>F.na N n x3 x4 x5 x6 ke0 kret) ke0 kret
def F.rq(N:Nat)(x1:(List Int))(x2:Int)(k:Int->Option R):Option R:=
 F.na N N x1 x2 (z9 x1:Int) 0
   (λ _=>
   k (-1))
   (λ y7=>
   k y7)
def F.nv(x1:Int)(x2:(List Int))(x3:(List Int))(x4:Int)(x5:(List Int))(x6:(List Int))(x7:(List Int))(x8:Int)(k:(List Int)->Option R):Option R:=
 chk (inB x1 (z9 x2))<|
 F.ly x3 x4 x5 x6 x7 x1 x8 λ r9=>
 chk (inB r9 (z9 x2))<|
 k (zE (zE (zD 2 (0:Int)) 0 (zB x2 (zA x1) (0:Int))) 1 (zB x2 (zA r9) (0:Int)))
def F.aq(N:Nat)(x10:(List Int))(x11:Int)(x12:Int)(x13:(List Int))(x14:Int)(x15:(List Int))(x16:(List Int))(x17:(List Int))(x18:Int)(x19:Int)(x20:List ((List Int)×Int))(x21:(List Int))(x22:(List Int))(next:(List Int)->Int->Int->(List Int)->Int->(List Int)->(List Int)->(List Int)->Int->Int->(List ((List Int)×Int))->(List Int)->(List Int)->Option R)(ke0:(List Int)->Int->(List Int)->(List Int)->(List Int)->Int->Int->(List ((List Int)×Int))->(List Int)->(List Int)->Option R):Option R:=
 bif decide (x12<x11) then
  chk (inB x12 (z9 x10))<|
  F.nv (zB x10 (zA x12) (0:Int)) x22 x13 x14 x15 x16 x17 x18 λ r23=>
  bif !(Fy eqL r23 x20) then
   chk (inB (zB x10 (zA x12) (0:Int)) (z9 x21))<|
   next x10 x11 (Aa .i64 (x12+1)) x13 x14 x15 x16 x17 x18 x19 (Jr eqL r23 (z9 x20:Int) x20) (zE x21 (zA (zB x10 (zA x12) (0:Int))) (mget eqL r23 (0:Int) (Jr eqL r23 (z9 x20:Int) x20))) x22
  else
   chk (inB (zB x10 (zA x12) (0:Int)) (z9 x21))<|
   next x10 x11 (Aa .i64 (x12+1)) x13 x14 x15 x16 x17 x18 x19 x20 (zE x21 (zA (zB x10 (zA x12) (0:Int))) (mget eqL r23 (0:Int) x20)) x22
 else
  ke0 x13 x14 x15 x16 x17 x18 x19 x20 x21 x22
def F.ap(N:Nat):Nat->(List Int)->Int->Int->(List Int)->Int->(List Int)->(List Int)->(List Int)->Int->Int->(List ((List Int)×Int))->(List Int)->(List Int)->((List Int)->Int->(List Int)->(List Int)->(List Int)->Int->Int->(List ((List Int)×Int))->(List Int)->(List Int)->Option R)->Option R
 | 0,_,_,_,_,_,_,_,_,_,_,_,_,_,_=>none
 | n+1,x10,x11,x12,x13,x14,x15,x16,x17,x18,x19,x20,x21,x22,ke0=>F.aq N x10 x11 x12 x13 x14 x15 x16 x17 x18 x19 x20 x21 x22 (λ x10 x11 x12 x13 x14 x15 x16 x17 x18 x19 x20 x21 x22=>F.ap N n x10 x11 x12 x13 x14 x15 x16 x17 x18 x19 x20 x21 x22 ke0) ke0
def F.km(N:Nat)(x1:(List Int))(x2:(List Int))(x3:Int)(x4:(List Int))(x5:(List Int))(x6:(List Int))(x7:Int)(x8:Int)(x9:(List Int))(k:(List Int)->Int->(List Int)->(List Int)->(List Int)->Int->Int->(List Int)->Option R):Option R:=
 chk (decide (0<=(z9 x9:Int)))<|
 chk (zC (zA (z9 x9:Int)) (Ap 8))<|
 F.ap N N x1 (z9 x1:Int) 0 x2 x3 x4 x5 x6 x7 x8 ([]:List ((List Int)×Int)) (zD (zA (z9 x9:Int)) (0:Int)) x9
   (λ y24 y25 y26 y27 y28 y29 y30 y31 y32 y33=>
   k y24 y25 y26 y27 y28 y29 (z9 y31:Int) y32)
def F.oy(C N:Nat)(j:Nat)(x23:Int)(x24:(List Int))(x25:Int)(x26:(List Int))(x27:(List Int))(x28:(List Int))(x29:Int)(x30:(List Int))(x31:(List Int))(next:Int->(List Int)->Int->(List Int)->(List Int)->(List Int)->Int->(List Int)->(List Int)->Option R):Option R:=
 chk (inB (j:Int) (z9 x24))<|
 F.rq N x24 (zB x24 (zA (j:Int)) (0:Int)) λ r32=>
 bif r32==(j:Int) then
  F.km N x31 x24 x25 x26 x27 x28 (j:Int) x29 x30 λ r33 r34 r35 r36 r37 r38 r39 r40=>
  next x23 r33 r34 r35 r36 r37 r39 r40 x31
 else
  next x23 x24 x25 x26 x27 x28 x29 x30 x31
def F.al(C N:Nat):Nat->Nat->Int->(List Int)->Int->(List Int)->(List Int)->(List Int)->Int->(List Int)->(List Int)->(Int->(List Int)->Int->(List Int)->(List Int)->(List Int)->Int->(List Int)->(List Int)->Option R)->Option R
 | 0,j,x23,x24,x25,x26,x27,x28,x29,x30,x31,knormal=>knormal x23 x24 x25 x26 x27 x28 x29 x30 x31
 | n+1,j,x23,x24,x25,x26,x27,x28,x29,x30,x31,knormal=>F.oy C N j x23 x24 x25 x26 x27 x28 x29 x30 x31 (λ x23 x24 x25 x26 x27 x28 x29 x30 x31=>F.al C N n (j+1) x23 x24 x25 x26 x27 x28 x29 x30 x31 knormal)
def F.kq(C N:Nat)(x14:Int)(x15:(List Int))(x16:Int)(x17:(List Int))(x18:(List Int))(x19:(List Int))(x20:Int)(x21:(List Int))(x22:(List Int))(next:Int->(List Int)->Int->(List Int)->(List Int)->(List Int)->Int->(List Int)->(List Int)->Option R)(ke0:(List Int)->Option R):Option R:=
 bif x14 !=x20 then
  F.az () λ _=>
  F.al C N C 0 x20 x15 x16 x17 x18 x19 x20 x21 x22
    (λ y41 y42 y43 y44 y45 y46 y47 y48 y49=>
    next y41 y42 y43 y44 y45 y46 y47 y48 y49)
 else
  ke0 x21
def F.bo(C N:Nat):Nat->Int->(List Int)->Int->(List Int)->(List Int)->(List Int)->Int->(List Int)->(List Int)->((List Int)->Option R)->Option R
 | 0,_,_,_,_,_,_,_,_,_,_=>none
 | n+1,x14,x15,x16,x17,x18,x19,x20,x21,x22,ke0=>F.kq C N x14 x15 x16 x17 x18 x19 x20 x21 x22 (λ x14 x15 x16 x17 x18 x19 x20 x21 x22=>F.bo C N n x14 x15 x16 x17 x18 x19 x20 x21 x22 ke0) ke0
def F.qo(C N:Nat)(x1:(List Int))(x2:Int)(x3:(List Int))(x4:(List Int))(x5:(List Int))(x6:(List Int))(k:(List Int)->Option R):Option R:=
 chk (decide (0<=(z9 x4:Int)))<|
 chk (zC (zA (z9 x4:Int)) (Ap 8))<|
 F.nu N x6 x1 x2 x3 x4 x5 0 (zD (zA (z9 x4:Int)) (0:Int)) λ r7 r8 r9 r10 r11 r12 r13=>
 F.bo C N N 0 r7 r8 r9 r10 r11 r12 r13 x6
   (λ y50=>
   k y50)
def F.nh(N:Nat)(x1:(List Int))(x2:Int)(x3:(List Int))(x4:(List Int))(x5:(List Int))(x6:(List Int))(k:(List Int)->Option R):Option R:=F.qo 256 N x1 x2 x3 x4 x5 x6 k
def F.ja(C N:Nat)(x9:Int)(x10:Int)(x11:(List Int))(x12:Int)(x13:(List Int))(x14:(List Int))(x15:(List Int))(x16:Int)(x17:(List Int))(x18:(List Int))(x19:(List Int))(x20:(List Int))(x21:(List Int))(x22:(List Int))(x23:(List Int))(x24:List (Int×Int))(x25:E5)(next:Int->Int->(List Int)->Int->(List Int)->(List Int)->(List Int)->Int->(List Int)->(List Int)->(List Int)->(List Int)->(List Int)->(List Int)->(List Int)->(List (Int×Int))->E5->Option R)(ke0:(List Int)->Int->(List Int)->(List Int)->(List Int)->Int->(List Int)->(List Int)->(List Int)->(List Int)->(List Int)->(List Int)->(List (Int×Int))->E5->Option R):Option R:=
 bif decide (x10<x9) then
  chk (inB x10 (z9 x18))<|
  chk (inB (zB x18 (zA x10) (0:Int)) (z9 x23))<|
  bif !(Fy eqI (zB x23 (zA (zB x18 (zA x10) (0:Int))) (0:Int)) x24) then
   chk (inB (zB x18 (zA x10) (0:Int)) (z9 x23))<|
   chk (zC (z9 x17+z9 [zB x18 (zA x10) (0:Int)]) (Ap 8))<|
   next x9 (Aa .i64 (x10+1)) x11 x12 x13 x14 x15 x16 (x17++[zB x18 (zA x10) (0:Int)]) x18 x19 x20 x21 x22 x23 (Jr eqI (zB x23 (zA (zB x18 (zA x10) (0:Int))) (0:Int)) (z9 x17:Int) x24) x25
  else
   next x9 (Aa .i64 (x10+1)) x11 x12 x13 x14 x15 x16 x17 x18 x19 x20 x21 x22 x23 x24 x25
 else
  ke0 x11 x12 x13 x14 x15 x16 x17 x19 x20 x21 x22 x23 x24 x25
def F.fm(C N:Nat):Nat->Int->Int->(List Int)->Int->(List Int)->(List Int)->(List Int)->Int->(List Int)->(List Int)->(List Int)->(List Int)->(List Int)->(List Int)->(List Int)->(List (Int×Int))->E5->((List Int)->Int->(List Int)->(List Int)->(List Int)->Int->(List Int)->(List Int)->(List Int)->(List Int)->(List Int)->(List Int)->(List (Int×Int))->E5->Option R)->Option R
 | 0,_,_,_,_,_,_,_,_,_,_,_,_,_,_,_,_,_,_=>none
 | n+1,x9,x10,x11,x12,x13,x14,x15,x16,x17,x18,x19,x20,x21,x22,x23,x24,x25,ke0=>F.ja C N x9 x10 x11 x12 x13 x14 x15 x16 x17 x18 x19 x20 x21 x22 x23 x24 x25 (λ x9 x10 x11 x12 x13 x14 x15 x16 x17 x18 x19 x20 x21 x22 x23 x24 x25=>F.fm C N n x9 x10 x11 x12 x13 x14 x15 x16 x17 x18 x19 x20 x21 x22 x23 x24 x25 ke0) ke0
def F.qa(C N:Nat)(j:Nat)(x56:Int)(x57:Int)(x58:(List Int))(x59:Int)(x60:(List Int))(x61:(List Int))(x62:(List Int))(x63:Int)(x64:(List Int))(x65:Int)(x66:(List Int))(x67:(List Int))(x68:(List Int))(x69:(List Int))(x70:(List Int))(x71:(List Int))(x72:List (Int×Int))(x73:E5)(next:Int->Int->(List Int)->Int->(List Int)->(List Int)->(List Int)->Int->(List Int)->Int->(List Int)->(List Int)->(List Int)->(List Int)->(List Int)->(List Int)->(List (Int×Int))->E5->Option R):Option R:=
 F.ly x58 x59 x60 x61 x62 x65 (j:Int) λ r74=>
 chk (inB r74 (z9 x71))<|
 chk (inB (j:Int) 256)<|
 next x56 x57 x58 x59 x60 x61 x62 x63 x64 x65 (zE x66 (zA (j:Int)) (mget eqI (zB x71 (zA r74) (0:Int)) (0:Int) x72)) x67 x68 x69 x70 x71 x72 x73
def F.ft(C N:Nat):Nat->Nat->Int->Int->(List Int)->Int->(List Int)->(List Int)->(List Int)->Int->(List Int)->Int->(List Int)->(List Int)->(List Int)->(List Int)->(List Int)->(List Int)->(List (Int×Int))->E5->(Int->Int->(List Int)->Int->(List Int)->(List Int)->(List Int)->Int->(List Int)->(List Int)->(List Int)->(List Int)->(List Int)->(List Int)->(List Int)->(List (Int×Int))->E5->Option R)->Option R
 | 0,j,x56,x57,x58,x59,x60,x61,x62,x63,x64,x65,x66,x67,x68,x69,x70,x71,x72,x73,knormal=>knormal x56 x57 x58 x59 x60 x61 x62 x63 x64 x66 x67 x68 x69 x70 x71 x72 x73
 | n+1,j,x56,x57,x58,x59,x60,x61,x62,x63,x64,x65,x66,x67,x68,x69,x70,x71,x72,x73,knormal=>F.qa C N j x56 x57 x58 x59 x60 x61 x62 x63 x64 x65 x66 x67 x68 x69 x70 x71 x72 x73 (λ x56 x57 x58 x59 x60 x61 x62 x63 x64 x65 x66 x67 x68 x69 x70 x71 x72 x73=>F.ft C N n (j+1) x56 x57 x58 x59 x60 x61 x62 x63 x64 x65 x66 x67 x68 x69 x70 x71 x72 x73 knormal)
def F.jb(C N:Nat)(x40:Int)(x41:Int)(x42:(List Int))(x43:Int)(x44:(List Int))(x45:(List Int))(x46:(List Int))(x47:Int)(x48:(List Int))(x49:(List Int))(x50:(List Int))(x51:(List Int))(x52:(List Int))(x53:(List Int))(x54:List (Int×Int))(x55:E5)(next:Int->Int->(List Int)->Int->(List Int)->(List Int)->(List Int)->Int->(List Int)->(List Int)->(List Int)->(List Int)->(List Int)->(List Int)->(List (Int×Int))->E5->Option R)(ke2:(List Int)->Int->(List Int)->(List Int)->(List Int)->Int->(List Int)->(List Int)->(List Int)->(List Int)->(List Int)->E5->Option R):Option R:=
 bif decide (x41<x40) then
  chk (inB x41 (z9 x48))<|
  F.az () λ _=>
  F.ft C N C 0 x40 x41 x42 x43 x44 x45 x46 x47 x48 (zB x48 (zA x41) (0:Int)) (zD 256 (0:Int)) x49 x50 x51 x52 x53 x54 x55
    (λ y75 y76 y77 y78 y79 y80 y81 y82 y83 y84 y85 y86 y87 y88 y89 y90 y91=>
    chk (zC (z9 y91+z9 [y84]) (Ap 2048))<|
    next y75 (Aa .i64 (y76+1)) y77 y78 y79 y80 y81 y82 y83 y85 y86 y87 y88 y89 y90 (y91++[y84]))
 else
  ke2 x42 x43 x44 x45 x46 x47 x48 x49 x50 x51 x52 x55
def F.fu(C N:Nat):Nat->Int->Int->(List Int)->Int->(List Int)->(List Int)->(List Int)->Int->(List Int)->(List Int)->(List Int)->(List Int)->(List Int)->(List Int)->(List (Int×Int))->E5->((List Int)->Int->(List Int)->(List Int)->(List Int)->Int->(List Int)->(List Int)->(List Int)->(List Int)->(List Int)->E5->Option R)->Option R
 | 0,_,_,_,_,_,_,_,_,_,_,_,_,_,_,_,_,_=>none
 | n+1,x40,x41,x42,x43,x44,x45,x46,x47,x48,x49,x50,x51,x52,x53,x54,x55,ke2=>F.jb C N x40 x41 x42 x43 x44 x45 x46 x47 x48 x49 x50 x51 x52 x53 x54 x55 (λ x40 x41 x42 x43 x44 x45 x46 x47 x48 x49 x50 x51 x52 x53 x54 x55=>F.fu C N n x40 x41 x42 x43 x44 x45 x46 x47 x48 x49 x50 x51 x52 x53 x54 x55 ke2) ke2
def F.jc(C N:Nat)(x123:Int)(x124:Int)(x125:Int)(x126:(List Int))(x127:Int)(x128:(List Int))(x129:(List Int))(x130:(List Int))(x131:Int)(x132:(List Int))(x133:Int)(x134:(List Int))(x135:E5)(x136:(List Int))(x137:(List Int))(x138:(List Int))(x139:(List Int))(x140:(List Int))(x141:(List Int))(x142:(List Int))(x143:(List Int))(x144:List ((List UInt8)×Int))(x145:(List Int))(next:Int->Int->Int->(List Int)->Int->(List Int)->(List Int)->(List Int)->Int->(List Int)->Int->(List Int)->E5->(List Int)->(List Int)->(List Int)->(List Int)->(List Int)->(List Int)->(List Int)->(List Int)->(List ((List UInt8)×Int))->(List Int)->Option R)(ke8:Int->(List Int)->Int->(List Int)->(List Int)->(List Int)->Int->(List Int)->Int->(List Int)->(List Int)->(List Int)->(List Int)->(List Int)->E5->(List Int)->(List Int)->(List Int)->(List Int)->(List ((List UInt8)×Int))->(List Int)->Option R):Option R:=
 bif decide (x125<x124) then
  chk (inB x125 (z9 x135))<|
  chk (inB x123 256)<|
  chk (inB x123 256)<|
  chk (decide (0<=8))<|
  chk (zC (z9 x134+z9 [Aa .u8 (zB (zB x135 (zA x125) (zD 256 (0:Int))) (zA x123) (0:Int)),Aa .u8 (Int.fdiv (zB (zB x135 (zA x125) (zD 256 (0:Int))) (zA x123) (0:Int)) (2^min (zA 8) 64))]) (Ap 1))<|
  next x123 x124 (Aa .i64 (x125+1)) x126 x127 x128 x129 x130 x131 x132 x133 (x134++[Aa .u8 (zB (zB x135 (zA x125) (zD 256 (0:Int))) (zA x123) (0:Int)),Aa .u8 (Int.fdiv (zB (zB x135 (zA x125) (zD 256 (0:Int))) (zA x123) (0:Int)) (2^min (zA 8) 64))]) x135 x136 x137 x138 x139 x140 x141 x142 x143 x144 x145
 else
  ke8 x123 x126 x127 x128 x129 x130 x131 x132 x133 x134 x136 x137 x138 x139 x135 x140 x141 x142 x143 x144 x145
def F.fv(C N:Nat):Nat->Int->Int->Int->(List Int)->Int->(List Int)->(List Int)->(List Int)->Int->(List Int)->Int->(List Int)->E5->(List Int)->(List Int)->(List Int)->(List Int)->(List Int)->(List Int)->(List Int)->(List Int)->(List ((List UInt8)×Int))->(List Int)->(Int->(List Int)->Int->(List Int)->(List Int)->(List Int)->Int->(List Int)->Int->(List Int)->(List Int)->(List Int)->(List Int)->(List Int)->E5->(List Int)->(List Int)->(List Int)->(List Int)->(List ((List UInt8)×Int))->(List Int)->Option R)->Option R
 | 0,_,_,_,_,_,_,_,_,_,_,_,_,_,_,_,_,_,_,_,_,_,_,_,_=>none
 | n+1,x123,x124,x125,x126,x127,x128,x129,x130,x131,x132,x133,x134,x135,x136,x137,x138,x139,x140,x141,x142,x143,x144,x145,ke8=>F.jc C N x123 x124 x125 x126 x127 x128 x129 x130 x131 x132 x133 x134 x135 x136 x137 x138 x139 x140 x141 x142 x143 x144 x145 (λ x123 x124 x125 x126 x127 x128 x129 x130 x131 x132 x133 x134 x135 x136 x137 x138 x139 x140 x141 x142 x143 x144 x145=>F.fv C N n x123 x124 x125 x126 x127 x128 x129 x130 x131 x132 x133 x134 x135 x136 x137 x138 x139 x140 x141 x142 x143 x144 x145 ke8) ke8
def F.qb(C N:Nat)(j:Nat)(x104:(List Int))(x105:Int)(x106:(List Int))(x107:(List Int))(x108:(List Int))(x109:Int)(x110:(List Int))(x111:Int)(x112:(List Int))(x113:(List Int))(x114:(List Int))(x115:(List Int))(x116:E5)(x117:(List Int))(x118:(List Int))(x119:(List Int))(x120:(List Int))(x121:List ((List UInt8)×Int))(x122:(List Int))(next:(List Int)->Int->(List Int)->(List Int)->(List Int)->Int->(List Int)->Int->(List Int)->(List Int)->(List Int)->(List Int)->E5->(List Int)->(List Int)->(List Int)->(List Int)->(List ((List UInt8)×Int))->(List Int)->Option R):Option R:=
 F.fv C N N (j:Int) (z9 x116:Int) 0 x104 x105 x106 x107 x108 x109 x110 x111 ([]:List Int) x116 x112 x113 x114 x115 x117 x118 x119 x120 x121 x122
   (λ y146 y147 y148 y149 y150 y151 y152 y153 y154 y155 y156 y157 y158 y159 y160 y161 y162 y163 y164 y165 y166=>
   bif !(Fy eqS (C9 y155) y165) then
    chk (zC (z9 y166+z9 [y146]) (Ap 8))<|
    chk (inB y146 (z9 y161))<|
    next y147 y148 y149 y150 y151 y152 y153 y154 y156 y157 y158 y159 y160 (zE y161 (zA y146) (mget eqS (C9 y155) (0:Int) (Jr eqS (C9 y155) (z9 y165:Int) y165))) y162 y163 y164 (Jr eqS (C9 y155) (z9 y165:Int) y165) (y166++[y146])
   else
    chk (inB y146 (z9 y161))<|
    next y147 y148 y149 y150 y151 y152 y153 y154 y156 y157 y158 y159 y160 (zE y161 (zA y146) (mget eqS (C9 y155) (0:Int) y165)) y162 y163 y164 y165 y166)
def F.fw(C N:Nat):Nat->Nat->(List Int)->Int->(List Int)->(List Int)->(List Int)->Int->(List Int)->Int->(List Int)->(List Int)->(List Int)->(List Int)->E5->(List Int)->(List Int)->(List Int)->(List Int)->(List ((List UInt8)×Int))->(List Int)->((List Int)->Int->(List Int)->(List Int)->(List Int)->Int->(List Int)->Int->(List Int)->(List Int)->(List Int)->(List Int)->E5->(List Int)->(List Int)->(List Int)->(List Int)->(List Int)->Option R)->Option R
 | 0,j,x104,x105,x106,x107,x108,x109,x110,x111,x112,x113,x114,x115,x116,x117,x118,x119,x120,x121,x122,knormal=>knormal x104 x105 x106 x107 x108 x109 x110 x111 x112 x113 x114 x115 x116 x117 x118 x119 x120 x122
 | n+1,j,x104,x105,x106,x107,x108,x109,x110,x111,x112,x113,x114,x115,x116,x117,x118,x119,x120,x121,x122,knormal=>F.qb C N j x104 x105 x106 x107 x108 x109 x110 x111 x112 x113 x114 x115 x116 x117 x118 x119 x120 x121 x122 (λ x104 x105 x106 x107 x108 x109 x110 x111 x112 x113 x114 x115 x116 x117 x118 x119 x120 x121 x122=>F.fw C N n (j+1) x104 x105 x106 x107 x108 x109 x110 x111 x112 x113 x114 x115 x116 x117 x118 x119 x120 x121 x122 knormal)
def F.eb(C N:Nat)(x205:Int)(x206:Int)(x207:Int)(x208:Int)(x209:Int)(x210:(List Int))(x211:Int)(x212:(List Int))(x213:(List Int))(x214:(List Int))(x215:Int)(x216:Int)(x217:(List Int))(x218:(List Int))(x219:(List Int))(x220:(List Int))(x221:(List Int))(x222:(List Int))(x223:E5)(x224:(List Int))(x225:(List Int))(x226:(List Int))(x227:(List Int))(next:Int->Int->Int->Int->Int->(List Int)->Int->(List Int)->(List Int)->(List Int)->Int->Int->(List Int)->(List Int)->(List Int)->(List Int)->(List Int)->(List Int)->E5->(List Int)->(List Int)->(List Int)->(List Int)->Option R)(ke12:Int->Int->(List Int)->Int->(List Int)->(List Int)->(List Int)->Int->Int->(List Int)->(List Int)->(List Int)->(List Int)->(List Int)->E5->(List Int)->(List Int)->(List Int)->(List Int)->(List Int)->Option R):Option R:=
 bif decide (x209<x208) then
  chk (inB x209 (z9 x218))<|
  chk (inB x205 (z9 x223))<|
  chk (inB (zB x218 (zA x209) (0:Int)) 256)<|
  chk (zC (z9 x225+z9 [zB (zB x223 (zA x205) (zD 256 (0:Int))) (zA (zB x218 (zA x209) (0:Int))) (0:Int)]) (Ap 8))<|
  next x205 x206 x207 x208 (Aa .i64 (x209+1)) x210 x211 x212 x213 x214 x215 x216 x217 x218 x219 x220 x221 x222 x223 x224 (x225++[zB (zB x223 (zA x205) (zD 256 (0:Int))) (zA (zB x218 (zA x209) (0:Int))) (0:Int)]) x226 x227
 else
  ke12 x206 x207 x210 x211 x212 x213 x214 x215 x216 x217 x219 x220 x221 x222 x223 x224 x225 x226 x227 x218
def F.da(C N:Nat):Nat->Int->Int->Int->Int->Int->(List Int)->Int->(List Int)->(List Int)->(List Int)->Int->Int->(List Int)->(List Int)->(List Int)->(List Int)->(List Int)->(List Int)->E5->(List Int)->(List Int)->(List Int)->(List Int)->(Int->Int->(List Int)->Int->(List Int)->(List Int)->(List Int)->Int->Int->(List Int)->(List Int)->(List Int)->(List Int)->(List Int)->E5->(List Int)->(List Int)->(List Int)->(List Int)->(List Int)->Option R)->Option R
 | 0,_,_,_,_,_,_,_,_,_,_,_,_,_,_,_,_,_,_,_,_,_,_,_,_=>none
 | n+1,x205,x206,x207,x208,x209,x210,x211,x212,x213,x214,x215,x216,x217,x218,x219,x220,x221,x222,x223,x224,x225,x226,x227,ke12=>F.eb C N x205 x206 x207 x208 x209 x210 x211 x212 x213 x214 x215 x216 x217 x218 x219 x220 x221 x222 x223 x224 x225 x226 x227 (λ x205 x206 x207 x208 x209 x210 x211 x212 x213 x214 x215 x216 x217 x218 x219 x220 x221 x222 x223 x224 x225 x226 x227=>F.da C N n x205 x206 x207 x208 x209 x210 x211 x212 x213 x214 x215 x216 x217 x218 x219 x220 x221 x222 x223 x224 x225 x226 x227 ke12) ke12
def F.ec(C N:Nat)(x185:Int)(x186:Int)(x187:(List Int))(x188:Int)(x189:(List Int))(x190:(List Int))(x191:(List Int))(x192:Int)(x193:Int)(x194:(List Int))(x195:(List Int))(x196:(List Int))(x197:(List Int))(x198:(List Int))(x199:E5)(x200:(List Int))(x201:(List Int))(x202:(List Int))(x203:(List Int))(x204:(List Int))(next:Int->Int->(List Int)->Int->(List Int)->(List Int)->(List Int)->Int->Int->(List Int)->(List Int)->(List Int)->(List Int)->(List Int)->E5->(List Int)->(List Int)->(List Int)->(List Int)->(List Int)->Option R)(ke10:Int->Int->(List Int)->(List Int)->(List Int)->(List Int)->(List Int)->(List Int)->(List Int)->(List Int)->Option R):Option R:=
 bif decide (x186<x185) then
  chk (inB x186 (z9 x194))<|
  chk (inB (zB x194 (zA x186) (0:Int)) (z9 x190))<|
  chk (zC (z9 x202+z9 [zB x190 (zA (zB x194 (zA x186) (0:Int))) (0:Int)]) (Ap 8))<|
  chk (inB (zB x194 (zA x186) (0:Int)) (z9 x191))<|
  chk (zC (z9 x203+z9 [zB x191 (zA (zB x194 (zA x186) (0:Int))) (0:Int)]) (Ap 8))<|
  F.da C N N x186 x185 x186 (z9 x204:Int) 0 x187 x188 x189 x190 x191 x192 x193 x194 x204 x195 x196 x197 x198 x199 x200 x201 (x202++[zB x190 (zA (zB x194 (zA x186) (0:Int))) (0:Int)]) (x203++[zB x191 (zA (zB x194 (zA x186) (0:Int))) (0:Int)])
    (λ y228 y229 y230 y231 y232 y233 y234 y235 y236 y237 y238 y239 y240 y241 y242 y243 y244 y245 y246 y247=>
    next y228 (Aa .i64 (y229+1)) y230 y231 y232 y233 y234 y235 y236 y237 y238 y239 y240 y241 y242 y243 y244 y245 y246 y247)
 else
  ke10 x192 x193 x195 x196 x197 x198 x200 x201 x202 x203
def F.dc(C N:Nat):Nat->Int->Int->(List Int)->Int->(List Int)->(List Int)->(List Int)->Int->Int->(List Int)->(List Int)->(List Int)->(List Int)->(List Int)->E5->(List Int)->(List Int)->(List Int)->(List Int)->(List Int)->(Int->Int->(List Int)->(List Int)->(List Int)->(List Int)->(List Int)->(List Int)->(List Int)->(List Int)->Option R)->Option R
 | 0,_,_,_,_,_,_,_,_,_,_,_,_,_,_,_,_,_,_,_,_,_=>none
 | n+1,x185,x186,x187,x188,x189,x190,x191,x192,x193,x194,x195,x196,x197,x198,x199,x200,x201,x202,x203,x204,ke10=>F.ec C N x185 x186 x187 x188 x189 x190 x191 x192 x193 x194 x195 x196 x197 x198 x199 x200 x201 x202 x203 x204 (λ x185 x186 x187 x188 x189 x190 x191 x192 x193 x194 x195 x196 x197 x198 x199 x200 x201 x202 x203 x204=>F.dc C N n x185 x186 x187 x188 x189 x190 x191 x192 x193 x194 x195 x196 x197 x198 x199 x200 x201 x202 x203 x204 ke10) ke10
def F.px(C N:Nat)(x1:(List Int))(x2:Int)(x3:(List Int))(x4:(List Int))(x5:(List Int))(k:Int->(List Int)->(List Int)->(List Int)->(List Int)->Option R):Option R:=
 F.rp N x1 x2 x3 x4 x5 λ r6=>
 bif !r6 then
  k 0 ([]:List Int) ([]:List Int) ([]:List Int) ([]:List Int)
 else
  F.lj N x1 x2 x3 x4 x5 λ r7=>
  F.nh N x1 x2 x3 x4 x5 r7 λ r8=>
  F.fm C N N (z9 r7:Int) 0 x1 x2 x3 x4 x5 0 ([]:List Int) r7 ([]:List Int) ([]:List Int) ([]:List Int) ([]:List Int) r8 ([]:List (Int×Int)) ([]:List (List Int))
    (λ y26 y27 y28 y29 y30 y31 y32 y33 y34 y35 y36 y37 y38 y39=>
    F.fu C N N (z9 y32:Int) 0 y26 y27 y28 y29 y30 y31 y32 y33 y34 y35 y36 y37 y38 y39
      (λ y92 y93 y94 y95 y96 y97 y98 y99 y100 y101 y102 y103=>
      chk (decide (0<=256))<|
      chk (zC (zA 256) (Ap 8))<|
      F.az () λ _=>
      F.fw C N C 0 y92 y93 y94 y95 y96 y97 y98 0 y99 y100 y101 y102 y103 (zD (zA 256) (0:Int)) ([]:List Int) ([]:List Int) ([]:List Int) ([]:List ((List UInt8)×Int)) ([]:List Int)
        (λ y167 y168 y169 y170 y171 y172 y173 y174 y175 y176 y177 y178 y179 y180 y181 y182 y183 y184=>
        F.dc C N N (z9 y173:Int) 0 y167 y168 y169 y170 y171 y172 (z9 y184:Int) y173 y175 y176 y177 y178 y179 y180 y181 y182 y183 y184
          (λ y248 y249 y250 y251 y252 y253 y254 y255 y256 y257=>
          k y249 y254 y255 y256 y257))))
def F.jh(N:Nat)(x1:(List Int))(x2:Int)(x3:(List Int))(x4:(List Int))(x5:(List Int))(k:Int->(List Int)->(List Int)->(List Int)->(List Int)->Option R):Option R:=F.px 256 N x1 x2 x3 x4 x5 k
def F.ef(N:Nat):Ane->(Ane->Option R)->(Ab7->Option R)->Option R
 | ((x14,x15,x16),(x17,x18,x19,x20,x21),x22),next,ke2=>
 bif decide (x16<x14) then
  chk (inB x15 (z9 x20))<|
  chk (inB x16 (z9 x20))<|
  bif(zB x20 (zA x15) (0:Int)) !=(zB x20 (zA x16) (0:Int)) then
   chk (inB (Aa .i64 ((Aa .i64 (x15*x14))+x16)) (z9 x22))<|
   next ((x14,x15,Aa .i64 (x16+1)),(x17,x18,x19,x20,x21),zE x22 (zA (Aa .i64 ((Aa .i64 (x15*x14))+x16))) true)
  else
   chk (inB x15 (z9 x21))<|
   chk (inB x16 (z9 x21))<|
   chk (inB (Aa .i64 ((Aa .i64 (x15*x14))+x16)) (z9 x22))<|
   next ((x14,x15,Aa .i64 (x16+1)),(x17,x18,x19,x20,x21),zE x22 (zA (Aa .i64 ((Aa .i64 (x15*x14))+x16))) ((zB x21 (zA x15) (0:Int)) !=(zB x21 (zA x16) (0:Int))))
 else
  ke2 ((x14,x15),(x17,x18,x19,x20,x21),x22)
def F.sx(N:Nat):Nat->Ane->(Ab7->Option R)->Option R:=lp (F.ef N)
def F.eh(N:Nat):Ab7->(Ab7->Option R)->((Int×Br×(List Bool))->Option R)->Option R
 | ((x6,x7),(x8,x9,x10,x11,x12),x13),next,ke0=>
 bif decide (x7<x6) then
  F.sx N N ((x6,x7,0),(x8,x9,x10,x11,x12),x13) λ((y32,y33),(y34,y35,y36,y37,y38),y39)=>
  next ((y32,Aa .i64 (y33+1)),(y34,y35,y36,y37,y38),y39)
 else
  ke0 (x6,(x8,x9,x10,x11,x12),x13)
def F.xr(N:Nat):Nat->Ab7->((Int×Br×(List Bool))->Option R)->Option R:=lp (F.eh N)
def F.nj(N:Nat)(next:Agh->Option R):(W4->Option R)->((Int×Bool×Int×Int×Int×Bool)×Br×(List Bool))->Option R
 | ke10,((w85,w86,w87,w88,w89,w90),(w91,w92,w93,w94,w95),w96)=>
 bif w90 then
  chk (inB (Aa .i64 ((Aa .i64 (w87*w92))+w89)) (z9 w93))<|
  chk (inB (Aa .i64 ((Aa .i64 (w88*w92))+w89)) (z9 w93))<|
  chk (inB (Aa .i64 ((Aa .i64 ((zB w93 (zA (Aa .i64 ((Aa .i64 (w87*w92))+w89))) (0:Int))*w85))+(zB w93 (zA (Aa .i64 ((Aa .i64 (w88*w92))+w89))) (0:Int)))) (z9 w96))<|
  bif zB w96 (zA (Aa .i64 ((Aa .i64 ((zB w93 (zA (Aa .i64 ((Aa .i64 (w87*w92))+w89))) (0:Int))*w85))+(zB w93 (zA (Aa .i64 ((Aa .i64 (w88*w92))+w89))) (0:Int))))) false then
   chk (inB (Aa .i64 ((Aa .i64 (w87*w85))+w88)) (z9 w96))<|
   next ((w85,true,w87,w88,Aa .i64 (w89+1)),(w91,w92,w93,w94,w95),zE w96 (zA (Aa .i64 ((Aa .i64 (w87*w85))+w88))) true)
  else
   next ((w85,w86,w87,w88,Aa .i64 (w89+1)),(w91,w92,w93,w94,w95),w96)
 else
  ke10 ((w85,w86,w87,w88),(w91,w92,w93,w94,w95),w96)
def F.cg(N:Nat):Agh->(Agh->Option R)->(W4->Option R)->Option R
 | ((x74,x75,x76,x77,x78),(x79,x80,x81,x82,x83),x84),next,ke10=>
 bif decide (x78<x80) then
  chk (inB (Aa .i64 ((Aa .i64 (x76*x74))+x77)) (z9 x84))<|
  jn (F.nj N next ke10) ((x74,x75,x76,x77,x78, !(zB x84 (zA (Aa .i64 ((Aa .i64 (x76*x74))+x77))) false)),(x79,x80,x81,x82,x83),x84)
 else
  jn (F.nj N next ke10) ((x74,x75,x76,x77,x78,false),(x79,x80,x81,x82,x83),x84)
def F.sd(N:Nat):Nat->Agh->(W4->Option R)->Option R:=lp (F.cg N)
def F.ej(N:Nat):W4->(W4->Option R)->(Ab9->Option R)->Option R
 | ((x64,x65,x66,x67),(x68,x69,x70,x71,x72),x73),next,ke8=>
 bif decide (x67<x64) then
  F.sd N N ((x64,x65,x66,x67,0),(x68,x69,x70,x71,x72),x73) λ((y108,y109,y110,y111),(y112,y113,y114,y115,y116),y117)=>
  next ((y108,y109,y110,Aa .i64 (y111+1)),(y112,y113,y114,y115,y116),y117)
 else
  ke8 ((x64,x65,x66),(x68,x69,x70,x71,x72),x73)
def F.xu(N:Nat):Nat->W4->(Ab9->Option R)->Option R:=lp (F.ej N)
def F.eu(N:Nat):Ab9->(Ab9->Option R)->(Aca->Option R)->Option R
 | ((x55,x56,x57),(x58,x59,x60,x61,x62),x63),next,ke6=>
 bif decide (x57<x55) then
  F.xu N N ((x55,x56,x57,0),(x58,x59,x60,x61,x62),x63) λ((y118,y119,y120),(y121,y122,y123,y124,y125),y126)=>
  next ((y118,y119,Aa .i64 (y120+1)),(y121,y122,y123,y124,y125),y126)
 else
  ke6 ((x55,x56),(x58,x59,x60,x61,x62),x63)
def F.sy(N:Nat):Nat->Ab9->(Aca->Option R)->Option R:=lp (F.eu N)
def F.ew(N:Nat):Aca->(Aca->Option R)->(Se->Option R)->Option R
 | ((x47,x48),(x49,x50,x51,x52,x53),x54),next,ke4=>
 bif x48 then
  F.sy N N ((x47,false,0),(x49,x50,x51,x52,x53),x54) λ((y127,y128),(y129,y130,y131,y132,y133),y134)=>
  next ((y127,y128),(y129,y130,y131,y132,y133),y134)
 else
  ke4 (x47,x54)
def F.xw(N:Nat):Nat->Aca->(Se->Option R)->Option R:=lp (F.ew N)
def F.co(N:Nat):Anf->(Anf->Option R)->((Uu->Option R)×(Asy->Option R))->Option R
 | ((x140,x141,x142),x143),next,(ke14,kret)=>
 bif decide (x142<x140) then
  bif x141 !=x142 then
   chk (inB (Aa .i64 ((Aa .i64 (x141*x140))+x142)) (z9 x143))<|
   bif !(zB x143 (zA (Aa .i64 ((Aa .i64 (x141*x140))+x142))) false) then kret ((false,x140,x141),x143) else next ((x140,x141,Aa .i64 (x142+1)),x143)
  else
   next ((x140,x141,Aa .i64 (x142+1)),x143)
 else
  ke14 ((x140,x141),x143)
def F.xj(N:Nat):Nat->Anf->((Uu->Option R)×(Asy->Option R))->Option R:=lp (F.co N)
def F.cq(N:Nat):Uu->(Uu->Option R)->((Unit->Option R)×(Bool->Option R))->Option R
 | ((x137,x138),x139),next,(ke12,kret)=>
 bif decide (x138<x137) then
  F.xj N N ((x137,x138,0),x139) (λ((y149,y150),y151)=>
   next ((y149,Aa .i64 (y150+1)),y151),
   λ((y152,y153,y154),y155)=>
   kret y152)
 else
  ke12 ()
def F.xk(N:Nat):Nat->Uu->((Unit->Option R)×(Bool->Option R))->Option R:=lp (F.cq N)
def F.qk(N:Nat):Br->(Bool->Option R)->Option R
 | (x1,x2,x3,x4,x5),k=>
 chk (decide (0<=(Aa .i64 ((z9 x4:Int)*(z9 x4:Int)))))<|
 chk (zC (zA (Aa .i64 ((z9 x4:Int)*(z9 x4:Int)))) (Ap 1))<|
 F.xr N N (((z9 x4:Int),0),(x1,x2,x3,x4,x5),zD (zA (Aa .i64 ((z9 x4:Int)*(z9 x4:Int)))) false) λ(y40,(y41,y42,y43,y44,y45),y46)=>
 F.xw N N ((y40,true),(y41,y42,y43,y44,y45),y46) λ(y135,y136)=>
 F.xk N N ((y135,0),y136) (λ _=>
  k true,
  λ y156=>
  k y156)
def F.ey(N:Nat):Ang->(Ang->Option R)->((Unit->Option R)×(Bool->Option R))->Option R
 | (x3,x4,x5,x6),next,(ke0,kret)=>
 bif decide (x6<x5) then
  chk (inB x6 (z9 x3))<|
  chk (inB x6 (z9 x4))<|
  bif(zB x3 (zA x6) (0:Int)) !=(zB x4 (zA x6) (0:Int)) then kret false else next (x3,x4,x5,Aa .i64 (x6+1))
 else
  ke0 ()
def F.xx(N:Nat):Nat->Ang->((Unit->Option R)×(Bool->Option R))->Option R:=lp (F.ey N)
def F.fx(N:Nat):Abz->(Bool->Option R)->Option R
 | (x1,x2),k=>
 bif(z9 x1:Int) !=(z9 x2:Int) then
  k false
 else
  F.xx N N (x1,x2,(z9 x1:Int),0) (λ _=>
   k true,
   λ y7=>
   k y7)
def F.qx(N:Nat):(Br×(List Int)×Int×Ht)->(Bool->Option R)->Option R
 | ((x1,x2,x3,x4,x5),x6,x7,x8,x9,x10),k=>
 bif x2==x7 then
  F.fx N (x1,x6) λ r11=>
  bif r11 then
   F.fx N (x3,x8) λ r12=>
   bif r12 then
    F.fx N (x4,x9) λ r13=>
    bif r13 then
     F.fx N (x5,x10) λ r14=>
     k r14
    else
     k false
   else
    k false
  else
   k false
 else
  k false
def F.fe(N:Nat):Anh->(Anh->Option R)->((Asz->Option R)×(As0->Option R))->Option R
 | ((x204,x205,x206,x207,x208,x209,x210),x211,x212,x213,x214,x215,x216,x217,x218,x219,x220,x221,x222),next,(ke4,kret)=>
 bif decide (x210<x209) then
  chk (inB x210 (z9 x213))<|
  bif(zB x213 (zA x210) (0:Int))==x206 then
   chk (inB x210 (z9 x214))<|
   bif(zB x214 (zA x210) (0:Int)) !=x207 then kret ((false,x204,x205,x206,x207,x208),x211,x212,x213,x214,x215,x216,x217,x218,x219,x220,x221,x222) else next ((x204,x205,x206,x207,true,x209,Aa .i64 (x210+1)),x211,x212,x213,x214,x215,x216,x217,x218,x219,x220,x221,x222)
  else
   next ((x204,x205,x206,x207,x208,x209,Aa .i64 (x210+1)),x211,x212,x213,x214,x215,x216,x217,x218,x219,x220,x221,x222)
 else
  ke4 ((x204,x205,x206,x207,x208),x211,x212,x213,x214,x215,x216,x217,x218,x219,x220,x221,x222)
def F.ta(N:Nat):Nat->Anh->((Asz->Option R)×(As0->Option R))->Option R:=lp (F.fe N)
def F.ff(N:Nat):Ani->(Ani->Option R)->((Acb->Option R)×(As1->Option R))->Option R
 | ((x190,x191),x192,x193,x194,x195,x196,x197,x198,x199,x200,x201,x202,x203),next,(ke2,kret)=>
 bif decide (x191<256) then
  chk (inB x190 (z9 x194))<|
  chk (inB x191 (z9 x196))<|
  chk (inB (Aa .i64 ((Aa .i64 ((zB x194 (zA x190) (0:Int))*x192))+(zB x196 (zA x191) (0:Int)))) (z9 x197))<|
  chk (inB x190 (z9 x195))<|
  chk (inB x191 (z9 x200))<|
  chk (inB (Aa .i64 ((Aa .i64 ((zB x195 (zA x190) (0:Int))*x193))+(zB x200 (zA x191) (0:Int)))) (z9 x201))<|
  F.ta N N ((x190,x191,zB x197 (zA (Aa .i64 ((Aa .i64 ((zB x194 (zA x190) (0:Int))*x192))+(zB x196 (zA x191) (0:Int))))) (0:Int),zB x201 (zA (Aa .i64 ((Aa .i64 ((zB x195 (zA x190) (0:Int))*x193))+(zB x200 (zA x191) (0:Int))))) (0:Int),false,(z9 x194:Int),0),x192,x193,x194,x195,x196,x197,x198,x199,x200,x201,x202,x203) (λ((y242,y243,y244,y245,y246),y247,y248,y249,y250,y251,y252,y253,y254,y255,y256,y257,y258)=>
   bif !y246 then
    chk (zC (z9 y249+z9 [y244]) (Ap 8))<|
    chk (zC (z9 y250+z9 [y245]) (Ap 8))<|
    next ((y242,Aa .i64 (y243+1)),y247,y248,y249++[y244],y250++[y245],y251,y252,y253,y254,y255,y256,y257,y258)
   else
    next ((y242,Aa .i64 (y243+1)),y247,y248,y249,y250,y251,y252,y253,y254,y255,y256,y257,y258),
   λ((y273,y274,y275,y276,y277,y278),y279,y280,y281,y282,y283,y284,y285,y286,y287,y288,y289,y290)=>
   kret ((y273,y274),y279,y280,y281,y282,y283,y284,y285,y286,y287,y288,y289,y290))
 else
  ke2 (x190,x192,x193,x194,x195,x196,x197,x198,x199,x200,x201,x202,x203)
def F.tb(N:Nat):Nat->Ani->((Acb->Option R)×(As1->Option R))->Option R:=lp (F.ff N)
def F.fg(N:Nat):Acb->(Acb->Option R)->((Kj->Option R)×((Bool×Kj)->Option R))->Option R
 | (x35,x36,x37,x38,x39,x40,x41,x42,x43,x44,x45,x46,x47),next,(ke0,kret)=>
 bif decide (x35<(z9 x38:Int)) then
  chk (inB x35 (z9 x38))<|
  chk (inB (zB x38 (zA x35) (0:Int)) (z9 x42))<|
  chk (inB x35 (z9 x39))<|
  chk (inB (zB x39 (zA x35) (0:Int)) (z9 x46))<|
  bif(zB x42 (zA (zB x38 (zA x35) (0:Int))) (0:Int)) !=(zB x46 (zA (zB x39 (zA x35) (0:Int))) (0:Int)) then
   kret (false,x37,x39,x44,x45,x46,x47)
  else
   chk (inB x35 (z9 x38))<|
   chk (inB (zB x38 (zA x35) (0:Int)) (z9 x43))<|
   chk (inB x35 (z9 x39))<|
   chk (inB (zB x39 (zA x35) (0:Int)) (z9 x47))<|
   bif(zB x43 (zA (zB x38 (zA x35) (0:Int))) (0:Int)) !=(zB x47 (zA (zB x39 (zA x35) (0:Int))) (0:Int)) then
    kret (false,x37,x39,x44,x45,x46,x47)
   else
    F.tb N N ((x35,0),x36,x37,x38,x39,x40,x41,x42,x43,x44,x45,x46,x47) (λ(y291,y292,y293,y294,y295,y296,y297,y298,y299,y300,y301,y302,y303)=>
     next (Aa .i64 (y291+1),y292,y293,y294,y295,y296,y297,y298,y299,y300,y301,y302,y303),
     λ((y304,y305),y306,y307,y308,y309,y310,y311,y312,y313,y314,y315,y316,y317)=>
     kret (y304,y307,y309,y314,y315,y316,y317))
 else
  ke0 (x37,x39,x44,x45,x46,x47)
def F.tc(N:Nat):Nat->Acb->((Kj->Option R)×((Bool×Kj)->Option R))->Option R:=lp (F.fg N)
def F.fh(N:Nat):(Ab1×Kj)->((Ab1×Kj)->Option R)->(((Bool×Int×Int)×Kj)->Option R)->Option R
 | ((x332,x333,x334,x335,x336,x337),x338,x339,x340,x341,x342,x343),next,ke8=>
 bif decide (x337<x336) then
  chk (inB x337 (z9 x339))<|
  bif x333 then next ((x332,true,x334,x335,x336,Aa .i64 (x337+1)),x338,x339,x340,x341,x342,x343) else next ((x332,(zB x339 (zA x337) (0:Int))==x332,x334,x335,x336,Aa .i64 (x337+1)),x338,x339,x340,x341,x342,x343)
 else
  ke8 ((x333,x334,x335),x338,x339,x340,x341,x342,x343)
def F.xy(N:Nat):Nat->(Ab1×Kj)->(((Bool×Int×Int)×Kj)->Option R)->Option R:=lp (F.fh N)
def F.fj(N:Nat):Anj->(Anj->Option R)->((W3->Option R)×(Agi->Option R))->Option R
 | ((x324,x325),x326,x327,x328,x329,x330,x331),next,(ke6,kret)=>
 bif decide (x325<x324) then
  F.xy N N ((x325,false,x324,x325,(z9 x327:Int),0),x326,x327,x328,x329,x330,x331) λ((y356,y357,y358),y359,y360,y361,y362,y363,y364)=>
  bif !y356 then kret (false,y359,y361,y362,y363,y364) else next ((y357,Aa .i64 (y358+1)),y359,y360,y361,y362,y363,y364)
 else
  ke6 (x326,x328,x329,x330,x331)
def F.tf(N:Nat):Nat->Anj->((W3->Option R)×(Agi->Option R))->Option R:=lp (F.fj N)
def F.ct(N:Nat):Ank->(Ank->Option R)->(As2->Option R)->Option R
 | ((x376,x377,x378),x379,x380,x381,x382,x383),next,ke12=>
 bif decide (x378<256) then
  bif x377 then
   next ((x376,true,Aa .i64 (x378+1)),x379,x380,x381,x382,x383)
  else
   chk (inB x378 (z9 x380))<|
   next ((x376,(zB x380 (zA x378) (0:Int))==x376,Aa .i64 (x378+1)),x379,x380,x381,x382,x383)
 else
  ke12 ((x376,x377),x379,x380,x381,x382,x383)
def F.xm(N:Nat):Nat->Ank->(As2->Option R)->Option R:=lp (F.ct N)
def F.cv(N:Nat):Anl->(Anl->Option R)->((W3->Option R)×(Agi->Option R))->Option R
 | (x370,x371,x372,x373,x374,x375),next,(ke10,kret)=>
 bif decide (x370<x371) then
  F.xm N N ((x370,false,0),x371,x372,x373,x374,x375) λ((y392,y393),y394,y395,y396,y397,y398)=>
  bif !y393 then kret (false,y394,y395,y396,y397,y398) else next (Aa .i64 (y392+1),y394,y395,y396,y397,y398)
 else
  ke10 (x371,x372,x373,x374,x375)
def F.se(N:Nat):Nat->Anl->((W3->Option R)×(Agi->Option R))->Option R:=lp (F.cv N)
def F.nk(N:Nat):(Bool->Option R)->(Bool×Int×Oc)->Option R
 | k,(w24,w25,w26,w27,w28,w29,w30,w31,w32,w33,w34)=>
 bif w24 then
  k false
 else
  F.tc N N (0,w25,w26,[0],[0],w27,w28,w29,w30,w31,w32,w33,w34) (λ(y318,y319,y320,y321,y322,y323)=>
   F.tf N N (((z9 y322:Int),0),y318,y319,y320,y321,y322,y323) (λ(y365,y366,y367,y368,y369)=>
    F.se N N (0,y365,y366,y367,y368,y369) (λ(y399,y400,y401,y402,y403)=>
     F.jh N y400 y399 y401 y402 y403 λ r404 r405 r406 r407 r408=>
     F.qx N ((r405,r404,r406,r407,r408),y400,y399,y401,y402,y403) λ r409=>
     k r409,
     λ(y410,y411,y412,y413,y414,y415)=>
     k y410),
    λ(y416,y417,y418,y419,y420,y421)=>
    k y416),
   λ(y422,y423,y424,y425,y426,y427,y428)=>
   k y422)
def F.de(N:Nat):(Bool->Option R)->((List Int)×Bool)->Option R
 | k,(w3,w4)=>
 bif w4 then
  k true
 else
  F.cz N w3 λ(r5,r6,r7,r8,r9)=>
  F.cz N w3 λ(r10,r11,r12,r13,r14)=>
  F.jh N r11 r10 r12 r13 r14 λ r15 r16 r17 r18 r19=>
  F.mz N (r6,r5,r7,r8,r9) λ r20=>
  bif !r20 then
   bif(z9 r18:Int)==0 then k ((z9 r16:Int)==0) else k false
  else
   F.mz N (r16,r15,r17,r18,r19) λ r22=>
   bif !r22 then
    jn (F.nk N k) (true,r5,r15,r6,r7,r8,r9,r16,r17,r18,r19)
   else
    F.qk N (r16,r15,r17,r18,r19) λ r23=>
    jn (F.nk N k) (!r23,r5,r15,r6,r7,r8,r9,r16,r17,r18,r19)
def F.ru(N:Nat):Abz->(Bool->Option R)->Option R
 | (x1,x2),k=>
 bif decide ((z9 x1:Int)>1048576) then
  jn (F.de N k) (x1,true)
 else
  jn (F.de N k) (x1,decide ((z9 x2:Int)>1048576))
end Go.Proofs.Ytfeppeacchjbeaa.fnMinimal
