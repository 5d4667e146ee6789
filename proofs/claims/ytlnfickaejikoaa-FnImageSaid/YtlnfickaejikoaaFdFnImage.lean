/- What the Go functions that the law uses answer, as plain functions. -/
import Derived.Test.YtlnfickaejikoaaEa
open List renaming length->z8,getD->zA,take->zC,drop->zD,set->zE,replicate->zF
open Int renaming toNat->z9,tmod->zG
open Nat renaming ble->zB
set_option linter.unusedVariables false
set_option maxHeartbeats 4000000
namespace Go.Proofs.Ytlnfickaejikoaa.fnImage
open Go.Ev
abbrev ty0:Type:=(List (Int×Int))
abbrev ty2:Type:=(Int×(ty0×(Int×(Int×Int))))
abbrev ty4:Type:=(Bool×(Bool×(List ty2)))
abbrev ty5:Type:=((List ty4)×Int)
abbrev ty7:Type:=(Int×(Int×((List Bool)×(Int×Int))))
abbrev ty9:Type:=(List (List ty7))
abbrev K4:Type:=(List (List ty2))
abbrev Nb:Type:=(Int×(Int×(Int×ty0)))
abbrev Q0:Type:=(Int×(Bool×(Bool×Int)))
abbrev Adg:Type:=(List (List Bool))
abbrev Ar9:Type:=(List (List Int))
abbrev E9:Type:=(Int×(List Int)×Int×Int)
abbrev Dp:Type:=((List Int)×Int×Int)
abbrev I7:Type:=((List Int)×(List Int)×(List Int))
abbrev Md:Type:=((List Int)×(List Int)×(List Int)×I7)
abbrev H3:Type:=(Int×(List Int)×(List Int)×Md)
abbrev Tt:Type:=((Int×Int)×Dp×Int×H3)
abbrev Adm:Type:=(Int×Dp×Int×H3)
abbrev Wx:Type:=((Int×Int×Int)×Dp×Int×H3)
abbrev Aak:Type:=(Dp×Int×H3)
abbrev Afz:Type:=(Int×Dp×(List Int)×I7)
abbrev Aph:Type:=(Dp×Int×(List ty2)×(List ty4))
abbrev Adp:Type:=((Int×Int×Int×Int)×Aph)
abbrev Tu:Type:=((Int×Int)×Aph)
abbrev Axz:Type:=(Int×Int×Int×Int×Int×Bool)
abbrev Asa:Type:=(Axz×Aph)
abbrev Aw1:Type:=(Int×Dp×(List ty4))
abbrev Asb:Type:=(((List ty2)×Int×Int)×I7)
abbrev Aw2:Type:=(Bool×I7)
abbrev Ax0:Type:=(Int×Int×(List ty2)×Int×Int)
abbrev Ayf:Type:=((Int×Ax0)×(List Int)×(List Int)×((List Int)×Int×ty0×Int×Int×Int))
abbrev Ayg:Type:=(Bool×(List Int)×(List Int))
abbrev Asc:Type:=(Int×ty0×Int×Int×Int)
abbrev Asd:Type:=(((List ty2)×(List ty2)×Int×Int)×I7)
abbrev Aw3:Type:=((List ty2)×(List Int))
abbrev Ase:Type:=(Int×(List ty4)×Int×Int)
abbrev Em:Type:=(List UInt8×(List Int)×Int×Int)
abbrev Asf:Type:=((Int×List UInt8)×(List Int)×Int×Int)
abbrev Asg:Type:=(Int×List UInt8×Int×Int)
abbrev Apz:Type:=(Asg×(List Int)×Int×Int)
abbrev Ax1:Type:=((Int×List UInt8×Int×Int×Bool)×(List Int)×Int×Int)
abbrev Aal:Type:=((List UInt8×Int)×(List Int)×Int×Int)
abbrev Aje:Type:=((List UInt8×List UInt8)×(List Int)×Int×Int)
abbrev We:Type:=(List UInt8×Int×Int)
abbrev Ajf:Type:=(Int×Int×Int)
abbrev Ap0:Type:=(Int×List UInt8×Int)
abbrev Ap1:Type:=(List UInt8×Int)
abbrev Ajg:Type:=((Int×Int)×(List Bool))
abbrev Wy:Type:=(Int×(List Bool))
abbrev Ap2:Type:=((List UInt8×Int×Bool×Int×Int)×(List Bool))
abbrev Aw4:Type:=((List UInt8×Bool×Int×(Int×List UInt8×Bool×Int×Int))×(List Bool)×(List (List UInt8)))
abbrev Ax2:Type:=((List UInt8×(Bool×Int×Int×List UInt8×Bool))×(List Bool))
abbrev Aw5:Type:=((List UInt8×(Bool×Int×Int×List UInt8×Int))×(List Bool))
abbrev Ash:Type:=((List UInt8×Int×Bool×Int×Int×Int)×(List Bool))
abbrev Wz:Type:=((List UInt8×Int×Bool×Int)×(List Bool))
abbrev Asi:Type:=(We×(List ty7))
abbrev Aw6:Type:=((Int×Int)×(List ty7))
abbrev Tv:Type:=((List ty7)×Int×Int)
abbrev Asj:Type:=((List ty7)×Int)
abbrev Ap3:Type:=((List ty7)×Int×Int×Int)
abbrev An7:Type:=(((List ty7)×Int)×ty9)
abbrev An8:Type:=((K4×Int×K4×Int×Int)×(List ty2))
abbrev An9:Type:=((K4×Int×Int)×(List ty2))
abbrev Ahl:Type:=(((List Bool)×Int)×ty0)
abbrev Adb:Type:=(Tv×K4)
abbrev Aoa:Type:=(((List ty7)×Int×Int×Int×Int)×K4×K4×ty9)
abbrev Ahm:Type:=(((List ty7)×Int)×K4)
abbrev Aob:Type:=((List UInt8×(List ty7)×Int×Int)×Int×(List ty4))
abbrev Adc:Type:=(((List ty7)×Int)×Int×(List ty4))
abbrev Ta:Type:=(Int×Int×(List ty4)×(List ty4))
abbrev Ahn:Type:=((Int×Int)×Int×(Int×ty9×(List ty4)×(List ty4)))
abbrev Aoc:Type:=((Int×Int×Int)×Dp×(List ty5))
abbrev Aho:Type:=((ty0×Int×Int)×Int×ty0×Int×Int×Int)
abbrev Auk:Type:=(Bool×Int×ty0×Int×Int×Int)
abbrev Aod:Type:=(Ase×((List ty4)×Int)×(List Int))
abbrev Ade:Type:=(Int×((List ty4)×Int)×(List Int))
abbrev Aoe:Type:=(((List ty4)×Ax0)×((List ty4)×Int)×(List Int))
abbrev Adf:Type:=(((List ty4)×Int×Int)×((List ty4)×Int)×(List Int))
abbrev Aul:Type:=((Bool×(List ty4)×Int×Int)×((List ty4)×Int)×(List Int))
abbrev Aum:Type:=(((List ty4)×Int)×(List Int))
abbrev Aun:Type:=(Bool×((List ty4)×Int)×(List Int))
abbrev Aof:Type:=((Int×Int×Int×Int)×((List ty4)×Int)×(List Int))
abbrev Auo:Type:=((Int×Int)×((List ty4)×Int)×(List Int))
abbrev Aog:Type:=(Bool×(List ty4)×Int)
abbrev Aoh:Type:=(Int×(List ty5)×Int×Int)
abbrev Eh:Type:=(Int×(List Nb)×(List Q0))
abbrev Aoi:Type:=((List Int)×(List Int)×List UInt8)
abbrev Jl:Type:=((((List ty2)×Aoi)×Int)×(List Nb)×(List Q0))
abbrev Tb:Type:=((((List ty2)×Aoi)×Int×Int×Int)×(List Nb)×(List Q0))
abbrev Aup:Type:=(((List ty2)×Aoi)×(List Nb)×(List Q0))
abbrev Ahp:Type:=((List Q0)×(List Nb)×(List Q0))
abbrev Aoj:Type:=((Int×(List ty5)×(Int×Int×(List ty4)×Int×Int))×(List Nb)×Ahp)
abbrev Adh:Type:=(((List ty5)×Int×Int)×(List Nb)×Ahp)
abbrev J8:Type:=((List Nb)×(List Q0))
abbrev Aok:Type:=(Int×ty0×Int×Int)
abbrev Aol:Type:=((Int×Int×Int×Int×Bool×(Int×Int×(List Nb)×Int×Int))×J8×(List Int)×(List Int))
abbrev Aom:Type:=(Int×Int×Int×Bool×Int×Int)
abbrev Auq:Type:=(Aom×J8×(List Int)×(List Int))
abbrev Aon:Type:=((Int×Int×Int×Int)×J8×(List Int)×(List Int))
abbrev Aur:Type:=((Int×Int)×J8×(List Int)×(List Int))
abbrev Aoo:Type:=(Int×J8×(List Int)×(List Int))
abbrev Jm:Type:=((List Int)×(List Int))
abbrev Ys:Type:=(J8×Int)
abbrev Yt:Type:=(J8×Int×(List Bool))
abbrev Aop:Type:=((Bool×(List Bool)×(Bool×Int×(List Q0)×Int×Int))×(List Nb)×(List Q0))
abbrev Yu:Type:=((J8×Int×Bool×(List Bool)×Int)×(List Bool))
abbrev Aoq:Type:=((Bool×((List Bool)×Int×(List Q0)×Int×Int))×J8×(List Bool))
abbrev Aor:Type:=((List Bool)×(List Bool)×Int×Int)
abbrev Tc:Type:=(Int×Int×(List Int)×Int×Int)
abbrev Aos:Type:=((Int×Bool)×(List Int)×Int×I7)
abbrev Bb:Type:=((List Int)×Int×I7)
abbrev Aot:Type:=((Int×Int)×Bb×(List Int))
abbrev Adi:Type:=(Int×Bb×(List Int))
abbrev Aus:Type:=((List Int)×Int×(List Int)×Int×Int)
abbrev Aou:Type:=(Aus×Bb×(List Int))
abbrev Aut:Type:=(((List Int)×Int)×Bb×(List Int))
abbrev Aov:Type:=(Dp×Bb×(List Int)×(List Int))
abbrev Auu:Type:=(((List Int)×Int)×Bb×(List Int)×(List Int))
abbrev Aow:Type:=((List Int)×(List Int)×Adg×(List Bool))
abbrev Aox:Type:=(((List Int)×Int×Int×Int)×Bb×Aow)
abbrev Q1:Type:=(Bb×(List Int)×(List Int)×Adg)
abbrev Aoy:Type:=(Int×Bool×Int×Int×Int×Int)
abbrev Aoz:Type:=(((List Int)×Aoy)×Q1)
abbrev Auv:Type:=((List Int)×Int×Bool×Int×Int)
abbrev Adj:Type:=(Auv×Q1)
abbrev Adk:Type:=(((List Int)×Int×Bool×Int)×Q1)
abbrev Adl:Type:=(((List Int)×Int×Bool)×Q1)
abbrev Ao0:Type:=(Int×Int×Int×Int×Int)
abbrev Ao1:Type:=(Adg×(List Int)×(List Int)×I7)
abbrev Ao2:Type:=(Ao0×Bb×Int×(List Int)×Ao1)
abbrev Auw:Type:=((Int×Int×Int×Int)×Bb×Int×(List Int)×Ao1)
abbrev Ao3:Type:=((Int×Int)×Bb×Int×(List Int)×Ao1)
abbrev Ao4:Type:=(Int×(List Int)×(List Int)×(Ar9×(List Int)×(List Int)×I7))
abbrev Ao5:Type:=((Int×Int)×Bb×Ao4)
abbrev Ao6:Type:=((List Int)×Ar9×(List Int)×I7)
abbrev Ao7:Type:=(Int×Bb×Int×(List Int)×Ao6)
abbrev Ahq:Type:=((List Int)×(List Int)×(List Int)×Md)
abbrev Q2:Type:=(Int×(List Int)×Ar9×Int×Ahq)
abbrev Ao8:Type:=((Int×Int×Int×Aoy)×Bb×Q2)
abbrev Ao9:Type:=((Int×Int×Int×Int)×Bb×Q2)
abbrev Apa:Type:=(Int×Bb×Q2)
abbrev Aux:Type:=(Int×Int×Int×Int×Int×Int)
abbrev Apb:Type:=(Int×Ar9×Int×(List Int)×Ahq)
abbrev Apc:Type:=(Aux×Bb×Apb)
abbrev Auy:Type:=((Int×Int×Int)×Bb×Apb)
abbrev Apd:Type:=((Int×Int)×Bb×Apb)
abbrev Wb:Type:=(Int×H3)
abbrev Q3:Type:=(Int×(List Int)×I7)
abbrev Auz:Type:=((List Int)×(List Int)×(List Int)×((List Nb)×(List Q0)×(List Int)×I7))
abbrev Au0:Type:=(Adg×(List Bool)×(List Int)×Auz)
abbrev Ape:Type:=(Aux×Int×(List Int)×Int×Au0)
abbrev Au1:Type:=(Ao0×Int×(List Int)×Int×Au0)
abbrev Au2:Type:=((List Int)×Int×Adg×(List Int)×Auz)
abbrev Apf:Type:=((Int×Int×Int×Int)×Int×Au2)
abbrev Adn:Type:=((Int×Int)×Int×Au2)
abbrev Td:Type:=((Int×Int×Int)×Dp×Bb×Int×H3)
abbrev Au3:Type:=((Int×Int)×Dp×Bb×Int×H3)
abbrev Apg:Type:=(Ao0×Dp×Bb×Int×H3)
abbrev Ado:Type:=((Int×Int×Int×Int)×Dp×Bb×Int×H3)
abbrev Ahr:Type:=((Int×Int×Int×Int)×Dp×Int×H3)
abbrev Api:Type:=((List Int)×Int×(Int×Int×Int×(List Int)×Tc))
abbrev Apj:Type:=((List Int)×Tc)
abbrev Apk:Type:=((List Int)×(List Int)×(List Int)×Ahq)
abbrev Te:Type:=((List Int)×(List Int)×(List Int)×Apk)
abbrev Apl:Type:=((Int×(List Int)×Int×Tc)×Bb×Int×Int×Te)
abbrev Au4:Type:=(E9×Bb×Int×Int×Te)
abbrev Apm:Type:=((Int×(List Int)×Aoy)×Bb×Int×Int×Te)
abbrev Adq:Type:=((Int×Auv)×Bb×Int×Int×Te)
abbrev Ahs:Type:=(Int×(List Int)×Int×Int×Int)
abbrev Au5:Type:=(Ahs×Bb×Int×Int×Te)
abbrev Adr:Type:=((Int×((List Int)×Int×Int×Int×Int×Int×Int))×Bb×Int×Int×Te)
abbrev Au6:Type:=((List Int)×Int×Int×Int×Int×Int)
abbrev Apn:Type:=((Int×Au6)×Bb×Int×Int×Te)
abbrev Yv:Type:=(Int×(List Int)×(List Int)×Apk)
abbrev Ads:Type:=((Int×Int)×Bb×Int×Yv)
abbrev Au7:Type:=((Int×Int×Int)×Bb×Int×Yv)
abbrev Ib:Type:=((Int×Int)×(List Int)×Md)
abbrev Apo:Type:=((List Int)×Int×((List Int)×(List Int)×(List Int)×((List Int)×(List Int)×(List Int)×Int)))
abbrev App:Type:=(Apo×Int×(List Int)×Int×Int)
abbrev Tf:Type:=((Int×Int)×(List Int)×(List Int)×Md)
abbrev Apq:Type:=((Int×Aus)×Tf)
abbrev Yw:Type:=((Int×(List Int)×Int)×Tf)
abbrev Au8:Type:=((List Int)×Int×Int×Int×Int)
abbrev Adt:Type:=((Int×Au8)×Tf)
abbrev Wc:Type:=(Int×(Int×Int)×(List Int)×Md)
abbrev Au9:Type:=(Bool×(Int×Int)×(List Int)×Md)
abbrev Adu:Type:=((Int×Int)×(List Int)×(List Int)×Apk)
abbrev Apr:Type:=((Int×Int)×Bb×Int×Adu)
abbrev Aps:Type:=((Int×Int×Int)×(List Int)×Int×Md)
abbrev Ava:Type:=(Int×(List Int)×Int×Md)
abbrev Avb:Type:=((Bool×Int)×(List Int)×Int×Md)
abbrev Apt:Type:=(E9×(List Int)×Int×Md)
abbrev Et:Type:=((List Int)×Int×Md)
abbrev Avc:Type:=((Int×Bool)×Et×((List Int)×Int×(List Int)×(List Int))×(List Int))
abbrev Avd:Type:=((Int×Bool)×(List Int)×Int×Md)
abbrev Apu:Type:=(Dp×(List Int))
abbrev Apv:Type:=(Dp×Et×(List Int))
abbrev Aht:Type:=(Et×(List Int))
abbrev Yx:Type:=((Int×Int)×Et×(List Int))
abbrev Adv:Type:=((Int×Int)×H3)
abbrev Apw:Type:=((Int×Int×Int)×H3)
abbrev Apx:Type:=((List Int)×(List Int)×Int×Int)
abbrev Tg:Type:=(Et×(List Int)×Int×Md)
abbrev Wd:Type:=(Int×(List Int)×(List Int)×Ahq)
abbrev Ahu:Type:=(Au8×Int×Wd)
abbrev Yy:Type:=(((List Int)×Int×Int×Int)×Int×Wd)
abbrev Apy:Type:=(((List Int)×Bool×Int×Int×Int)×Int×Wd)
abbrev Ave:Type:=(((List Int)×Bool)×Int×Wd)
abbrev Avf:Type:=(((List Int)×Int)×Int×Int×Int×((List Int)×(List Int)×(List Int)×Te))
abbrev Avg:Type:=(((List Int)×(List Int)×Int)×Int×(List Int)×I7)
abbrev zr0:(Bool×(List ty2)):=(false,([]:List ty2))
abbrev zr2:(Int×Int):=((0:Int),(0:Int))
abbrev zr3:(ty0×(Int×(Int×Int))):=(([]:List (Int×Int)),((0:Int),zr2))
abbrev zr5:ty7:=((0:Int),((0:Int),(([]:List Bool),zr2)))
abbrev zr6:ty5:=(([]:List ty4),(0:Int))
abbrev zr7:(Int×(Int×ty0)):=((0:Int),((0:Int),([]:List (Int×Int))))
abbrev zr8:(Bool×(Bool×Int)):=(false,(false,(0:Int)))
variable{R:Type}
def F.ja:Dp->(E9->Option R)->Option R
 | (x1,x2,x3),k=>
 bif decide (x2>=(z8 x1:Int)) then
  k (0,x1,x2,x3)
 else
  chk (inB (Aa .i64 ((Aa .i64 (x2+1))-1)) (z8 x1))<|
  k (Aa .i64 (zA x1 (z9 (Aa .i64 ((Aa .i64 (x2+1))-1))) (0:Int)),x1,Aa .i64 (x2+1),x3)
def F.aa:E9->(E9->Option R)->Option R
 | (x1,x2,x3,x4),k=>
 bif decide (x1<=1) then
  k (0,x2,x3,x4)
 else
  bif decide (x1<=256) then
   F.ja (x2,x3,x4) λ(r5,r6,r7,r8)=>
   chk (!(x1==0))<|
   k (zG r5 x1,r6,r7,r8)
  else
   F.ja (x2,x3,x4) λ(r9,r10,r11,r12)=>
   F.ja (r10,r11,r12) λ(r13,r14,r15,r16)=>
   chk (!(x1==0))<|
   k (zG (Aa .i64 ((Aa .i64 (r9*256))+r13)) x1,r14,r15,r16)
def F.pz:Dp->(E9->Option R)->Option R
 | (x1,x2,x3),k=>
 F.aa (10,x1,x2,x3) λ(r4,r5,r6,r7)=>
 bif r4==9 then
  k (2,r5,r6,r7)
 else
  bif r4==7 then
   k (1,r5,r6,r7)
  else
   bif r4==8 then k (1,r5,r6,r7) else k (0,r5,r6,r7)
def F.gi(N:Nat):Tt->(Tt->Option R)->(Adm->Option R)->Option R
 | ((x12,x13),(x14,x15,x16),x17,x18,x19,x20,x21,x22,x23,x24,x25,x26),next,ke0=>
 bif decide (x13<6) then
  F.aa (x18,x14,x15,x16) λ(r27,r28,r29,r30)=>
  chk (inB (Aa .i64 (97+x13)) (z8 x23))<|
  next ((x12,Aa .i64 (x13+1)),(r28,r29,r30),x17,x18,x19,x20,x21,x22,zE x23 (z9 (Aa .i64 (97+x13))) r27,x24,x25,x26)
 else
  ke0 (x12,(x14,x15,x16),x17,x18,x19,x20,x21,x22,x23,x24,x25,x26)
def F.ux(N:Nat):Nat->Tt->(Adm->Option R)->Option R:=lp (F.gi N)
def F.gj(N:Nat):Wx->(Wx->Option R)->(Tt->Option R)->Option R
 | ((x193,x194,x195),(x196,x197,x198),x199,x200,x201,x202,x203,x204,x205,x206,x207,x208),next,ke4=>
 bif decide (x195<x200) then
  F.aa (x193,x196,x197,x198) λ(r209,r210,r211,r212)=>
  chk (zB (z8 x206+z8 [r209]) (Ar 8))<|
  next ((x193,x194,Aa .i64 (x195+1)),(r210,r211,r212),x199,x200,x201,x202,x203,x204,x205,x206++[r209],x207,x208)
 else
  ke4 ((x193,x194),(x196,x197,x198),x199,x200,x201,x202,x203,x204,x205,x206,x207,x208)
def F.uy(N:Nat):Nat->Wx->(Tt->Option R)->Option R:=lp (F.gj N)
def F.mb(N:Nat)(next:Tt->Option R):(Aak->Option R)->Wx->Option R
 | ke2,((w232,w233,w234),(w235,w236,w237),w238,w239,w240,w241,w242,w243,w244,w245,w246,w247)=>
 chk (zB (z8 w246+z8 [w234]) (Ar 8))<|
 F.aa (4,w235,w236,w237) λ(r248,r249,r250,r251)=>
 bif r248==3 then
  F.aa (3,r249,r250,r251) λ(r252,r253,r254,r255)=>
  chk (zB (z8 w247+z8 [Aa .i64 (r252-1)]) (Ar 8))<|
  next ((w232,Aa .i64 (w233+1)),(r253,r254,r255),w238,w239,w240,w241,w242,w243,w244,w245,w246++[w234],w247++[Aa .i64 (r252-1)])
 else
  chk (zB (z8 w247+z8 [w234]) (Ar 8))<|
  next ((w232,Aa .i64 (w233+1)),(r249,r250,r251),w238,w239,w240,w241,w242,w243,w244,w245,w246++[w234],w247++[w234])
def F.gk(N:Nat):Tt->(Tt->Option R)->(Aak->Option R)->Option R
 | ((x178,x179),(x180,x181,x182),x183,x184,x185,x186,x187,x188,x189,x190,x191,x192),next,ke2=>
 bif decide (x179<x178) then
  F.uy N N ((x178,x179,0),(x180,x181,x182),x183,x184,x185,x186,x187,x188,x189,x190,x191,x192) λ((y213,y214),(y215,y216,y217),y218,y219,y220,y221,y222,y223,y224,y225,y226,y227)=>
  F.aa (6,y215,y216,y217) λ(r228,r229,r230,r231)=>
  bif decide ((Aa .i64 (r228-3))<(-1)) then
   jn (F.mb N next ke2) ((y213,y214,(-1)),(r229,r230,r231),y218,y219,y220,y221,y222,y223,y224,y225,y226,y227)
  else
   jn (F.mb N next ke2) ((y213,y214,Aa .i64 (r228-3)),(r229,r230,r231),y218,y219,y220,y221,y222,y223,y224,y225,y226,y227)
 else
  ke2 ((x180,x181,x182),x183,x184,x185,x186,x187,x188,x189,x190,x191,x192)
def F.ru(N:Nat):Nat->Tt->(Aak->Option R)->Option R:=lp (F.gk N)
def F.dw(N:Nat):Dp->(Afz->Option R)->Option R
 | (x1,x2,x3),k=>
 F.aa (13,x1,x2,x3) λ(r4,r5,r6,r7)=>
 F.aa (4,r5,r6,r7) λ(r8,r9,r10,r11)=>
 chk (decide (0<=256))<|
 chk (zB (z9 256) (Ar 8))<|
 F.ux N N ((Aa .i64 (2+r4),0),(r9,r10,r11),0,Aa .i64 (2+r8),([]:List Int),([]:List Int),([]:List Int),([]:List Int),zF (z9 256) (0:Int),([]:List Int),([]:List Int),([]:List Int)) λ(y31,(y32,y33,y34),y35,y36,y37,y38,y39,y40,y41,y42,y43,y44)=>
 F.aa (3,y32,y33,y34) λ(r45,r46,r47,r48)=>
 bif r45==2 then
  F.aa (256,r46,r47,r48) λ(r49,r50,r51,r52)=>
  F.aa (y36,r50,r51,r52) λ(r53,r54,r55,r56)=>
  chk (inB r49 (z8 y41))<|
  F.ru N N ((y31,0),(r54,r55,r56),y35,y36,y37,y38,y39,y40,zE y41 (z9 r49) r53,y42,y43,y44) λ((y272,y273,y274),y275,y276,y277,y278,y279,y280,y281,y282,y283,y284)=>
  k (y276,(y272,y273,y274),y281,y282,y283,y284)
 else
  F.ru N N ((y31,0),(r46,r47,r48),y35,y36,y37,y38,y39,y40,y41,y42,y43,y44) λ((y285,y286,y287),y288,y289,y290,y291,y292,y293,y294,y295,y296,y297)=>
  k (y289,(y285,y286,y287),y294,y295,y296,y297)
def F.lm(N:Nat)(next:Adp->Option R):(Tu->Option R)->((Int×Int×Int×Int×Bool)×Aph)->Option R
 | ke0,((w82,w83,w84,w85,w86),(w87,w88,w89),w90,w91,w92)=>
 bif w86 then
  chk (zB (z8 w91+z8 [(5,(([]:List (Int×Int)),(0,(0,Aa .i64 (w83+1)))))]) (Ar 56))<|
  next ((w82,Aa .i64 (w83+1),w84,Aa .i64 (w85+1)),(w87,w88,w89),w90,w91++[(5,(([]:List (Int×Int)),(0,(0,Aa .i64 (w83+1)))))],w92)
 else
  F.aa (3,w87,w88,w89) λ(r93,r94,r95,r96)=>
  F.aa (2,r94,r95,r96) λ(r97,r98,r99,r100)=>
  chk (zB (z8 w91+z8 [(1,([(Aa .i64 (97+r93),Aa .i64 ((Aa .i64 (97+r93))+r97))],(0,(0,0))))]) (Ar 56))<|
  next ((Aa .i64 (w82+1),w83,w84,Aa .i64 (w85+1)),(r98,r99,r100),w90,w91++[(1,([(Aa .i64 (97+r93),Aa .i64 ((Aa .i64 (97+r93))+r97))],(0,(0,0))))],w92)
def F.ln(N:Nat)(next:Adp->Option R):(Tu->Option R)->Asa->Option R
 | ke0,((w66,w67,w68,w69,w70,w71),(w72,w73,w74),w75,w76,w77)=>
 bif w71 then
  F.aa (2,w72,w73,w74) λ(r78,r79,r80,r81)=>
  chk (zB (z8 w76+z8 [(4,(([]:List (Int×Int)),(r78,((-1),0))))]) (Ar 56))<|
  next ((w66,w67,w68,Aa .i64 (w69+1)),(r79,r80,r81),w75,w76++[(4,(([]:List (Int×Int)),(r78,((-1),0))))],w77)
 else
  bif decide (w66>=1) then
   jn (F.lm N next ke0) ((w66,w67,w68,w69,w70==5),(w72,w73,w74),w75,w76,w77)
  else
   jn (F.lm N next ke0) ((w66,w67,w68,w69,false),(w72,w73,w74),w75,w76,w77)
def F.lq(N:Nat)(next:Adp->Option R):(Tu->Option R)->Asa->Option R
 | ke0,((w46,w47,w48,w49,w50,w51),(w52,w53,w54),w55,w56,w57)=>
 bif w51 then
  F.aa (3,w52,w53,w54) λ(r58,r59,r60,r61)=>
  F.aa (3,r59,r60,r61) λ(r62,r63,r64,r65)=>
  chk (zB (z8 w56+z8 [(4,(([]:List (Int×Int)),(r58,(Aa .i64 (r58+r62),0))))]) (Ar 56))<|
  next ((w46,w47,w48,Aa .i64 (w49+1)),(r63,r64,r65),w55,w56++[(4,(([]:List (Int×Int)),(r58,(Aa .i64 (r58+r62),0))))],w57)
 else
  bif decide (w46>=1) then
   jn (F.ln N next ke0) ((w46,w47,w48,w49,w50,w50==4),(w52,w53,w54),w55,w56,w57)
  else
   jn (F.ln N next ke0) ((w46,w47,w48,w49,w50,false),(w52,w53,w54),w55,w56,w57)
def F.lr(N:Nat)(next:Adp->Option R):(Tu->Option R)->Asa->Option R
 | ke0,((w34,w35,w36,w37,w38,w39),(w40,w41,w42),w43,w44,w45)=>
 bif w39 then
  chk (zB (z8 w44+z8 [(3,(([]:List (Int×Int)),(0,(0,0))))]) (Ar 56))<|
  next ((Aa .i64 (w34-1),w35,w36,Aa .i64 (w37+1)),(w40,w41,w42),w43,w44++[(3,(([]:List (Int×Int)),(0,(0,0))))],w45)
 else
  bif decide (w34>=1) then
   jn (F.lq N next ke0) ((w34,w35,w36,w37,w38,w38==3),(w40,w41,w42),w43,w44,w45)
  else
   jn (F.lq N next ke0) ((w34,w35,w36,w37,w38,false),(w40,w41,w42),w43,w44,w45)
def F.lu(N:Nat)(next:Adp->Option R):(Tu->Option R)->Asa->Option R
 | ke0,((w22,w23,w24,w25,w26,w27),(w28,w29,w30),w31,w32,w33)=>
 bif w27 then
  chk (zB (z8 w32+z8 [(2,(([]:List (Int×Int)),(0,(0,0))))]) (Ar 56))<|
  next ((Aa .i64 (w22-1),w23,w24,Aa .i64 (w25+1)),(w28,w29,w30),w31,w32++[(2,(([]:List (Int×Int)),(0,(0,0))))],w33)
 else
  bif decide (w22>=2) then
   jn (F.lr N next ke0) ((w22,w23,w24,w25,w26,w26==2),(w28,w29,w30),w31,w32,w33)
  else
   jn (F.lr N next ke0) ((w22,w23,w24,w25,w26,false),(w28,w29,w30),w31,w32,w33)
def F.cg(N:Nat):Adp->(Adp->Option R)->(Tu->Option R)->Option R
 | ((x8,x9,x10,x11),(x12,x13,x14),x15,x16,x17),next,ke0=>
 bif decide (x11<x10) then
  F.aa (6,x12,x13,x14) λ(r18,r19,r20,r21)=>
  bif decide (x8>=2) then
   jn (F.lu N next ke0) ((x8,x9,x10,x11,r18,r18==1),(r19,r20,r21),x15,x16,x17)
  else
   jn (F.lu N next ke0) ((x8,x9,x10,x11,r18,false),(r19,r20,r21),x15,x16,x17)
 else
  ke0 ((x8,x9),(x12,x13,x14),x15,x16,x17)
def F.th(N:Nat):Nat->Adp->(Tu->Option R)->Option R:=lp (F.cg N)
def F.cj(N:Nat):Tu->(Tu->Option R)->(Tu->Option R)->Option R
 | ((x159,x160),(x161,x162,x163),x164,x165,x166),next,ke2=>
 bif decide (x159>1) then
  F.aa (3,x161,x162,x163) λ(r167,r168,r169,r170)=>
  bif r167==2 then
   chk (zB (z8 x165+z8 [(3,(([]:List (Int×Int)),(0,(0,0))))]) (Ar 56))<|
   next ((Aa .i64 (x159-1),x160),(r168,r169,r170),x164,x165++[(3,(([]:List (Int×Int)),(0,(0,0))))],x166)
  else
   chk (zB (z8 x165+z8 [(2,(([]:List (Int×Int)),(0,(0,0))))]) (Ar 56))<|
   next ((Aa .i64 (x159-1),x160),(r168,r169,r170),x164,x165++[(2,(([]:List (Int×Int)),(0,(0,0))))],x166)
 else
  ke2 ((x159,x160),(x161,x162,x163),x164,x165,x166)
def F.tj(N:Nat):Nat->Tu->(Tu->Option R)->Option R:=lp (F.cj N)
def F.kf(N:Nat):(Aw1->Option R)->(Int×Aph)->Option R
 | k,(w188,(w189,w190,w191),w192,w193,w194)=>
 F.aa (6,w189,w190,w191) λ(r195,r196,r197,r198)=>
 F.aa (6,r196,r197,r198) λ(r199,r200,r201,r202)=>
 chk (zB (z8 ([]:List ty4)+z8 [(r195==5,(r199==5,w193))]) (Ar 32))<|
 F.aa (4,r200,r201,r202) λ(r203,r204,r205,r206)=>
 bif r203==3 then
  chk (zB (z8 (([]:List ty4)++[(r195==5,(r199==5,w193))])+z8 [(false,(false,[(1,([(97,97)],(0,(0,0))))]))]) (Ar 32))<|
  k (w188,(r204,r205,r206),(([]:List ty4)++[(r195==5,(r199==5,w193))])++[(false,(false,[(1,([(97,97)],(0,(0,0))))]))])
 else
  k (w188,(r204,r205,r206),([]:List ty4)++[(r195==5,(r199==5,w193))])
def F.qa(N:Nat):Dp->(Aw1->Option R)->Option R
 | (x1,x2,x3),k=>
 F.aa (12,x1,x2,x3) λ(r4,r5,r6,r7)=>
 F.th N N ((0,0,Aa .i64 (1+r4),0),(r5,r6,r7),0,([]:List ty2),([]:List ty4)) λ((y151,y152),(y153,y154,y155),y156,y157,y158)=>
 F.tj N N ((y151,y152),(y153,y154,y155),y156,y157,y158) λ((y180,y181),(y182,y183,y184),y185,y186,y187)=>
 bif y180==0 then
  chk (zB (z8 y186+z8 [(1,(([]:List (Int×Int)),(0,(0,0))))]) (Ar 56))<|
  jn (F.kf N k) (y181,(y182,y183,y184),y185,y186++[(1,(([]:List (Int×Int)),(0,(0,0))))],y187)
 else
  jn (F.kf N k) (y181,(y182,y183,y184),y185,y186,y187)
def F.oh:Int->(Int->Option R)->Option R
 | x1,k=>
 bif x1==2 then
  k 2
 else
  bif x1==3 then
   k 2
  else
   bif x1==4 then
    k 1
   else
    bif x1==5 then k 1 else k 0
def F.qb(N:Nat)(next:Asb->Option R):((I7->Option R)×(Aw2->Option R))->Ayf->Option R
 | (ke0,kret),((w10,w11,w12,w13,w14,w15),w16,w17,w18,w19,w20,w21,w22,w23)=>
 F.oh w19 λ r24=>
 bif decide (r24>=1) then
  chk (inB (Aa .i64 ((z8 w18:Int)-1)) (z8 w18))<|
  chk (decide (0<=(Aa .i64 ((z8 w18:Int)-1)))&&decide ((Aa .i64 ((z8 w18:Int)-1))<=(z8 w18:Int)))<|
  chk (zB (z8 w16+z8 [zA w18 (z9 (Aa .i64 ((z8 w18:Int)-1))) (0:Int)]) (Ar 8))<|
  chk (zB (z8 w17+z8 [w12]) (Ar 8))<|
  chk (zB (z8 (zC ((z9 (Aa .i64 ((z8 w18:Int)-1)))-0) (zD 0 w18))+z8 [w10]) (Ar 8))<|
  next ((w13,w14,Aa .i64 (w15+1)),w16++[zA w18 (z9 (Aa .i64 ((z8 w18:Int)-1))) (0:Int)],w17++[w12],(zC ((z9 (Aa .i64 ((z8 w18:Int)-1)))-0) (zD 0 w18))++[w10])
 else
  chk (zB (z8 w16+z8 [w11]) (Ar 8))<|
  chk (zB (z8 w17+z8 [w12]) (Ar 8))<|
  chk (zB (z8 w18+z8 [w10]) (Ar 8))<|
  next ((w13,w14,Aa .i64 (w15+1)),w16++[w11],w17++[w12],w18++[w10])
def F.bq(N:Nat):Asb->(Asb->Option R)->((I7->Option R)×(Aw2->Option R))->Option R
 | ((x2,x3,x4),x5,x6,x7),next,(ke0,kret)=>
 bif decide (x4<x3) then
  chk (inB x4 (z8 x2))<|
  F.oh ((zA x2 (z9 x4) ((0:Int),zr3)).1) λ r8=>
  bif decide ((z8 x7:Int)<r8) then
   kret (false,x5,x6,x7)
  else
   F.oh ((zA x2 (z9 x4) ((0:Int),zr3)).1) λ r9=>
   bif r9==2 then
    chk (inB (Aa .i64 ((z8 x7:Int)-1)) (z8 x7))<|
    chk (decide (0<=(Aa .i64 ((z8 x7:Int)-1)))&&decide ((Aa .i64 ((z8 x7:Int)-1))<=(z8 x7:Int)))<|
    jn (F.qb N next (ke0,kret)) ((x4,(-1),zA x7 (z9 (Aa .i64 ((z8 x7:Int)-1))) (0:Int),x2,x3,x4),x5,x6,zC ((z9 (Aa .i64 ((z8 x7:Int)-1)))-0) (zD 0 x7),(zA x2 (z9 x4) ((0:Int),zr3)).1,((zA x2 (z9 x4) ((0:Int),zr3)).2).1,(((zA x2 (z9 x4) ((0:Int),zr3)).2).2).1,((((zA x2 (z9 x4) ((0:Int),zr3)).2).2).2).1,((((zA x2 (z9 x4) ((0:Int),zr3)).2).2).2).2)
   else
    jn (F.qb N next (ke0,kret)) ((x4,(-1),(-1),x2,x3,x4),x5,x6,x7,(zA x2 (z9 x4) ((0:Int),zr3)).1,((zA x2 (z9 x4) ((0:Int),zr3)).2).1,(((zA x2 (z9 x4) ((0:Int),zr3)).2).2).1,((((zA x2 (z9 x4) ((0:Int),zr3)).2).2).2).1,((((zA x2 (z9 x4) ((0:Int),zr3)).2).2).2).2)
 else
  ke0 (x5,x6,x7)
def F.wo(N:Nat):Nat->Asb->((I7->Option R)×(Aw2->Option R))->Option R:=lp (F.bq N)
def F.ao(N:Nat):(List ty2)->(Ayg->Option R)->Option R
 | x1,k=>
 F.wo N N ((x1,(z8 x1:Int),0),([]:List Int),([]:List Int),([]:List Int)) (λ(y34,y35,y36)=>
  k ((z8 y36:Int)==1,y34,y35),
  λ(y37,y38,y39,y40)=>
  k (y37,y38,y39))
def F.pm:Asc->(Int->Option R)->Option R
 | (x1,x2,x3,x4,x5),k=>
 bif x4==(-1) then
  k (Aa .i64 (x3+1))
 else
  bif decide (x4<1) then k 1 else k x4
def F.ah(N:Nat)(next:Asd->Option R):(Aw3->Option R)->(((List ty2)×Int×(List ty2)×Int×Int)×I7)->Option R
 | ke0,((w46,w47,w48,w49,w50),w51,w52,w53)=>
 chk (inB w47 (z8 w53))<|
 bif decide ((zA w53 (z9 w47) (0:Int))>2000) then
  chk (inB w47 (z8 w53))<|
  next ((w46,w48,w49,Aa .i64 (w50+1)),w51,w52,zE w53 (z9 w47) 2001)
 else
  next ((w46,w48,w49,Aa .i64 (w50+1)),w51,w52,w53)
def F.be(N:Nat):Asd->(Asd->Option R)->(Aw3->Option R)->Option R
 | ((x5,x6,x7,x8),x9,x10,x11),next,ke0=>
 bif decide (x8<x7) then
  chk (inB x8 (z8 x6))<|
  bif((zA x6 (z9 x8) ((0:Int),zr3)).1)==1 then
   chk (inB x8 (z8 x11))<|
   jn (F.ah N next ke0) ((x5,x8,x6,x7,x8),x9,x10,zE x11 (z9 x8) 1)
  else
   bif((zA x6 (z9 x8) ((0:Int),zr3)).1)==2 then
    bif((zA x6 (z9 x8) ((0:Int),zr3)).1)==2 then
     chk (inB x8 (z8 x9))<|
     chk (inB (zA x9 (z9 x8) (0:Int)) (z8 x11))<|
     chk (inB x8 (z8 x10))<|
     chk (inB (zA x10 (z9 x8) (0:Int)) (z8 x11))<|
     chk (inB x8 (z8 x11))<|
     jn (F.ah N next ke0) ((x5,x8,x6,x7,x8),x9,x10,zE x11 (z9 x8) (Aa .i64 ((zA x11 (z9 (zA x9 (z9 x8) (0:Int))) (0:Int))+(zA x11 (z9 (zA x10 (z9 x8) (0:Int))) (0:Int)))))
    else
     bif((zA x6 (z9 x8) ((0:Int),zr3)).1)==4 then
      chk (inB x8 (z8 x9))<|
      chk (inB (zA x9 (z9 x8) (0:Int)) (z8 x11))<|
      F.pm ((zA x6 (z9 x8) ((0:Int),zr3)).1,((zA x6 (z9 x8) ((0:Int),zr3)).2).1,(((zA x6 (z9 x8) ((0:Int),zr3)).2).2).1,((((zA x6 (z9 x8) ((0:Int),zr3)).2).2).2).1,((((zA x6 (z9 x8) ((0:Int),zr3)).2).2).2).2) λ r12=>
      chk (inB x8 (z8 x11))<|
      jn (F.ah N next ke0) ((x5,x8,x6,x7,x8),x9,x10,zE x11 (z9 x8) (Aa .i64 ((zA x11 (z9 (zA x9 (z9 x8) (0:Int))) (0:Int))*r12)))
     else
      bif((zA x6 (z9 x8) ((0:Int),zr3)).1)==5 then
       chk (inB x8 (z8 x9))<|
       chk (inB (zA x9 (z9 x8) (0:Int)) (z8 x11))<|
       chk (inB x8 (z8 x11))<|
       jn (F.ah N next ke0) ((x5,x8,x6,x7,x8),x9,x10,zE x11 (z9 x8) (zA x11 (z9 (zA x9 (z9 x8) (0:Int))) (0:Int)))
      else
       jn (F.ah N next ke0) ((x5,x8,x6,x7,x8),x9,x10,x11)
   else
    bif((zA x6 (z9 x8) ((0:Int),zr3)).1)==3 then
     chk (inB x8 (z8 x9))<|
     chk (inB (zA x9 (z9 x8) (0:Int)) (z8 x11))<|
     chk (inB x8 (z8 x10))<|
     chk (inB (zA x10 (z9 x8) (0:Int)) (z8 x11))<|
     chk (inB x8 (z8 x11))<|
     jn (F.ah N next ke0) ((x5,x8,x6,x7,x8),x9,x10,zE x11 (z9 x8) (Aa .i64 ((zA x11 (z9 (zA x9 (z9 x8) (0:Int))) (0:Int))+(zA x11 (z9 (zA x10 (z9 x8) (0:Int))) (0:Int)))))
    else
     bif((zA x6 (z9 x8) ((0:Int),zr3)).1)==4 then
      chk (inB x8 (z8 x9))<|
      chk (inB (zA x9 (z9 x8) (0:Int)) (z8 x11))<|
      F.pm ((zA x6 (z9 x8) ((0:Int),zr3)).1,((zA x6 (z9 x8) ((0:Int),zr3)).2).1,(((zA x6 (z9 x8) ((0:Int),zr3)).2).2).1,((((zA x6 (z9 x8) ((0:Int),zr3)).2).2).2).1,((((zA x6 (z9 x8) ((0:Int),zr3)).2).2).2).2) λ r29=>
      chk (inB x8 (z8 x11))<|
      jn (F.ah N next ke0) ((x5,x8,x6,x7,x8),x9,x10,zE x11 (z9 x8) (Aa .i64 ((zA x11 (z9 (zA x9 (z9 x8) (0:Int))) (0:Int))*r29)))
     else
      bif((zA x6 (z9 x8) ((0:Int),zr3)).1)==5 then
       chk (inB x8 (z8 x9))<|
       chk (inB (zA x9 (z9 x8) (0:Int)) (z8 x11))<|
       chk (inB x8 (z8 x11))<|
       jn (F.ah N next ke0) ((x5,x8,x6,x7,x8),x9,x10,zE x11 (z9 x8) (zA x11 (z9 (zA x9 (z9 x8) (0:Int))) (0:Int)))
      else
       jn (F.ah N next ke0) ((x5,x8,x6,x7,x8),x9,x10,x11)
 else
  ke0 (x5,x11)
def F.uz(N:Nat):Nat->Asd->(Aw3->Option R)->Option R:=lp (F.be N)
def F.pp(N:Nat):(List ty2)->(Int->Option R)->Option R
 | x1,k=>
 F.ao N x1 λ(r2,r3,r4)=>
 bif !r2 then
  k 0
 else
  chk (decide (0<=(z8 x1:Int)))<|
  chk (zB (z9 (z8 x1:Int)) (Ar 8))<|
  F.uz N N ((x1,x1,(z8 x1:Int),0),r3,r4,zF (z9 (z8 x1:Int)) (0:Int)) λ(y61,y62)=>
  chk (inB (Aa .i64 ((z8 y61:Int)-1)) (z8 y62))<|
  k (zA y62 (z9 (Aa .i64 ((z8 y61:Int)-1))) (0:Int))
def F.ap(N:Nat):Ase->(Ase->Option R)->(Int->Option R)->Option R
 | (x3,x4,x5,x6),next,ke0=>
 bif decide (x6<x5) then
  chk (inB x6 (z8 x4))<|
  F.pp N (((zA x4 (z9 x6) (false,zr0)).2).2) λ r7=>
  next (Aa .i64 (x3+r7),x4,x5,Aa .i64 (x6+1))
 else
  ke0 x3
def F.xb(N:Nat):Nat->Ase->(Int->Option R)->Option R:=lp (F.ap N)
def F.ak(N:Nat):ty5->(Int->Option R)->Option R
 | (x1,x2),k=>
 F.xb N N (0,x1,(z8 x1:Int),0) λ y8=>
 k y8
def F.mc(N:Nat)(rw0:E9->(Em->Option R)->Option R)(next:Asf->Option R):(Em->Option R)->((Int×List UInt8×Bool)×(List Int)×Int×Int)->Option R
 | ke0,((w18,w19,w20),w21,w22,w23)=>
 bif w20 then
  rw0 (w18,w21,w22,w23) λ(r24,r25,r26,r27)=>
  chk (zB (z8 [124]+z8 r24) big)<|
  chk (zB (z8 w19+z8 ([124]++r24)) big)<|
  next ((w18,w19++([124]++r24)),r25,r26,r27)
 else
  ke0 (w19,w21,w22,w23)
def F.cn(N:Nat)(rw0:E9->(Em->Option R)->Option R):Asf->(Asf->Option R)->(Em->Option R)->Option R
 | ((x9,x10),x11,x12,x13),next,ke0=>
 bif decide (x13>0) then
  F.aa (3,x11,x12,x13) λ(r14,r15,r16,r17)=>
  jn (F.mc N rw0 next ke0) ((x9,x10,r14==1),r15,r16,r17)
 else
  jn (F.mc N rw0 next ke0) ((x9,x10,false),x11,x12,x13)
def F.xj(N:Nat)(rw0:E9->(Em->Option R)->Option R):Nat->Asf->(Em->Option R)->Option R:=lp (F.cn N rw0)
def F.qc(N:Nat)(rw0:E9->(Em->Option R)->Option R):E9->(Em->Option R)->Option R
 | (x1,x2,x3,x4),k=>
 rw0 (x1,x2,x3,x4) λ(r5,r6,r7,r8)=>
 F.xj N rw0 N ((x1,r5),r6,r7,r8) λ(y28,y29,y30,y31)=>
 k (y28,y29,y30,y31)
def F.qd:Dp->(Em->Option R)->Option R
 | (x1,x2,x3),k=>
 F.aa ((z8 [[97],[98],[99],[97],[98],[97,98],[91,97,98,93],[46],[91,94,97,93],[91,97,45,99,93],[91,98,45,93],[91,91,58,100,105,103,105,116,58,93,93],[49],[92,46],[91,93,97,93],[91,94,91,58,97,108,112,104,97,58,93,98,93],[91,91,58,120,100,105,103,105,116,58,93,45,93],[91,97,45,99,98,45,102,93],[45],[125],[91,94,93,45,97,93],[92,92],[91,91,58,117,112,112,101,114,58,93,91,58,115,112,97,99,101,58,93,120,93],[91,92,93]]:Int),x1,x2,x3) λ(r4,r5,r6,r7)=>
 chk (inB r4 (z8 [[97],[98],[99],[97],[98],[97,98],[91,97,98,93],[46],[91,94,97,93],[91,97,45,99,93],[91,98,45,93],[91,91,58,100,105,103,105,116,58,93,93],[49],[92,46],[91,93,97,93],[91,94,91,58,97,108,112,104,97,58,93,98,93],[91,91,58,120,100,105,103,105,116,58,93,45,93],[91,97,45,99,98,45,102,93],[45],[125],[91,94,93,45,97,93],[92,92],[91,91,58,117,112,112,101,114,58,93,91,58,115,112,97,99,101,58,93,120,93],[91,92,93]]))<|
 k (zA [[97],[98],[99],[97],[98],[97,98],[91,97,98,93],[46],[91,94,97,93],[91,97,45,99,93],[91,98,45,93],[91,91,58,100,105,103,105,116,58,93,93],[49],[92,46],[91,93,97,93],[91,94,91,58,97,108,112,104,97,58,93,98,93],[91,91,58,120,100,105,103,105,116,58,93,45,93],[91,97,45,99,98,45,102,93],[45],[125],[91,94,93,45,97,93],[92,92],[91,91,58,117,112,112,101,114,58,93,91,58,115,112,97,99,101,58,93,120,93],[91,92,93]] (z9 r4) ([]:List UInt8),r5,r6,r7)
def F.me:Dp->(Em->Option R)->Option R
 | (x1,x2,x3),k=>
 F.aa ((z8 [[],[],[],[42],[43],[63],[123,50,125],[123,49,44,50,125],[123,48,44,50,125],[123,50,44,125],[123,48,125],[42],[63],[123,49,44,51,125],[123,48,44,125],[123,48,51,125]]:Int),x1,x2,x3) λ(r4,r5,r6,r7)=>
 chk (inB r4 (z8 [[],[],[],[42],[43],[63],[123,50,125],[123,49,44,50,125],[123,48,44,50,125],[123,50,44,125],[123,48,125],[42],[63],[123,49,44,51,125],[123,48,44,125],[123,48,51,125]]))<|
 k (zA [[],[],[],[42],[43],[63],[123,50,125],[123,49,44,50,125],[123,48,44,50,125],[123,50,44,125],[123,48,125],[42],[63],[123,49,44,51,125],[123,48,44,125],[123,48,51,125]] (z9 r4) ([]:List UInt8),r5,r6,r7)
def F.gl(N:Nat)(rw0:E9->(Em->Option R)->Option R)(next:Apz->Option R):(Em->Option R)->Ax1->Option R
 | ke0,((w28,w29,w30,w31,w32),w33,w34,w35)=>
 bif w32 then
  F.qc N rw0 (Aa .i64 (w28+1),w33,w34,w35) λ(r36,r37,r38,r39)=>
  chk (zB (z8 [40]+z8 r36) big)<|
  chk (zB (z8 ([40]++r36)+z8 [41]) big)<|
  chk (zB (z8 w29+z8 (([40]++r36)++[41])) big)<|
  F.me (r37,r38,r39) λ(r55,r56,r57,r58)=>
  chk (zB (z8 (w29++(([40]++r36)++[41]))+z8 r55) big)<|
  next ((w28,(w29++(([40]++r36)++[41]))++r55,w30,Aa .i64 (w31+1)),r56,r57,r58)
 else
  F.qd (w33,w34,w35) λ(r40,r41,r42,r43)=>
  chk (zB (z8 w29+z8 r40) big)<|
  F.me (r41,r42,r43) λ(r59,r60,r61,r62)=>
  chk (zB (z8 (w29++r40)+z8 r59) big)<|
  next ((w28,(w29++r40)++r59,w30,Aa .i64 (w31+1)),r60,r61,r62)
def F.dq(N:Nat)(rw0:E9->(Em->Option R)->Option R)(next:Apz->Option R):(Em->Option R)->Ax1->Option R
 | ke0,((w16,w17,w18,w19,w20),w21,w22,w23)=>
 bif w20 then
  bif decide (w16<3) then
   bif decide ((Aa .i64 (w23-1))>0) then
    F.aa (3,w21,w22,Aa .i64 (w23-1)) λ(r24,r25,r26,r27)=>
    jn (F.gl N rw0 next ke0) ((w16,w17,w18,w19,r24==1),r25,r26,r27)
   else
    jn (F.gl N rw0 next ke0) ((w16,w17,w18,w19,false),w21,w22,Aa .i64 (w23-1))
  else
   jn (F.gl N rw0 next ke0) ((w16,w17,w18,w19,false),w21,w22,Aa .i64 (w23-1))
 else
  ke0 (w17,w21,w22,w23)
def F.ec(N:Nat)(rw0:E9->(Em->Option R)->Option R):Apz->(Apz->Option R)->(Em->Option R)->Option R
 | ((x9,x10,x11,x12),x13,x14,x15),next,ke0=>
 bif decide (x12<x11) then
  bif x12==0 then
   jn (F.dq N rw0 next ke0) ((x9,x10,x11,x12,true),x13,x14,x15)
  else
   jn (F.dq N rw0 next ke0) ((x9,x10,x11,x12,decide (x15>0)),x13,x14,x15)
 else
  jn (F.dq N rw0 next ke0) ((x9,x10,x11,x12,false),x13,x14,x15)
def F.xo(N:Nat)(rw0:E9->(Em->Option R)->Option R):Nat->Apz->(Em->Option R)->Option R:=lp (F.ec N rw0)
def F.oz(N:Nat)(rw0:E9->(Em->Option R)->Option R):E9->(Em->Option R)->Option R
 | (x1,x2,x3,x4),k=>
 F.aa (4,x2,x3,x4) λ(r5,r6,r7,r8)=>
 F.xo N rw0 N ((x1,[],Aa .i64 (1+r5),0),r6,r7,r8) λ(y63,y64,y65,y66)=>
 k (y63,y64,y65,y66)
def F.kj(N:Nat):Nat->E9->(Em->Option R)->Option R:=rc (F.oz N)
def F.gb(N:Nat)(next:Aal->Option R):((Em->Option R)×(Aje->Option R))->Aal->Option R
 | (ke0,kret),((w39,w40),w41,w42,w43)=>
 bif decide (w43<=0) then
  kret ((w39,w39),w41,w42,w43)
 else
  F.aa (3,w41,w42,w43) λ(r44,r45,r46,r47)=>
  bif r44 !=1 then kret ((w39,w39),r45,r46,r47) else next ((w39,Aa .i64 (w40+1)),r45,r46,r47)
def F.bp(N:Nat)(next:Aal->Option R):((Em->Option R)×(Aje->Option R))->((List UInt8×Int×Bool)×(List Int)×Int×Int)->Option R
 | (ke0,kret),((w33,w34,w35),w36,w37,w38)=>
 bif w35 then
  chk (zB (z8 w33+z8 [36]) big)<|
  jn (F.gb N next (ke0,kret)) ((w33++[36],w34),w36,w37,w38)
 else
  jn (F.gb N next (ke0,kret)) ((w33,w34),w36,w37,w38)
def F.gc(N:Nat)(next:Aal->Option R):((Em->Option R)×(Aje->Option R))->(We×(List Int)×Int×Int)->Option R
 | (ke0,kret),((w19,w20,w21),w22,w23,w24)=>
 F.kj N N (0,w22,w23,w24) λ(r25,r26,r27,r28)=>
 chk (zB (z8 w19+z8 r25) big)<|
 bif w21==7 then
  jn (F.bp N next (ke0,kret)) ((w19++r25,w20,true),r26,r27,r28)
 else
  bif w21==6 then
   F.aa (2,r26,r27,r28) λ(r29,r30,r31,r32)=>
   jn (F.bp N next (ke0,kret)) ((w19++r25,w20,r29==1),r30,r31,r32)
  else
   jn (F.bp N next (ke0,kret)) ((w19++r25,w20,false),r26,r27,r28)
def F.gg(N:Nat)(next:Aal->Option R):((Em->Option R)×(Aje->Option R))->Aal->Option R
 | (ke0,kret),((w10,w11),w12,w13,w14)=>
 F.aa (8,w12,w13,w14) λ(r15,r16,r17,r18)=>
 bif r15==6 then
  chk (zB (z8 w10+z8 [94]) big)<|
  jn (F.gc N next (ke0,kret)) ((w10++[94],w11,r15),r16,r17,r18)
 else
  jn (F.gc N next (ke0,kret)) ((w10,w11,r15),r16,r17,r18)
def F.bj(N:Nat):Aal->(Aal->Option R)->((Em->Option R)×(Aje->Option R))->Option R
 | ((x5,x6),x7,x8,x9),next,(ke0,kret)=>
 bif decide (x6<4) then
  bif decide (x6>0) then
   chk (zB (z8 x5+z8 [124]) big)<|
   jn (F.gg N next (ke0,kret)) ((x5++[124],x6),x7,x8,x9)
  else
   jn (F.gg N next (ke0,kret)) ((x5,x6),x7,x8,x9)
 else
  ke0 (x5,x7,x8,x9)
def F.wq(N:Nat):Nat->Aal->((Em->Option R)×(Aje->Option R))->Option R:=lp (F.bj N)
def F.mf(N:Nat):E9->(Em->Option R)->Option R
 | (x1,x2,x3,x4),k=>
 F.wq N N (([],0),x2,x3,x1) (λ(y54,y55,y56,y57)=>
  k (y54,y55,y56,y57),
  λ((y58,y59),y60,y61,y62)=>
  k (y58,y60,y61,y62))
def F.af:Ajf->(Bool->Option R)->Option R
 | (x1,x2,x3),k=>
 bif decide (x2<=x1) then k (decide (x1<=x3)) else k false
def F.je(N:Nat):We->(We->Option R)->((Int->Option R)×((Int×Int)->Option R))->Option R
 | (x11,x12,x13),next,(ke0,kret)=>
 bif decide (x13<(z8 x11:Int)) then
  chk (inB x13 (z8 x11))<|
  F.af (Aa .i64 (Aq x11 x13),48,57) λ r14=>
  bif !r14 then
   kret ((-1),x12)
  else
   chk (inB x13 (z8 x11))<|
   next (x11,Aa .i64 ((Aa .i64 (x12*10))+(Aa .i64 (Aa .u8 ((Aq x11 x13)-48)))),Aa .i64 (x13+1))
 else
  ke0 x12
def F.yg(N:Nat):Nat->We->((Int->Option R)×((Int×Int)->Option R))->Option R:=lp (F.je N)
def F.oi(N:Nat):List UInt8->(Int->Option R)->Option R
 | x1,k=>
 bif decide ((z8 x1:Int)<1) then
  k (-1)
 else
  bif decide ((z8 x1:Int)>3) then
   k (-1)
  else
   F.yg N N (x1,0,0) (λ y15=>
    bif decide (y15>255) then k (-1) else k y15,
    λ(y16,y17)=>
    k y16)
def F.co(N:Nat):We->(We->Option R)->(We->Option R)->Option R
 | (x3,x4,x5),next,ke0=>
 bif decide (x5<(z8 x3:Int)) then
  chk (inB x5 (z8 x3))<|
  bif(Aq x3 x5) !=125 then next (x3,x4,Aa .i64 (x5+1)) else ke0 (x3,x4,x5)
 else
  ke0 (x3,x4,x5)
def F.xk(N:Nat):Nat->We->(We->Option R)->Option R:=lp (F.co N)
def F.cq(N:Nat):Asg->(Asg->Option R)->(Ap0->Option R)->Option R
 | (x13,x14,x15,x16),next,ke2=>
 bif decide (x16>=0) then
  chk (inB x16 (z8 x14))<|
  bif(Aq x14 x16)==44 then next (x13,x14,x16,Aa .i64 (x16-1)) else next (x13,x14,x15,Aa .i64 (x16-1))
 else
  ke2 (x13,x14,x15)
def F.xm(N:Nat):Nat->Asg->(Ap0->Option R)->Option R:=lp (F.cq N)
def F.bo(N:Nat):Ap1->(Ajf->Option R)->Option R
 | (x1,x2),k=>
 F.xk N N (x1,x2,x2) λ(y10,y11,y12)=>
 bif y12==(z8 y10:Int) then
  k (0,0,(-1))
 else
  chk (decide (0<=y12)&&decide (y12<=(z8 y10:Int)))<|
  chk (decide (0<=(Aa .i64 (y11+1)))&&decide ((Aa .i64 (y11+1))<=y12))<|
  F.xm N N (y12,zD (z9 (Aa .i64 (y11+1))) (zC (z9 y12) y10),(-1),Aa .i64 ((z8 (zD (z9 (Aa .i64 (y11+1))) (zC (z9 y12) y10)):Int)-1)) λ(y21,y22,y23)=>
  bif decide (y23<0) then
   F.oi N y22 λ r24=>
   bif decide (r24<0) then k (0,0,(-1)) else k (r24,r24,Aa .i64 (y21+1))
  else
   chk (decide (0<=y23)&&decide (y23<=(z8 y22:Int)))<|
   F.oi N (zD 0 (zC (z9 y23) y22)) λ r25=>
   bif decide (r25<0) then
    k (0,0,(-1))
   else
    bif y23==(Aa .i64 ((z8 y22:Int)-1)) then
     k (r25,(-1),Aa .i64 (y21+1))
    else
     chk (decide (0<=(Aa .i64 (y23+1)))&&decide ((Aa .i64 (y23+1))<=(z8 y22:Int)))<|
     F.oi N (zD (z9 (Aa .i64 (y23+1))) (zC (z8 y22) y22)) λ r26=>
     bif decide (r26<r25) then k (0,0,(-1)) else k (r25,r26,Aa .i64 (y21+1))
def F.dx:Ap1->(Int->Option R)->Option R
 | (x1,x2),k=>
 bif decide (x2<0) then
  k (-1)
 else
  bif decide (x2>=(z8 x1:Int)) then
   k (-1)
  else
   chk (inB x2 (z8 x1))<|
   k (Aa .i64 (Aq x1 x2))
def F.qz:Unit->((List (List UInt8))->Option R)->Option R
 | _,k=>
 k [[97,108,112,104,97],[100,105,103,105,116],[97,108,110,117,109],[117,112,112,101,114],[108,111,119,101,114],[115,112,97,99,101],[98,108,97,110,107],[112,117,110,99,116],[120,100,105,103,105,116]]
def F.qm:Ap1->(Bool->Option R)->Option R
 | (x1,x2),k=>
 F.af (x2,65,90) λ r3=>
 F.af (x2,97,122) λ r4=>
 F.af (x2,48,57) λ r5=>
 bif x1==[97,108,112,104,97] then
  bif r3 then k true else k r4
 else
  bif x1==[100,105,103,105,116] then
   k r5
  else
   bif x1==[97,108,110,117,109] then
    bif r3 then
     k true
    else
     bif r4 then k true else k r5
   else
    bif x1==[117,112,112,101,114] then
     k r3
    else
     bif x1==[108,111,119,101,114] then
      k r4
     else
      bif x1==[115,112,97,99,101] then
       F.af (x2,9,13) λ r8=>
       bif r8 then k true else k (x2==32)
      else
       bif x1==[98,108,97,110,107] then
        bif x2==9 then k true else k (x2==32)
       else
        bif x1==[112,117,110,99,116] then
         F.af (x2,33,126) λ r11=>
         bif r11 then
          bif !r3 then
           bif !r4 then k (!r5) else k false
          else
           k false
         else
          k false
        else
         bif x1==[120,100,105,103,105,116] then
          bif r5 then
           k true
          else
           F.af (x2,65,70) λ r13=>
           bif r13 then
            k true
           else
            F.af (x2,97,102) λ r14=>
            k r14
         else
          k false
def F.ef(N:Nat):Ajg->(Ajg->Option R)->(Wy->Option R)->Option R
 | ((x160,x161),x162),next,ke2=>
 bif decide (x161<256) then
  chk (inB x161 (z8 x162))<|
  chk (inB x161 (z8 x162))<|
  next ((x160,Aa .i64 (x161+1)),zE x162 (z9 x161) (!(zA x162 (z9 x161) false)))
 else
  ke2 (x160,x162)
def F.ud(N:Nat):Nat->Ajg->(Wy->Option R)->Option R:=lp (F.ef N)
def F.eg(N:Nat):Ap2->(Ap2->Option R)->(Ap2->Option R)->Option R
 | ((x182,x183,x184,x185,x186),x187),next,ke4=>
 bif decide ((Aa .i64 (x186+1))<(z8 x182:Int)) then
  chk (inB x186 (z8 x182))<|
  bif(Aq x182 x186)==58 then
   chk (inB (Aa .i64 (x186+1)) (z8 x182))<|
   bif !((Aq x182 (Aa .i64 (x186+1)))==93) then next ((x182,x183,x184,x185,Aa .i64 (x186+1)),x187) else ke4 ((x182,x183,x184,x185,x186),x187)
  else
   next ((x182,x183,x184,x185,Aa .i64 (x186+1)),x187)
 else
  ke4 ((x182,x183,x184,x185,x186),x187)
def F.ue(N:Nat):Nat->Ap2->(Ap2->Option R)->Option R:=lp (F.eg N)
def F.eh(N:Nat):Aw4->(Aw4->Option R)->(Ax2->Option R)->Option R
 | ((x202,x203,x204,x205,x206,x207,x208,x209),x210,x211),next,ke6=>
 bif decide (x209<x208) then
  chk (inB x209 (z8 x211))<|
  bif(zA x211 (z9 x209) ([]:List UInt8))==x206 then next ((x202,x203,x204,x205,x206,true,x208,Aa .i64 (x209+1)),x210,x211) else next ((x202,x203,x204,x205,x206,x207,x208,Aa .i64 (x209+1)),x210,x211)
 else
  ke6 ((x202,x203,x204,x205,x206,x207),x210)
def F.uf(N:Nat):Nat->Aw4->(Ax2->Option R)->Option R:=lp (F.eh N)
def F.ej(N:Nat):Aw5->(Aw5->Option R)->(((List UInt8×Bool×Int×Int)×(List Bool))->Option R)->Option R
 | ((x229,x230,x231,x232,x233,x234),x235),next,ke8=>
 bif decide (x234<256) then
  F.qm (x233,x234) λ r236=>
  bif r236 then
   chk (inB x234 (z8 x235))<|
   next ((x229,x230,x231,x232,x233,Aa .i64 (x234+1)),zE x235 (z9 x234) true)
  else
   next ((x229,x230,x231,x232,x233,Aa .i64 (x234+1)),x235)
 else
  ke8 ((x229,x230,x231,x232),x235)
def F.ug(N:Nat):Nat->Aw5->(((List UInt8×Bool×Int×Int)×(List Bool))->Option R)->Option R:=lp (F.ej N)
def F.ct(N:Nat):Ash->(Ash->Option R)->(Wz->Option R)->Option R
 | ((x275,x276,x277,x278,x279,x280),x281),next,ke10=>
 bif decide (x280<=x279) then
  chk (inB x280 (z8 x281))<|
  next ((x275,x276,x277,x278,x279,Aa .i64 (x280+1)),zE x281 (z9 x280) true)
 else
  ke10 ((x275,x276,x277,x278),x281)
def F.tn(N:Nat):Nat->Ash->(Wz->Option R)->Option R:=lp (F.ct N)
def F.eo(N:Nat)(next:Wz->Option R):(((List Bool)->Option R)×(Wy->Option R))->Ash->Option R
 | (ke0,kret),((w268,w269,w270,w271,w272,w273),w274)=>
 F.tn N N ((w268,w269,w270,w271,w273,w272),w274) λ((y282,y283,y284,y285),y286)=>
 next ((y282,Aa .i64 (y283+1),y284,y285),y286)
def F.gn(N:Nat)(next:Wz->Option R):(((List Bool)->Option R)×(Wy->Option R))->((List UInt8×Int×(Bool×Int×Int×Int×Int×Bool))×(List Bool))->Option R
 | (ke0,kret),((w250,w251,w252,w253,w254,w255,w256,w257),w258)=>
 bif w257 then
  F.dx (w250,Aa .i64 (w251+3)) λ r259=>
  bif w256==91 then
   bif r259==46 then
    kret ((-1),w258)
   else
    bif r259==61 then
     kret ((-1),w258)
    else
     bif r259==58 then
      kret ((-1),w258)
     else
      bif decide (w256<w254) then
       kret ((-1),w258)
      else
       jn (F.eo N next (ke0,kret)) ((w250,Aa .i64 (w251+2),w252,w253,w254,w256),w258)
  else
   bif decide (w256<w254) then
    kret ((-1),w258)
   else
    jn (F.eo N next (ke0,kret)) ((w250,Aa .i64 (w251+2),w252,w253,w254,w256),w258)
 else
  jn (F.eo N next (ke0,kret)) ((w250,w251,w252,w253,w254,w255),w258)
def F.mg(N:Nat)(next:Wz->Option R):(((List Bool)->Option R)×(Wy->Option R))->((List UInt8×Int×Bool×Int×Int×Bool)×(List Bool))->Option R
 | (ke0,kret),((w175,w176,w177,w178,w179,w180),w181)=>
 bif w180 then
  F.ue N N ((w175,w176,w177,w178,Aa .i64 (w176+2)),w181) λ((y195,y196,y197,y198,y199),y200)=>
  bif decide ((Aa .i64 (y199+1))>=(z8 y195:Int)) then
   kret ((-1),y200)
  else
   chk (decide (0<=y199)&&decide (y199<=(z8 y195:Int)))<|
   chk (decide (0<=(Aa .i64 (y196+2)))&&decide ((Aa .i64 (y196+2))<=y199))<|
   F.qz () λ r201=>
   F.uf N N ((y195,y197,y198,y199,zD (z9 (Aa .i64 (y196+2))) (zC (z9 y199) y195),false,(z8 r201:Int),0),y200,r201) λ((y222,y223,y224,y225,y226,y227),y228)=>
   bif !y227 then
    kret ((-1),y228)
   else
    F.ug N N ((y222,y223,y224,y225,y226,0),y228) λ((y244,y245,y246,y247),y248)=>
    next ((y244,Aa .i64 (y247+2),y245,y246),y248)
 else
  chk (inB w176 (z8 w175))<|
  F.dx (w175,Aa .i64 (w176+2)) λ r249=>
  bif w179==45 then
   bif decide (r249>=0) then
    jn (F.gn N next (ke0,kret)) ((w175,w176,w177,w178,Aa .i64 (Aq w175 w176),Aa .i64 (Aq w175 w176),r249,r249 !=93),w181)
   else
    jn (F.gn N next (ke0,kret)) ((w175,w176,w177,w178,Aa .i64 (Aq w175 w176),Aa .i64 (Aq w175 w176),r249,false),w181)
  else
   jn (F.gn N next (ke0,kret)) ((w175,w176,w177,w178,Aa .i64 (Aq w175 w176),Aa .i64 (Aq w175 w176),r249,false),w181)
def F.gp(N:Nat)(next:Wz->Option R):(((List Bool)->Option R)×(Wy->Option R))->((List UInt8×Int×Bool×Int×Int×Bool)×(List Bool))->Option R
 | (ke0,kret),((w168,w169,w170,w171,w172,w173),w174)=>
 bif w173 then
  kret ((-1),w174)
 else
  chk (inB w169 (z8 w168))<|
  bif(Aq w168 w169)==91 then
   jn (F.mg N next (ke0,kret)) ((w168,w169,w170,w171,w172,w172==58),w174)
  else
   jn (F.mg N next (ke0,kret)) ((w168,w169,w170,w171,w172,false),w174)
def F.mh(N:Nat)(next:Wz->Option R):(((List Bool)->Option R)×(Wy->Option R))->((List UInt8×Int×Bool×Int×Bool)×(List Bool))->Option R
 | (ke0,kret),((w154,w155,w156,w157,w158),w159)=>
 bif w158 then
  bif w156 then
   F.ud N N ((w155,0),w159) λ(y163,y164)=>
   kret (Aa .i64 (y163+1),y164)
  else
   kret (Aa .i64 (w155+1),w159)
 else
  F.dx (w154,Aa .i64 (w155+1)) λ r167=>
  chk (inB w155 (z8 w154))<|
  bif(Aq w154 w155)==91 then
   bif r167==46 then
    jn (F.gp N next (ke0,kret)) ((w154,w155,w156,w157,r167,true),w159)
   else
    jn (F.gp N next (ke0,kret)) ((w154,w155,w156,w157,r167,r167==61),w159)
  else
   jn (F.gp N next (ke0,kret)) ((w154,w155,w156,w157,r167,false),w159)
def F.er(N:Nat):Wz->(Wz->Option R)->(((List Bool)->Option R)×(Wy->Option R))->Option R
 | ((x149,x150,x151,x152),x153),next,(ke0,kret)=>
 bif decide (x150<(z8 x149:Int)) then
  chk (inB x150 (z8 x149))<|
  bif(Aq x149 x150)==93 then
   jn (F.mh N next (ke0,kret)) ((x149,x150,x151,x152,decide (x150>x152)),x153)
  else
   jn (F.mh N next (ke0,kret)) ((x149,x150,x151,x152,false),x153)
 else
  ke0 x153
def F.ra(N:Nat):Nat->Wz->(((List Bool)->Option R)×(Wy->Option R))->Option R:=lp (F.er N)
def F.br(N:Nat):Ap1->(Wy->Option R)->Option R
 | (x1,x2),k=>
 chk (decide (0<=256))<|
 chk (zB (z9 256) (Ar 1))<|
 F.dx (x1,Aa .i64 (x2+1)) λ r3=>
 bif r3==94 then
  F.ra N N ((x1,Aa .i64 ((Aa .i64 (x2+1))+1),r3==94,Aa .i64 ((Aa .i64 (x2+1))+1)),zF (z9 256) false) (λ y287=>
   k ((-1),y287),
   λ(y288,y289)=>
   k (y288,y289))
 else
  F.ra N N ((x1,Aa .i64 (x2+1),r3==94,Aa .i64 (x2+1)),zF (z9 256) false) (λ y290=>
   k ((-1),y290),
   λ(y291,y292)=>
   k (y291,y292))
def F.jf(N:Nat):Ajg->(Ajg->Option R)->((List Bool)->Option R)->Option R
 | ((x3,x4),x5),next,ke0=>
 bif decide (x4<=x3) then
  chk (inB x4 (z8 x5))<|
  next ((x3,Aa .i64 (x4+1)),zE x5 (z9 x4) true)
 else
  ke0 x5
def F.yh(N:Nat):Nat->Ajg->((List Bool)->Option R)->Option R:=lp (F.jf N)
def F.aj(N:Nat):(Int×Int)->((List Bool)->Option R)->Option R
 | (x1,x2),k=>
 chk (decide (0<=256))<|
 chk (zB (z9 256) (Ar 1))<|
 F.yh N N ((x2,x1),zF (z9 256) false) λ y6=>
 k y6
def F.bu(N:Nat):Ap0->(Ap0->Option R)->((Unit->Option R)×(Bool->Option R))->Option R
 | (x2,x3,x4),next,(ke0,kret)=>
 bif decide (x4<(z8 x3:Int)) then
  chk (inB x4 (z8 x3))<|
  bif(Aa .i64 (Aq x3 x4))==x2 then kret true else next (x2,x3,Aa .i64 (x4+1))
 else
  ke0 ()
def F.xg(N:Nat):Nat->Ap0->((Unit->Option R)×(Bool->Option R))->Option R:=lp (F.bu N)
def F.bf(N:Nat):Int->(Bool->Option R)->Option R
 | x1,k=>
 F.xg N N (x1,[92,94,46,91,93,36,40,41,124,42,43,63,123,125],0) (λ _=>
  k false,
  λ y5=>
  k y5)
def F.ae(N:Nat)(next:Asi->Option R):(((List ty7)->Option R)×(Aw6->Option R))->(We×(List ty7)×((Int×Int×Int×Int)×(List Bool)))->Option R
 | (ke0,kret),((w79,w80,w81),w82,(w83,w84,w85,w86),w87)=>
 chk (zB (z8 w82+z8 [(w83,(w84,(w87,(w85,w86))))]) (Ar 56))<|
 next ((w79,w80,w81),w82++[(w83,(w84,(w87,(w85,w86))))])
def F.mi(N:Nat):Asi->(Asi->Option R)->(((List ty7)->Option R)×(Aw6->Option R))->Option R
 | ((x2,x3,x4),x5),next,(ke0,kret)=>
 bif decide (x4<(z8 x2:Int)) then
  chk (inB x4 (z8 x2))<|
  bif(Aq x2 x4)==94 then
   bif(Aq x2 x4)==94 then
    chk (zB (z8 x5+z8 [(Aq x2 x4,(x4,(([]:List Bool),(0,0))))]) (Ar 56))<|
    next ((x2,x3,Aa .i64 (x4+1)),x5++[(Aq x2 x4,(x4,(([]:List Bool),(0,0))))])
   else
    bif(Aq x2 x4)==40 then
     jn (F.ae N next (ke0,kret)) ((x2,Aa .i64 (x3+1),Aa .i64 (x4+1)),x5,(Aq x2 x4,x4,Aa .i64 (x3+1),0),([]:List Bool))
    else
     bif(Aq x2 x4)==42 then
      jn (F.ae N next (ke0,kret)) ((x2,x3,Aa .i64 (x4+1)),x5,(114,x4,0,(-1)),([]:List Bool))
     else
      bif(Aq x2 x4)==43 then
       jn (F.ae N next (ke0,kret)) ((x2,x3,Aa .i64 (x4+1)),x5,(114,x4,1,(-1)),([]:List Bool))
      else
       bif(Aq x2 x4)==63 then
        jn (F.ae N next (ke0,kret)) ((x2,x3,Aa .i64 (x4+1)),x5,(114,x4,0,1),([]:List Bool))
       else
        bif(Aq x2 x4)==123 then
         F.bo N (x2,x4) λ(r6,r7,r8)=>
         bif decide (r8<0) then
          kret ((4,x4),x5)
         else
          jn (F.ae N next (ke0,kret)) ((x2,x3,r8),x5,(114,x4,r6,r7),([]:List Bool))
        else
         bif(Aq x2 x4)==91 then
          F.br N (x2,x4) λ(r9,r10)=>
          bif decide (r9<0) then
           kret ((3,x4),x5)
          else
           jn (F.ae N next (ke0,kret)) ((x2,x3,r9),x5,(97,x4,0,0),r10)
         else
          bif(Aq x2 x4)==46 then
           F.aj N (0,255) λ r11=>
           jn (F.ae N next (ke0,kret)) ((x2,x3,Aa .i64 (x4+1)),x5,(97,x4,0,0),r11)
          else
           bif(Aq x2 x4)==92 then
            F.dx (x2,Aa .i64 (x4+1)) λ r12=>
            F.bf N r12 λ r13=>
            bif !r13 then
             kret ((2,x4),x5)
            else
             F.aj N (r12,r12) λ r14=>
             jn (F.ae N next (ke0,kret)) ((x2,x3,Aa .i64 (x4+2)),x5,(97,x4,0,0),r14)
           else
            F.aj N (Aa .i64 (Aq x2 x4),Aa .i64 (Aq x2 x4)) λ r15=>
            jn (F.ae N next (ke0,kret)) ((x2,x3,Aa .i64 (x4+1)),x5,(97,x4,0,0),r15)
  else
   bif(Aq x2 x4)==36 then
    bif(Aq x2 x4)==36 then
     chk (zB (z8 x5+z8 [(Aq x2 x4,(x4,(([]:List Bool),(0,0))))]) (Ar 56))<|
     next ((x2,x3,Aa .i64 (x4+1)),x5++[(Aq x2 x4,(x4,(([]:List Bool),(0,0))))])
    else
     bif(Aq x2 x4)==40 then
      jn (F.ae N next (ke0,kret)) ((x2,Aa .i64 (x3+1),Aa .i64 (x4+1)),x5,(Aq x2 x4,x4,Aa .i64 (x3+1),0),([]:List Bool))
     else
      bif(Aq x2 x4)==42 then
       jn (F.ae N next (ke0,kret)) ((x2,x3,Aa .i64 (x4+1)),x5,(114,x4,0,(-1)),([]:List Bool))
      else
       bif(Aq x2 x4)==43 then
        jn (F.ae N next (ke0,kret)) ((x2,x3,Aa .i64 (x4+1)),x5,(114,x4,1,(-1)),([]:List Bool))
       else
        bif(Aq x2 x4)==63 then
         jn (F.ae N next (ke0,kret)) ((x2,x3,Aa .i64 (x4+1)),x5,(114,x4,0,1),([]:List Bool))
        else
         bif(Aq x2 x4)==123 then
          F.bo N (x2,x4) λ(r88,r89,r90)=>
          bif decide (r90<0) then
           kret ((4,x4),x5)
          else
           jn (F.ae N next (ke0,kret)) ((x2,x3,r90),x5,(114,x4,r88,r89),([]:List Bool))
         else
          bif(Aq x2 x4)==91 then
           F.br N (x2,x4) λ(r91,r92)=>
           bif decide (r91<0) then
            kret ((3,x4),x5)
           else
            jn (F.ae N next (ke0,kret)) ((x2,x3,r91),x5,(97,x4,0,0),r92)
          else
           bif(Aq x2 x4)==46 then
            F.aj N (0,255) λ r93=>
            jn (F.ae N next (ke0,kret)) ((x2,x3,Aa .i64 (x4+1)),x5,(97,x4,0,0),r93)
           else
            bif(Aq x2 x4)==92 then
             F.dx (x2,Aa .i64 (x4+1)) λ r94=>
             F.bf N r94 λ r95=>
             bif !r95 then
              kret ((2,x4),x5)
             else
              F.aj N (r94,r94) λ r96=>
              jn (F.ae N next (ke0,kret)) ((x2,x3,Aa .i64 (x4+2)),x5,(97,x4,0,0),r96)
            else
             F.aj N (Aa .i64 (Aq x2 x4),Aa .i64 (Aq x2 x4)) λ r97=>
             jn (F.ae N next (ke0,kret)) ((x2,x3,Aa .i64 (x4+1)),x5,(97,x4,0,0),r97)
   else
    bif(Aq x2 x4)==41 then
     bif(Aq x2 x4)==41 then
      chk (zB (z8 x5+z8 [(Aq x2 x4,(x4,(([]:List Bool),(0,0))))]) (Ar 56))<|
      next ((x2,x3,Aa .i64 (x4+1)),x5++[(Aq x2 x4,(x4,(([]:List Bool),(0,0))))])
     else
      bif(Aq x2 x4)==40 then
       jn (F.ae N next (ke0,kret)) ((x2,Aa .i64 (x3+1),Aa .i64 (x4+1)),x5,(Aq x2 x4,x4,Aa .i64 (x3+1),0),([]:List Bool))
      else
       bif(Aq x2 x4)==42 then
        jn (F.ae N next (ke0,kret)) ((x2,x3,Aa .i64 (x4+1)),x5,(114,x4,0,(-1)),([]:List Bool))
       else
        bif(Aq x2 x4)==43 then
         jn (F.ae N next (ke0,kret)) ((x2,x3,Aa .i64 (x4+1)),x5,(114,x4,1,(-1)),([]:List Bool))
        else
         bif(Aq x2 x4)==63 then
          jn (F.ae N next (ke0,kret)) ((x2,x3,Aa .i64 (x4+1)),x5,(114,x4,0,1),([]:List Bool))
         else
          bif(Aq x2 x4)==123 then
           F.bo N (x2,x4) λ(r161,r162,r163)=>
           bif decide (r163<0) then
            kret ((4,x4),x5)
           else
            jn (F.ae N next (ke0,kret)) ((x2,x3,r163),x5,(114,x4,r161,r162),([]:List Bool))
          else
           bif(Aq x2 x4)==91 then
            F.br N (x2,x4) λ(r164,r165)=>
            bif decide (r164<0) then
             kret ((3,x4),x5)
            else
             jn (F.ae N next (ke0,kret)) ((x2,x3,r164),x5,(97,x4,0,0),r165)
           else
            bif(Aq x2 x4)==46 then
             F.aj N (0,255) λ r166=>
             jn (F.ae N next (ke0,kret)) ((x2,x3,Aa .i64 (x4+1)),x5,(97,x4,0,0),r166)
            else
             bif(Aq x2 x4)==92 then
              F.dx (x2,Aa .i64 (x4+1)) λ r167=>
              F.bf N r167 λ r168=>
              bif !r168 then
               kret ((2,x4),x5)
              else
               F.aj N (r167,r167) λ r169=>
               jn (F.ae N next (ke0,kret)) ((x2,x3,Aa .i64 (x4+2)),x5,(97,x4,0,0),r169)
             else
              F.aj N (Aa .i64 (Aq x2 x4),Aa .i64 (Aq x2 x4)) λ r170=>
              jn (F.ae N next (ke0,kret)) ((x2,x3,Aa .i64 (x4+1)),x5,(97,x4,0,0),r170)
    else
     bif(Aq x2 x4)==124 then
      chk (zB (z8 x5+z8 [(Aq x2 x4,(x4,(([]:List Bool),(0,0))))]) (Ar 56))<|
      next ((x2,x3,Aa .i64 (x4+1)),x5++[(Aq x2 x4,(x4,(([]:List Bool),(0,0))))])
     else
      bif(Aq x2 x4)==40 then
       jn (F.ae N next (ke0,kret)) ((x2,Aa .i64 (x3+1),Aa .i64 (x4+1)),x5,(Aq x2 x4,x4,Aa .i64 (x3+1),0),([]:List Bool))
      else
       bif(Aq x2 x4)==42 then
        jn (F.ae N next (ke0,kret)) ((x2,x3,Aa .i64 (x4+1)),x5,(114,x4,0,(-1)),([]:List Bool))
       else
        bif(Aq x2 x4)==43 then
         jn (F.ae N next (ke0,kret)) ((x2,x3,Aa .i64 (x4+1)),x5,(114,x4,1,(-1)),([]:List Bool))
        else
         bif(Aq x2 x4)==63 then
          jn (F.ae N next (ke0,kret)) ((x2,x3,Aa .i64 (x4+1)),x5,(114,x4,0,1),([]:List Bool))
         else
          bif(Aq x2 x4)==123 then
           F.bo N (x2,x4) λ(r234,r235,r236)=>
           bif decide (r236<0) then
            kret ((4,x4),x5)
           else
            jn (F.ae N next (ke0,kret)) ((x2,x3,r236),x5,(114,x4,r234,r235),([]:List Bool))
          else
           bif(Aq x2 x4)==91 then
            F.br N (x2,x4) λ(r237,r238)=>
            bif decide (r237<0) then
             kret ((3,x4),x5)
            else
             jn (F.ae N next (ke0,kret)) ((x2,x3,r237),x5,(97,x4,0,0),r238)
           else
            bif(Aq x2 x4)==46 then
             F.aj N (0,255) λ r239=>
             jn (F.ae N next (ke0,kret)) ((x2,x3,Aa .i64 (x4+1)),x5,(97,x4,0,0),r239)
            else
             bif(Aq x2 x4)==92 then
              F.dx (x2,Aa .i64 (x4+1)) λ r240=>
              F.bf N r240 λ r241=>
              bif !r241 then
               kret ((2,x4),x5)
              else
               F.aj N (r240,r240) λ r242=>
               jn (F.ae N next (ke0,kret)) ((x2,x3,Aa .i64 (x4+2)),x5,(97,x4,0,0),r242)
             else
              F.aj N (Aa .i64 (Aq x2 x4),Aa .i64 (Aq x2 x4)) λ r243=>
              jn (F.ae N next (ke0,kret)) ((x2,x3,Aa .i64 (x4+1)),x5,(97,x4,0,0),r243)
 else
  ke0 x5
def F.xd(N:Nat):Nat->Asi->(((List ty7)->Option R)×(Aw6->Option R))->Option R:=lp (F.mi N)
def F.uv(N:Nat):List UInt8->(Tv->Option R)->Option R
 | x1,k=>
 F.xd N N ((x1,0,0),([]:List ty7)) (λ y307=>
  k (y307,0,0),
  λ((y308,y309),y310)=>
  k (y310,y308,y309))
def F.nt:Asj->(Int->Option R)->Option R
 | (x1,x2),k=>
 bif decide (x2<0) then
  k 46
 else
  bif decide (x2>=(z8 x1:Int)) then
   k 46
  else
   chk (inB x2 (z8 x1))<|
   k ((zA x1 (z9 x2) zr5).1)
def F.pc(N:Nat)(next:Ap3->Option R):(Int->Option R)->Ap3->Option R
 | ke0,(w7,w8,w9,w10)=>
 chk (inB w10 (z8 w7))<|
 bif((zA w7 (z9 w10) zr5).1)==41 then next (w7,w8,Aa .i64 (w9-1),Aa .i64 (w10+1)) else next (w7,w8,w9,Aa .i64 (w10+1))
def F.jg(N:Nat):Ap3->(Ap3->Option R)->(Int->Option R)->Option R
 | (x3,x4,x5,x6),next,ke0=>
 bif decide (x6<x4) then
  chk (inB x6 (z8 x3))<|
  bif((zA x3 (z9 x6) zr5).1)==40 then
   jn (F.pc N next ke0) (x3,x4,Aa .i64 (x5+1),x6)
  else
   jn (F.pc N next ke0) (x3,x4,x5,x6)
 else
  ke0 x5
def F.yi(N:Nat):Nat->Ap3->(Int->Option R)->Option R:=lp (F.jg N)
def F.gq(N:Nat):Asj->(Int->Option R)->Option R
 | (x1,x2),k=>
 F.yi N N (x1,x2,0,0) λ y15=>
 k y15
def F.jb(N:Nat):(Int->Option R)->((List ty7)×Int×Int×Int×Int×Bool)->Option R
 | k,(w6,w7,w8,w9,w10,w11)=>
 chk (inB w7 (z8 w6))<|
 bif((zA w6 (z9 w7) zr5).1)==40 then
  chk (inB w7 (z8 w6))<|
  bif decide ((((((zA w6 (z9 w7) zr5).2).2).2).1)>500) then k 9 else k 0
 else
  bif((zA w6 (z9 w7) zr5).1)==41 then
   bif w10==0 then
    k 7
   else
    bif w11 then k 6 else k 0
  else
   bif((zA w6 (z9 w7) zr5).1)==124 then
    bif w11 then k 6 else k 0
   else
    bif((zA w6 (z9 w7) zr5).1)==114 then
     bif w8 !=97 then
      bif w8 !=41 then k 6 else k 0
     else
      k 0
    else
     bif((zA w6 (z9 w7) zr5).1)==94 then
      bif w10 !=0 then
       k 5
      else
       bif decide (w7>0) then
        bif w8 !=124 then k 5 else k 0
       else
        k 0
     else
      bif((zA w6 (z9 w7) zr5).1)==36 then
       bif w10 !=0 then
        k 5
       else
        bif decide ((Aa .i64 (w7+1))<(z8 w6:Int)) then
         bif w9 !=124 then
          k 5
         else
          bif w11 then k 6 else k 0
        else
         bif w11 then k 6 else k 0
      else
       k 0
def F.sa(N:Nat):Asj->(Int->Option R)->Option R
 | (x1,x2),k=>
 F.nt (x1,Aa .i64 (x2-1)) λ r3=>
 F.nt (x1,Aa .i64 (x2+1)) λ r4=>
 F.gq N (x1,x2) λ r5=>
 bif x2==0 then
  jn (F.jb N k) (x1,x2,r3,r4,r5,true)
 else
  bif r3==40 then
   jn (F.jb N k) (x1,x2,r3,r4,r5,true)
  else
   bif r3==124 then
    jn (F.jb N k) (x1,x2,r3,r4,r5,true)
   else
    jn (F.jb N k) (x1,x2,r3,r4,r5,r3==94)
def F.cw(N:Nat):Tv->(Tv->Option R)->((Unit->Option R)×(Bool->Option R))->Option R
 | (x3,x4,x5),next,(ke0,kret)=>
 bif decide (x5<=(z8 x3:Int)) then
  chk (decide (0<=x4)&&decide (x4<=(z8 x3:Int)))<|
  F.gq N (zD (z9 x4) (zC (z8 x3) x3),Aa .i64 (x5-x4)) λ r6=>
  bif r6==0 then kret false else next (x3,x4,Aa .i64 (x5+1))
 else
  ke0 ()
def F.xn(N:Nat):Nat->Tv->((Unit->Option R)×(Bool->Option R))->Option R:=lp (F.cw N)
def F.qe(N:Nat):Asj->(Bool->Option R)->Option R
 | (x1,x2),k=>
 F.xn N N (x1,x2,Aa .i64 (x2+1)) (λ _=>
  k true,
  λ y7=>
  k y7)
def F.pd(N:Nat)(next:(Tv×ty9)->Option R):(An7->Option R)->(((List ty7)×Int×Int×Bool)×ty9)->Option R
 | ke0,((w7,w8,w9,w10),w11)=>
 bif w10 then
  chk (decide (0<=w9)&&decide (w9<=(z8 w7:Int)))<|
  chk (decide (0<=w8)&&decide (w8<=w9))<|
  chk (zB (z8 w11+z8 [zD (z9 w8) (zC (z9 w9) w7)]) (Ar 24))<|
  next ((w7,Aa .i64 (w9+1),Aa .i64 (w9+1)),w11++[zD (z9 w8) (zC (z9 w9) w7)])
 else
  next ((w7,w8,Aa .i64 (w9+1)),w11)
def F.jh(N:Nat):(Tv×ty9)->((Tv×ty9)->Option R)->(An7->Option R)->Option R
 | ((x2,x3,x4),x5),next,ke0=>
 bif decide (x4<(z8 x2:Int)) then
  chk (inB x4 (z8 x2))<|
  bif((zA x2 (z9 x4) zr5).1)==124 then
   F.gq N (x2,x4) λ r6=>
   jn (F.pd N next ke0) ((x2,x3,x4,r6==0),x5)
  else
   jn (F.pd N next ke0) ((x2,x3,x4,false),x5)
 else
  ke0 ((x2,x3),x5)
def F.yj(N:Nat):Nat->(Tv×ty9)->(An7->Option R)->Option R:=lp (F.jh N)
def F.qj(N:Nat):(List ty7)->(ty9->Option R)->Option R
 | x1,k=>
 F.yj N N ((x1,0,0),([]:List (List ty7))) λ((y16,y17),y18)=>
 chk (decide (0<=y17)&&decide (y17<=(z8 y16:Int)))<|
 chk (zB (z8 y18+z8 [zD (z9 y17) (zC (z8 y16) y16)]) (Ar 24))<|
 k (y18++[zD (z9 y17) (zC (z8 y16) y16)])
def F.kr(N:Nat):An8->(An8->Option R)->(((K4×Int)×(List ty2))->Option R)->Option R
 | ((x3,x4,x5,x6,x7),x8),next,ke0=>
 bif decide (x7<x6) then
  chk (inB x7 (z8 x5))<|
  chk (zB (z8 x8+z8 (zA x5 (z9 x7) ([]:List ty2))) (Ar 56))<|
  next ((x3,x4,x5,x6,Aa .i64 (x7+1)),x8++(zA x5 (z9 x7) ([]:List ty2)))
 else
  ke0 ((x3,x4),x8)
def F.yu(N:Nat):Nat->An8->(((K4×Int)×(List ty2))->Option R)->Option R:=lp (F.kr N)
def F.kw(N:Nat):An9->(An9->Option R)->((List ty2)->Option R)->Option R
 | ((x12,x13,x14),x15),next,ke2=>
 bif decide (x14<(z8 x12:Int)) then
  chk (zB (z8 x15+z8 [(x13,(([]:List (Int×Int)),(0,(0,0))))]) (Ar 56))<|
  next ((x12,x13,Aa .i64 (x14+1)),x15++[(x13,(([]:List (Int×Int)),(0,(0,0))))])
 else
  ke2 x15
def F.yw(N:Nat):Nat->An9->((List ty2)->Option R)->Option R:=lp (F.kw N)
def F.rg(N:Nat):(K4×Int)->((List ty2)->Option R)->Option R
 | (x1,x2),k=>
 F.yu N N ((x1,x2,x1,(z8 x1:Int),0),([]:List ty2)) λ((y9,y10),y11)=>
 F.yw N N ((y9,y10,1),y11) λ y16=>
 k y16
def F.nu(N:Nat)(next:Ahl->Option R):(ty0->Option R)->(((List Bool)×Int×Bool)×ty0)->Option R
 | ke0,((w5,w6,w7),w8)=>
 bif w7 then
  chk (inB (Aa .i64 ((z8 w8:Int)-1)) (z8 w8))<|
  next ((w5,Aa .i64 (w6+1)),zE w8 (z9 (Aa .i64 ((z8 w8:Int)-1))) ((zA w8 (z9 (Aa .i64 ((z8 w8:Int)-1))) zr2).1,w6))
 else
  chk (zB (z8 w8+z8 [(w6,w6)]) (Ar 16))<|
  next ((w5,Aa .i64 (w6+1)),w8++[(w6,w6)])
def F.gt(N:Nat):Ahl->(Ahl->Option R)->(ty0->Option R)->Option R
 | ((x2,x3),x4),next,ke0=>
 bif decide (x3<256) then
  chk (inB x3 (z8 x2))<|
  bif !(zA x2 (z9 x3) false) then
   next ((x2,Aa .i64 (x3+1)),x4)
  else
   bif decide (x3>0) then
    chk (inB (Aa .i64 (x3-1)) (z8 x2))<|
    jn (F.nu N next ke0) ((x2,x3,zA x2 (z9 (Aa .i64 (x3-1))) false),x4)
   else
    jn (F.nu N next ke0) ((x2,x3,false),x4)
 else
  ke0 x4
def F.xx(N:Nat):Nat->Ahl->(ty0->Option R)->Option R:=lp (F.gt N)
def F.ri(N:Nat):(List Bool)->(ty0->Option R)->Option R
 | x1,k=>
 F.xx N N ((x1,0),([]:List (Int×Int))) λ y12=>
 k y12
def F.mj(N:Nat)(rw1:(List ty7)->((List ty2)->Option R)->Option R):Adb->(Adb->Option R)->(Adb->Option R)->Option R
 | ((x5,x6,x7),x8),next,ke2=>
 chk (decide (0<=x6)&&decide (x6<=(z8 x5:Int)))<|
 F.gq N (zD (z9 x6) (zC (z8 x5) x5),Aa .i64 (x7-x6)) λ r9=>
 bif decide (r9>0) then next ((x5,x6,Aa .i64 (x7+1)),x8) else ke2 ((x5,x6,x7),x8)
def F.xe(N:Nat)(rw1:(List ty7)->((List ty2)->Option R)->Option R):Nat->Adb->(Adb->Option R)->Option R:=lp (F.mj N rw1)
def F.mq(N:Nat)(rw1:(List ty7)->((List ty2)->Option R)->Option R):Aoa->(Aoa->Option R)->((Tv×K4×K4)->Option R)->Option R
 | ((x15,x16,x17,x18,x19),x20,x21,x22),next,ke4=>
 bif decide (x19<x18) then
  chk (inB x19 (z8 x22))<|
  rw1 (zA x22 (z9 x19) ([]:List ty7)) λ r23=>
  chk (zB (z8 x21+z8 [r23]) (Ar 24))<|
  next ((x15,x16,x17,x18,Aa .i64 (x19+1)),x20,x21++[r23],x22)
 else
  ke4 ((x15,x16,x17),x20,x21)
def F.xf(N:Nat)(rw1:(List ty7)->((List ty2)->Option R)->Option R):Nat->Aoa->((Tv×K4×K4)->Option R)->Option R:=lp (F.mq N rw1)
def F.qn(N:Nat)(rw1:(List ty7)->((List ty2)->Option R)->Option R)(next:Ahm->Option R):(K4->Option R)->(((List ty7)×Int)×K4×(List ty2))->Option R
 | ke0,((w31,w32),w33,w34)=>
 F.nt (w31,w32) λ r35=>
 bif r35==114 then
  chk (inB w32 (z8 w31))<|
  chk (inB w32 (z8 w31))<|
  chk (zB (z8 w34+z8 [(4,(([]:List (Int×Int)),(((((zA w31 (z9 w32) zr5).2).2).2).1,(((((zA w31 (z9 w32) zr5).2).2).2).2,0))))]) (Ar 56))<|
  chk (zB (z8 w33+z8 [w34++[(4,(([]:List (Int×Int)),(((((zA w31 (z9 w32) zr5).2).2).2).1,(((((zA w31 (z9 w32) zr5).2).2).2).2,0))))]]) (Ar 24))<|
  next ((w31,Aa .i64 (w32+1)),w33++[w34++[(4,(([]:List (Int×Int)),(((((zA w31 (z9 w32) zr5).2).2).2).1,(((((zA w31 (z9 w32) zr5).2).2).2).2,0))))]])
 else
  chk (zB (z8 w33+z8 [w34]) (Ar 24))<|
  next ((w31,w32),w33++[w34])
def F.mr(N:Nat)(rw1:(List ty7)->((List ty2)->Option R)->Option R):Ahm->(Ahm->Option R)->(K4->Option R)->Option R
 | ((x2,x3),x4),next,ke0=>
 bif decide (x3<(z8 x2:Int)) then
  chk (inB x3 (z8 x2))<|
  bif((zA x2 (z9 x3) zr5).1)==40 then
   F.xe N rw1 N ((x2,x3,Aa .i64 (x3+1)),x4) λ((y10,y11,y12),y13)=>
   chk (decide (0<=(Aa .i64 (y12-1)))&&decide ((Aa .i64 (y12-1))<=(z8 y10:Int)))<|
   chk (decide (0<=(Aa .i64 (y11+1)))&&decide ((Aa .i64 (y11+1))<=(Aa .i64 (y12-1))))<|
   F.qj N (zD (z9 (Aa .i64 (y11+1))) (zC (z9 (Aa .i64 (y12-1))) y10)) λ r14=>
   F.xf N rw1 N ((y10,y11,y12,(z8 r14:Int),0),y13,([]:List (List ty2)),r14) λ((y24,y25,y26),y27,y28)=>
   F.rg N (y28,3) λ r29=>
   chk (inB y25 (z8 y24))<|
   chk (zB (z8 r29+z8 [(5,(([]:List (Int×Int)),(0,(0,((((zA y24 (z9 y25) zr5).2).2).2).1))))]) (Ar 56))<|
   jn (F.qn N rw1 next ke0) ((y24,y26),y27,r29++[(5,(([]:List (Int×Int)),(0,(0,((((zA y24 (z9 y25) zr5).2).2).2).1))))])
  else
   chk (inB x3 (z8 x2))<|
   F.ri N ((((zA x2 (z9 x3) zr5).2).2).1) λ r30=>
   chk (zB (z8 ([]:List ty2)+z8 [(1,(r30,(0,(0,0))))]) (Ar 56))<|
   jn (F.qn N rw1 next ke0) ((x2,Aa .i64 (x3+1)),x4,([]:List ty2)++[(1,(r30,(0,(0,0))))])
 else
  ke0 x4
def F.zc(N:Nat)(rw1:(List ty7)->((List ty2)->Option R)->Option R):Nat->Ahm->(K4->Option R)->Option R:=lp (F.mr N rw1)
def F.sb(N:Nat)(rw1:(List ty7)->((List ty2)->Option R)->Option R):(List ty7)->((List ty2)->Option R)->Option R
 | x1,k=>
 F.zc N rw1 N ((x1,0),([]:List (List ty2))) λ y40=>
 F.rg N (y40,2) λ r41=>
 k r41
def F.pe(N:Nat):Nat->(List ty7)->((List ty2)->Option R)->Option R:=rc (F.sb N)
def F.gu(N:Nat):Aob->(Aob->Option R)->((((List UInt8×(List ty7))×Int×(List ty4))->Option R)×(((List UInt8×Int×Int×(List ty7))×Int×(List ty4))->Option R))->Option R
 | ((x5,x6,x7,x8),x9,x10),next,(ke0,kret)=>
 bif decide (x8<x7) then
  F.sa N (x6,x8) λ r11=>
  bif r11 !=0 then
   chk (inB x8 (z8 x6))<|
   kret ((x5,r11,((zA x6 (z9 x8) zr5).2).1,x6),0,([]:List ty4))
  else
   next ((x5,x6,x7,Aa .i64 (x8+1)),x9,x10)
 else
  ke0 ((x5,x6),x9,x10)
def F.xy(N:Nat):Nat->Aob->((((List UInt8×(List ty7))×Int×(List ty4))->Option R)×(((List UInt8×Int×Int×(List ty7))×Int×(List ty4))->Option R))->Option R:=lp (F.gu N)
def F.gv(N:Nat):Adc->(Adc->Option R)->(Adc->Option R)->Option R
 | ((x23,x24),x25,x26),next,ke2=>
 chk (inB x24 (z8 x23))<|
 bif((zA x23 (z9 x24) zr5).1)==40 then
  F.qe N (x23,x24) λ r27=>
  bif !r27 then next ((x23,Aa .i64 (x24-1)),x25,x26) else ke2 ((x23,x24),x25,x26)
 else
  next ((x23,Aa .i64 (x24-1)),x25,x26)
def F.xz(N:Nat):Nat->Adc->(Adc->Option R)->Option R:=lp (F.gv N)
def F.gw(N:Nat):(((List ty7)×(List ty7)×Int×Int)×Ta)->((((List ty7)×(List ty7)×Int×Int)×Ta)->Option R)->(((List ty7)×Ta)->Option R)->Option R
 | ((x37,x38,x39,x40),x41,x42,x43,x44),next,ke4=>
 bif decide (x40<x39) then
  chk (inB x40 (z8 x38))<|
  bif((zA x38 (z9 x40) zr5).1)==40 then next ((x37,x38,x39,Aa .i64 (x40+1)),x41,Aa .i64 (x42+1),x43,x44) else next ((x37,x38,x39,Aa .i64 (x40+1)),x41,x42,x43,x44)
 else
  ke4 (x37,x41,x42,x43,x44)
def F.ya(N:Nat):Nat->(((List ty7)×(List ty7)×Int×Int)×Ta)->(((List ty7)×Ta)->Option R)->Option R:=lp (F.gw N)
def F.mt(N:Nat)(next:Ahn->Option R):(Ta->Option R)->(Tv×(Int×Int×(Bool×Bool)×ty9×((List ty4)×(List ty4)×(List ty2))))->Option R
 | ke6,((w66,w67,w68),w69,w70,(w71,w72),w73,w74,w75,w76)=>
 chk (inB (Aa .i64 ((z8 w66:Int)-1)) (z8 w66))<|
 bif((zA w66 (z9 (Aa .i64 ((z8 w66:Int)-1))) zr5).1)==36 then
  chk (decide (0<=(Aa .i64 ((z8 w66:Int)-1)))&&decide ((Aa .i64 ((z8 w66:Int)-1))<=(z8 w66:Int)))<|
  F.pe N N (zD 0 (zC (z9 (Aa .i64 ((z8 w66:Int)-1))) w66)) λ r89=>
  chk (zB (z8 w75+z8 [(w71,(true,r89))]) (Ar 32))<|
  next ((w67,Aa .i64 (w68+1)),w69,w70,w73,w74,w75++[(w71,(true,r89))])
 else
  F.pe N N w66 λ r90=>
  chk (zB (z8 w75+z8 [(w71,(w72,r90))]) (Ar 32))<|
  next ((w67,Aa .i64 (w68+1)),w69,w70,w73,w74,w75++[(w71,(w72,r90))])
def F.gx(N:Nat):Ahn->(Ahn->Option R)->(Ta->Option R)->Option R
 | ((x59,x60),x61,x62,x63,x64,x65),next,ke6=>
 bif decide (x60<x59) then
  chk (inB x60 (z8 x63))<|
  chk (inB 0 (z8 (zA x63 (z9 x60) ([]:List ty7))))<|
  bif((zA (zA x63 (z9 x60) ([]:List ty7)) (z9 0) zr5).1)==94 then
   chk (decide (0<=1)&&decide (1<=(z8 (zA x63 (z9 x60) ([]:List ty7)):Int)))<|
   jn (F.mt N next ke6) ((zD (z9 1) (zC (z8 (zA x63 (z9 x60) ([]:List ty7))) (zA x63 (z9 x60) ([]:List ty7))),x59,x60),x61,x62,(true,false),x63,x64,x65,([]:List ty2))
  else
   jn (F.mt N next ke6) ((zA x63 (z9 x60) ([]:List ty7),x59,x60),x61,x62,(false,false),x63,x64,x65,([]:List ty2))
 else
  ke6 (x61,x62,x64,x65)
def F.yb(N:Nat):Nat->Ahn->(Ta->Option R)->Option R:=lp (F.gx N)
def F.dr(N:Nat):(((Int×Int×Int)×(List ty4))->Option R)->((List UInt8×(List ty7)×Bool)×Int×(List ty4))->Option R
 | k,((w17,w18,w19),w20,w21)=>
 bif w19 then
  k ((0,6,(z8 w17:Int)),([]:List ty4))
 else
  F.gq N (w18,(z8 w18:Int)) λ r22=>
  bif decide (r22>0) then
   F.xz N N ((w18,Aa .i64 ((z8 w18:Int)-1)),w20,w21) λ((y33,y34),y35,y36)=>
   chk (inB y34 (z8 y33))<|
   k ((0,8,((zA y33 (z9 y34) zr5).2).1),([]:List ty4))
  else
   F.ya N N ((w18,w18,(z8 w18:Int),0),w20,0,w21,([]:List ty4)) λ(y53,y54,y55,y56,y57)=>
   F.qj N y53 λ r58=>
   F.yb N N (((z8 r58:Int),0),y54,y55,r58,y56,y57) λ(y91,y92,y93,y94)=>
   F.ak N (y94,y92) λ r95=>
   bif decide (r95>2000) then k ((0,10,0),([]:List ty4)) else k ((y92,0,0),y94)
def F.lz(N:Nat):List UInt8->(((Int×Int×Int)×(List ty4))->Option R)->Option R
 | x1,k=>
 bif decide ((z8 x1:Int)>2000) then
  k ((0,1,2000),([]:List ty4))
 else
  F.uv N x1 λ(r2,r3,r4)=>
  bif r3 !=0 then
   k ((0,r3,r4),([]:List ty4))
  else
   F.xy N N ((x1,r2,(z8 r2:Int),0),0,([]:List ty4)) (λ((y12,y13),y14,y15)=>
    F.nt (y13,Aa .i64 ((z8 y13:Int)-1)) λ r16=>
    bif(z8 y13:Int)==0 then
     jn (F.dr N k) ((y12,y13,true),y14,y15)
    else
     bif r16==40 then
      jn (F.dr N k) ((y12,y13,true),y14,y15)
     else
      bif r16==124 then
       jn (F.dr N k) ((y12,y13,true),y14,y15)
      else
       jn (F.dr N k) ((y12,y13,r16==94),y14,y15),
    λ((y96,y97,y98,y99),y100,y101)=>
    k ((y100,y97,y98),y101))
def F.qf(N:Nat):E9->(Aw1->Option R)->Option R
 | (x1,x2,x3,x4),k=>
 F.mf N (x1,x2,x3,x4) λ(r5,r6,r7,r8)=>
 F.lz N r5 λ((r9,r10,r11),r12)=>
 bif r10 !=0 then
  F.lz N [97,124,98] λ((r13,r14,r15),r16)=>
  k (r13,(r6,r7,r8),r16)
 else
  k (r9,(r6,r7,r8),r12)
def F.bx(N:Nat):Aoc->(Aoc->Option R)->((Dp×(List ty5))->Option R)->Option R
 | ((x10,x11,x12),(x13,x14,x15),x16),next,ke0=>
 bif decide (x12<x11) then
  F.aa (8,x13,x14,x15) λ(r17,r18,r19,r20)=>
  bif r17==7 then
   F.qa N (r18,r19,r20) λ(r21,(r22,r23,r24),r25)=>
   F.ak N (r25,r21) λ r26=>
   bif decide (r26<=12) then
    chk (zB (z8 x16+z8 [(r25,r21)]) (Ar 32))<|
    next ((x10,x11,Aa .i64 (x12+1)),(r22,r23,r24),x16++[(r25,r21)])
   else
    next ((x10,x11,Aa .i64 (x12+1)),(r22,r23,r24),x16)
  else
   F.qf N (x10,r18,r19,r20) λ(r34,(r35,r36,r37),r38)=>
   F.ak N (r38,r34) λ r39=>
   bif decide (r39>24) then
    F.lz N [97,98,124,98,36] λ((r40,r41,r42),r43)=>
    chk (zB (z8 x16+z8 [(r43,r40)]) (Ar 32))<|
    next ((x10,x11,Aa .i64 (x12+1)),(r35,r36,r37),x16++[(r43,r40)])
   else
    chk (zB (z8 x16+z8 [(r38,r34)]) (Ar 32))<|
    next ((x10,x11,Aa .i64 (x12+1)),(r35,r36,r37),x16++[(r38,r34)])
 else
  ke0 ((x13,x14,x15),x16)
def F.xh(N:Nat):Nat->Aoc->((Dp×(List ty5))->Option R)->Option R:=lp (F.bx N)
def F.pf(N:Nat):((Int×Int)×(List Int)×Int×Int)->(((List ty5)×(List Int)×Int×Int)->Option R)->Option R
 | ((x1,x2),x3,x4,x5),k=>
 F.aa (x1,x3,x4,x5) λ(r6,r7,r8,r9)=>
 F.xh N N ((x2,Aa .i64 (1+r6),0),(r7,r8,r9),([]:List ty5)) λ((y53,y54,y55),y56)=>
 k (y56,y53,y54,y55)
def F.ji(N:Nat)(next:Aho->Option R):((Unit->Option R)×(Bool->Option R))->((Int×ty0×Int×Int×Bool)×Asc×Int×Int)->Option R
 | (ke0,kret),((w106,w107,w108,w109,w110),(w111,w112,w113,w114,w115),w116,w117)=>
 bif w110 then
  kret false
 else
  bif decide (w106>0) then
   chk (inB (Aa .i64 (w106-1)) (z8 w112))<|
   bif decide (w116<(Aa .i64 (((zA w112 (z9 (Aa .i64 (w106-1))) zr2).2)+2))) then kret false else next ((w107,w108,Aa .i64 (w109+1)),w111,w112,w113,w114,w115)
  else
   next ((w107,w108,Aa .i64 (w109+1)),w111,w112,w113,w114,w115)
def F.gy(N:Nat):Aho->(Aho->Option R)->((Unit->Option R)×(Bool->Option R))->Option R
 | ((x98,x99,x100),x101,x102,x103,x104,x105),next,(ke0,kret)=>
 bif decide (x100<x99) then
  chk (inB x100 (z8 x98))<|
  bif decide (((zA x98 (z9 x100) zr2).1)<0) then
   jn (F.ji N next (ke0,kret)) ((x100,x98,x99,x100,true),(x101,x102,x103,x104,x105),(zA x98 (z9 x100) zr2).1,(zA x98 (z9 x100) zr2).2)
  else
   bif decide (((zA x98 (z9 x100) zr2).1)>((zA x98 (z9 x100) zr2).2)) then
    jn (F.ji N next (ke0,kret)) ((x100,x98,x99,x100,true),(x101,x102,x103,x104,x105),(zA x98 (z9 x100) zr2).1,(zA x98 (z9 x100) zr2).2)
   else
    jn (F.ji N next (ke0,kret)) ((x100,x98,x99,x100,decide (((zA x98 (z9 x100) zr2).2)>255)),(x101,x102,x103,x104,x105),(zA x98 (z9 x100) zr2).1,(zA x98 (z9 x100) zr2).2)
 else
  ke0 ()
def F.va(N:Nat):Nat->Aho->((Unit->Option R)×(Bool->Option R))->Option R:=lp (F.gy N)
def F.jj(N:Nat):(Bool->Option R)->Asc->Option R
 | k,(w93,w94,w95,w96,w97)=>
 F.va N N ((w94,(z8 w94:Int),0),w93,w94,w95,w96,w97) (λ _=>
  k true,
  λ y127=>
  k y127)
def F.dt(N:Nat):(Bool->Option R)->Auk->Option R
 | k,(w73,w74,w75,w76,w77,w78)=>
 bif w73 then
  k false
 else
  bif w74 !=4 then
   bif w76 !=0 then
    k false
   else
    bif w77 !=0 then
     k false
    else
     jn (F.jj N k) (w74,w75,w76,w77,w78)
  else
   F.af (w76,0,255) λ r85=>
   bif !r85 then
    k false
   else
    bif w77 !=(-1) then
     F.af (w77,w76,255) λ r86=>
     bif !r86 then
      k false
     else
      jn (F.jj N k) (w74,w75,w76,w77,w78)
    else
     jn (F.jj N k) (w74,w75,w76,w77,w78)
def F.pg(N:Nat):(Bool->Option R)->Auk->Option R
 | k,(w6,w7,w8,w9,w10,w11)=>
 bif w6 then
  k false
 else
  bif w7 !=1 then
   bif(z8 w8:Int) !=0 then
    k false
   else
    bif w7 !=5 then
     jn (F.dt N k) (w11 !=0,w7,w8,w9,w10,w11)
    else
     jn (F.dt N k) (false,w7,w8,w9,w10,w11)
  else
   bif w7 !=5 then
    jn (F.dt N k) (w11 !=0,w7,w8,w9,w10,w11)
   else
    jn (F.dt N k) (false,w7,w8,w9,w10,w11)
def F.rj(N:Nat):Asc->(Bool->Option R)->Option R
 | (x1,x2,x3,x4,x5),k=>
 bif decide (x1<1) then
  jn (F.pg N k) (true,x1,x2,x3,x4,x5)
 else
  jn (F.pg N k) (decide (x1>5),x1,x2,x3,x4,x5)
def F.kx(N:Nat):Aod->(Aod->Option R)->(Ade->Option R)->Option R
 | ((x8,x9,x10,x11),(x12,x13),x14),next,ke0=>
 bif decide (x11<x10) then
  chk (inB x11 (z8 x9))<|
  next ((Aa .i64 (x8+(z8 (((zA x9 (z9 x11) (false,zr0)).2).2):Int)),x9,x10,Aa .i64 (x11+1)),(x12,x13),x14)
 else
  ke0 (x8,(x12,x13),x14)
def F.yx(N:Nat):Nat->Aod->(Ade->Option R)->Option R:=lp (F.kx N)
def F.ky(N:Nat):Aoe->(Aoe->Option R)->((Adf->Option R)×(Aul->Option R))->Option R
 | ((x28,x29,x30,x31,x32,x33),(x34,x35),x36),next,(ke4,kret)=>
 bif decide (x33<x32) then
  chk (inB x33 (z8 x31))<|
  F.rj N ((zA x31 (z9 x33) ((0:Int),zr3)).1,((zA x31 (z9 x33) ((0:Int),zr3)).2).1,(((zA x31 (z9 x33) ((0:Int),zr3)).2).2).1,((((zA x31 (z9 x33) ((0:Int),zr3)).2).2).2).1,((((zA x31 (z9 x33) ((0:Int),zr3)).2).2).2).2) λ r37=>
  bif !r37 then
   kret ((false,x28,x29,x30),(x34,x35),x36)
  else
   bif((zA x31 (z9 x33) ((0:Int),zr3)).1)==5 then
    chk (zB (z8 x36+z8 [((((zA x31 (z9 x33) ((0:Int),zr3)).2).2).2).2]) (Ar 8))<|
    next ((x28,x29,x30,x31,x32,Aa .i64 (x33+1)),(x34,x35),x36++[((((zA x31 (z9 x33) ((0:Int),zr3)).2).2).2).2])
   else
    next ((x28,x29,x30,x31,x32,Aa .i64 (x33+1)),(x34,x35),x36)
 else
  ke4 ((x28,x29,x30),(x34,x35),x36)
def F.wu(N:Nat):Nat->Aoe->((Adf->Option R)×(Aul->Option R))->Option R:=lp (F.ky N)
def F.kz(N:Nat):Adf->(Adf->Option R)->((Aum->Option R)×(Aun->Option R))->Option R
 | ((x19,x20,x21),(x22,x23),x24),next,(ke2,kret)=>
 bif decide (x21<x20) then
  chk (inB x21 (z8 x19))<|
  F.ao N (((zA x19 (z9 x21) (false,zr0)).2).2) λ(r25,r26,r27)=>
  bif !r25 then
   kret (false,(x22,x23),x24)
  else
   F.wu N N ((x19,x20,x21,((zA x19 (z9 x21) (false,zr0)).2).2,(z8 (((zA x19 (z9 x21) (false,zr0)).2).2):Int),0),(x22,x23),x24) (λ((y47,y48,y49),(y50,y51),y52)=>
    next ((y47,y48,Aa .i64 (y49+1)),(y50,y51),y52),
    λ((y53,y54,y55,y56),(y57,y58),y59)=>
    kret (y53,(y57,y58),y59))
 else
  ke2 ((x22,x23),x24)
def F.wv(N:Nat):Nat->Adf->((Aum->Option R)×(Aun->Option R))->Option R:=lp (F.kz N)
def F.la(N:Nat):Aof->(Aof->Option R)->(Auo->Option R)->Option R
 | ((x67,x68,x69,x70),(x71,x72),x73),next,ke8=>
 bif decide (x70<x69) then
  chk (inB x70 (z8 x73))<|
  bif(zA x73 (z9 x70) (0:Int))==x67 then next ((x67,Aa .i64 (x68+1),x69,Aa .i64 (x70+1)),(x71,x72),x73) else next ((x67,x68,x69,Aa .i64 (x70+1)),(x71,x72),x73)
 else
  ke8 ((x67,x68),(x71,x72),x73)
def F.ww(N:Nat):Nat->Aof->(Auo->Option R)->Option R:=lp (F.la N)
def F.lb(N:Nat):Ade->(Ade->Option R)->((ty5->Option R)×(Aog->Option R))->Option R
 | (x63,(x64,x65),x66),next,(ke6,kret)=>
 bif decide (x63<=x65) then
  F.ww N N ((x63,0,(z8 x66:Int),0),(x64,x65),x66) λ((y81,y82),(y83,y84),y85)=>
  bif y82 !=1 then kret (false,y83,y84) else next (Aa .i64 (y81+1),(y83,y84),y85)
 else
  ke6 (x64,x65)
def F.yy(N:Nat):Nat->Ade->((ty5->Option R)×(Aog->Option R))->Option R:=lp (F.lb N)
def F.qo(N:Nat):(Bool->Option R)->Aog->Option R
 | k,(w5,w6,w7)=>
 bif w5 then
  k false
 else
  F.yx N N ((0,w6,(z8 w6:Int),0),(w6,w7),([]:List Int)) λ(y15,(y16,y17),y18)=>
  bif decide (y15>5000) then
   k false
  else
   F.wv N N ((y16,(z8 y16:Int),0),(y16,y17),y18) (λ((y60,y61),y62)=>
    bif(z8 y62:Int) !=y61 then
     k false
    else
     F.yy N N (1,(y60,y61),y62) (λ(y86,y87)=>
      F.ak N (y86,y87) λ r88=>
      k (decide (r88<=2000)),
      λ(y89,y90,y91)=>
      k y89),
    λ(y92,(y93,y94),y95)=>
    k y92)
def F.ta(N:Nat):ty5->(Bool->Option R)->Option R
 | (x1,x2),k=>
 F.af ((z8 x1:Int),1,2000) λ r3=>
 bif !r3 then
  jn (F.qo N k) (true,x1,x2)
 else
  F.af (x2,0,500) λ r4=>
  jn (F.qo N k) (!r4,x1,x2)
def F.gz(N:Nat):Aoh->(Aoh->Option R)->((Int->Option R)×((Bool×Int)->Option R))->Option R
 | (x2,x3,x4,x5),next,(ke0,kret)=>
 bif decide (x5<x4) then
  chk (inB x5 (z8 x3))<|
  F.ta N ((zA x3 (z9 x5) zr6).1,(zA x3 (z9 x5) zr6).2) λ r6=>
  bif !r6 then
   kret (false,x2)
  else
   F.ak N ((zA x3 (z9 x5) zr6).1,(zA x3 (z9 x5) zr6).2) λ r7=>
   next (Aa .i64 (x2+r7),x3,x4,Aa .i64 (x5+1))
 else
  ke0 x2
def F.yc(N:Nat):Nat->Aoh->((Int->Option R)×((Bool×Int)->Option R))->Option R:=lp (F.gz N)
def F.rk(N:Nat):(List ty5)->(Bool->Option R)->Option R
 | x1,k=>
 bif decide ((z8 x1:Int)>100) then
  k false
 else
  F.yc N N (0,x1,(z8 x1:Int),0) (λ y8=>
   k (decide (y8<=4000)),
   λ(y9,y10)=>
   k y9)
def F.vb(N:Nat):((Bool×Bool×(List ty2))×List UInt8)->((((List ty2)×List UInt8)×(List Int)×(List Int))->Option R)->Option R
 | ((x1,x2,x3),x4),k=>
 F.ao N x3 λ(r5,r6,r7)=>
 k ((x3,x4),r6,r7)
def F.ag:((Int×Int×Int×ty0)×(List Nb)×(List Q0))->(Eh->Option R)->Option R
 | ((x1,x2,x3,x4),x5,x6),k=>
 chk (zB (z8 x5+z8 [(x1,(x2,(x3,x4)))]) (Ar 48))<|
 k (Aa .i64 ((z8 (x5++[(x1,(x2,(x3,x4)))]):Int)-1),x5++[(x1,(x2,(x3,x4)))],x6)
def F.eb(N:Nat)(rw2:Jl->(Eh->Option R)->Option R)(rw3:Tb->(Eh->Option R)->Option R):(Eh->Option R)->((Int×Int×Int)×Aup)->Option R
 | k,((w29,w30,w31),(w32,w33,w34,w35),w36,w37)=>
 bif decide (w30>0) then
  rw2 (((w32,w33,w34,w35),w29),w36,w37) λ(r38,r39,r40)=>
  rw3 (((w32,w33,w34,w35),w29,Aa .i64 (w30-1),w31),r39,r40) λ(r41,r42,r43)=>
  F.ag ((113,r38,r41,([]:ty0)),r42,r43) λ(r44,r45,r46)=>
  k (r44,r45,r46)
 else
  rw2 (((w32,w33,w34,w35),w29),w36,w37) λ(r47,r48,r49)=>
  rw3 (((w32,w33,w34,w35),w29,0,w31),r48,r49) λ(r50,r51,r52)=>
  F.ag ((113,r47,r50,([]:ty0)),r51,r52) λ(r53,r54,r55)=>
  F.ag ((101,0,0,([]:ty0)),r54,r55) λ(r56,r57,r58)=>
  F.ag ((111,r53,r56,([]:ty0)),r57,r58) λ(r59,r60,r61)=>
  k (r59,r60,r61)
def F.gh(N:Nat)(rw2:Jl->(Eh->Option R)->Option R)(rw3:Tb->(Eh->Option R)->Option R):(Eh->Option R)->((Int×Int×Int×Bool)×Aup)->Option R
 | k,((w10,w11,w12,w13),(w14,w15,w16,w17),w18,w19)=>
 bif w13 then
  rw2 (((w14,w15,w16,w17),w10),w18,w19) λ(r20,r21,r22)=>
  F.ag ((42,r20,0,([]:ty0)),r21,r22) λ(r23,r24,r25)=>
  k (r23,r24,r25)
 else
  bif w12==0 then
   F.ag ((101,0,0,([]:ty0)),w18,w19) λ(r26,r27,r28)=>
   k (r26,r27,r28)
  else
   bif decide (w12>0) then
    jn (F.eb N rw2 rw3 k) ((w10,w11,Aa .i64 (w12-1)),(w14,w15,w16,w17),w18,w19)
   else
    jn (F.eb N rw2 rw3 k) ((w10,w11,w12),(w14,w15,w16,w17),w18,w19)
def F.jc(N:Nat)(rw2:Jl->(Eh->Option R)->Option R)(rw3:Tb->(Eh->Option R)->Option R):Tb->(Eh->Option R)->Option R
 | (((x1,x2,x3,x4),x5,x6,x7),x8,x9),k=>
 bif x6==0 then
  jn (F.gh N rw2 rw3 k) ((x5,x6,x7,x7==(-1)),(x1,x2,x3,x4),x8,x9)
 else
  jn (F.gh N rw2 rw3 k) ((x5,x6,x7,false),(x1,x2,x3,x4),x8,x9)
def F.aq(N:Nat)(rw2:Jl->(Eh->Option R)->Option R):Nat->Tb->(Eh->Option R)->Option R:=rc (F.jc N rw2)
def F.kg(N:Nat)(rw2:Jl->(Eh->Option R)->Option R):Jl->(Eh->Option R)->Option R
 | (((x1,x2,x3,x4),x5),x6,x7),k=>
 chk (inB x5 (z8 x1))<|
 bif((zA x1 (z9 x5) ((0:Int),zr3)).1)==1 then
  F.ag ((115,0,0,((zA x1 (z9 x5) ((0:Int),zr3)).2).1),x6,x7) λ(r8,r9,r10)=>
  k (r8,r9,r10)
 else
  bif((zA x1 (z9 x5) ((0:Int),zr3)).1)==2 then
   bif((zA x1 (z9 x5) ((0:Int),zr3)).1)==2 then
    chk (inB x5 (z8 x2))<|
    rw2 (((x1,x2,x3,x4),zA x2 (z9 x5) (0:Int)),x6,x7) λ(r11,r12,r13)=>
    chk (inB x5 (z8 x3))<|
    rw2 (((x1,x2,x3,x4),zA x3 (z9 x5) (0:Int)),r12,r13) λ(r14,r15,r16)=>
    bif((zA x1 (z9 x5) ((0:Int),zr3)).1)==2 then
     F.ag ((113,r11,r14,([]:ty0)),r15,r16) λ(r17,r18,r19)=>
     k (r17,r18,r19)
    else
     F.ag ((111,r11,r14,([]:ty0)),r15,r16) λ(r20,r21,r22)=>
     k (r20,r21,r22)
   else
    bif((zA x1 (z9 x5) ((0:Int),zr3)).1)==4 then
     chk (inB x5 (z8 x2))<|
     F.aq N rw2 N (((x1,x2,x3,x4),zA x2 (z9 x5) (0:Int),(((zA x1 (z9 x5) ((0:Int),zr3)).2).2).1,((((zA x1 (z9 x5) ((0:Int),zr3)).2).2).2).1),x6,x7) λ(r23,r24,r25)=>
     k (r23,r24,r25)
    else
     chk (inB x5 (z8 x2))<|
     rw2 (((x1,x2,x3,x4),zA x2 (z9 x5) (0:Int)),x6,x7) λ(r51,r52,r53)=>
     k (r51,r52,r53)
  else
   bif((zA x1 (z9 x5) ((0:Int),zr3)).1)==3 then
    chk (inB x5 (z8 x2))<|
    rw2 (((x1,x2,x3,x4),zA x2 (z9 x5) (0:Int)),x6,x7) λ(r26,r27,r28)=>
    chk (inB x5 (z8 x3))<|
    rw2 (((x1,x2,x3,x4),zA x3 (z9 x5) (0:Int)),r27,r28) λ(r29,r30,r31)=>
    bif((zA x1 (z9 x5) ((0:Int),zr3)).1)==2 then
     F.ag ((113,r26,r29,([]:ty0)),r30,r31) λ(r32,r33,r34)=>
     k (r32,r33,r34)
    else
     F.ag ((111,r26,r29,([]:ty0)),r30,r31) λ(r35,r36,r37)=>
     k (r35,r36,r37)
   else
    bif((zA x1 (z9 x5) ((0:Int),zr3)).1)==4 then
     chk (inB x5 (z8 x2))<|
     F.aq N rw2 N (((x1,x2,x3,x4),zA x2 (z9 x5) (0:Int),(((zA x1 (z9 x5) ((0:Int),zr3)).2).2).1,((((zA x1 (z9 x5) ((0:Int),zr3)).2).2).2).1),x6,x7) λ(r38,r39,r40)=>
     k (r38,r39,r40)
    else
     chk (inB x5 (z8 x2))<|
     rw2 (((x1,x2,x3,x4),zA x2 (z9 x5) (0:Int)),x6,x7) λ(r54,r55,r56)=>
     k (r54,r55,r56)
def F.bz(N:Nat):Nat->Jl->(Eh->Option R)->Option R:=rc (F.kg N)
def F.jk(N:Nat):Aoj->(Aoj->Option R)->(Adh->Option R)->Option R
 | ((x9,x10,x11,x12,x13,x14,x15),x16,x17,x18,x19),next,ke2=>
 bif decide (x15<x14) then
  chk (inB x15 (z8 x13))<|
  F.vb N (((zA x13 (z9 x15) (false,zr0)).1,((zA x13 (z9 x15) (false,zr0)).2).1,((zA x13 (z9 x15) (false,zr0)).2).2),[]) λ((r20,r21),r22,r23)=>
  F.bz N N (((r20,r22,r23,r21),Aa .i64 ((z8 (((zA x13 (z9 x15) (false,zr0)).2).2):Int)-1)),x18,x19) λ(r24,r25,r26)=>
  chk (zB (z8 r26+z8 [(x9,((zA x13 (z9 x15) (false,zr0)).1,(((zA x13 (z9 x15) (false,zr0)).2).1,r24)))]) (Ar 24))<|
  next ((x9,x10,x11,x12,x13,x14,Aa .i64 (x15+1)),x16,x17,r25,r26++[(x9,((zA x13 (z9 x15) (false,zr0)).1,(((zA x13 (z9 x15) (false,zr0)).2).1,r24)))])
 else
  ke2 ((x10,x11,x12),x16,x17,x18,x19)
def F.vt(N:Nat):Nat->Aoj->(Adh->Option R)->Option R:=lp (F.jk N)
def F.jl(N:Nat):Adh->(Adh->Option R)->(((List Nb)×Ahp)->Option R)->Option R
 | ((x2,x3,x4),x5,x6,x7,x8),next,ke0=>
 bif decide (x4<x3) then
  chk (inB x4 (z8 x2))<|
  F.vt N N ((x4,x2,x3,x4,(zA x2 (z9 x4) zr6).1,(z8 ((zA x2 (z9 x4) zr6).1):Int),0),x5,x6,x7,x8) λ((y27,y28,y29),y30,y31,y32,y33)=>
  next ((y27,y28,Aa .i64 (y29+1)),y30,y31,y32,y33)
 else
  ke0 (x5,x6,x7,x8)
def F.yk(N:Nat):Nat->Adh->(((List Nb)×Ahp)->Option R)->Option R:=lp (F.jl N)
def F.sd(N:Nat):(List ty5)->(J8->Option R)->Option R
 | x1,k=>
 F.yk N N ((x1,(z8 x1:Int),0),([]:List Nb),([]:List Q0),([]:List Nb),([]:List Q0)) λ(y34,y35,y36,y37)=>
 k (y36,y37)
def F.mu(N:Nat):Aok->(Aok->Option R)->((Unit->Option R)×(Bool->Option R))->Option R
 | (x3,x4,x5,x6),next,(ke0,kret)=>
 bif decide (x6<x5) then
  chk (inB x6 (z8 x4))<|
  F.af (Aa .i64 x3,(zA x4 (z9 x6) zr2).1,(zA x4 (z9 x6) zr2).2) λ r7=>
  bif r7 then kret true else next (x3,x4,x5,Aa .i64 (x6+1))
 else
  ke0 ()
def F.zd(N:Nat):Nat->Aok->((Unit->Option R)×(Bool->Option R))->Option R:=lp (F.mu N)
def F.qp(N:Nat):(ty0×Int)->(Bool->Option R)->Option R
 | (x1,x2),k=>
 F.zd N N (x2,x1,(z8 x1:Int),0) (λ _=>
  k false,
  λ y8=>
  k y8)
def F.jm(N:Nat):Aol->(Aol->Option R)->(Auq->Option R)->Option R
 | ((x16,x17,x18,x19,x20,x21,x22,x23,x24,x25),(x26,x27),x28,x29),next,ke4=>
 bif decide (x25<x24) then
  chk (inB x25 (z8 x23))<|
  bif((zA x23 (z9 x25) ((0:Int),zr7)).1)==115 then
   F.qp N ((((zA x23 (z9 x25) ((0:Int),zr7)).2).2).2,Aa .u8 x16) λ r30=>
   F.qp N ((((zA x23 (z9 x25) ((0:Int),zr7)).2).2).2,Aa .u8 x19) λ r31=>
   bif !(r30==r31) then ke4 ((x16,x17,x18,false,x21,x22),(x26,x27),x28,x29) else next ((x16,x17,x18,x19,x20,x21,x22,x23,x24,Aa .i64 (x25+1)),(x26,x27),x28,x29)
  else
   next ((x16,x17,x18,x19,x20,x21,x22,x23,x24,Aa .i64 (x25+1)),(x26,x27),x28,x29)
 else
  ke4 ((x16,x17,x18,x20,x21,x22),(x26,x27),x28,x29)
def F.vu(N:Nat):Nat->Aol->(Auq->Option R)->Option R:=lp (F.jm N)
def F.jo(N:Nat):Aon->(Aon->Option R)->(Aur->Option R)->Option R
 | ((x8,x9,x10,x11),(x12,x13),x14,x15),next,ke2=>
 bif decide (x11<x10) then
  chk (inB x11 (z8 x15))<|
  F.vu N N ((x8,x9,x11,zA x15 (z9 x11) (0:Int),true,x10,x11,x12,(z8 x12:Int),0),(x12,x13),x14,x15) λ((y47,y48,y49,y50,y51,y52),(y53,y54),y55,y56)=>
  bif y50 then ke2 ((y47,y49),(y53,y54),y55,y56) else next ((y47,y48,y51,Aa .i64 (y52+1)),(y53,y54),y55,y56)
 else
  ke2 ((x8,x9),(x12,x13),x14,x15)
def F.vy(N:Nat):Nat->Aon->(Aur->Option R)->Option R:=lp (F.jo N)
def F.jp(N:Nat):Aoo->(Aoo->Option R)->(Jm->Option R)->Option R
 | (x3,(x4,x5),x6,x7),next,ke0=>
 bif decide (x3<256) then
  F.vy N N ((x3,(-1),(z8 x7:Int),0),(x4,x5),x6,x7) λ((y57,y58),(y59,y60),y61,y62)=>
  bif decide (y58<0) then
   chk (zB (z8 y62+z8 [y57]) (Ar 8))<|
   chk (zB (z8 y61+z8 [(z8 y62:Int)]) (Ar 8))<|
   next (Aa .i64 (y57+1),(y59,y60),y61++[(z8 y62:Int)],y62++[y57])
  else
   chk (zB (z8 y61+z8 [y58]) (Ar 8))<|
   next (Aa .i64 (y57+1),(y59,y60),y61++[y58],y62)
 else
  ke0 (x6,x7)
def F.yl(N:Nat):Nat->Aoo->(Jm->Option R)->Option R:=lp (F.jp N)
def F.se(N:Nat):J8->(Jm->Option R)->Option R
 | (x1,x2),k=>
 F.yl N N (0,(x1,x2),([]:List Int),([]:List Int)) λ(y69,y70)=>
 k (y69,y70)
def F.qq(N:Nat)(rw4:Ys->(Bool->Option R)->Option R):Ys->(Bool->Option R)->Option R
 | ((x1,x2),x3),k=>
 chk (inB x3 (z8 x1))<|
 bif((zA x1 (z9 x3) ((0:Int),zr7)).1)==115 then
  k false
 else
  bif((zA x1 (z9 x3) ((0:Int),zr7)).1)==113 then
   rw4 ((x1,x2),((zA x1 (z9 x3) ((0:Int),zr7)).2).1) λ r4=>
   bif r4 then
    rw4 ((x1,x2),(((zA x1 (z9 x3) ((0:Int),zr7)).2).2).1) λ r5=>
    k r5
   else
    k false
  else
   bif((zA x1 (z9 x3) ((0:Int),zr7)).1)==111 then
    rw4 ((x1,x2),((zA x1 (z9 x3) ((0:Int),zr7)).2).1) λ r7=>
    bif r7 then
     k true
    else
     rw4 ((x1,x2),(((zA x1 (z9 x3) ((0:Int),zr7)).2).2).1) λ r8=>
     k r8
   else
    k true
def F.an(N:Nat):Nat->Ys->(Bool->Option R)->Option R:=rc (F.qq N)
def F.qr(N:Nat)(rw5:Yt->(Bool->Option R)->Option R):Yt->(Bool->Option R)->Option R
 | ((x1,x2),x3,x4),k=>
 chk (inB x3 (z8 x1))<|
 bif((zA x1 (z9 x3) ((0:Int),zr7)).1)==115 then
  chk (inB x3 (z8 x4))<|
  k (zA x4 (z9 x3) false)
 else
  bif((zA x1 (z9 x3) ((0:Int),zr7)).1)==113 then
   rw5 ((x1,x2),(((zA x1 (z9 x3) ((0:Int),zr7)).2).2).1,x4) λ r5=>
   bif r5 then
    k true
   else
    rw5 ((x1,x2),((zA x1 (z9 x3) ((0:Int),zr7)).2).1,x4) λ r6=>
    bif r6 then
     F.an N N ((x1,x2),(((zA x1 (z9 x3) ((0:Int),zr7)).2).2).1) λ r7=>
     k r7
    else
     k false
  else
   bif((zA x1 (z9 x3) ((0:Int),zr7)).1)==111 then
    rw5 ((x1,x2),((zA x1 (z9 x3) ((0:Int),zr7)).2).1,x4) λ r9=>
    bif r9 then
     k true
    else
     rw5 ((x1,x2),(((zA x1 (z9 x3) ((0:Int),zr7)).2).2).1,x4) λ r10=>
     k r10
   else
    bif((zA x1 (z9 x3) ((0:Int),zr7)).1)==42 then
     rw5 ((x1,x2),((zA x1 (z9 x3) ((0:Int),zr7)).2).1,x4) λ r12=>
     k r12
    else
     k false
def F.bg(N:Nat):Nat->Yt->(Bool->Option R)->Option R:=rc (F.qr N)
def F.ic(N:Nat):Aop->(Aop->Option R)->(Int->Option R)->Option R
 | ((x6,x7,x8,x9,x10,x11,x12),x13,x14),next,ke0=>
 bif decide (x12<x11) then
  chk (inB x12 (z8 x10))<|
  bif(((zA x10 (z9 x12) ((0:Int),zr8)).2).2).1 then
   bif !x8 then
    next ((x6,x7,x8,x9,x10,x11,Aa .i64 (x12+1)),x13,x14)
   else
    F.bg N N ((x13,x14),(((zA x10 (z9 x12) ((0:Int),zr8)).2).2).2,x7) λ r78=>
    bif r78 then
     bif decide (x9<0) then
      next ((x6,x7,x8,(zA x10 (z9 x12) ((0:Int),zr8)).1,x10,x11,Aa .i64 (x12+1)),x13,x14)
     else
      bif decide (((zA x10 (z9 x12) ((0:Int),zr8)).1)<x9) then next ((x6,x7,x8,(zA x10 (z9 x12) ((0:Int),zr8)).1,x10,x11,Aa .i64 (x12+1)),x13,x14) else next ((x6,x7,x8,x9,x10,x11,Aa .i64 (x12+1)),x13,x14)
    else
     bif x6 then
      F.an N N ((x13,x14),(((zA x10 (z9 x12) ((0:Int),zr8)).2).2).2) λ r79=>
      bif r79 then
       bif decide (x9<0) then
        next ((x6,x7,x8,(zA x10 (z9 x12) ((0:Int),zr8)).1,x10,x11,Aa .i64 (x12+1)),x13,x14)
       else
        bif decide (((zA x10 (z9 x12) ((0:Int),zr8)).1)<x9) then next ((x6,x7,x8,(zA x10 (z9 x12) ((0:Int),zr8)).1,x10,x11,Aa .i64 (x12+1)),x13,x14) else next ((x6,x7,x8,x9,x10,x11,Aa .i64 (x12+1)),x13,x14)
      else
       next ((x6,x7,x8,x9,x10,x11,Aa .i64 (x12+1)),x13,x14)
     else
      bif !(((zA x10 (z9 x12) ((0:Int),zr8)).2).1) then
       F.an N N ((x13,x14),(((zA x10 (z9 x12) ((0:Int),zr8)).2).2).2) λ r80=>
       bif r80 then
        bif decide (x9<0) then
         next ((x6,x7,x8,(zA x10 (z9 x12) ((0:Int),zr8)).1,x10,x11,Aa .i64 (x12+1)),x13,x14)
        else
         bif decide (((zA x10 (z9 x12) ((0:Int),zr8)).1)<x9) then next ((x6,x7,x8,(zA x10 (z9 x12) ((0:Int),zr8)).1,x10,x11,Aa .i64 (x12+1)),x13,x14) else next ((x6,x7,x8,x9,x10,x11,Aa .i64 (x12+1)),x13,x14)
       else
        next ((x6,x7,x8,x9,x10,x11,Aa .i64 (x12+1)),x13,x14)
      else
       next ((x6,x7,x8,x9,x10,x11,Aa .i64 (x12+1)),x13,x14)
  else
   F.bg N N ((x13,x14),(((zA x10 (z9 x12) ((0:Int),zr8)).2).2).2,x7) λ r223=>
   bif r223 then
    bif decide (x9<0) then
     next ((x6,x7,x8,(zA x10 (z9 x12) ((0:Int),zr8)).1,x10,x11,Aa .i64 (x12+1)),x13,x14)
    else
     bif decide (((zA x10 (z9 x12) ((0:Int),zr8)).1)<x9) then next ((x6,x7,x8,(zA x10 (z9 x12) ((0:Int),zr8)).1,x10,x11,Aa .i64 (x12+1)),x13,x14) else next ((x6,x7,x8,x9,x10,x11,Aa .i64 (x12+1)),x13,x14)
   else
    bif x6 then
     F.an N N ((x13,x14),(((zA x10 (z9 x12) ((0:Int),zr8)).2).2).2) λ r224=>
     bif r224 then
      bif decide (x9<0) then
       next ((x6,x7,x8,(zA x10 (z9 x12) ((0:Int),zr8)).1,x10,x11,Aa .i64 (x12+1)),x13,x14)
      else
       bif decide (((zA x10 (z9 x12) ((0:Int),zr8)).1)<x9) then next ((x6,x7,x8,(zA x10 (z9 x12) ((0:Int),zr8)).1,x10,x11,Aa .i64 (x12+1)),x13,x14) else next ((x6,x7,x8,x9,x10,x11,Aa .i64 (x12+1)),x13,x14)
     else
      next ((x6,x7,x8,x9,x10,x11,Aa .i64 (x12+1)),x13,x14)
    else
     bif !(((zA x10 (z9 x12) ((0:Int),zr8)).2).1) then
      F.an N N ((x13,x14),(((zA x10 (z9 x12) ((0:Int),zr8)).2).2).2) λ r225=>
      bif r225 then
       bif decide (x9<0) then
        next ((x6,x7,x8,(zA x10 (z9 x12) ((0:Int),zr8)).1,x10,x11,Aa .i64 (x12+1)),x13,x14)
       else
        bif decide (((zA x10 (z9 x12) ((0:Int),zr8)).1)<x9) then next ((x6,x7,x8,(zA x10 (z9 x12) ((0:Int),zr8)).1,x10,x11,Aa .i64 (x12+1)),x13,x14) else next ((x6,x7,x8,x9,x10,x11,Aa .i64 (x12+1)),x13,x14)
      else
       next ((x6,x7,x8,x9,x10,x11,Aa .i64 (x12+1)),x13,x14)
     else
      next ((x6,x7,x8,x9,x10,x11,Aa .i64 (x12+1)),x13,x14)
 else
  ke0 x9
def F.yd(N:Nat):Nat->Aop->(Int->Option R)->Option R:=lp (F.ic N)
def F.pq(N:Nat):(J8×Bool×(List Bool)×Bool)->(Int->Option R)->Option R
 | ((x1,x2),x3,x4,x5),k=>
 F.yd N N ((x3,x4,x5,(-1),x2,(z8 x2:Int),0),x1,x2) λ y368=>
 k y368
def F.qt(N:Nat)(rw6:Yu->((List Bool)->Option R)->Option R):Yu->((List Bool)->Option R)->Option R
 | (((x1,x2),x3,x4,x5,x6),x7),k=>
 chk (inB x3 (z8 x1))<|
 bif((zA x1 (z9 x3) ((0:Int),zr7)).1)==115 then
  bif x4 then
   F.qp N ((((zA x1 (z9 x3) ((0:Int),zr7)).2).2).2,x6) λ r8=>
   bif r8 then
    chk (inB x3 (z8 x7))<|
    k (zE x7 (z9 x3) true)
   else
    k x7
  else
   k x7
 else
  bif((zA x1 (z9 x3) ((0:Int),zr7)).1)==113 then
   rw6 (((x1,x2),((zA x1 (z9 x3) ((0:Int),zr7)).2).1,x4,x5,x6),x7) λ r14=>
   bif x4 then
    F.an N N ((x1,x2),((zA x1 (z9 x3) ((0:Int),zr7)).2).1) λ r15=>
    bif r15 then
     rw6 (((x1,x2),(((zA x1 (z9 x3) ((0:Int),zr7)).2).2).1,true,x5,x6),r14) λ r29=>
     k r29
    else
     F.bg N N ((x1,x2),((zA x1 (z9 x3) ((0:Int),zr7)).2).1,x5) λ r16=>
     rw6 (((x1,x2),(((zA x1 (z9 x3) ((0:Int),zr7)).2).2).1,r16,x5,x6),r14) λ r30=>
     k r30
   else
    F.bg N N ((x1,x2),((zA x1 (z9 x3) ((0:Int),zr7)).2).1,x5) λ r17=>
    rw6 (((x1,x2),(((zA x1 (z9 x3) ((0:Int),zr7)).2).2).1,r17,x5,x6),r14) λ r31=>
    k r31
  else
   bif((zA x1 (z9 x3) ((0:Int),zr7)).1)==111 then
    rw6 (((x1,x2),((zA x1 (z9 x3) ((0:Int),zr7)).2).1,x4,x5,x6),x7) λ r32=>
    rw6 (((x1,x2),(((zA x1 (z9 x3) ((0:Int),zr7)).2).2).1,x4,x5,x6),r32) λ r33=>
    k r33
   else
    bif((zA x1 (z9 x3) ((0:Int),zr7)).1)==42 then
     bif x4 then
      rw6 (((x1,x2),((zA x1 (z9 x3) ((0:Int),zr7)).2).1,true,x5,x6),x7) λ r34=>
      k r34
     else
      F.bg N N ((x1,x2),((zA x1 (z9 x3) ((0:Int),zr7)).2).1,x5) λ r35=>
      rw6 (((x1,x2),((zA x1 (z9 x3) ((0:Int),zr7)).2).1,r35,x5,x6),x7) λ r36=>
      k r36
    else
     k x7
def F.lc(N:Nat):Nat->Yu->((List Bool)->Option R)->Option R:=rc (F.qt N)
def F.jq(N:Nat):Aoq->(Aoq->Option R)->((List Bool)->Option R)->Option R
 | ((x6,x7,x8,x9,x10,x11),(x12,x13),x14),next,ke0=>
 bif decide (x11<x10) then
  chk (inB x11 (z8 x9))<|
  bif x6 then
   F.lc N N (((x12,x13),(((zA x9 (z9 x11) ((0:Int),zr8)).2).2).2,true,x7,x8),x14) λ r15=>
   next ((x6,x7,x8,x9,x10,Aa .i64 (x11+1)),(x12,x13),r15)
  else
   F.lc N N (((x12,x13),(((zA x9 (z9 x11) ((0:Int),zr8)).2).2).2, !(((zA x9 (z9 x11) ((0:Int),zr8)).2).1),x7,x8),x14) λ r16=>
   next ((x6,x7,x8,x9,x10,Aa .i64 (x11+1)),(x12,x13),r16)
 else
  ke0 x14
def F.ym(N:Nat):Nat->Aoq->((List Bool)->Option R)->Option R:=lp (F.jq N)
def F.si(N:Nat):(J8×Bool×(List Bool)×Int)->((List Bool)->Option R)->Option R
 | ((x1,x2),x3,x4,x5),k=>
 chk (decide (0<=(z8 x4:Int)))<|
 chk (zB (z9 (z8 x4:Int)) (Ar 1))<|
 F.ym N N ((x3,x4,x5,x2,(z8 x2:Int),0),(x1,x2),zF (z9 (z8 x4:Int)) false) λ y26=>
 k y26
def F.ld(N:Nat):Aor->(Aor->Option R)->((Unit->Option R)×(Bool->Option R))->Option R
 | (x3,x4,x5,x6),next,(ke0,kret)=>
 bif decide (x6<x5) then
  chk (inB x6 (z8 x3))<|
  chk (inB x6 (z8 x4))<|
  bif !((zA x3 (z9 x6) false)==(zA x4 (z9 x6) false)) then kret false else next (x3,x4,x5,Aa .i64 (x6+1))
 else
  ke0 ()
def F.yz(N:Nat):Nat->Aor->((Unit->Option R)×(Bool->Option R))->Option R:=lp (F.ld N)
def F.tb(N:Nat):((List Bool)×(List Bool))->(Bool->Option R)->Option R
 | (x1,x2),k=>
 F.yz N N (x1,x2,(z8 x1:Int),0) (λ _=>
  k true,
  λ y7=>
  k y7)
def F.mw(N:Nat):Tc->(Tc->Option R)->((Unit->Option R)×(Bool->Option R))->Option R
 | (x4,x5,x6,x7,x8),next,(ke0,kret)=>
 bif decide (x8<x7) then
  chk (inB x8 (z8 x6))<|
  F.af (zA x6 (z9 x8) (0:Int),x4,x5) λ r9=>
  bif !r9 then kret false else next (x4,x5,x6,x7,Aa .i64 (x8+1))
 else
  ke0 ()
def F.ze(N:Nat):Nat->Tc->((Unit->Option R)×(Bool->Option R))->Option R:=lp (F.mw N)
def F.ph(N:Nat):Dp->(Bool->Option R)->Option R
 | (x1,x2,x3),k=>
 F.ze N N (x2,x3,x1,(z8 x1:Int),0) (λ _=>
  k true,
  λ y10=>
  k y10)
def F.rn(N:Nat):(Bool->Option R)->Aos->Option R
 | k,((w15,w16),w17,w18,w19,w20,w21)=>
 bif w16 then
  k false
 else
  F.ph N (w17,0,Aa .i64 (w18-1)) λ r22=>
  bif r22 then
   F.ph N (w19,0,Aa .i64 (w15-1)) λ r23=>
   bif r23 then
    F.ph N (w20,(-1),99) λ r24=>
    bif r24 then
     F.ph N (w21,(-1),99) λ r25=>
     k r25
    else
     k false
   else
    k false
  else
   k false
def F.pu(N:Nat):(Bool->Option R)->Aos->Option R
 | k,((w8,w9),w10,w11,w12,w13,w14)=>
 bif w9 then
  k false
 else
  bif(z8 w14:Int) !=w8 then
   jn (F.rn N k) ((w8,true),w10,w11,w12,w13,w14)
  else
   jn (F.rn N k) ((w8,(z8 w12:Int) !=(Aa .i64 (w8*w11))),w10,w11,w12,w13,w14)
def F.sj(N:Nat):Bb->(Bool->Option R)->Option R
 | (x1,x2,x3,x4,x5),k=>
 bif(z8 x1:Int) !=256 then
  jn (F.pu N k) (((z8 x4:Int),true),x1,x2,x3,x4,x5)
 else
  F.af (x2,1,256) λ r6=>
  bif !r6 then
   jn (F.pu N k) (((z8 x4:Int),true),x1,x2,x3,x4,x5)
  else
   F.af ((z8 x4:Int),1,4000) λ r7=>
   jn (F.pu N k) (((z8 x4:Int), !r7),x1,x2,x3,x4,x5)
def F.jr(N:Nat):E9->(E9->Option R)->((Unit->Option R)×(Int->Option R))->Option R
 | (x3,x4,x5,x6),next,(ke0,kret)=>
 bif decide (x6<x5) then
  chk (inB x6 (z8 x4))<|
  bif(zA x4 (z9 x6) (0:Int))==x3 then kret x6 else next (x3,x4,x5,Aa .i64 (x6+1))
 else
  ke0 ()
def F.yn(N:Nat):Nat->E9->((Unit->Option R)×(Int->Option R))->Option R:=lp (F.jr N)
def F.cx(N:Nat):((List Int)×Int)->(Int->Option R)->Option R
 | (x1,x2),k=>
 F.yn N N (x2,x1,(z8 x1:Int),0) (λ _=>
  k (-1),
  λ y7=>
  k y7)
def F.eu(N:Nat):Aot->(Aot->Option R)->(Adi->Option R)->Option R
 | ((x13,x14),(x15,x16,x17,x18,x19),x20),next,ke2=>
 bif decide (x14<x16) then
  F.cx N (x15,x14) λ r21=>
  chk (inB x13 (z8 x20))<|
  chk (inB (Aa .i64 ((Aa .i64 ((zA x20 (z9 x13) (0:Int))*x16))+x14)) (z8 x17))<|
  bif decide (r21>=0) then
   F.cx N (x20,zA x17 (z9 (Aa .i64 ((Aa .i64 ((zA x20 (z9 x13) (0:Int))*x16))+x14))) (0:Int)) λ r22=>
   bif decide (r22<0) then
    chk (zB (z8 x20+z8 [zA x17 (z9 (Aa .i64 ((Aa .i64 ((zA x20 (z9 x13) (0:Int))*x16))+x14))) (0:Int)]) (Ar 8))<|
    next ((x13,Aa .i64 (x14+1)),(x15,x16,x17,x18,x19),x20++[zA x17 (z9 (Aa .i64 ((Aa .i64 ((zA x20 (z9 x13) (0:Int))*x16))+x14))) (0:Int)])
   else
    next ((x13,Aa .i64 (x14+1)),(x15,x16,x17,x18,x19),x20)
  else
   next ((x13,Aa .i64 (x14+1)),(x15,x16,x17,x18,x19),x20)
 else
  ke2 (x13,(x15,x16,x17,x18,x19),x20)
def F.uh(N:Nat):Nat->Aot->(Adi->Option R)->Option R:=lp (F.eu N)
def F.ew(N:Nat):Adi->(Adi->Option R)->((List Int)->Option R)->Option R
 | (x6,(x7,x8,x9,x10,x11),x12),next,ke0=>
 bif decide (x6<(z8 x12:Int)) then
  F.uh N N ((x6,0),(x7,x8,x9,x10,x11),x12) λ(y49,(y50,y51,y52,y53,y54),y55)=>
  next (Aa .i64 (y49+1),(y50,y51,y52,y53,y54),y55)
 else
  ke0 x12
def F.xp(N:Nat):Nat->Adi->((List Int)->Option R)->Option R:=lp (F.ew N)
def F.qu(N:Nat):Bb->((List Int)->Option R)->Option R
 | (x1,x2,x3,x4,x5),k=>
 F.xp N N (0,(x1,x2,x3,x4,x5),[0]) λ y56=>
 k y56
def F.js(N:Nat):Aou->(Aou->Option R)->(Aut->Option R)->Option R
 | ((x7,x8,x9,x10,x11),(x12,x13,x14,x15,x16),x17),next,ke0=>
 bif decide (x11<x10) then
  chk (inB x11 (z8 x9))<|
  chk (inB (zA x9 (z9 x11) (0:Int)) (z8 x17))<|
  next ((x7,x8,x9,x10,Aa .i64 (x11+1)),(x12,x13,x14,x15,x16),zE x17 (z9 (zA x9 (z9 x11) (0:Int))) x11)
 else
  ke0 ((x7,x8),(x12,x13,x14,x15,x16),x17)
def F.vz(N:Nat):Nat->Aou->(Aut->Option R)->Option R:=lp (F.js N)
def F.jt(N:Nat):Aov->(Aov->Option R)->(Auu->Option R)->Option R
 | ((x26,x27,x28),(x29,x30,x31,x32,x33),x34,x35),next,ke2=>
 bif decide (x28<x30) then
  F.cx N (x29,x28) λ r36=>
  bif decide (r36>=0) then
   chk (zB (z8 x35+z8 [x28]) (Ar 8))<|
   next ((x26,x27,Aa .i64 (x28+1)),(x29,x30,x31,x32,x33),x34,x35++[x28])
  else
   next ((x26,x27,Aa .i64 (x28+1)),(x29,x30,x31,x32,x33),x34,x35)
 else
  ke2 ((x26,x27),(x29,x30,x31,x32,x33),x34,x35)
def F.wa(N:Nat):Nat->Aov->(Auu->Option R)->Option R:=lp (F.jt N)
def F.ju(N:Nat):Aox->(Aox->Option R)->((Dp×Bb×Aow)->Option R)->Option R
 | ((x67,x68,x69,x70),(x71,x72,x73,x74,x75),x76,x77,x78,x79),next,ke6=>
 bif decide (x70<x68) then
  chk (inB x69 (z8 x67))<|
  chk (inB (zA x67 (z9 x69) (0:Int)) (z8 x74))<|
  chk (inB x70 (z8 x67))<|
  chk (inB (zA x67 (z9 x70) (0:Int)) (z8 x74))<|
  bif(zA x74 (z9 (zA x67 (z9 x69) (0:Int))) (0:Int)) !=(zA x74 (z9 (zA x67 (z9 x70) (0:Int))) (0:Int)) then
   chk (inB x70 (z8 x79))<|
   next ((x67,x68,x69,Aa .i64 (x70+1)),(x71,x72,x73,x74,x75),x76,x77,x78,zE x79 (z9 x70) true)
  else
   chk (inB x69 (z8 x67))<|
   chk (inB (zA x67 (z9 x69) (0:Int)) (z8 x75))<|
   chk (inB x70 (z8 x67))<|
   chk (inB (zA x67 (z9 x70) (0:Int)) (z8 x75))<|
   chk (inB x70 (z8 x79))<|
   next ((x67,x68,x69,Aa .i64 (x70+1)),(x71,x72,x73,x74,x75),x76,x77,x78,zE x79 (z9 x70) ((zA x75 (z9 (zA x67 (z9 x69) (0:Int))) (0:Int)) !=(zA x75 (z9 (zA x67 (z9 x70) (0:Int))) (0:Int))))
 else
  ke6 ((x67,x68,x69),(x71,x72,x73,x74,x75),x76,x77,x78,x79)
def F.wb(N:Nat):Nat->Aox->((Dp×Bb×Aow)->Option R)->Option R:=lp (F.ju N)
def F.jv(N:Nat):(Dp×Q1)->((Dp×Q1)->Option R)->((((List Int)×Int)×Q1)->Option R)->Option R
 | ((x56,x57,x58),(x59,x60,x61,x62,x63),x64,x65,x66),next,ke4=>
 bif decide (x58<x57) then
  chk (decide (0<=x57))<|
  chk (zB (z9 x57) (Ar 1))<|
  F.wb N N ((x56,x57,x58,0),(x59,x60,x61,x62,x63),x64,x65,x66,zF (z9 x57) false) λ((y93,y94,y95),(y96,y97,y98,y99,y100),y101,y102,y103,y104)=>
  chk (zB (z8 y103+z8 [y104]) (Ar 24))<|
  next ((y93,y94,Aa .i64 (y95+1)),(y96,y97,y98,y99,y100),y101,y102,y103++[y104])
 else
  ke4 ((x56,x57),(x59,x60,x61,x62,x63),x64,x65,x66)
def F.wc(N:Nat):Nat->(Dp×Q1)->((((List Int)×Int)×Q1)->Option R)->Option R:=lp (F.jv N)
def F.ig(N:Nat):Aoz->(Aoz->Option R)->(Adj->Option R)->Option R
 | ((x151,x152,x153,x154,x155,x156,x157),(x158,x159,x160,x161,x162),x163,x164,x165),next,ke14=>
 bif decide (x157<x156) then
  chk (inB x157 (z8 x164))<|
  chk (inB x154 (z8 x151))<|
  chk (inB (Aa .i64 ((Aa .i64 ((zA x151 (z9 x154) (0:Int))*x159))+(zA x164 (z9 x157) (0:Int)))) (z8 x160))<|
  chk (inB (zA x160 (z9 (Aa .i64 ((Aa .i64 ((zA x151 (z9 x154) (0:Int))*x159))+(zA x164 (z9 x157) (0:Int))))) (0:Int)) (z8 x163))<|
  chk (inB x155 (z8 x151))<|
  chk (inB (Aa .i64 ((Aa .i64 ((zA x151 (z9 x155) (0:Int))*x159))+(zA x164 (z9 x157) (0:Int)))) (z8 x160))<|
  chk (inB (zA x160 (z9 (Aa .i64 ((Aa .i64 ((zA x151 (z9 x155) (0:Int))*x159))+(zA x164 (z9 x157) (0:Int))))) (0:Int)) (z8 x163))<|
  chk (inB (zA x163 (z9 (zA x160 (z9 (Aa .i64 ((Aa .i64 ((zA x151 (z9 x154) (0:Int))*x159))+(zA x164 (z9 x157) (0:Int))))) (0:Int))) (0:Int)) (z8 x165))<|
  chk (inB (zA x163 (z9 (zA x160 (z9 (Aa .i64 ((Aa .i64 ((zA x151 (z9 x155) (0:Int))*x159))+(zA x164 (z9 x157) (0:Int))))) (0:Int))) (0:Int)) (z8 (zA x165 (z9 (zA x163 (z9 (zA x160 (z9 (Aa .i64 ((Aa .i64 ((zA x151 (z9 x154) (0:Int))*x159))+(zA x164 (z9 x157) (0:Int))))) (0:Int))) (0:Int))) ([]:List Bool))))<|
  bif zA (zA x165 (z9 (zA x163 (z9 (zA x160 (z9 (Aa .i64 ((Aa .i64 ((zA x151 (z9 x154) (0:Int))*x159))+(zA x164 (z9 x157) (0:Int))))) (0:Int))) (0:Int))) ([]:List Bool)) (z9 (zA x163 (z9 (zA x160 (z9 (Aa .i64 ((Aa .i64 ((zA x151 (z9 x155) (0:Int))*x159))+(zA x164 (z9 x157) (0:Int))))) (0:Int))) (0:Int))) false then
   chk (inB x154 (z8 x165))<|
   chk (inB x155 (z8 (zA x165 (z9 x154) ([]:List Bool))))<|
   next ((x151,x152,true,x154,x155,x156,Aa .i64 (x157+1)),(x158,x159,x160,x161,x162),x163,x164,zE x165 (z9 x154) (zE (zA x165 (z9 x154) ([]:List Bool)) (z9 x155) true))
  else
   next ((x151,x152,x153,x154,x155,x156,Aa .i64 (x157+1)),(x158,x159,x160,x161,x162),x163,x164,x165)
 else
  ke14 ((x151,x152,x153,x154,x155),(x158,x159,x160,x161,x162),x163,x164,x165)
def F.vc(N:Nat):Nat->Aoz->(Adj->Option R)->Option R:=lp (F.ig N)
def F.ii(N:Nat):Adj->(Adj->Option R)->(Adk->Option R)->Option R
 | ((x138,x139,x140,x141,x142),(x143,x144,x145,x146,x147),x148,x149,x150),next,ke12=>
 bif decide (x142<x139) then
  chk (inB x141 (z8 x150))<|
  chk (inB x142 (z8 (zA x150 (z9 x141) ([]:List Bool))))<|
  bif zA (zA x150 (z9 x141) ([]:List Bool)) (z9 x142) false then
   next ((x138,x139,x140,x141,Aa .i64 (x142+1)),(x143,x144,x145,x146,x147),x148,x149,x150)
  else
   F.vc N N ((x138,x139,x140,x141,x142,(z8 x149:Int),0),(x143,x144,x145,x146,x147),x148,x149,x150) λ((y181,y182,y183,y184,y185),(y186,y187,y188,y189,y190),y191,y192,y193)=>
   next ((y181,y182,y183,y184,Aa .i64 (y185+1)),(y186,y187,y188,y189,y190),y191,y192,y193)
 else
  ke12 ((x138,x139,x140,x141),(x143,x144,x145,x146,x147),x148,x149,x150)
def F.vd(N:Nat):Nat->Adj->(Adk->Option R)->Option R:=lp (F.ii N)
def F.ik(N:Nat):Adk->(Adk->Option R)->(Adl->Option R)->Option R
 | ((x126,x127,x128,x129),(x130,x131,x132,x133,x134),x135,x136,x137),next,ke10=>
 bif decide (x129<x127) then
  F.vd N N ((x126,x127,x128,x129,0),(x130,x131,x132,x133,x134),x135,x136,x137) λ((y194,y195,y196,y197),(y198,y199,y200,y201,y202),y203,y204,y205)=>
  next ((y194,y195,y196,Aa .i64 (y197+1)),(y198,y199,y200,y201,y202),y203,y204,y205)
 else
  ke10 ((x126,x127,x128),(x130,x131,x132,x133,x134),x135,x136,x137)
def F.ve(N:Nat):Nat->Adk->(Adl->Option R)->Option R:=lp (F.ik N)
def F.jx(N:Nat):Adl->(Adl->Option R)->(Adg->Option R)->Option R
 | ((x115,x116,x117),(x118,x119,x120,x121,x122),x123,x124,x125),next,ke8=>
 bif x117 then
  F.ve N N ((x115,x116,false,0),(x118,x119,x120,x121,x122),x123,x124,x125) λ((y206,y207,y208),(y209,y210,y211,y212,y213),y214,y215,y216)=>
  next ((y206,y207,y208),(y209,y210,y211,y212,y213),y214,y215,y216)
 else
  ke8 x125
def F.yo(N:Nat):Nat->Adl->(Adg->Option R)->Option R:=lp (F.jx N)
def F.sk(N:Nat):(Bb×(List Int))->(Adg->Option R)->Option R
 | ((x1,x2,x3,x4,x5),x6),k=>
 chk (decide (0<=(z8 x4:Int)))<|
 chk (zB (z9 (z8 x4:Int)) (Ar 8))<|
 F.vz N N ((x6,(z8 x6:Int),x6,(z8 x6:Int),0),(x1,x2,x3,x4,x5),zF (z9 (z8 x4:Int)) (0:Int)) λ((y18,y19),(y20,y21,y22,y23,y24),y25)=>
 F.wa N N ((y18,y19,0),(y20,y21,y22,y23,y24),y25,([]:List Int)) λ((y47,y48),(y49,y50,y51,y52,y53),y54,y55)=>
 F.wc N N ((y47,y48,0),(y49,y50,y51,y52,y53),y54,y55,([]:List (List Bool))) λ((y105,y106),(y107,y108,y109,y110,y111),y112,y113,y114)=>
 F.yo N N ((y105,y106,true),(y107,y108,y109,y110,y111),y112,y113,y114) λ y217=>
 k y217
def F.we:(Bb×Int×Int)->(Int->Option R)->Option R
 | ((x1,x2,x3,x4,x5),x6,x7),k=>
 chk (inB x7 (z8 x1))<|
 chk (inB (Aa .i64 ((Aa .i64 (x6*x2))+(zA x1 (z9 x7) (0:Int)))) (z8 x3))<|
 k (zA x3 (z9 (Aa .i64 ((Aa .i64 (x6*x2))+(zA x1 (z9 x7) (0:Int))))) (0:Int))
def F.il(N:Nat):Ao2->(Ao2->Option R)->(Auw->Option R)->Option R
 | ((x24,x25,x26,x27,x28),(x29,x30,x31,x32,x33),x34,x35,x36,x37,x38,x39,x40,x41),next,ke2=>
 chk (inB x24 (z8 x36))<|
 chk (inB x26 (z8 (zA x36 (z9 x24) ([]:List Bool))))<|
 bif zA (zA x36 (z9 x24) ([]:List Bool)) (z9 x26) false then next ((x24,x25,Aa .i64 (x26+1),x27,x28),(x29,x30,x31,x32,x33),x34,x35,x36,x37,x38,x39,x40,x41) else ke2 ((x25,x26,x27,x28),(x29,x30,x31,x32,x33),x34,x35,x36,x37,x38,x39,x40,x41)
def F.vf(N:Nat):Nat->Ao2->(Auw->Option R)->Option R:=lp (F.il N)
def F.im(N:Nat):Ao3->(Ao3->Option R)->((Bb×(Int×(List Int)×(List Int)×I7))->Option R)->Option R
 | ((x9,x10),(x11,x12,x13,x14,x15),x16,x17,x18,x19,x20,x21,x22,x23),next,ke0=>
 bif decide (x10<x9) then
  chk (inB x10 (z8 x17))<|
  F.vf N N ((x10,zA x17 (z9 x10) (0:Int),0,x9,x10),(x11,x12,x13,x14,x15),x16,x17,x18,x19,x20,x21,x22,x23) λ((y42,y43,y44,y45),(y46,y47,y48,y49,y50),y51,y52,y53,y54,y55,y56,y57,y58)=>
  chk (inB y43 (z8 y52))<|
  chk (inB y42 (z8 y54))<|
  next ((y44,Aa .i64 (y45+1)),(y46,y47,y48,y49,y50),y51,y52,y53,zE y54 (z9 y42) (zA y52 (z9 y43) (0:Int)),y55,y56,y57,y58)
 else
  ke0 ((x11,x12,x13,x14,x15),x16,x19,x20,x21,x22,x23)
def F.vg(N:Nat):Nat->Ao3->((Bb×(Int×(List Int)×(List Int)×I7))->Option R)->Option R:=lp (F.im N)
def F.io(N:Nat):Ao5->(Ao5->Option R)->((Int×Bb×Ao4)->Option R)->Option R
 | ((x84,x85),(x86,x87,x88,x89,x90),x91,x92,x93,x94,x95,x96,x97,x98,x99),next,ke6=>
 bif decide (x85<256) then
  chk (inB x84 (z8 x93))<|
  F.we ((x86,x87,x88,x89,x90),zA x93 (z9 x84) (0:Int),x85) λ r100=>
  chk (inB r100 (z8 x92))<|
  F.cx N (x93,zA x92 (z9 r100) (0:Int)) λ r101=>
  bif decide (r101<0) then
   chk (zB (z8 x93+z8 [zA x92 (z9 r100) (0:Int)]) (Ar 8))<|
   F.cx N (x93++[zA x92 (z9 r100) (0:Int)],zA x92 (z9 r100) (0:Int)) λ r120=>
   chk (zB (z8 x95+z8 [r120]) (Ar 8))<|
   next ((x84,Aa .i64 (x85+1)),(x86,x87,x88,x89,x90),x91,x92,x93++[zA x92 (z9 r100) (0:Int)],x94,x95++[r120],x96,x97,x98,x99)
  else
   F.cx N (x93,zA x92 (z9 r100) (0:Int)) λ r121=>
   chk (zB (z8 x95+z8 [r121]) (Ar 8))<|
   next ((x84,Aa .i64 (x85+1)),(x86,x87,x88,x89,x90),x91,x92,x93,x94,x95++[r121],x96,x97,x98,x99)
 else
  ke6 (x84,(x86,x87,x88,x89,x90),x91,x92,x93,x94,x95,x96,x97,x98,x99)
def F.vh(N:Nat):Nat->Ao5->((Int×Bb×Ao4)->Option R)->Option R:=lp (F.io N)
def F.ip(N:Nat):Ao7->(Ao7->Option R)->((Bb×Int×Ao6)->Option R)->Option R
 | (x70,(x71,x72,x73,x74,x75),x76,x77,x78,x79,x80,x81,x82,x83),next,ke4=>
 bif decide (x70<(z8 x78:Int)) then
  F.vh N N ((x70,0),(x71,x72,x73,x74,x75),x76,x77,x78,x79,([]:List Int),x80,x81,x82,x83) λ(y122,(y123,y124,y125,y126,y127),y128,y129,y130,y131,y132,y133,y134,y135,y136)=>
  chk (zB (z8 y131+z8 [y132]) (Ar 24))<|
  next (Aa .i64 (y122+1),(y123,y124,y125,y126,y127),y128,y129,y130,y131++[y132],y133,y134,y135,y136)
 else
  ke4 ((x71,x72,x73,x74,x75),x76,x78,x79,x80,x81,x82,x83)
def F.vi(N:Nat):Nat->Ao7->((Bb×Int×Ao6)->Option R)->Option R:=lp (F.ip N)
def F.ey(N:Nat):Ao8->(Ao8->Option R)->((Aom×Bb×Q2)->Option R)->Option R
 | ((x190,x191,x192,x193,x194,x195,x196,x197,x198),(x199,x200,x201,x202,x203),x204,x205,x206,x207,x208,x209,x210,x211,x212,x213,x214,x215,x216),next,ke12=>
 bif decide (x198<x197) then
  chk (inB x198 (z8 x206))<|
  chk (inB x193 (z8 (zA x206 (z9 x198) ([]:List Int))))<|
  chk (inB x190 (z8 (zA x206 (z9 x198) ([]:List Int))))<|
  bif(zA (zA x206 (z9 x198) ([]:List Int)) (z9 x193) (0:Int)) !=(zA (zA x206 (z9 x198) ([]:List Int)) (z9 x190) (0:Int)) then next ((x190,x191,x192,x193,false,x195,x196,x197,Aa .i64 (x198+1)),(x199,x200,x201,x202,x203),x204,x205,x206,x207,x208,x209,x210,x211,x212,x213,x214,x215,x216) else next ((x190,x191,x192,x193,x194,x195,x196,x197,Aa .i64 (x198+1)),(x199,x200,x201,x202,x203),x204,x205,x206,x207,x208,x209,x210,x211,x212,x213,x214,x215,x216)
 else
  ke12 ((x190,x191,x192,x194,x195,x196),(x199,x200,x201,x202,x203),x204,x205,x206,x207,x208,x209,x210,x211,x212,x213,x214,x215,x216)
def F.ui(N:Nat):Nat->Ao8->((Aom×Bb×Q2)->Option R)->Option R:=lp (F.ey N)
def F.fe(N:Nat):Ao9->(Ao9->Option R)->(((Int×Int)×Bb×Q2)->Option R)->Option R
 | ((x168,x169,x170,x171),(x172,x173,x174,x175,x176),x177,x178,x179,x180,x181,x182,x183,x184,x185,x186,x187,x188,x189),next,ke10=>
 bif decide (x171<x170) then
  chk (inB x171 (z8 x181))<|
  F.ui N N ((x168,x169,x171,zA x181 (z9 x171) (0:Int),true,x170,x171,(z8 x179:Int),0),(x172,x173,x174,x175,x176),x177,x178,x179,x180,x181,x182,x183,x184,x185,x186,x187,x188,x189) λ((y244,y245,y246,y247,y248,y249),(y250,y251,y252,y253,y254),y255,y256,y257,y258,y259,y260,y261,y262,y263,y264,y265,y266,y267)=>
  bif y247 then next ((y244,y246,y248,Aa .i64 (y249+1)),(y250,y251,y252,y253,y254),y255,y256,y257,y258,y259,y260,y261,y262,y263,y264,y265,y266,y267) else next ((y244,y245,y248,Aa .i64 (y249+1)),(y250,y251,y252,y253,y254),y255,y256,y257,y258,y259,y260,y261,y262,y263,y264,y265,y266,y267)
 else
  ke10 ((x168,x169),(x172,x173,x174,x175,x176),x177,x178,x179,x180,x181,x182,x183,x184,x185,x186,x187,x188,x189)
def F.uj(N:Nat):Nat->Ao9->(((Int×Int)×Bb×Q2)->Option R)->Option R:=lp (F.fe N)
def F.iq(N:Nat):Apa->(Apa->Option R)->((Bb×Q2)->Option R)->Option R
 | (x149,(x150,x151,x152,x153,x154),x155,x156,x157,x158,x159,x160,x161,x162,x163,x164,x165,x166,x167),next,ke8=>
 bif decide (x149<256) then
  F.uj N N ((x149,(-1),(z8 x159:Int),0),(x150,x151,x152,x153,x154),x155,x156,x157,x158,x159,x160,x161,x162,x163,x164,x165,x166,x167) λ((y290,y291),(y292,y293,y294,y295,y296),y297,y298,y299,y300,y301,y302,y303,y304,y305,y306,y307,y308,y309)=>
  bif decide (y291<0) then
   chk (zB (z8 y301+z8 [y290]) (Ar 8))<|
   chk (zB (z8 y306+z8 [(z8 y301:Int)]) (Ar 8))<|
   next (Aa .i64 (y290+1),(y292,y293,y294,y295,y296),y297,y298,y299,y300,y301++[y290],y302,y303,y304,y305,y306++[(z8 y301:Int)],y307,y308,y309)
  else
   chk (zB (z8 y306+z8 [y291]) (Ar 8))<|
   next (Aa .i64 (y290+1),(y292,y293,y294,y295,y296),y297,y298,y299,y300,y301,y302,y303,y304,y305,y306++[y291],y307,y308,y309)
 else
  ke8 ((x150,x151,x152,x153,x154),x155,x156,x157,x158,x159,x160,x161,x162,x163,x164,x165,x166,x167)
def F.vj(N:Nat):Nat->Apa->((Bb×Q2)->Option R)->Option R:=lp (F.iq N)
def F.ff(N:Nat):Apc->(Apc->Option R)->(Auy->Option R)->Option R
 | ((x368,x369,x370,x371,x372,x373),(x374,x375,x376,x377,x378),x379,x380,x381,x382,x383,x384,x385,x386,x387,x388,x389,x390,x391),next,ke16=>
 bif decide (x373<x372) then
  chk (inB x373 (z8 x382))<|
  chk (inB x368 (z8 x380))<|
  chk (inB (zA x382 (z9 x373) (0:Int)) (z8 (zA x380 (z9 x368) ([]:List Int))))<|
  chk (zB (z8 x389+z8 [zA (zA x380 (z9 x368) ([]:List Int)) (z9 (zA x382 (z9 x373) (0:Int))) (0:Int)]) (Ar 8))<|
  next ((x368,x369,x370,x371,x372,Aa .i64 (x373+1)),(x374,x375,x376,x377,x378),x379,x380,x381,x382,x383,x384,x385,x386,x387,x388,x389++[zA (zA x380 (z9 x368) ([]:List Int)) (z9 (zA x382 (z9 x373) (0:Int))) (0:Int)],x390,x391)
 else
  ke16 ((x369,x370,x371),(x374,x375,x376,x377,x378),x379,x380,x381,x382,x383,x384,x385,x386,x387,x388,x389,x390,x391)
def F.um(N:Nat):Nat->Apc->(Auy->Option R)->Option R:=lp (F.ff N)
def F.fg(N:Nat):Apd->(Apd->Option R)->(Wb->Option R)->Option R
 | ((x348,x349),(x350,x351,x352,x353,x354),x355,x356,x357,x358,x359,x360,x361,x362,x363,x364,x365,x366,x367),next,ke14=>
 bif decide (x349<x348) then
  chk (inB x349 (z8 x359))<|
  F.um N N ((x349,zA x359 (z9 x349) (0:Int),x348,x349,(z8 x358:Int),0),(x350,x351,x352,x353,x354),x355,x356,x357,x358,x359,x360,x361,x362,x363,x364,x365,x366,x367) λ((y392,y393,y394),(y395,y396,y397,y398,y399),y400,y401,y402,y403,y404,y405,y406,y407,y408,y409,y410,y411,y412)=>
  chk (inB y392 (z8 y398))<|
  chk (zB (z8 y411+z8 [zA y398 (z9 y392) (0:Int)]) (Ar 8))<|
  chk (inB y392 (z8 y399))<|
  chk (zB (z8 y412+z8 [zA y399 (z9 y392) (0:Int)]) (Ar 8))<|
  next ((y393,Aa .i64 (y394+1)),(y395,y396,y397,y398,y399),y400,y401,y402,y403,y404,y405,y406,y407,y408,y409,y410,y411++[zA y398 (z9 y392) (0:Int)],y412++[zA y399 (z9 y392) (0:Int)])
 else
  ke14 (x355,x357,x360,x361,x362,x363,x364,x365,x366,x367)
def F.uo(N:Nat):Nat->Apd->(Wb->Option R)->Option R:=lp (F.fg N)
def F.rp(N:Nat):Bb->(Q3->Option R)->Option R
 | (x1,x2,x3,x4,x5),k=>
 F.sj N (x1,x2,x3,x4,x5) λ r6=>
 bif !r6 then
  k (0,([]:List Int),([]:List Int),([]:List Int),([]:List Int))
 else
  F.qu N (x1,x2,x3,x4,x5) λ r7=>
  F.sk N ((x1,x2,x3,x4,x5),r7) λ r8=>
  chk (decide (0<=(z8 x4:Int)))<|
  chk (zB (z9 (z8 x4:Int)) (Ar 8))<|
  F.vg N N (((z8 r7:Int),0),(x1,x2,x3,x4,x5),0,r7,r8,zF (z9 (z8 x4:Int)) (0:Int),([]:List Int),([]:List Int),([]:List Int),([]:List Int)) λ((y59,y60,y61,y62,y63),y64,y65,y66,y67,y68,y69)=>
  chk (inB 0 (z8 y65))<|
  F.vi N N (0,(y59,y60,y61,y62,y63),y64,y65,[zA y65 (z9 0) (0:Int)],([]:List (List Int)),y66,y67,y68,y69) λ((y137,y138,y139,y140,y141),y142,y143,y144,y145,y146,y147,y148)=>
  F.vj N N (0,(y137,y138,y139,y140,y141),y142,y143,y144,0,([]:List Int),y145,y146,y147,y148,([]:List Int),([]:List Int),([]:List Int),([]:List Int)) λ((y330,y331,y332,y333,y334),y335,y336,y337,y338,y339,y340,y341,y342,y343,y344,y345,y346,y347)=>
  F.uo N N (((z8 y336:Int),0),(y330,y331,y332,y333,y334),y335,y337,(z8 y339:Int),y339,y336,y340,y341,y342,y343,y344,y345,y346,y347) λ(y413,y414,y415,y416,y417,y418,y419,y420,y421,y422)=>
  k (y414,y419,y420,y421,y422)
def F.jy(N:Nat):Ape->(Ape->Option R)->(Au1->Option R)->Option R
 | ((x46,x47,x48,x49,x50,x51),x52,x53,x54,x55,x56,x57,x58,x59,x60,x61,x62,x63,x64,x65,x66),next,ke4=>
 bif decide (x49<(z8 x55:Int)) then
  chk (inB x49 (z8 x55))<|
  F.tb N (zA x55 (z9 x49) ([]:List Bool),x56) λ r67=>
  bif r67 then ke4 ((x46,x47,x49,x50,x51),x52,x53,x54,x55,x56,x57,x58,x59,x60,x61,x62,x63,x64,x65,x66) else next ((x46,x47,x48,Aa .i64 (x49+1),x50,x51),x52,x53,x54,x55,x56,x57,x58,x59,x60,x61,x62,x63,x64,x65,x66)
 else
  ke4 ((x46,x47,x48,x50,x51),x52,x53,x54,x55,x56,x57,x58,x59,x60,x61,x62,x63,x64,x65,x66)
def F.wg(N:Nat):Nat->Ape->(Au1->Option R)->Option R:=lp (F.jy N)
def F.jz(N:Nat):Apf->(Apf->Option R)->(Adn->Option R)->Option R
 | ((x27,x28,x29,x30),x31,x32,x33,x34,x35,x36,x37,x38,x39,x40,x41,x42,x43,x44),next,ke2=>
 bif decide (x30<x29) then
  chk (inB x30 (z8 x32))<|
  chk (inB x28 (z8 x34))<|
  F.si N ((x39,x40),x28==0,zA x34 (z9 x28) ([]:List Bool),Aa .u8 (zA x32 (z9 x30) (0:Int))) λ r45=>
  F.wg N N ((x27,x28,(-1),1,x29,x30),x31,x32,x33,x34,r45,x35,x36,x37,x38,x39,x40,x41,x42,x43,x44) λ((y68,y69,y70,y71,y72),y73,y74,y75,y76,y77,y78,y79,y80,y81,y82,y83,y84,y85,y86,y87)=>
  bif decide (y70<0) then
   chk (zB (z8 y76+z8 [y77]) (Ar 24))<|
   chk (zB (z8 y85+z8 [(z8 y76:Int)]) (Ar 8))<|
   next ((y68,y69,y71,Aa .i64 (y72+1)),y73,y74,y75,y76++[y77],y78,y79,y80,y81,y82,y83,y84,y85++[(z8 y76:Int)],y86,y87)
  else
   chk (zB (z8 y85+z8 [y70]) (Ar 8))<|
   next ((y68,y69,y71,Aa .i64 (y72+1)),y73,y74,y75,y76,y78,y79,y80,y81,y82,y83,y84,y85++[y70],y86,y87)
 else
  ke2 ((x27,x28),x31,x32,x33,x34,x35,x36,x37,x38,x39,x40,x41,x42,x43,x44)
def F.wh(N:Nat):Nat->Apf->(Adn->Option R)->Option R:=lp (F.jz N)
def F.ka(N:Nat):Adn->(Adn->Option R)->((Wb->Option R)×((Int×Int×H3)->Option R))->Option R
 | ((x9,x10),x11,x12,x13,x14,x15,x16,x17,x18,x19,x20,x21,x22,x23,x24),next,(ke0,kret)=>
 bif decide (x10<(z8 x14:Int)) then
  chk (inB x10 (z8 x14))<|
  F.pq N ((x19,x20),x10==0,zA x14 (z9 x10) ([]:List Bool),false) λ r25=>
  chk (zB (z8 x23+z8 [r25]) (Ar 8))<|
  chk (inB x10 (z8 x14))<|
  F.pq N ((x19,x20),x10==0,zA x14 (z9 x10) ([]:List Bool),true) λ r26=>
  chk (zB (z8 x24+z8 [r26]) (Ar 8))<|
  F.wh N N ((x9,x10,(z8 x12:Int),0),x11,x12,x13,x14,x15,x16,x17,x18,x19,x20,x21,x22,x23++[r25],x24++[r26]) λ((y107,y108),y109,y110,y111,y112,y113,y114,y115,y116,y117,y118,y119,y120,y121,y122)=>
  bif decide ((z8 y112:Int)>y107) then kret (3,0,y111,([]:List Int),([]:List Int),([]:List Int),([]:List Int),y119,y120,y121,y122) else next ((y107,Aa .i64 (y108+1)),y109,y110,y111,y112,y113,y114,y115,y116,y117,y118,y119,y120,y121,y122)
 else
  ke0 (x11,x13,x15,x16,x17,x18,x21,x22,x23,x24)
def F.yp(N:Nat):Nat->Adn->((Wb->Option R)×((Int×Int×H3)->Option R))->Option R:=lp (F.ka N)
def F.sn(N:Nat):((List ty5)×Int)->(((Int×Int)×(List Int)×I7)->Option R)->Option R
 | (x1,x2),k=>
 F.af (x2,1,4000) λ r3=>
 bif !r3 then
  k ((0,1),([]:List Int),([]:List Int),([]:List Int),([]:List Int))
 else
  F.rk N x1 λ r4=>
  bif !r4 then
   k ((0,2),([]:List Int),([]:List Int),([]:List Int),([]:List Int))
  else
   F.sd N x1 λ(r5,r6)=>
   F.se N (r5,r6) λ(r7,r8)=>
   chk (decide (0<=(z8 r5:Int)))<|
   chk (zB (z9 (z8 r5:Int)) (Ar 1))<|
   F.yp N N ((x2,0),0,r8,(z8 r8:Int),[zF (z9 (z8 r5:Int)) false],([]:List Int),([]:List Int),([]:List Int),([]:List Int),r5,r6,r7,([]:List Int),([]:List Int),([]:List Int)) (λ(y123,y124,y125,y126,y127,y128,y129,y130,y131,y132)=>
    F.rp N (y129,y124,y130,y131,y132) λ(r133,r134,r135,r136,r137)=>
    k ((r133,0),r134,r135,r136,r137),
    λ(y138,y139,y140,y141,y142,y143,y144,y145,y146,y147,y148)=>
    k ((y139,y138),y141,y142,y143,y144))
def F.ir(N:Nat):Td->(Td->Option R)->(Au3->Option R)->Option R
 | ((x13,x14,x15),(x16,x17,x18),(x19,x20,x21,x22,x23),x24,x25,x26,x27,x28,x29,x30,x31,x32,x33),next,ke0=>
 bif decide (x15<256) then
  chk (inB x15 (z8 x19))<|
  chk (!(2==0))<|
  chk (zB (z8 x30+z8 [Aa .i64 ((Aa .i64 ((zA x19 (z9 x15) (0:Int))*2))+(zG x15 2))]) (Ar 8))<|
  next ((x13,x14,Aa .i64 (x15+1)),(x16,x17,x18),(x19,x20,x21,x22,x23),x24,x25,x26,x27,x28,x29,x30++[Aa .i64 ((Aa .i64 ((zA x19 (z9 x15) (0:Int))*2))+(zG x15 2))],x31,x32,x33)
 else
  ke0 ((x13,x14),(x16,x17,x18),(x19,x20,x21,x22,x23),x24,x25,x26,x27,x28,x29,x30,x31,x32,x33)
def F.vm(N:Nat):Nat->Td->(Au3->Option R)->Option R:=lp (F.ir N)
def F.iu(N:Nat):Apg->(Apg->Option R)->(Ado->Option R)->Option R
 | ((x97,x98,x99,x100,x101),(x102,x103,x104),(x105,x106,x107,x108,x109),x110,x111,x112,x113,x114,x115,x116,x117,x118,x119),next,ke6=>
 bif decide (x101<x106) then
  chk (inB (Aa .i64 ((Aa .i64 (x100*x106))+x101)) (z8 x107))<|
  F.aa (x98,x102,x103,x104) λ(r120,r121,r122,r123)=>
  F.aa (x98,r121,r122,r123) λ(r124,r125,r126,r127)=>
  chk (zB (z8 x117+z8 [Aa .i64 ((zA x107 (z9 (Aa .i64 ((Aa .i64 (x100*x106))+x101))) (0:Int))+(Aa .i64 (r120*x97)))]) (Ar 8))<|
  chk (zB (z8 (x117++[Aa .i64 ((zA x107 (z9 (Aa .i64 ((Aa .i64 (x100*x106))+x101))) (0:Int))+(Aa .i64 (r120*x97)))])+z8 [Aa .i64 ((zA x107 (z9 (Aa .i64 ((Aa .i64 (x100*x106))+x101))) (0:Int))+(Aa .i64 (r124*x97)))]) (Ar 8))<|
  next ((x97,x98,x99,x100,Aa .i64 (x101+1)),(r125,r126,r127),(x105,x106,x107,x108,x109),x110,x111,x112,x113,x114,x115,x116,(x117++[Aa .i64 ((zA x107 (z9 (Aa .i64 ((Aa .i64 (x100*x106))+x101))) (0:Int))+(Aa .i64 (r120*x97)))])++[Aa .i64 ((zA x107 (z9 (Aa .i64 ((Aa .i64 (x100*x106))+x101))) (0:Int))+(Aa .i64 (r124*x97)))],x118,x119)
 else
  ke6 ((x97,x98,x99,x100),(x102,x103,x104),(x105,x106,x107,x108,x109),x110,x111,x112,x113,x114,x115,x116,x117,x118,x119)
def F.vn(N:Nat):Nat->Apg->(Ado->Option R)->Option R:=lp (F.iu N)
def F.iw(N:Nat):Ado->(Ado->Option R)->(Td->Option R)->Option R
 | ((x75,x76,x77,x78),(x79,x80,x81),(x82,x83,x84,x85,x86),x87,x88,x89,x90,x91,x92,x93,x94,x95,x96),next,ke4=>
 bif decide (x78<x75) then
  F.vn N N ((x75,x76,x77,x78,0),(x79,x80,x81),(x82,x83,x84,x85,x86),x87,x88,x89,x90,x91,x92,x93,x94,x95,x96) λ((y128,y129,y130,y131),(y132,y133,y134),(y135,y136,y137,y138,y139),y140,y141,y142,y143,y144,y145,y146,y147,y148,y149)=>
  chk (inB y131 (z8 y138))<|
  chk (zB (z8 y148+z8 [zA y138 (z9 y131) (0:Int)]) (Ar 8))<|
  chk (inB y131 (z8 y139))<|
  chk (zB (z8 y149+z8 [zA y139 (z9 y131) (0:Int)]) (Ar 8))<|
  next ((y128,y129,y130,Aa .i64 (y131+1)),(y132,y133,y134),(y135,y136,y137,y138,y139),y140,y141,y142,y143,y144,y145,y146,y147,y148++[zA y138 (z9 y131) (0:Int)],y149++[zA y139 (z9 y131) (0:Int)])
 else
  ke4 ((x75,x76,x77),(x79,x80,x81),(x82,x83,x84,x85,x86),x87,x88,x89,x90,x91,x92,x93,x94,x95,x96)
def F.vo(N:Nat):Nat->Ado->(Td->Option R)->Option R:=lp (F.iw N)
def F.ix(N:Nat):Td->(Td->Option R)->(Aak->Option R)->Option R
 | ((x54,x55,x56),(x57,x58,x59),(x60,x61,x62,x63,x64),x65,x66,x67,x68,x69,x70,x71,x72,x73,x74),next,ke2=>
 bif decide (x56<x55) then
  F.vo N N ((x54,x55,x56,0),(x57,x58,x59),(x60,x61,x62,x63,x64),x65,x66,x67,x68,x69,x70,x71,x72,x73,x74) λ((y150,y151,y152),(y153,y154,y155),(y156,y157,y158,y159,y160),y161,y162,y163,y164,y165,y166,y167,y168,y169,y170)=>
  next ((y150,y151,Aa .i64 (y152+1)),(y153,y154,y155),(y156,y157,y158,y159,y160),y161,y162,y163,y164,y165,y166,y167,y168,y169,y170)
 else
  ke2 ((x57,x58,x59),x65,x66,x67,x68,x69,x70,x71,x72,x73,x74)
def F.ye(N:Nat):Nat->Td->(Aak->Option R)->Option R:=lp (F.ix N)
def F.pw(N:Nat):(Bb×(List Int)×Int×Int)->(Afz->Option R)->Option R
 | ((x1,x2,x3,x4,x5),x6,x7,x8),k=>
 F.aa (2,x6,x7,x8) λ(r9,r10,r11,r12)=>
 F.vm N N (((z8 x4:Int),Aa .i64 (2+r9),0),(r10,r11,r12),(x1,x2,x3,x4,x5),0,Aa .i64 (x2*2),([]:List Int),([]:List Int),([]:List Int),([]:List Int),([]:List Int),([]:List Int),([]:List Int),([]:List Int)) λ((y34,y35),(y36,y37,y38),(y39,y40,y41,y42,y43),y44,y45,y46,y47,y48,y49,y50,y51,y52,y53)=>
 F.ye N N ((y34,y35,0),(y36,y37,y38),(y39,y40,y41,y42,y43),y44,y45,y46,y47,y48,y49,y50,y51,y52,y53) λ((y171,y172,y173),y174,y175,y176,y177,y178,y179,y180,y181,y182,y183)=>
 k (y175,(y171,y172,y173),y180,y181,y182,y183)
def F.cd(N:Nat):(Afz->Option R)->Adm->Option R
 | k,(w95,(w96,w97,w98),w99,w100,w101,w102,w103,w104,w105,w106,w107,w108)=>
 bif decide (w95>=3) then
  k (w100,(w96,w97,w98),w105,w106,w107,w108)
 else
  bif w95==2 then
   F.dw N (w96,w97,w98) λ(r109,(r110,r111,r112),r113,r114,r115,r116)=>
   F.pw N ((r113,r109,r114,r115,r116),r110,r111,r112) λ(r117,(r118,r119,r120),r121,r122,r123,r124)=>
   k (r117,(r118,r119,r120),r121,r122,r123,r124)
  else
   F.pw N ((w105,w100,w106,w107,w108),w96,w97,w98) λ(r125,(r126,r127,r128),r129,r130,r131,r132)=>
   k (r125,(r126,r127,r128),r129,r130,r131,r132)
def F.oj(N:Nat):Dp->(Afz->Option R)->Option R
 | (x1,x2,x3),k=>
 F.aa (6,x1,x2,x3) λ(r4,r5,r6,r7)=>
 bif r4==5 then
  F.dw N (r5,r6,r7) λ(r8,(r9,r10,r11),r12,r13,r14,r15)=>
  k (r8,(r9,r10,r11),r12,r13,r14,r15)
 else
  F.pf N ((3,7),r5,r6,r7) λ(r16,r17,r18,r19)=>
  F.sn N (r16,90) λ((r20,r21),r22,r23,r24,r25)=>
  bif r21 !=0 then
   F.dw N (r17,r18,r19) λ(r87,(r88,r89,r90),r91,r92,r93,r94)=>
   jn (F.cd N k) (r4,(r88,r89,r90),0,r87,([]:List Int),([]:List Int),([]:List Int),([]:List Int),r91,r92,r93,r94)
  else
   bif decide (r20>100) then
    F.dw N (r17,r18,r19) λ(r133,(r134,r135,r136),r137,r138,r139,r140)=>
    jn (F.cd N k) (r4,(r134,r135,r136),0,r133,([]:List Int),([]:List Int),([]:List Int),([]:List Int),r137,r138,r139,r140)
   else
    jn (F.cd N k) (r4,(r17,r18,r19),0,r20,([]:List Int),([]:List Int),([]:List Int),([]:List Int),r22,r23,r24,r25)
def F.cy:(List Int)->((List Int)->Option R)->Option R
 | x1,k=>
 chk (zB (z8 ([]:List Int)+z8 x1) (Ar 8))<|
 k (([]:List Int)++x1)
def F.qg:Afz->((Int×(Dp×(List Int)×I7)×(List Int)×I7)->Option R)->Option R
 | (x1,(x2,x3,x4),x5,x6,x7,x8),k=>
 F.cy x5 λ r9=>
 F.cy x6 λ r10=>
 F.cy x7 λ r11=>
 F.cy x8 λ r12=>
 F.aa (9,x2,x3,x4) λ(r13,r14,r15,r16)=>
 bif r13==0 then
  F.aa (256,r14,r15,r16) λ(r17,r18,r19,r20)=>
  F.aa (2,r18,r19,r20) λ(r21,r22,r23,r24)=>
  chk (inB r17 (z8 r9))<|
  k (x1,((r22,r23,r24),x5,x6,x7,x8),zE r9 (z9 r17) (Aa .i64 (x1-r21)),r10,r11,r12)
 else
  bif r13==1 then
   chk (decide (0<=255)&&decide (255<=(z8 r9:Int)))<|
   k (x1,((r14,r15,r16),x5,x6,x7,x8),zC ((z9 255)-0) (zD 0 r9),r10,r11,r12)
  else
   bif r13==2 then
    F.aa (3,r14,r15,r16) λ(r25,r26,r27,r28)=>
    k (Aa .i64 (x1+(Aa .i64 (r25-1))),((r26,r27,r28),x5,x6,x7,x8),r9,r10,r11,r12)
   else
    bif r13==3 then
     F.aa ((z8 r10:Int),r14,r15,r16) λ(r29,r30,r31,r32)=>
     F.aa (2,r30,r31,r32) λ(r33,r34,r35,r36)=>
     chk (inB r29 (z8 r10))<|
     k (x1,((r34,r35,r36),x5,x6,x7,x8),r9,zE r10 (z9 r29) (Aa .i64 ((z8 r11:Int)-r33)),r11,r12)
    else
     bif r13==4 then
      F.aa ((z8 r11:Int),r14,r15,r16) λ(r37,r38,r39,r40)=>
      F.aa (2,r38,r39,r40) λ(r41,r42,r43,r44)=>
      chk (inB r37 (z8 r11))<|
      k (x1,((r42,r43,r44),x5,x6,x7,x8),r9,r10,zE r11 (z9 r37) (Aa .i64 (100-r41)),r12)
     else
      bif r13==5 then
       F.aa ((z8 r11:Int),r14,r15,r16) λ(r45,r46,r47,r48)=>
       F.aa (2,r46,r47,r48) λ(r49,r50,r51,r52)=>
       chk (inB r45 (z8 r12))<|
       k (x1,((r50,r51,r52),x5,x6,x7,x8),r9,r10,r11,zE r12 (z9 r45) (Aa .i64 ((-1)-r49)))
      else
       bif r13==6 then
        chk (zB (z8 r12+z8 [(-1)]) (Ar 8))<|
        k (x1,((r14,r15,r16),x5,x6,x7,x8),r9,r10,r11,r12++[(-1)])
       else
        bif r13==7 then
         chk (decide (0<=(Aa .i64 ((z8 r10:Int)-1)))&&decide ((Aa .i64 ((z8 r10:Int)-1))<=(z8 r10:Int)))<|
         k (x1,((r14,r15,r16),x5,x6,x7,x8),r9,zC ((z9 (Aa .i64 ((z8 r10:Int)-1)))-0) (zD 0 r10),r11,r12)
        else
         bif r13==8 then
          F.aa ((z8 r10:Int),r14,r15,r16) λ(r53,r54,r55,r56)=>
          chk (inB r53 (z8 r10))<|
          k (x1,((r54,r55,r56),x5,x6,x7,x8),r9,zE r10 (z9 r53) (-1),r11,r12)
         else
          k (x1,((r14,r15,r16),x5,x6,x7,x8),r9,r10,r11,r12)
def F.fh(N:Nat):Tt->(Tt->Option R)->(Adm->Option R)->Option R
 | ((x4,x5),(x6,x7,x8),x9,x10,x11,x12,x13,x14,x15,x16,x17,x18),next,ke0=>
 bif decide (x5<256) then
  chk (zB (z8 x15+z8 [Aa .i64 (255-x5)]) (Ar 8))<|
  next ((x4,Aa .i64 (x5+1)),(x6,x7,x8),x9,x10,x11,x12,x13,x14,x15++[Aa .i64 (255-x5)],x16,x17,x18)
 else
  ke0 (x4,(x6,x7,x8),x9,x10,x11,x12,x13,x14,x15,x16,x17,x18)
def F.ur(N:Nat):Nat->Tt->(Adm->Option R)->Option R:=lp (F.fh N)
def F.aw(N:Nat)(next:Ahr->Option R):(Wx->Option R)->(Axz×Dp×Int×H3)->Option R
 | ke4,((w125,w126,w127,w128,w129,w130),(w131,w132,w133),w134,w135,w136,w137,w138,w139,w140,w141,w142,w143)=>
 bif w130 then
  chk (zB (z8 w141+z8 [7]) (Ar 8))<|
  next ((w125,w126,w127,Aa .i64 (w128+1)),(w131,w132,w133),w134,w135,w136,w137,w138,w139,w140,w141++[7],w142,w143)
 else
  chk (zB (z8 w141+z8 [w129]) (Ar 8))<|
  next ((w125,w126,w127,Aa .i64 (w128+1)),(w131,w132,w133),w134,w135,w136,w137,w138,w139,w140,w141++[w129],w142,w143)
def F.fj(N:Nat):Ahr->(Ahr->Option R)->(Wx->Option R)->Option R
 | ((x53,x54,x55,x56),(x57,x58,x59),x60,x61,x62,x63,x64,x65,x66,x67,x68,x69),next,ke4=>
 bif decide (x56<256) then
  bif decide (x55<235) then
   bif x55==235 then
    bif decide (x56>=1) then
     jn (F.aw N next ke4) ((x53,x54,x55,x56,x56,decide (x56<=x54)),(x57,x58,x59),x60,x61,x62,x63,x64,x65,x66,x67,x68,x69)
    else
     jn (F.aw N next ke4) ((x53,x54,x55,x56,x56,false),(x57,x58,x59),x60,x61,x62,x63,x64,x65,x66,x67,x68,x69)
   else
    jn (F.aw N next ke4) ((x53,x54,x55,x56,x56,false),(x57,x58,x59),x60,x61,x62,x63,x64,x65,x66,x67,x68,x69)
  else
   bif x55==235 then
    bif decide (x56>=1) then
     jn (F.aw N next ke4) ((x53,x54,x55,x56,0,decide (x56<=x54)),(x57,x58,x59),x60,x61,x62,x63,x64,x65,x66,x67,x68,x69)
    else
     jn (F.aw N next ke4) ((x53,x54,x55,x56,0,false),(x57,x58,x59),x60,x61,x62,x63,x64,x65,x66,x67,x68,x69)
   else
    jn (F.aw N next ke4) ((x53,x54,x55,x56,0,false),(x57,x58,x59),x60,x61,x62,x63,x64,x65,x66,x67,x68,x69)
 else
  ke4 ((x53,x54,x55),(x57,x58,x59),x60,x61,x62,x63,x64,x65,x66,x67,x68,x69)
def F.ut(N:Nat):Nat->Ahr->(Wx->Option R)->Option R:=lp (F.fj N)
def F.fm(N:Nat):Wx->(Wx->Option R)->(Aak->Option R)->Option R
 | ((x37,x38,x39),(x40,x41,x42),x43,x44,x45,x46,x47,x48,x49,x50,x51,x52),next,ke2=>
 bif decide (x39<x37) then
  F.ut N N ((x37,x38,x39,0),(x40,x41,x42),x43,x44,x45,x46,x47,x48,x49,x50,x51,x52) λ((y162,y163,y164),(y165,y166,y167),y168,y169,y170,y171,y172,y173,y174,y175,y176,y177)=>
  chk (zB (z8 y176+z8 [(-1)]) (Ar 8))<|
  chk (!(3==0))<|
  chk (zB (z8 y177+z8 [Aa .i64 ((zG y164 3)-1)]) (Ar 8))<|
  next ((y162,y163,Aa .i64 (y164+1)),(y165,y166,y167),y168,y169,y170,y171,y172,y173,y174,y175,y176++[(-1)],y177++[Aa .i64 ((zG y164 3)-1)])
 else
  ke2 ((x40,x41,x42),x43,x44,x45,x46,x47,x48,x49,x50,x51,x52)
def F.xq(N:Nat):Nat->Wx->(Aak->Option R)->Option R:=lp (F.fm N)
def F.qv(N:Nat):Dp->(Afz->Option R)->Option R
 | (x1,x2,x3),k=>
 F.ur N N ((300,0),(x1,x2,x3),0,256,([]:List Int),([]:List Int),([]:List Int),([]:List Int),([]:List Int),([]:List Int),([]:List Int),([]:List Int)) λ(y19,(y20,y21,y22),y23,y24,y25,y26,y27,y28,y29,y30,y31,y32)=>
 F.aa (3,y20,y21,y22) λ(r33,r34,r35,r36)=>
 F.xq N N ((y19,Aa .i64 ((Aa .i64 (74+r33))-1),0),(r34,r35,r36),y23,y24,y25,y26,y27,y28,y29,y30,y31,y32) λ((y178,y179,y180),y181,y182,y183,y184,y185,y186,y187,y188,y189,y190)=>
 k (y182,(y178,y179,y180),y187,y188,y189,y190)
def F.iy(N:Nat):Adm->(Adm->Option R)->(Aak->Option R)->Option R
 | (x8,(x9,x10,x11),x12,x13,x14,x15,x16,x17,x18,x19,x20,x21),next,ke0=>
 bif decide (x8<5) then
  F.aa (3,x9,x10,x11) λ(r22,r23,r24,r25)=>
  chk (!(6==0))<|
  chk (inB x8 (z8 x19))<|
  next (Aa .i64 (x8+1),(r23,r24,r25),x12,x13,x14,x15,x16,x17,x18,zE x19 (z9 x8) (zG (Aa .i64 ((Aa .i64 (x8+1))+r22)) 6),x20,x21)
 else
  ke0 ((x9,x10,x11),x12,x13,x14,x15,x16,x17,x18,x19,x20,x21)
def F.yf(N:Nat):Nat->Adm->(Aak->Option R)->Option R:=lp (F.iy N)
def F.rq(N:Nat):Dp->(Afz->Option R)->Option R
 | (x1,x2,x3),k=>
 F.aa (2,x1,x2,x3) λ(r4,r5,r6,r7)=>
 chk (decide (0<=256))<|
 chk (zB (z9 256) (Ar 8))<|
 chk (decide (0<=(Aa .i64 (4000+r4))))<|
 chk (zB (z9 (Aa .i64 (4000+r4))) (Ar 8))<|
 chk (decide (0<=(Aa .i64 (4000+r4))))<|
 chk (zB (z9 (Aa .i64 (4000+r4))) (Ar 8))<|
 chk (decide (0<=(Aa .i64 (4000+r4))))<|
 chk (zB (z9 (Aa .i64 (4000+r4))) (Ar 8))<|
 F.yf N N (0,(r5,r6,r7),0,1,([]:List Int),([]:List Int),([]:List Int),([]:List Int),zF (z9 256) (0:Int),zF (z9 (Aa .i64 (4000+r4))) (0:Int),zF (z9 (Aa .i64 (4000+r4))) (0:Int),zF (z9 (Aa .i64 (4000+r4))) (0:Int)) λ((y26,y27,y28),y29,y30,y31,y32,y33,y34,y35,y36,y37,y38)=>
 F.aa (6,y26,y27,y28) λ(r39,r40,r41,r42)=>
 chk (inB r39 (z8 y37))<|
 k (y30,(r40,r41,r42),y35,y36,zE y37 (z9 r39) (-1),y38)
def F.ma(N:Nat):(List Int)->(Q3->Option R)->Option R
 | x1,k=>
 F.pz (x1,0,0) λ(r2,r3,r4,r5)=>
 bif r2==1 then
  F.oj N (r3,r4,r5) λ(r6,(r7,r8,r9),r10,r11,r12,r13)=>
  F.qg (r6,(r7,r8,r9),r10,r11,r12,r13) λ(r14,((r15,r16,r17),r18,r19,r20,r21),r22,r23,r24,r25)=>
  k (r14,r22,r23,r24,r25)
 else
  bif r2==2 then
   F.aa (2,r3,r4,r5) λ(r26,r27,r28,r29)=>
   bif r26==1 then
    F.qv N (r27,r28,r29) λ(r30,(r31,r32,r33),r34,r35,r36,r37)=>
    k (r30,r34,r35,r36,r37)
   else
    F.rq N (r27,r28,r29) λ(r38,(r39,r40,r41),r42,r43,r44,r45)=>
    k (r38,r42,r43,r44,r45)
  else
   F.oj N (r3,r4,r5) λ(r46,(r47,r48,r49),r50,r51,r52,r53)=>
   k (r46,r50,r51,r52,r53)
def F.ft(N:Nat):Api->(Api->Option R)->(((List Int)×Int×Int×Tc)->Option R)->Option R
 | (x8,x9,x10,x11,x12,x13,x14,x15,x16,x17,x18),next,ke2=>
 bif decide (x18<x17) then
  chk (inB x18 (z8 x16))<|
  bif x11==(zA x16 (z9 x18) (0:Int)) then next (x8,x9,x10,x11,Aa .i64 (x12+1),x13,x14,x15,x16,x17,Aa .i64 (x18+1)) else next (x8,x9,x10,x11,x12,x13,x14,x15,x16,x17,Aa .i64 (x18+1))
 else
  ke2 (x8,x9,x10,x11,x12,x13,x14,x15)
def F.nv(N:Nat):Nat->Api->(((List Int)×Int×Int×Tc)->Option R)->Option R:=lp (F.ft N)
def F.fu(N:Nat):Apj->(Apj->Option R)->(Int->Option R)->Option R
 | (x2,x3,x4,x5,x6,x7),next,ke0=>
 bif decide (x7<x6) then
  chk (inB x7 (z8 x5))<|
  F.nv N N (x2,x3,x4,zA x5 (z9 x7) (0:Int),0,x5,x6,x7,x2,(z8 x2:Int),0) λ(y30,y31,y32,y33,y34,y35,y36,y37)=>
  bif decide (y34>y32) then
   next (y30,y33,y34,y35,y36,Aa .i64 (y37+1))
  else
   bif y34==y32 then
    bif decide (y33<y31) then next (y30,y33,y34,y35,y36,Aa .i64 (y37+1)) else next (y30,y31,y32,y35,y36,Aa .i64 (y37+1))
   else
    next (y30,y31,y32,y35,y36,Aa .i64 (y37+1))
 else
  ke0 x3
def F.ny(N:Nat):Nat->Apj->(Int->Option R)->Option R:=lp (F.fu N)
def F.qw(N:Nat):(List Int)->(Int->Option R)->Option R
 | x1,k=>
 F.ny N N (x1,(-1),0,x1,(z8 x1:Int),0) λ y59=>
 k y59
def F.tc:((List Int)×Int)->(Bool->Option R)->Option R
 | (x1,x2),k=>
 bif decide (x2>=(z8 x1:Int)) then
  k true
 else
  chk (inB x2 (z8 x1))<|
  k ((zA x1 (z9 x2) (0:Int))==(-1))
def F.om(N:Nat):Apl->(Apl->Option R)->(Au4->Option R)->Option R
 | ((x31,x32,x33,x34,x35,x36,x37,x38),(x39,x40,x41,x42,x43),x44,x45,x46,x47,x48,x49,x50,x51,x52,x53,x54,x55,x56,x57,x58,x59,x60),next,ke2=>
 bif decide (x38<x37) then
  chk (inB x38 (z8 x36))<|
  bif(zA x36 (z9 x38) (0:Int)) !=x33 then
   chk (zB (z8 x46+z8 [x38]) (Ar 8))<|
   next ((x31,x32,x33,x34,x35,x36,x37,Aa .i64 (x38+1)),(x39,x40,x41,x42,x43),x44,x45,x46++[x38],x47,x48,x49,x50,x51,x52,x53,x54,x55,x56,x57,x58,x59,x60)
  else
   next ((x31,x32,x33,x34,x35,x36,x37,Aa .i64 (x38+1)),(x39,x40,x41,x42,x43),x44,x45,x46,x47,x48,x49,x50,x51,x52,x53,x54,x55,x56,x57,x58,x59,x60)
 else
  ke2 ((x31,x32,x34,x35),(x39,x40,x41,x42,x43),x44,x45,x46,x47,x48,x49,x50,x51,x52,x53,x54,x55,x56,x57,x58,x59,x60)
def F.so(N:Nat):Nat->Apl->(Au4->Option R)->Option R:=lp (F.om N)
def F.oo(N:Nat):Apm->(Apm->Option R)->(Adq->Option R)->Option R
 | ((x145,x146,x147,x148,x149,x150,x151,x152),(x153,x154,x155,x156,x157),x158,x159,x160,x161,x162,x163,x164,x165,x166,x167,x168,x169,x170,x171,x172,x173,x174),next,ke6=>
 bif decide (x152<x151) then
  chk (inB x152 (z8 x160))<|
  F.tc (x174,Aa .i64 (x147+(zA x160 (z9 x152) (0:Int)))) λ r175=>
  bif !r175 then ke6 ((x145,x146,x147,false,x149,x150),(x153,x154,x155,x156,x157),x158,x159,x160,x161,x162,x163,x164,x165,x166,x167,x168,x169,x170,x171,x172,x173,x174) else next ((x145,x146,x147,x148,x149,x150,x151,Aa .i64 (x152+1)),(x153,x154,x155,x156,x157),x158,x159,x160,x161,x162,x163,x164,x165,x166,x167,x168,x169,x170,x171,x172,x173,x174)
 else
  ke6 ((x145,x146,x147,x148,x149,x150),(x153,x154,x155,x156,x157),x158,x159,x160,x161,x162,x163,x164,x165,x166,x167,x168,x169,x170,x171,x172,x173,x174)
def F.sq(N:Nat):Nat->Apm->(Adq->Option R)->Option R:=lp (F.oo N)
def F.km(N:Nat):Adq->(Adq->Option R)->(Au5->Option R)->Option R
 | ((x117,x118,x119,x120,x121,x122),(x123,x124,x125,x126,x127),x128,x129,x130,x131,x132,x133,x134,x135,x136,x137,x138,x139,x140,x141,x142,x143,x144),next,ke4=>
 bif !x120 then
  F.sq N N ((x117,x118,x119,true,x121,x122,(z8 x130:Int),0),(x123,x124,x125,x126,x127),x128,x129,x130,x131,x132,x133,x134,x135,x136,x137,x138,x139,x140,x141,x142,x143,x144) λ((y176,y177,y178,y179,y180,y181),(y182,y183,y184,y185,y186),y187,y188,y189,y190,y191,y192,y193,y194,y195,y196,y197,y198,y199,y200,y201,y202,y203)=>
  bif !y179 then next ((y176,y177,Aa .i64 (y178+1),y179,y180,y181),(y182,y183,y184,y185,y186),y187,y188,y189,y190,y191,y192,y193,y194,y195,y196,y197,y198,y199,y200,y201,y202,y203) else next ((y176,y177,y178,y179,y180,y181),(y182,y183,y184,y185,y186),y187,y188,y189,y190,y191,y192,y193,y194,y195,y196,y197,y198,y199,y200,y201,y202,y203)
 else
  ke4 ((x117,x118,x119,x121,x122),(x123,x124,x125,x126,x127),x128,x129,x130,x131,x132,x133,x134,x135,x136,x137,x138,x139,x140,x141,x142,x143,x144)
def F.oq(N:Nat):Nat->Adq->(Au5->Option R)->Option R:=lp (F.km N)
def F.my(N:Nat):Adr->(Adr->Option R)->(Adr->Option R)->Option R
 | ((x288,x289,x290,x291,x292,x293,x294,x295),(x296,x297,x298,x299,x300),x301,x302,x303,x304,x305,x306,x307,x308,x309,x310,x311,x312,x313,x314,x315,x316,x317),next,ke10=>
 bif decide ((z8 x317:Int)<=(Aa .i64 (x290+x291))) then
  chk (zB (z8 x316+z8 [0]) (Ar 8))<|
  chk (zB (z8 x317+z8 [(-1)]) (Ar 8))<|
  next ((x288,x289,x290,x291,x292,x293,x294,x295),(x296,x297,x298,x299,x300),x301,x302,x303,x304,x305,x306,x307,x308,x309,x310,x311,x312,x313,x314,x315,x316++[0],x317++[(-1)])
 else
  ke10 ((x288,x289,x290,x291,x292,x293,x294,x295),(x296,x297,x298,x299,x300),x301,x302,x303,x304,x305,x306,x307,x308,x309,x310,x311,x312,x313,x314,x315,x316,x317)
def F.rt(N:Nat):Nat->Adr->(Adr->Option R)->Option R:=lp (F.my N)
def F.ou(N:Nat):Apn->(Apn->Option R)->((Ads->Option R)×(Au7->Option R))->Option R
 | ((x259,x260,x261,x262,x263,x264,x265),(x266,x267,x268,x269,x270),x271,x272,x273,x274,x275,x276,x277,x278,x279,x280,x281,x282,x283,x284,x285,x286,x287),next,(ke8,kret)=>
 bif decide (x265<x264) then
  chk (inB x265 (z8 x273))<|
  bif decide ((Aa .i64 (x261+(zA x273 (z9 x265) (0:Int))))>=60000) then
   kret ((2,x262,x263),(x266,x267,x268,x269,x270),0,x272,([]:List Int),([]:List Int),([]:List Int),([]:List Int),([]:List Int),([]:List Int),([]:List Int),x281,x282,x283,x284,x285,x286,x287)
  else
   F.rt N N ((x259,x260,x261,zA x273 (z9 x265) (0:Int),x262,x263,x264,x265),(x266,x267,x268,x269,x270),x271,x272,x273,x274,x275,x276,x277,x278,x279,x280,x281,x282,x283,x284,x285,x286,x287) λ((y318,y319,y320,y321,y322,y323,y324,y325),(y326,y327,y328,y329,y330),y331,y332,y333,y334,y335,y336,y337,y338,y339,y340,y341,y342,y343,y344,y345,y346,y347)=>
   chk (inB y321 (z8 y319))<|
   chk (inB (Aa .i64 (y320+y321)) (z8 y346))<|
   chk (inB (Aa .i64 (y320+y321)) (z8 y347))<|
   next ((y318,y319,y320,y322,y323,y324,Aa .i64 (y325+1)),(y326,y327,y328,y329,y330),y331,y332,y333,y334,y335,y336,y337,y338,y339,y340,y341,y342,y343,y344,y345,zE y346 (z9 (Aa .i64 (y320+y321))) (zA y319 (z9 y321) (0:Int)),zE y347 (z9 (Aa .i64 (y320+y321))) y318)
 else
  ke8 ((x262,x263),(x266,x267,x268,x269,x270),x271,x272,x274,x275,x276,x277,x278,x279,x280,x281,x282,x283,x284,x285,x286,x287)
def F.sr(N:Nat):Nat->Apn->((Ads->Option R)×(Au7->Option R))->Option R:=lp (F.ou N)
def F.ov(N:Nat):Ads->(Ads->Option R)->(((Int×Yv)->Option R)×((Int×Int×Yv)->Option R))->Option R
 | ((x7,x8),(x9,x10,x11,x12,x13),x14,x15,x16,x17,x18,x19,x20,x21,x22,x23,x24,x25,x26,x27,x28,x29),next,(ke0,kret)=>
 bif decide (x8<x7) then
  chk (decide (0<=(Aa .i64 ((Aa .i64 (x8+1))*x10)))&&decide ((Aa .i64 ((Aa .i64 (x8+1))*x10))<=(z8 x11:Int)))<|
  chk (decide (0<=(Aa .i64 (x8*x10)))&&decide ((Aa .i64 (x8*x10))<=(Aa .i64 ((Aa .i64 (x8+1))*x10))))<|
  F.qw N (zD (z9 (Aa .i64 (x8*x10))) (zC (z9 (Aa .i64 ((Aa .i64 (x8+1))*x10))) x11)) λ r30=>
  chk (zB (z8 x25+z8 [r30]) (Ar 8))<|
  F.so N N ((x8,zD (z9 (Aa .i64 (x8*x10))) (zC (z9 (Aa .i64 ((Aa .i64 (x8+1))*x10))) x11),r30,x7,x8,zD (z9 (Aa .i64 (x8*x10))) (zC (z9 (Aa .i64 ((Aa .i64 (x8+1))*x10))) x11),(z8 (zD (z9 (Aa .i64 (x8*x10))) (zC (z9 (Aa .i64 ((Aa .i64 (x8+1))*x10))) x11)):Int),0),(x9,x10,x11,x12,x13),x14,x15,([]:List Int),x16,x17,x18,x19,x20,x21,x22,x23,x24,x25++[r30],x26,x27,x28,x29) λ((y91,y92,y93,y94),(y95,y96,y97,y98,y99),y100,y101,y102,y103,y104,y105,y106,y107,y108,y109,y110,y111,y112,y113,y114,y115,y116)=>
  bif(z8 y102:Int)==0 then
   chk (zB (z8 y111+z8 [0]) (Ar 8))<|
   next ((y93,Aa .i64 (y94+1)),(y95,y96,y97,y98,y99),y100,y101,y103,y104,y105,y106,y107,y108,y109,y110,y111++[0],y112,y113,y114,y115,y116)
  else
   F.oq N N ((y91,y92,0,false,y93,y94),(y95,y96,y97,y98,y99),y100,y101,y102,y103,y104,y105,y106,y107,y108,y109,y110,y111,y112,y113,y114,y115,y116) λ((y232,y233,y234,y235,y236),(y237,y238,y239,y240,y241),y242,y243,y244,y245,y246,y247,y248,y249,y250,y251,y252,y253,y254,y255,y256,y257,y258)=>
   chk (zB (z8 y253+z8 [y234]) (Ar 8))<|
   F.sr N N ((y232,y233,y234,y235,y236,(z8 y244:Int),0),(y237,y238,y239,y240,y241),y242,y243,y244,y245,y246,y247,y248,y249,y250,y251,y252,y253++[y234],y254,y255,y256,y257,y258) (λ((y348,y349),(y350,y351,y352,y353,y354),y355,y356,y357,y358,y359,y360,y361,y362,y363,y364,y365,y366,y367,y368,y369,y370)=>
    next ((y348,Aa .i64 (y349+1)),(y350,y351,y352,y353,y354),y355,y356,y357,y358,y359,y360,y361,y362,y363,y364,y365,y366,y367,y368,y369,y370),
    λ((y371,y372,y373),(y374,y375,y376,y377,y378),y379,y380,y381,y382,y383,y384,y385,y386,y387,y388,y389,y390,y391,y392,y393,y394)=>
    kret (y371,y379,y380,y381,y382,y383,y384,y385,y386,y387,y388,y389,y390,y391,y392,y393,y394))
 else
  ke0 (x14,x15,x16,x17,x18,x19,x20,x21,x22,x23,x24,x25,x26,x27,x28,x29)
def F.qk(N:Nat):Nat->Ads->(((Int×Yv)->Option R)×((Int×Int×Yv)->Option R))->Option R:=lp (F.ov N)
def F.tu(N:Nat):Bb->(Ib->Option R)->Option R
 | (x1,x2,x3,x4,x5),k=>
 F.sj N (x1,x2,x3,x4,x5) λ r6=>
 bif !r6 then
  k ((0,1),([]:List Int),([]:List Int),([]:List Int),([]:List Int),([]:List Int),([]:List Int),([]:List Int))
 else
  chk (zB (z8 ([]:List Int)+z8 x1) (Ar 8))<|
  chk (zB (z8 ([]:List Int)+z8 x4) (Ar 8))<|
  chk (zB (z8 ([]:List Int)+z8 x5) (Ar 8))<|
  F.qk N N (((z8 x4:Int),0),(x1,x2,x3,x4,x5),0,x2,([]:List Int),([]:List Int),([]:List Int),([]:List Int),([]:List Int),([]:List Int),([]:List Int),([]:List Int)++x1,([]:List Int),([]:List Int),([]:List Int)++x4,([]:List Int)++x5,([]:List Int),([]:List Int)) (λ(y395,y396,y397,y398,y399,y400,y401,y402,y403,y404,y405,y406,y407,y408,y409,y410)=>
   k ((y396,0),y404,y405,y406,y407,y408,y409,y410),
   λ(y411,y412,y413,y414,y415,y416,y417,y418,y419,y420,y421,y422,y423,y424,y425,y426,y427)=>
   k ((y412,y411),y414,y415,y416,y417,y418,y419,y420))
def F.qx:Ajf->(Bool->Option R)->Option R
 | (x1,x2,x3),k=>
 bif decide (x1<x2) then k true else k (decide (x1>x3))
def F.ce(N:Nat):(Dp×Int×Int)->((Dp×Int×Int)->Option R)->(((Int×Int)->Option R)×(Ajf->Option R))->Option R
 | ((x4,x5,x6),x7,x8),next,(ke0,kret)=>
 bif decide (x6<x5) then
  chk (inB x6 (z8 x4))<|
  F.qx (zA x4 (z9 x6) (0:Int),x7,x8) λ r9=>
  bif r9 then kret (x6,x7,x8) else next ((x4,x5,Aa .i64 (x6+1)),x7,x8)
 else
  ke0 (x7,x8)
def F.xi(N:Nat):Nat->(Dp×Int×Int)->(((Int×Int)->Option R)×(Ajf->Option R))->Option R:=lp (F.ce N)
def F.rx(N:Nat):Dp->(Ajf->Option R)->Option R
 | (x1,x2,x3),k=>
 F.xi N N ((x1,(z8 x1:Int),0),x2,x3) (λ(y10,y11)=>
  k ((-1),y10,y11),
  λ(y12,y13,y14)=>
  k (y12,y13,y14))
def F.py(N:Nat):Dp->((Bool×Int×Int)->Option R)->Option R
 | (x1,x2,x3),k=>
 F.rx N (x1,x2,x3) λ(r4,r5,r6)=>
 k (decide (r4>=0),r5,r6)
def F.lf(N:Nat):Dp->(Bool->Option R)->Option R
 | (x1,x2,x3),k=>
 F.py N (x1,x2,x3) λ(r4,r5,r6)=>
 k (!r4)
def F.bh(N:Nat):(Bool->Option R)->Aos->Option R
 | k,((w6,w7),w8,w9,w10,w11,w12)=>
 bif w7 then
  k false
 else
  F.lf N (w8,0,Aa .i64 (w9-1)) λ r13=>
  bif r13 then
   F.lf N (w10,0,Aa .i64 (w6-1)) λ r14=>
   bif r14 then
    F.lf N (w11,(-1),99) λ r15=>
    bif r15 then
     F.lf N (w12,(-1),99) λ r16=>
     k r16
    else
     k false
   else
    k false
  else
   k false
def F.kh(N:Nat):Bb->(Bool->Option R)->Option R
 | (x1,x2,x3,x4,x5),k=>
 bif(z8 x1:Int) !=256 then
  jn (F.bh N k) (((z8 x4:Int),true),x1,x2,x3,x4,x5)
 else
  bif decide (x2<1) then
   jn (F.bh N k) (((z8 x4:Int),true),x1,x2,x3,x4,x5)
  else
   bif decide (x2>256) then
    jn (F.bh N k) (((z8 x4:Int),true),x1,x2,x3,x4,x5)
   else
    bif decide ((z8 x4:Int)<1) then
     jn (F.bh N k) (((z8 x4:Int),true),x1,x2,x3,x4,x5)
    else
     bif decide ((z8 x4:Int)>4000) then
      jn (F.bh N k) (((z8 x4:Int),true),x1,x2,x3,x4,x5)
     else
      bif(z8 x5:Int) !=(z8 x4:Int) then
       jn (F.bh N k) (((z8 x4:Int),true),x1,x2,x3,x4,x5)
      else
       jn (F.bh N k) (((z8 x4:Int),(z8 x3:Int) !=(Aa .i64 ((z8 x4:Int)*x2))),x1,x2,x3,x4,x5)
def F.lw(N:Nat)(x2:Int)(x3:(List Int))(x4:Int)(x5:Int)(x6:List (Int×Int))(next:Int->(List Int)->Int->Int->(List (Int×Int))->Option R)(ke0:Int->(List (Int×Int))->Option R):Option R:=
 bif decide (x5<x4) then
  chk (inB x5 (z8 x3))<|
  next x2 x3 x4 (Aa .i64 (x5+1)) (Ii eqI (zA x3 (z9 x5) (0:Int)) (Aa .i64 ((De eqI (zA x3 (z9 x5) (0:Int)) (0:Int) x6)+1)) x6)
 else
  ke0 x2 x6
def F.du(N:Nat):Nat->Int->(List Int)->Int->Int->(List (Int×Int))->(Int->(List (Int×Int))->Option R)->Option R
 | 0,_,_,_,_,_,_=>none
 | n+1,x2,x3,x4,x5,x6,ke0=>F.lw N x2 x3 x4 x5 x6 (λ x2 x3 x4 x5 x6=>F.du N n x2 x3 x4 x5 x6 ke0) ke0
def F.sy(N:Nat)(x9:Int)(x10:List (Int×Int))(x11:Nat)(x12:List Nat)(x13:Nat)(next:Int->(List (Int×Int))->Nat->(List Nat)->Nat->Option R)(ke2:Int->Option R):Option R:=
 chk (Oh x9 x10 x11 x12 x13)<|
 ke2 (Sk x10)
def F.kb(N:Nat):Nat->Int->(List (Int×Int))->Nat->(List Nat)->Nat->(Int->Option R)->Option R
 | 0,_,_,_,_,_,_=>none
 | n+1,x9,x10,x11,x12,x13,ke2=>F.sy N x9 x10 x11 x12 x13 (λ x9 x10 x11 x12 x13=>F.kb N n x9 x10 x11 x12 x13 ke2) ke2
def F.qy(N:Nat)(x1:(List Int))(k:Int->Option R):Option R:=
 F.du N N (-1) x1 (z8 x1:Int) 0 ([]:List (Int×Int))
   (λ y7 y8=>
   F.kb N N y7 y8 (z8 y8) (List.range (z8 y8)) 0
     (λ y14=>
     k y14))
def F.al:(Apo×Int)->(Bool->Option R)->Option R
 | ((x1,x2,x3,x4,x5,x6,x7,x8,x9),x10),k=>
 bif decide (x10<(z8 x8:Int)) then
  chk (inB x10 (z8 x8))<|
  k (decide ((zA x8 (z9 x10) (0:Int))>=0))
 else
  k false
def F.cf(N:Nat):App->(App->Option R)->((Unit->Option R)×(Bool->Option R))->Option R
 | ((x12,x13,x14,x15,x16,x17,x18,x19,x20),x21,x22,x23,x24),next,(ke0,kret)=>
 bif decide (x24<x23) then
  chk (inB x24 (z8 x22))<|
  F.al ((x12,x13,x14,x15,x16,x17,x18,x19,x20),Aa .i64 (x21+(zA x22 (z9 x24) (0:Int)))) λ r25=>
  bif r25 then kret false else next ((x12,x13,x14,x15,x16,x17,x18,x19,x20),x21,x22,x23,Aa .i64 (x24+1))
 else
  ke0 ()
def F.lx(N:Nat):Nat->App->((Unit->Option R)×(Bool->Option R))->Option R:=lp (F.cf N)
def F.pi(N:Nat):(Apo×Int×(List Int))->(Bool->Option R)->Option R
 | ((x1,x2,x3,x4,x5,x6,x7,x8,x9),x10,x11),k=>
 F.lx N N ((x1,x2,x3,x4,x5,x6,x7,x8,x9),x10,x11,(z8 x11:Int),0) (λ _=>
  k true,
  λ y26=>
  k y26)
def F.cz(N:Nat):Apq->(Apq->Option R)->(((Int×(List Int))×Tf)->Option R)->Option R
 | ((x13,x14,x15,x16,x17,x18),(x19,x20),x21,x22,x23,x24,x25,x26,x27,x28),next,ke0=>
 bif decide (x18<x17) then
  chk (inB x18 (z8 x16))<|
  bif(zA x16 (z9 x18) (0:Int)) !=x15 then
   chk (zB (z8 x21+z8 [x18]) (Ar 8))<|
   next ((x13,x14,x15,x16,x17,Aa .i64 (x18+1)),(x19,x20),x21++[x18],x22,x23,x24,x25,x26,x27,x28)
  else
   next ((x13,x14,x15,x16,x17,Aa .i64 (x18+1)),(x19,x20),x21,x22,x23,x24,x25,x26,x27,x28)
 else
  ke0 ((x13,x14),(x19,x20),x21,x22,x23,x24,x25,x26,x27,x28)
def F.mz(N:Nat):Nat->Apq->(((Int×(List Int))×Tf)->Option R)->Option R:=lp (F.cz N)
def F.da(N:Nat):Yw->(Yw->Option R)->(Yw->Option R)->Option R
 | ((x57,x58,x59),(x60,x61),x62,x63,x64,x65,x66,x67,x68,x69),next,ke2=>
 F.pi N ((x63,x60,x64,x65,x66,x67,x68,x69,x61),x59,x62) λ r70=>
 bif !r70 then next ((x57,x58,Aa .i64 (x59+1)),(x60,x61),x62,x63,x64,x65,x66,x67,x68,x69) else ke2 ((x57,x58,x59),(x60,x61),x62,x63,x64,x65,x66,x67,x68,x69)
def F.na(N:Nat):Nat->Yw->(Yw->Option R)->Option R:=lp (F.da N)
def F.dg(N:Nat):Adt->(Adt->Option R)->(Adt->Option R)->Option R
 | ((x112,x113,x114,x115,x116,x117),(x118,x119),x120,x121,x122,x123,x124,x125,x126,x127),next,ke6=>
 bif decide ((z8 x127:Int)<=(Aa .i64 (x114+x115))) then
  chk (zB (z8 x127+z8 [(-1)]) (Ar 8))<|
  chk (zB (z8 x126+z8 [0]) (Ar 8))<|
  next ((x112,x113,x114,x115,x116,x117),(x118,x119),x120,x121,x122,x123,x124,x125,x126++[0],x127++[(-1)])
 else
  ke6 ((x112,x113,x114,x115,x116,x117),(x118,x119),x120,x121,x122,x123,x124,x125,x126,x127)
def F.nh(N:Nat):Nat->Adt->(Adt->Option R)->Option R:=lp (F.dg N)
def F.dh(N:Nat):(Ahs×Tf)->((Ahs×Tf)->Option R)->(Wc->Option R)->Option R
 | ((x97,x98,x99,x100,x101),(x102,x103),x104,x105,x106,x107,x108,x109,x110,x111),next,ke4=>
 bif decide (x101<x100) then
  chk (inB x101 (z8 x104))<|
  F.nh N N ((x97,x98,x99,zA x104 (z9 x101) (0:Int),x100,x101),(x102,x103),x104,x105,x106,x107,x108,x109,x110,x111) λ((y128,y129,y130,y131,y132,y133),(y134,y135),y136,y137,y138,y139,y140,y141,y142,y143)=>
  chk (inB (Aa .i64 (y130+y131)) (z8 y143))<|
  chk (inB y131 (z8 y129))<|
  chk (inB (Aa .i64 (y130+y131)) (z8 y142))<|
  next ((y128,y129,y130,y132,Aa .i64 (y133+1)),(y134,y135),y136,y137,y138,y139,y140,y141,zE y142 (z9 (Aa .i64 (y130+y131))) (zA y129 (z9 y131) (0:Int)),zE y143 (z9 (Aa .i64 (y130+y131))) y128)
 else
  ke4 (x99,(x102,x103),x105,x106,x107,x108,x109,x110,x111)
def F.nj(N:Nat):Nat->(Ahs×Tf)->(Wc->Option R)->Option R:=lp (F.dh N)
def F.bi(N:Nat):Wc->(Wc->Option R)->(Wc->Option R)->Option R
 | (x154,(x155,x156),x157,x158,x159,x160,x161,x162,x163),next,ke8=>
 F.al ((x157,x155,x158,x159,x160,x161,x162,x163,x156),x156) λ r164=>
 bif r164 then next (x154,(x155,Aa .i64 (x156+1)),x157,x158,x159,x160,x161,x162,x163) else ke8 (x154,(x155,x156),x157,x158,x159,x160,x161,x162,x163)
def F.iz(N:Nat):Nat->Wc->(Wc->Option R)->Option R:=lp (F.bi N)
def F.fv(N:Nat):(Au9->Option R)->Yw->Option R
 | k,((w84,w85,w86),(w87,w88),w89,w90,w91,w92,w93,w94,w95,w96)=>
 F.nj N N ((w84,w85,w86,(z8 w89:Int),0),(w87,w88),w89,w90,w91,w92,w93,w94,w95,w96) λ(y144,(y145,y146),y147,y148,y149,y150,y151,y152,y153)=>
 F.iz N N (y144,(y145,y146),y147,y148,y149,y150,y151,y152,y153) λ(y165,(y166,y167),y168,y169,y170,y171,y172,y173,y174)=>
 chk (zB (z8 y169+z8 [y165]) (Ar 8))<|
 k (true,(y166,y167),y168,y169++[y165],y170,y171,y172,y173,y174)
def F.di(N:Nat):((Int×(List Int))×(Int×Int)×(List Int)×Md)->(Au9->Option R)->Option R
 | ((x1,x2),(x3,x4),x5,x6,x7,x8,x9,x10,x11),k=>
 F.qy N x2 λ r12=>
 chk (zB (z8 x7+z8 [r12]) (Ar 8))<|
 F.mz N N ((x1,x2,r12,x2,(z8 x2:Int),0),(x3,x4),([]:List Int),x5,x6,x7++[r12],x8,x9,x10,x11) λ((y45,y46),(y47,y48),y49,y50,y51,y52,y53,y54,y55,y56)=>
 bif decide ((z8 y49:Int)>0) then
  chk (inB 0 (z8 y49))<|
  F.na N N ((y45,y46,bif decide ((Aa .i64 (y48-(zA y49 (z9 0) (0:Int))))>0) then Aa .i64 (y48-(zA y49 (z9 0) (0:Int))) else 0),(y47,y48),y49,y50,y51,y52,y53,y54,y55,y56) λ((y71,y72,y73),(y74,y75),y76,y77,y78,y79,y80,y81,y82,y83)=>
  chk (inB (Aa .i64 ((z8 y76:Int)-1)) (z8 y76))<|
  bif decide ((Aa .i64 (y73+(zA y76 (z9 (Aa .i64 ((z8 y76:Int)-1))) (0:Int))))>=60000) then
   k (false,(y74,y75),y77,y78,y79,y80,y81,y82,y83)
  else
   jn (F.fv N k) ((y71,y72,y73),(y74,y75),y76,y77,y78,y79,y80,y81,y82,y83)
 else
  jn (F.fv N k) ((y45,y46,0),(y47,y48),y49,y50,y51,y52,y53,y54,y55,y56)
def F.ow(N:Nat):Apr->(Apr->Option R)->(((Int×Adu)->Option R)×((Int×Int×Adu)->Option R))->Option R
 | ((x7,x8),(x9,x10,x11,x12,x13),x14,(x15,x16),x17,x18,x19,x20,x21,x22,x23,x24,x25,x26,x27,x28,x29,x30),next,(ke0,kret)=>
 bif decide (x8<x7) then
  chk (decide (0<=(Aa .i64 ((Aa .i64 (x8+1))*x10)))&&decide ((Aa .i64 ((Aa .i64 (x8+1))*x10))<=(z8 x11:Int)))<|
  chk (decide (0<=(Aa .i64 (x8*x10)))&&decide ((Aa .i64 (x8*x10))<=(Aa .i64 ((Aa .i64 (x8+1))*x10))))<|
  F.di N ((x8,zD (z9 (Aa .i64 (x8*x10))) (zC (z9 (Aa .i64 ((Aa .i64 (x8+1))*x10))) x11)),(x15,x16),x24,x25,x26,x27,x28,x29,x30) λ(r31,(r32,r33),r34,r35,r36,r37,r38,r39,r40)=>
  bif !r31 then kret (2,0,(r32,r33),([]:List Int),([]:List Int),([]:List Int),([]:List Int),([]:List Int),([]:List Int),([]:List Int),r34,r35,r36,r37,r38,r39,r40) else next ((x7,Aa .i64 (x8+1)),(x9,x10,x11,x12,x13),x14,(r32,r33),x17,x18,x19,x20,x21,x22,x23,r34,r35,r36,r37,r38,r39,r40)
 else
  ke0 (x14,(x15,x16),x17,x18,x19,x20,x21,x22,x23,x24,x25,x26,x27,x28,x29,x30)
def F.su(N:Nat):Nat->Apr->(((Int×Adu)->Option R)×((Int×Int×Adu)->Option R))->Option R:=lp (F.ow N)
def F.tx(N:Nat):Bb->(Ib->Option R)->Option R
 | (x1,x2,x3,x4,x5),k=>
 F.kh N (x1,x2,x3,x4,x5) λ r6=>
 bif !r6 then
  k ((0,1),([]:List Int),([]:List Int),([]:List Int),([]:List Int),([]:List Int),([]:List Int),([]:List Int))
 else
  chk (zB (z8 ([]:List Int)+z8 x1) (Ar 8))<|
  chk (zB (z8 ([]:List Int)+z8 x4) (Ar 8))<|
  chk (zB (z8 ([]:List Int)+z8 x5) (Ar 8))<|
  F.su N N (((z8 x4:Int),0),(x1,x2,x3,x4,x5),0,(x2,0),([]:List Int),([]:List Int),([]:List Int),([]:List Int),([]:List Int),([]:List Int),([]:List Int),([]:List Int)++x1,([]:List Int),([]:List Int),([]:List Int)++x4,([]:List Int)++x5,([]:List Int),([]:List Int)) (λ(y41,(y42,y43),y44,y45,y46,y47,y48,y49,y50,y51,y52,y53,y54,y55,y56,y57)=>
   k ((y42,0),y51,y52,y53,y54,y55,y56,y57),
   λ(y58,y59,(y60,y61),y62,y63,y64,y65,y66,y67,y68,y69,y70,y71,y72,y73,y74,y75)=>
   k ((y59,y58),y62,y63,y64,y65,y66,y67,y68))
def F.bm(N:Nat):Aps->(Aps->Option R)->((Ava->Option R)×(Avb->Option R))->Option R
 | ((x35,x36,x37),x38,x39,x40,x41,x42,x43,x44,x45),next,(ke0,kret)=>
 bif decide (x37<x36) then
  chk (inB x37 (z8 x40))<|
  bif decide ((zA x40 (z9 x37) (0:Int))<0) then
   kret ((false,x35),x38,x39,x40,x41,x42,x43,x44,x45)
  else
   chk (inB x37 (z8 x40))<|
   bif decide ((zA x40 (z9 x37) (0:Int))>=60000) then
    kret ((false,x35),x38,x39,x40,x41,x42,x43,x44,x45)
   else
    chk (inB x37 (z8 x41))<|
    bif decide ((zA x41 (z9 x37) (0:Int))<0) then
     kret ((false,x35),x38,x39,x40,x41,x42,x43,x44,x45)
    else
     chk (inB x37 (z8 x41))<|
     bif decide ((zA x41 (z9 x37) (0:Int))>=x35) then kret ((false,x35),x38,x39,x40,x41,x42,x43,x44,x45) else next ((x35,x36,Aa .i64 (x37+1)),x38,x39,x40,x41,x42,x43,x44,x45)
 else
  ke0 (x35,x38,x39,x40,x41,x42,x43,x44,x45)
def F.sv(N:Nat):Nat->Aps->((Ava->Option R)×(Avb->Option R))->Option R:=lp (F.bm N)
def F.bn(N:Nat):Apt->(Apt->Option R)->((Unit->Option R)×(Bool->Option R))->Option R
 | ((x67,x68,x69,x70),x71,x72,x73,x74,x75,x76,x77,x78),next,(ke2,kret)=>
 bif decide (x70<x69) then
  chk (inB x70 (z8 x68))<|
  bif decide ((zA x68 (z9 x70) (0:Int))<(-1)) then
   kret false
  else
   bif decide ((zA x68 (z9 x70) (0:Int))>=x67) then
    kret false
   else
    chk (inB x70 (z8 x77))<|
    bif decide ((zA x77 (z9 x70) (0:Int))<0) then
     kret false
    else
     chk (inB x70 (z8 x77))<|
     bif decide ((zA x77 (z9 x70) (0:Int))>=x67) then
      kret false
     else
      bif(zA x68 (z9 x70) (0:Int))==(-1) then
       chk (inB x70 (z8 x77))<|
       bif(zA x77 (z9 x70) (0:Int)) !=0 then kret false else next ((x67,x68,x69,Aa .i64 (x70+1)),x71,x72,x73,x74,x75,x76,x77,x78)
      else
       next ((x67,x68,x69,Aa .i64 (x70+1)),x71,x72,x73,x74,x75,x76,x77,x78)
 else
  ke2 ()
def F.sw(N:Nat):Nat->Apt->((Unit->Option R)×(Bool->Option R))->Option R:=lp (F.bn N)
def F.fx(N:Nat):(Bool->Option R)->Avc->Option R
 | k,((w19,w20),(w21,w22,w23,w24,w25,w26,w27,w28),(w29,w30,w31,w32),w33)=>
 bif w20 then
  k false
 else
  chk (decide (0<=(Aa .i64 (w19*w22))))<|
  chk (zB (z9 (Aa .i64 (w19*w22))) (Ar 8))<|
  F.kh N (w29,w30,zF (z9 (Aa .i64 (w19*w22))) (0:Int),w31,w32) λ r34=>
  bif !r34 then
   k false
  else
   F.sv N N ((w19,w19,0),w21,w22,w23,w24,w25,w26,w27,w28) (λ(y58,y59,y60,y61,y62,y63,y64,y65,y66)=>
    F.sw N N ((y58,y66,(z8 y66:Int),0),y59,y60,y61,y62,y63,y64,y65,y66) (λ _=>
     k true,
     λ y92=>
     k y92),
    λ((y93,y94),y95,y96,y97,y98,y99,y100,y101,y102)=>
    k y93)
def F.qh(N:Nat):(Bool->Option R)->Avd->Option R
 | k,((w9,w10),w11,w12,w13,w14,w15,w16,w17,w18)=>
 bif w10 then
  k false
 else
  bif decide (w9<1) then
   jn (F.fx N k) ((w9,true),(w11,w12,w13,w14,w15,w16,w17,w18),(w11,w12,w15,w16),([]:List Int))
  else
   bif decide (w9>4000) then
    jn (F.fx N k) ((w9,true),(w11,w12,w13,w14,w15,w16,w17,w18),(w11,w12,w15,w16),([]:List Int))
   else
    bif decide (w12<1) then
     jn (F.fx N k) ((w9,true),(w11,w12,w13,w14,w15,w16,w17,w18),(w11,w12,w15,w16),([]:List Int))
    else
     bif decide (w12>256) then
      jn (F.fx N k) ((w9,true),(w11,w12,w13,w14,w15,w16,w17,w18),(w11,w12,w15,w16),([]:List Int))
     else
      jn (F.fx N k) ((w9,(z8 w15:Int) !=w9),(w11,w12,w13,w14,w15,w16,w17,w18),(w11,w12,w15,w16),([]:List Int))
def F.lg(N:Nat):Et->(Bool->Option R)->Option R
 | (x1,x2,x3,x4,x5,x6,x7,x8),k=>
 bif(z8 x4:Int) !=(z8 x3:Int) then
  jn (F.qh N k) (((z8 x3:Int),true),x1,x2,x3,x4,x5,x6,x7,x8)
 else
  bif(z8 x8:Int) !=(z8 x7:Int) then
   jn (F.qh N k) (((z8 x3:Int),true),x1,x2,x3,x4,x5,x6,x7,x8)
  else
   jn (F.qh N k) (((z8 x3:Int),decide ((z8 x7:Int)>60000)),x1,x2,x3,x4,x5,x6,x7,x8)
def F.fw(N:Nat):(Bool->Option R)->Avc->Option R
 | k,((w19,w20),(w21,w22,w23,w24,w25,w26,w27,w28),(w29,w30,w31,w32),w33)=>
 bif w20 then
  k false
 else
  chk (decide (0<=(Aa .i64 (w19*w22))))<|
  chk (zB (z9 (Aa .i64 (w19*w22))) (Ar 8))<|
  F.kh N (w29,w30,zF (z9 (Aa .i64 (w19*w22))) (0:Int),w31,w32) λ r34=>
  bif !r34 then
   k false
  else
   F.sv N N ((w19,w19,0),w21,w22,w23,w24,w25,w26,w27,w28) (λ(y58,y59,y60,y61,y62,y63,y64,y65,y66)=>
    F.sw N N ((y58,y66,(z8 y66:Int),0),y59,y60,y61,y62,y63,y64,y65,y66) (λ _=>
     k true,
     λ y92=>
     k y92),
    λ((y93,y94),y95,y96,y97,y98,y99,y100,y101,y102)=>
    k y93)
def F.ql(N:Nat):(Bool->Option R)->Avd->Option R
 | k,((w9,w10),w11,w12,w13,w14,w15,w16,w17,w18)=>
 bif w10 then
  k false
 else
  bif decide (w9<1) then
   jn (F.fw N k) ((w9,true),(w11,w12,w13,w14,w15,w16,w17,w18),(w11,w12,w15,w16),([]:List Int))
  else
   bif decide (w9>4000) then
    jn (F.fw N k) ((w9,true),(w11,w12,w13,w14,w15,w16,w17,w18),(w11,w12,w15,w16),([]:List Int))
   else
    bif decide (w12<1) then
     jn (F.fw N k) ((w9,true),(w11,w12,w13,w14,w15,w16,w17,w18),(w11,w12,w15,w16),([]:List Int))
    else
     bif decide (w12>256) then
      jn (F.fw N k) ((w9,true),(w11,w12,w13,w14,w15,w16,w17,w18),(w11,w12,w15,w16),([]:List Int))
     else
      jn (F.fw N k) ((w9,(z8 w15:Int) !=w9),(w11,w12,w13,w14,w15,w16,w17,w18),(w11,w12,w15,w16),([]:List Int))
def F.qi(N:Nat):Et->(Bool->Option R)->Option R
 | (x1,x2,x3,x4,x5,x6,x7,x8),k=>
 bif(z8 x4:Int) !=(z8 x3:Int) then
  jn (F.ql N k) (((z8 x3:Int),true),x1,x2,x3,x4,x5,x6,x7,x8)
 else
  bif(z8 x8:Int) !=(z8 x7:Int) then
   jn (F.ql N k) (((z8 x3:Int),true),x1,x2,x3,x4,x5,x6,x7,x8)
  else
   jn (F.ql N k) (((z8 x3:Int),decide ((z8 x7:Int)>60000)),x1,x2,x3,x4,x5,x6,x7,x8)
def F.dj(N:Nat):Apu->(Apu->Option R)->((List Int)->Option R)->Option R
 | ((x3,x4,x5),x6),next,ke0=>
 bif decide (x5<x4) then
  chk (inB x5 (z8 x3))<|
  chk (decide (0<=8))<|
  chk (zB (z8 x6+z8 [Aa .u8 (Int.fdiv (zA x3 (z9 x5) (0:Int)) (2^min (z9 8) 64)),Aa .u8 (zA x3 (z9 x5) (0:Int))]) (Ar 1))<|
  next ((x3,x4,Aa .i64 (x5+1)),x6++[Aa .u8 (Int.fdiv (zA x3 (z9 x5) (0:Int)) (2^min (z9 8) 64)),Aa .u8 (zA x3 (z9 x5) (0:Int))])
 else
  ke0 x6
def F.np(N:Nat):Nat->Apu->((List Int)->Option R)->Option R:=lp (F.dj N)
def F.dk(N:Nat):Jm->((List Int)->Option R)->Option R
 | (x1,x2),k=>
 F.np N N ((x1,(z8 x1:Int),0),x2) λ y7=>
 k y7
def F.px(N:Nat):E9->(E9->Option R)->(Int->Option R)->Option R
 | (x2,x3,x4,x5),next,ke0=>
 bif decide (x5<x4) then
  chk (inB x5 (z8 x3))<|
  next (Aa .i64 (x2+(Aa .i64 (zA x3 (z9 x5) (0:Int)))),x3,x4,Aa .i64 (x5+1))
 else
  ke0 x2
def F.zh(N:Nat):Nat->E9->(Int->Option R)->Option R:=lp (F.px N)
def F.ry(N:Nat):(List Int)->(Int->Option R)->Option R
 | x1,k=>
 F.zh N N (0,x1,(z8 x1:Int),0) λ y6=>
 chk (!(65536==0))<|
 k (zG y6 65536)
def F.lh(N:Nat):Apv->(Apv->Option R)->(Aht->Option R)->Option R
 | ((x11,x12,x13),(x14,x15,x16,x17,x18,x19,x20,x21),x22),next,ke0=>
 bif decide (x13<x12) then
  chk (inB x13 (z8 x11))<|
  chk (zB (z8 x22+z8 [Aa .u8 (zA x11 (z9 x13) (0:Int))]) (Ar 1))<|
  next ((x11,x12,Aa .i64 (x13+1)),(x14,x15,x16,x17,x18,x19,x20,x21),x22++[Aa .u8 (zA x11 (z9 x13) (0:Int))])
 else
  ke0 ((x14,x15,x16,x17,x18,x19,x20,x21),x22)
def F.wx(N:Nat):Nat->Apv->(Aht->Option R)->Option R:=lp (F.lh N)
def F.li(N:Nat):Yx->(Yx->Option R)->(Aht->Option R)->Option R
 | ((x32,x33),(x34,x35,x36,x37,x38,x39,x40,x41),x42),next,ke2=>
 bif decide (x33<x32) then
  chk (inB x33 (z8 x36))<|
  chk (inB x33 (z8 x37))<|
  chk (inB x33 (z8 x38))<|
  chk (inB x33 (z8 x39))<|
  F.dk N ([zA x36 (z9 x33) (0:Int),zA x37 (z9 x33) (0:Int),zA x38 (z9 x33) (0:Int),zA x39 (z9 x33) (0:Int)],x42) λ r43=>
  next ((x32,Aa .i64 (x33+1)),(x34,x35,x36,x37,x38,x39,x40,x41),r43)
 else
  ke2 ((x34,x35,x36,x37,x38,x39,x40,x41),x42)
def F.wy(N:Nat):Nat->Yx->(Aht->Option R)->Option R:=lp (F.li N)
def F.lj(N:Nat):Yx->(Yx->Option R)->((List Int)->Option R)->Option R
 | ((x53,x54),(x55,x56,x57,x58,x59,x60,x61,x62),x63),next,ke4=>
 bif decide (x54<x53) then
  chk (inB x54 (z8 x61))<|
  chk (inB x54 (z8 x62))<|
  F.dk N ([zA x61 (z9 x54) (0:Int),zA x62 (z9 x54) (0:Int)],x63) λ r64=>
  next ((x53,Aa .i64 (x54+1)),(x55,x56,x57,x58,x59,x60,x61,x62),r64)
 else
  ke4 x63
def F.wz(N:Nat):Nat->Yx->((List Int)->Option R)->Option R:=lp (F.lj N)
def F.rh(N:Nat):Et->(List UInt8->Option R)->Option R
 | (x1,x2,x3,x4,x5,x6,x7,x8),k=>
 F.qi N (x1,x2,x3,x4,x5,x6,x7,x8) λ r9=>
 bif !r9 then
  k []
 else
  chk (zB (z8 ([]:List Int)+z8 (Bj [88,68,70,49])) (Ar 1))<|
  F.dk N ([(z8 x3:Int),x2,(z8 x7:Int)],([]:List Int)++(Bj [88,68,70,49])) λ r10=>
  F.wx N N ((x1,(z8 x1:Int),0),(x1,x2,x3,x4,x5,x6,x7,x8),r10) λ((y23,y24,y25,y26,y27,y28,y29,y30),y31)=>
  F.wy N N (((z8 y25:Int),0),(y23,y24,y25,y26,y27,y28,y29,y30),y31) λ((y44,y45,y46,y47,y48,y49,y50,y51),y52)=>
  F.wz N N (((z8 y50:Int),0),(y44,y45,y46,y47,y48,y49,y50,y51),y52) λ y65=>
  F.ry N y65 λ r66=>
  F.dk N ([r66],y65) λ r67=>
  k (B2 r67)
def F.dy:(Bool×Int)->((Int->Option R)×(Unit->Option R))->Option R
 | (x1,x2),(k0,k1)=>
 bif !x1 then k0 x2 else k1 ()
def F.pj:(Int×(List Int))->(Wb->Option R)->Option R
 | (x1,x2),k=>
 chk (inB 0 (z8 x2))<|
 chk (decide (0<=8))<|
 chk (inB 1 (z8 x2))<|
 chk (decide (0<=2)&&decide (2<=(z8 x2:Int)))<|
 k (Aa .i64 ((BitVec.ofInt 64 (Aa .i64 ((Aa .i64 (zA x2 (z9 0) (0:Int)))*2^min (z9 8) 64))|||BitVec.ofInt 64 (Aa .i64 (zA x2 (z9 1) (0:Int)))).toNat:Int),x1,zC ((z8 x2)-(z9 2)) (zD (z9 2) x2),([]:List Int),([]:List Int),([]:List Int),([]:List Int),([]:List Int),([]:List Int),([]:List Int))
def F.am:H3->((Int×(Int×(List Int)×Md)×(List Int))->Option R)->Option R
 | (x1,x2,x3,x4,x5,x6,x7,x8,x9),k=>
 chk (inB 0 (z8 x2))<|
 chk (decide (0<=8))<|
 chk (inB 1 (z8 x2))<|
 chk (decide (0<=2)&&decide (2<=(z8 x2:Int)))<|
 k (Aa .i64 ((BitVec.ofInt 64 (Aa .i64 ((Aa .i64 (zA x2 (z9 0) (0:Int)))*2^min (z9 8) 64))|||BitVec.ofInt 64 (Aa .i64 (zA x2 (z9 1) (0:Int)))).toNat:Int),(x1,x3,x4,x5,x6,x7,x8,x9),zC ((z8 x2)-(z9 2)) (zD (z9 2) x2))
def F.ly:(List Int)->((Int×(List Int))->Option R)->Option R
 | x1,k=>
 chk (inB 0 (z8 x1))<|
 chk (decide (0<=8))<|
 chk (inB 1 (z8 x1))<|
 chk (decide (0<=2)&&decide (2<=(z8 x1:Int)))<|
 k (Aa .i64 ((BitVec.ofInt 64 (Aa .i64 ((Aa .i64 (zA x1 (z9 0) (0:Int)))*2^min (z9 8) 64))|||BitVec.ofInt 64 (Aa .i64 (zA x1 (z9 1) (0:Int)))).toNat:Int),zC ((z8 x1)-(z9 2)) (zD (z9 2) x1))
def F.ay:H3->((Int×(Int×(List Int)×Md)×(List Int))->Option R)->Option R
 | (x1,x2,x3,x4,x5,x6,x7,x8,x9),k=>
 F.am (x1,x2,x3,x4,x5,x6,x7,x8,x9) λ(r10,(r11,r12,r13,r14,r15,r16,r17,r18),r19)=>
 bif r10==65535 then k ((-1),(r11,r12,r13,r14,r15,r16,r17,r18),r19) else k (r10,(r11,r12,r13,r14,r15,r16,r17,r18),r19)
def F.az(N:Nat):((Int×Int×(Nat×Nat)×Int×Int)×H3)->(((Int×Int×(Nat×Nat)×Int×Int)×H3)->Option R)->(Adv->Option R)->Option R
 | ((x58,x59,(x60,x61),x62,x63),x64,x65,x66,x67,x68,x69,x70,x71,x72),next,ke0=>
 bif decide (x63<x62) then
  chk (inB x63 x61)<|
  chk (zB (z8 x66+z8 [Aa .i64 (zA x65 (x60+z9 x63) (0:Int))]) (Ar 8))<|
  next ((x58,x59,(x60,x61),x62,Aa .i64 (x63+1)),x64,x65,x66++[Aa .i64 (zA x65 (x60+z9 x63) (0:Int))],x67,x68,x69,x70,x71,x72)
 else
  ke0 ((x58,x59),x64,x65,x66,x67,x68,x69,x70,x71,x72)
def F.dm(N:Nat):Nat->((Int×Int×(Nat×Nat)×Int×Int)×H3)->(Adv->Option R)->Option R:=lp (F.az N)
def F.bb(N:Nat):Apw->(Apw->Option R)->(Wb->Option R)->Option R
 | ((x84,x85,x86),x87,x88,x89,x90,x91,x92,x93,x94,x95),next,ke2=>
 bif decide (x86<x85) then
  F.am (x87,x88,x89,x90,x91,x92,x93,x94,x95) λ(r96,(r97,r98,r99,r100,r101,r102,r103,r104),r105)=>
  chk (zB (z8 r99+z8 [r96]) (Ar 8))<|
  F.am (r97,r105,r98,r99++[r96],r100,r101,r102,r103,r104) λ(r106,(r107,r108,r109,r110,r111,r112,r113,r114),r115)=>
  chk (zB (z8 r110+z8 [r106]) (Ar 8))<|
  F.ay (r107,r115,r108,r109,r110++[r106],r111,r112,r113,r114) λ(r116,(r117,r118,r119,r120,r121,r122,r123,r124),r125)=>
  chk (zB (z8 r121+z8 [r116]) (Ar 8))<|
  F.ay (r117,r125,r118,r119,r120,r121++[r116],r122,r123,r124) λ(r126,(r127,r128,r129,r130,r131,r132,r133,r134),r135)=>
  chk (zB (z8 r132+z8 [r126]) (Ar 8))<|
  next ((x84,x85,Aa .i64 (x86+1)),r127,r135,r128,r129,r130,r131,r132++[r126],r133,r134)
 else
  ke2 (x84,x87,x88,x89,x90,x91,x92,x93,x94,x95)
def F.dn(N:Nat):Nat->Apw->(Wb->Option R)->Option R:=lp (F.bb N)
def F.bc(N:Nat):Adv->(Adv->Option R)->(H3->Option R)->Option R
 | ((x146,x147),x148,x149,x150,x151,x152,x153,x154,x155,x156),next,ke4=>
 bif decide (x147<x146) then
  F.am (x148,x149,x150,x151,x152,x153,x154,x155,x156) λ(r157,(r158,r159,r160,r161,r162,r163,r164,r165),r166)=>
  chk (zB (z8 r164+z8 [r157]) (Ar 8))<|
  F.ay (r158,r166,r159,r160,r161,r162,r163,r164++[r157],r165) λ(r167,(r168,r169,r170,r171,r172,r173,r174,r175),r176)=>
  chk (zB (z8 r175+z8 [r167]) (Ar 8))<|
  next ((x146,Aa .i64 (x147+1)),r168,r176,r169,r170,r171,r172,r173,r174,r175++[r167])
 else
  ke4 (x148,x149,x150,x151,x152,x153,x154,x155,x156)
def F.dp(N:Nat):Nat->Adv->(H3->Option R)->Option R:=lp (F.bc N)
def F.au(N:Nat):((Int->Option R)×(H3->Option R))->((List UInt8×Int×Int×Int)×H3)->Option R
 | (k0,k1),((w40,w41,w42,w43),w44,w45,w46,w47,w48,w49,w50,w51,w52)=>
 F.dy ((z8 w40:Int)==(Aa .i64 ((Aa .i64 (268+(Aa .i64 (8*w41))))+(Aa .i64 (4*w43)))),4) (λ r53=>
  k0 r53,
  λ _=>
  chk (decide (0<=(Aa .i64 ((z8 w40:Int)-2)))&&decide ((Aa .i64 ((z8 w40:Int)-2))<=(z8 w40:Int)))<|
  chk (zB (z8 (zD (z9 (Aa .i64 ((z8 w40:Int)-2))) (zC (z8 w40) w40))) big)<|
  F.ly (Bj (zD (z9 (Aa .i64 ((z8 w40:Int)-2))) (zC (z8 w40) w40))) λ(r54,r55)=>
  chk (decide (0<=(Aa .i64 ((z8 w40:Int)-2)))&&decide ((Aa .i64 ((z8 w40:Int)-2))<=(z8 w40:Int)))<|
  chk (zB (z8 (zD 0 (zC (z9 (Aa .i64 ((z8 w40:Int)-2))) w40))) big)<|
  F.ry N (Bj (zD 0 (zC (z9 (Aa .i64 ((z8 w40:Int)-2))) w40))) λ r56=>
  F.dy (r54==r56,5) (λ r57=>
   k0 r57,
   λ _=>
   chk (decide (0<=256)&&decide (256<=(z8 w45:Int)))<|
   F.dm N N ((w41,w43,(0,(z9 256)-0),((z9 256)-0:Int),0),w42,w45,w46,w47,w48,w49,w50,w51,w52) λ((y73,y74),y75,y76,y77,y78,y79,y80,y81,y82,y83)=>
   chk (decide (0<=256)&&decide (256<=(z8 y76:Int)))<|
   F.dn N N ((y74,y73,0),y75,zC ((z8 y76)-(z9 256)) (zD (z9 256) y76),y77,y78,y79,y80,y81,y82,y83) λ(y136,y137,y138,y139,y140,y141,y142,y143,y144,y145)=>
   F.dp N N ((y136,0),y137,y138,y139,y140,y141,y142,y143,y144,y145) λ(y177,y178,y179,y180,y181,y182,y183,y184,y185)=>
   F.lg N (y179,y177,y180,y181,y182,y183,y184,y185) λ r186=>
   F.dy (r186,6) (λ r187=>
    k0 r187,
    λ _=>
    k1 (y177,y178,y179,y180,y181,y182,y183,y184,y185))))
def F.oy(N:Nat):Ap1->((Int->Option R)×(H3->Option R))->Option R
 | (x1,x2),(k0,k1)=>
 F.dy (decide ((z8 x1:Int)>=268),1) (λ r3=>
  k0 r3,
  λ _=>
  chk (decide (0<=4)&&decide (4<=(z8 x1:Int)))<|
  F.dy ((zD 0 (zC (z9 4) x1))==[88,68,70,49],2) (λ r4=>
   k0 r4,
   λ _=>
   chk (decide (0<=4)&&decide (4<=(z8 x1:Int)))<|
   chk (zB (z8 (zD (z9 4) (zC (z8 x1) x1))) big)<|
   F.pj (x2,Bj (zD (z9 4) (zC (z8 x1) x1))) λ(r5,r6,r7,r8,r9,r10,r11,r12,r13,r14)=>
   F.am (r6,r7,r8,r9,r10,r11,r12,r13,r14) λ(r15,(r16,r17,r18,r19,r20,r21,r22,r23),r24)=>
   F.am (r16,r24,r17,r18,r19,r20,r21,r22,r23) λ(r25,(r26,r27,r28,r29,r30,r31,r32,r33),r34)=>
   bif decide (r5>=1) then
    bif decide (r5<=4000) then
     bif decide (r15>=1) then
      bif decide (r15<=256) then
       F.dy (decide (r25<=60000),3) (λ r35=>
        k0 r35,
        λ _=>
        jn (F.au N (k0,k1)) ((x1,r5,r15,r25),r26,r34,r27,r28,r29,r30,r31,r32,r33))
      else
       F.dy (false,3) (λ r36=>
        k0 r36,
        λ _=>
        jn (F.au N (k0,k1)) ((x1,r5,r15,r25),r26,r34,r27,r28,r29,r30,r31,r32,r33))
     else
      F.dy (false,3) (λ r37=>
       k0 r37,
       λ _=>
       jn (F.au N (k0,k1)) ((x1,r5,r15,r25),r26,r34,r27,r28,r29,r30,r31,r32,r33))
    else
     F.dy (false,3) (λ r38=>
      k0 r38,
      λ _=>
      jn (F.au N (k0,k1)) ((x1,r5,r15,r25),r26,r34,r27,r28,r29,r30,r31,r32,r33))
   else
    F.dy (false,3) (λ r39=>
     k0 r39,
     λ _=>
     jn (F.au N (k0,k1)) ((x1,r5,r15,r25),r26,r34,r27,r28,r29,r30,r31,r32,r33))))
def F.ua(N:Nat)(x1:List UInt8)(k:Int->Int->(List Int)->(List Int)->(List Int)->(List Int)->(List Int)->(List Int)->(List Int)->Option R):Option R:=
 F.oy N (x1,0) (λ r2=>
  k 0 r2 ([]:List Int) ([]:List Int) ([]:List Int) ([]:List Int) ([]:List Int) ([]:List Int) ([]:List Int),
  λ(r3,r4,r5,r6,r7,r8,r9,r10,r11)=>
  k r3 0 r5 r6 r7 r8 r9 r10 r11)
def F.bd(N:Nat):Apx->(Apx->Option R)->((Unit->Option R)×(Bool->Option R))->Option R
 | (x3,x4,x5,x6),next,(ke0,kret)=>
 bif decide (x6<x5) then
  chk (inB x6 (z8 x3))<|
  chk (inB x6 (z8 x4))<|
  bif(zA x3 (z9 x6) (0:Int)) !=(zA x4 (z9 x6) (0:Int)) then kret false else next (x3,x4,x5,Aa .i64 (x6+1))
 else
  ke0 ()
def F.xr(N:Nat):Nat->Apx->((Unit->Option R)×(Bool->Option R))->Option R:=lp (F.bd N)
def F.ai(N:Nat):Jm->(Bool->Option R)->Option R
 | (x1,x2),k=>
 bif(z8 x1:Int) !=(z8 x2:Int) then
  k false
 else
  F.xr N N (x1,x2,(z8 x1:Int),0) (λ _=>
   k true,
   λ y7=>
   k y7)
def F.nq(N:Nat):Tg->(Bool->Option R)->Option R
 | ((x1,x2,x3,x4,x5,x6,x7,x8),x9,x10,x11,x12,x13,x14,x15,x16),k=>
 bif x2==x10 then
  F.ai N (x1,x9) λ r17=>
  bif r17 then
   F.ai N (x3,x11) λ r18=>
   bif r18 then
    F.ai N (x4,x12) λ r19=>
    bif r19 then
     F.ai N (x5,x13) λ r20=>
     bif r20 then
      F.ai N (x6,x14) λ r21=>
      bif r21 then
       F.ai N (x7,x15) λ r22=>
       bif r22 then
        F.ai N (x8,x16) λ r23=>
        k r23
       else
        k false
      else
       k false
     else
      k false
    else
     k false
   else
    k false
  else
   k false
 else
  k false
def F.uc(N:Nat):(Int->Option R)->((List Int)×Int×Int×Bool)->Option R
 | k,(w4,w5,w6,w7)=>
 bif w7 then
  k 0
 else
  chk (!((z8 w4:Int)==0))<|
  chk (inB (zG w5 (z8 w4:Int)) (z8 w4))<|
  chk (!(w6==0))<|
  k (zG (Aa .i64 (zA w4 (z9 (zG w5 (z8 w4:Int))) (0:Int))) w6)
def F.uw(N:Nat):Dp->(Int->Option R)->Option R
 | (x1,x2,x3),k=>
 bif(z8 x1:Int)==0 then
  jn (F.uc N k) (x1,x2,x3,true)
 else
  jn (F.uc N k) (x1,x2,x3,decide (x3<=1))
def F.sx:(Et×Int×Int)->(Int->Option R)->Option R
 | ((x1,x2,x3,x4,x5,x6,x7,x8),x9,x10),k=>
 chk (inB x9 (z8 x3))<|
 chk (inB x10 (z8 x1))<|
 bif decide ((Aa .i64 ((zA x3 (z9 x9) (0:Int))+(zA x1 (z9 x10) (0:Int))))<(z8 x8:Int)) then
  chk (inB (Aa .i64 ((zA x3 (z9 x9) (0:Int))+(zA x1 (z9 x10) (0:Int)))) (z8 x8))<|
  bif(zA x8 (z9 (Aa .i64 ((zA x3 (z9 x9) (0:Int))+(zA x1 (z9 x10) (0:Int))))) (0:Int))==x9 then
   chk (inB (Aa .i64 ((zA x3 (z9 x9) (0:Int))+(zA x1 (z9 x10) (0:Int)))) (z8 x7))<|
   k (zA x7 (z9 (Aa .i64 ((zA x3 (z9 x9) (0:Int))+(zA x1 (z9 x10) (0:Int))))) (0:Int))
  else
   chk (inB x9 (z8 x4))<|
   k (zA x4 (z9 x9) (0:Int))
 else
  chk (inB x9 (z8 x4))<|
  k (zA x4 (z9 x9) (0:Int))
def F.kq(N:Nat):(Int->Option R)->((Int×Int×Bool)×(List Int)×Int×Md)->Option R
 | k,((w12,w13,w14),w15,w16,w17,w18,w19,w20,w21,w22)=>
 bif w14 then
  k (-1)
 else
  F.sx ((w15,w16,w17,w18,w19,w20,w21,w22),w12,w13) λ r23=>
  k r23
def F.tf(N:Nat):(Et×Int×Int)->(Int->Option R)->Option R
 | ((x1,x2,x3,x4,x5,x6,x7,x8),x9,x10),k=>
 F.qi N (x1,x2,x3,x4,x5,x6,x7,x8) λ r11=>
 bif !r11 then
  jn (F.kq N k) ((x9,x10,true),x1,x2,x3,x4,x5,x6,x7,x8)
 else
  bif decide (x9<0) then
   jn (F.kq N k) ((x9,x10,true),x1,x2,x3,x4,x5,x6,x7,x8)
  else
   bif decide (x9>=(z8 x3:Int)) then
    jn (F.kq N k) ((x9,x10,true),x1,x2,x3,x4,x5,x6,x7,x8)
   else
    bif decide (x10<0) then
     jn (F.kq N k) ((x9,x10,true),x1,x2,x3,x4,x5,x6,x7,x8)
    else
     jn (F.kq N k) ((x9,x10,decide (x10>255)),x1,x2,x3,x4,x5,x6,x7,x8)
def F.oa(N:Nat)(next:Ahu->Option R):((Yy->Option R)×(Apy->Option R))->(Au6×Int×Wd)->Option R
 | (ke2,kret),((w254,w255,w256,w257,w258,w259),w260,w261,w262,w263,w264,w265,w266,w267,w268,w269,w270,w271,w272)=>
 F.tf N ((w266,w261,w267,w268,w269,w270,w271,w272),w257,w259) λ r273=>
 chk (inB w259 (z8 w262))<|
 chk (inB (Aa .i64 ((Aa .i64 (w257*w260))+(zA w262 (z9 w259) (0:Int)))) (z8 w263))<|
 bif r273 !=(zA w263 (z9 (Aa .i64 ((Aa .i64 (w257*w260))+(zA w262 (z9 w259) (0:Int))))) (0:Int)) then kret ((w254,false,w255,w256,w257),w260,w261,w262,w263,w264,w265,w266,w267,w268,w269,w270,w271,w272) else next ((w254,w255,w256,w257,Aa .i64 (w258+1)),w260,w261,w262,w263,w264,w265,w266,w267,w268,w269,w270,w271,w272)
def F.kc(N:Nat):Ahu->(Ahu->Option R)->((Yy->Option R)×(Apy->Option R))->Option R
 | ((x235,x236,x237,x238,x239),x240,x241,x242,x243,x244,x245,x246,x247,x248,x249,x250,x251,x252),next,(ke2,kret)=>
 bif decide (x239<4) then
  bif x239==3 then
   F.uw N (x235,x238,256) λ r253=>
   jn (F.oa N next (ke2,kret)) ((x235,x236,x237,x238,x239,r253),x240,x241,x242,x243,x244,x245,x246,x247,x248,x249,x250,x251,x252)
  else
   jn (F.oa N next (ke2,kret)) ((x235,x236,x237,x238,x239,Aa .i64 (97+x239)),x240,x241,x242,x243,x244,x245,x246,x247,x248,x249,x250,x251,x252)
 else
  ke2 ((x235,x236,x237,x238),x240,x241,x242,x243,x244,x245,x246,x247,x248,x249,x250,x251,x252)
def F.wi(N:Nat):Nat->Ahu->((Yy->Option R)×(Apy->Option R))->Option R:=lp (F.kc N)
def F.ke(N:Nat):Yy->(Yy->Option R)->((Unit->Option R)×(Bool->Option R))->Option R
 | ((x218,x219,x220,x221),x222,x223,x224,x225,x226,x227,x228,x229,x230,x231,x232,x233,x234),next,(ke0,kret)=>
 bif decide (x221<x219) then
  F.wi N N ((x218,x219,x220,x221,0),x222,x223,x224,x225,x226,x227,x228,x229,x230,x231,x232,x233,x234) (λ((y274,y275,y276,y277),y278,y279,y280,y281,y282,y283,y284,y285,y286,y287,y288,y289,y290)=>
   next ((y274,y275,y276,Aa .i64 (y277+y276)),y278,y279,y280,y281,y282,y283,y284,y285,y286,y287,y288,y289,y290),
   λ((y291,y292,y293,y294,y295),y296,y297,y298,y299,y300,y301,y302,y303,y304,y305,y306,y307,y308)=>
   kret y292)
 else
  ke0 ()
def F.nr(N:Nat):Nat->Yy->((Unit->Option R)×(Bool->Option R))->Option R:=lp (F.ke N)
def F.ga(N:Nat):(Bool->Option R)->Ave->Option R
 | k,((w95,w96),w97,w98,w99,w100,w101,w102,w103,w104,w105,w106,w107,w108,w109)=>
 bif w96 then
  k false
 else
  bif decide ((z8 w101:Int)>60) then
   chk (!(20==0))<|
   F.nr N N ((w95,(z8 w101:Int),Aa .i64 (Int.tdiv (z8 w101:Int) 20),0),w97,w98,w99,w100,w101,w102,w103,w104,w105,w106,w107,w108,w109) (λ _=>
    k true,
    λ y309=>
    k y309)
  else
   F.nr N N ((w95,(z8 w101:Int),1,0),w97,w98,w99,w100,w101,w102,w103,w104,w105,w106,w107,w108,w109) (λ _=>
    k true,
    λ y310=>
    k y310)
def F.vp(N:Nat):(Bool->Option R)->Avf->Option R
 | k,((w69,w70),w71,w72,w73,w74,w75,w76,w77,w78,w79,w80,w81,w82,w83,w84,w85,w86,w87,w88,w89,w90,w91)=>
 bif w70 !=0 then
  jn (F.ga N k) ((w69,true),w71,w73,w74,w75,w76,w77,w85,w86,w87,w88,w89,w90,w91)
 else
  F.nq N ((w85,w73,w86,w87,w88,w89,w90,w91),w78,w72,w79,w80,w81,w82,w83,w84) λ r92=>
  bif !r92 then
   jn (F.ga N k) ((w69,true),w71,w73,w74,w75,w76,w77,w85,w86,w87,w88,w89,w90,w91)
  else
   F.ai N (w88,w76) λ r93=>
   bif !r93 then
    jn (F.ga N k) ((w69,true),w71,w73,w74,w75,w76,w77,w85,w86,w87,w88,w89,w90,w91)
   else
    F.ai N (w89,w77) λ r94=>
    jn (F.ga N k) ((w69, !r94),w71,w73,w74,w75,w76,w77,w85,w86,w87,w88,w89,w90,w91)
def F.pk(N:Nat):(Bool->Option R)->(Dp×Int×Wd)->Option R
 | k,((w42,w43,w44),w45,w46,w47,w48,w49,w50,w51,w52,w53,w54,w55,w56,w57)=>
 bif w44 !=w43 then
  k false
 else
  bif w43 !=0 then
   k true
  else
   F.lg N (w51,w46,w52,w53,w54,w55,w56,w57) λ r58=>
   bif !r58 then
    k false
   else
    F.rh N (w51,w46,w52,w53,w54,w55,w56,w57) λ r59=>
    F.ua N r59 λ r60 r61 r62 r63 r64 r65 r66 r67 r68=>
    jn (F.vp N k) ((w42,r61),w45,w46,r60,w47,w48,w49,w50,w51,w52,w53,w54,w55,w56,w57,r62,r63,r64,r65,r66,r67,r68)
def F.wj(N:Nat):(Bool->Option R)->Avg->Option R
 | k,((w20,w21,w22),w23,w24,w25,w26,w27)=>
 F.ma N w20 λ(r28,r29,r30,r31,r32)=>
 F.tx N (r29,r28,r30,r31,r32) λ((r33,r34),r35,r36,r37,r38,r39,r40,r41)=>
 jn (F.pk N k) ((w21,w22,r34),w23,r33,w24,w25,w26,w27,r35,r36,r37,r38,r39,r40,r41)
def F.jd(N:Nat):(Bool->Option R)->((List Int)×(List Int)×Bool)->Option R
 | k,(w3,w4,w5)=>
 bif w5 then
  k true
 else
  F.ma N w3 λ(r6,r7,r8,r9,r10)=>
  F.tu N (r7,r6,r8,r9,r10) λ((r11,r12),r13,r14,r15,r16,r17,r18,r19)=>
  jn (F.wj N k) ((w3,w4,r12),r6,r7,r8,r9,r10)
def F.vq(N:Nat):Jm->(Bool->Option R)->Option R
 | (x1,x2),k=>
 bif decide ((z8 x1:Int)>1048576) then
  jn (F.jd N k) (x1,x2,true)
 else
  jn (F.jd N k) (x1,x2,decide ((z8 x2:Int)>1048576))
end Go.Proofs.Ytlnfickaejikoaa.fnImage
