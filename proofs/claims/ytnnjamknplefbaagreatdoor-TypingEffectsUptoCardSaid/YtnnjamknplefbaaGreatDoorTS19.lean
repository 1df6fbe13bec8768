/- A part of the proof. -/
import Derived.Test.YtnnjamknplefbaaGreatDoorTS16
set_option linter.all false
set_option linter.all false
namespace Go.Abs.Q
def bs(l:List Nat):ByteArray:=⟨(l.map UInt8.ofNat).toArray⟩
def U8:=4
def x9:=5
def Br:=6
def Gv:=7
def CB:=8
def EU:=10
def Hu:=13
def Bd:=14
def w5:=15
def Gw:=16
def EB:=17
def ED:=18
def EC:=19
def i7:=20
def H8:=21
def G4:=22
def EV:=28
def Cr:=40
def Ag:=43
def Bz:=44
def X0:=45
def BE:=46
def M4:=47
def Hv:=48
def l7:=49
def S9:=50
def U5:=51
def Q2:=52
def P8:=53
def i6:=54
def U0:=55
def X4:=56
def P6:=57
def N9:=58
def Ht:=88
def s6:=94
def HO:=97
def DV:=101
def BD:=104
def At:=105
def Au:=106
def Cq:=107
def FE:=110
def y8:=111
def Gg:=112
def JI:=113
def EA:=114
def n9:=115
def M7:=116
def L4:=117
def y9:=118
def Bc:=119
def U3:=121
def j0:=122
def Fj:=123
def CN:=124
def BN:=125
def Hw:=126
def CA:=127
def X3:=129
def Z1:=130
def R0:=131
def T7:=132
def Dj:=166
def ET:=167
def ES:=168
def Ew:=178
def Eg:=180
def Fg:=181
def Dy:=182
def GL:=183
def DR:=185
def KB:=187
def Fh:=188
def X7:=189
def BR:=190
def Al:=191
def DJ:=194
def AN:=195
def Y6:=198
def Cs:=202
def Ct:=203
def s7:=204
def T6:=205
def HP:=206
def Z7:=207
def DL:=208
def AW:=209
def DT:=210
def X9:=211
def AX:=214
def Fk:=215
def AM:=216
def Aq:=217
def K7:=219
def M2:=220
def T2:=221
def Cj:=222
def Dk:=250
def Ao:=258
def BT:=259
def Y9:=260
def Q1:=261
def Z0:=263
def Cn:=266
def By:=267
def Ia:=268
def CT:=269
def Bs:=270
def Gf:=271
def BS:=273
def l6:=274
def Ci:=275
def FO:=276
def Dl:=277
def S2:=278
def T4:=279
def l8:=280
def Y5:=281
def AZ:=282
def CO:=283
def AA:=284
def Dz:=286
def N7:=287
def O0:=288
def Gx:=290
def T5:=291
def AY:=292
def Ar:=300
def Hs:=305
def Gh:=306
def M9:=307
def Z3:=308
def CU:=315
def Ey:=320
def GO:=323
def FP:=329
def Bt:=330
def Fn:=331
def Co:=333
def X2:=338
def Bq:=342
def Q8:=345
def V9:=347
def BW:=348
def z8:=349
def X8:=350
def X1:=351
def Er:=352
def DS:=353
def Ge:=354
def Z8:=355
def Dm:=356
def CW:=357
def LR:=365
def Hx:=371
def DU:=372
def b6:=373
def Cp:=378
def Y4:=386
def M1:=395
def T1:=396
def P5:=397
def Q9:=398
def Q6:=399
def K0:=400
def L5:=401
def O8:=402
def BV:=405
def S3:=406
def Ep:=407
def S1:=408
def DI:=409
def u7:=410
def W2:=411
def DM:=419
def x8:=427
def Am:=428
def An:=430
def T0:=432
def W0:=433
def DK:=434
def Q0:=435
def Ap:=437
def N8:=438
def V3:=439
def AB:=441
def r6:=442
def r7:=443
def FD:=451
def R4:=466
def As:=467
def Fi:=474
def Ez:=481
def Ei:=482
def GP:=483
def AU:=489
def R6:=495
def BU:=497
def HQ:=502
def Ic:=503
def Eh:=504
def Y7:=507
def i9:=508
def GM:=510
def GN:=520
def AL:=521
def Ib:=525
def Q7:=526
def AK:=528
def p7:=529
def FN:=548
def B3(f:FuncId):Bool:=f == i7||f == H8||f == G4||f == M4||f == S9||f == U5||f == Q2||f == P8||f == N9||f == Ht||f == At||f == Au||f == L4||f == y9||f == Hw||f == CA||f == X3||f == Z1||f == R0||f == T7||f == Dj||f == ET||f == ES||f == Eg||f == Fg||f == Dy||f == Fh||f == X7||f == BR||f == Al||f == Cs||f == Ct||f == s7||f == T6||f == AM||f == Aq||f == K7||f == M2||f == T2||f == Dk||f == Ao||f == Y9||f == Q1||f == Z0||f == Cn||f == By||f == CT||f == BS||f == l6||f == l8||f == Y5||f == AZ||f == CO||f == N7||f == O0||f == T5||f == Ar||f == M9||f == GO||f == FP||f == Bt||f == Fn||f == Co||f == X2||f == Bq||f == Q8||f == BW||f == z8||f == X8||f == LR||f == Cp||f == Y4||f == M1||f == T1||f == P5||f == Q9||f == Q6||f == K0||f == L5||f == O8||f == BV||f == T0||f == W0||f == DK||f == Q0||f == Ap||f == N8||f == V3||f == AB||f == r6||f == r7||f == FD||f == R4||f == As||f == Fi||f == Ez||f == Ei||f == GP||f == R6||f == BU||f == HQ||f == Ic||f == Eh||f == Y7||f == i9||f == GM||f == GN||f == AL||f == Q7||f == AK||f == p7||f == FN
def mutF(f:FuncId):Bool:=f == Hu||f == Cq||f == BT||f == Y9||f == Q1||f == Z0||f == Bs||f == Bt||f == W0||f == DK||f == Ez||f == i9||f == Ib||f == Q7
@[simp]def V(d a:Nat):RO:=⟨some d,.mov (.t a),none⟩
@[simp]def F(d k a:Nat):RO:=⟨some d,.faddr k (.t a),none⟩
@[simp]def L(d a:Nat):RO:=⟨some d,.ld false 1 (.t a),none⟩
@[simp]def A(d n a:Nat):RO:=⟨some d,.ld true n (.t a),none⟩
@[simp]def N(d a:Nat):RO:=⟨some d,.len false (.t a),none⟩
@[simp]def oI(d s a b:Nat):RO:=⟨some d,.iaddr s (.t a) (.t b),none⟩
@[simp]def C(d:Nat)(v:AV):RO:=⟨some d,.mov (.c v),none⟩
@[simp]def oK(d:Nat)(f:FuncId)(l:List Opd):RO:=⟨some d,.call f l,none⟩
@[simp]def B(d a:Nat):RO:=⟨some d,.box (.t a),none⟩
@[simp]def oZ(d:Nat)(v:AV):RO:=⟨some d,.alloc v,none⟩
@[simp]def oW(n a b:Nat):RO:=⟨none,.st n (.t a) (.t b),none⟩
@[simp]def J(d a:Nat):RO:=⟨some d,.bin .add (.t a) (.c (.int .i64 1)),none⟩
@[simp]def E(d a b:Nat):RO:=⟨some d,.bin .lss (.t a) (.t b),none⟩
@[simp]def oU(d a:Nat):RO:=⟨some d,.un .not (.t a),none⟩
@[simp]def O(d:Nat)(p:ROp):RO:=⟨some d,p,none⟩
@[simp]def G(d g:Nat)(p:ROp):RO:=⟨some d,p,some (g,true)⟩
@[simp]def H(d g:Nat)(p:ROp):RO:=⟨some d,p,some (g,false)⟩
@[simp]def pV(a:Nat):ROp:=ROp.mov (.t a)
@[simp]def pF(k a:Nat):ROp:=ROp.faddr k (.t a)
@[simp]def pL(a:Nat):ROp:=ROp.ld false 1 (.t a)
@[simp]def pA(n a:Nat):ROp:=ROp.ld true n (.t a)
@[simp]def pI(n:Int):AV:=AV.int .i64 n
@[simp]def rG(l:List RO):RCode:=RCode.region false l
@[simp]def rD(l:List RO):RCode:=RCode.region true l
def CJ(f:FuncId):Bool:=f == M4||f == BD||f == L4||f == X7||f == X9||f == Y5||f == CU||f == Ey||f == FP||f == Q8||f == X8||f == M1||f == T1||f == P5||f == Q9||f == Q6||f == K0||f == L5||f == O8||f == Q0||f == Ap||f == N8||f == V3||f == R4
def TD(f:FuncId):Bool:=f == P8||f == n9||f == Ew||f == T6||f == Ia||f == Gf||f == AA||f == Dz||f == N7||f == GO||f == DU||f == x8||f == Am||f == An||f == AU
def L3(f:FuncId):Bool:=f == Y9||f == Q1||f == Z0||f == l6||f == GO||f == X2||f == T0||f == W0||f == R6||f == i9||f == Q7
def rspF(f:FuncId):Bool:=f == Q2||f == X4||f == DR||f == X2||f == V9||f == T0||f == R6
def rbF(f:FuncId):Bool:=f == DJ||f == GL||f == x9||f == HO||f == Cr||f == Bd||f == w5
def mI(f g:FuncId):Bool:=((f == DJ)&&(g == Bs))||((f == GL)&&(g == BT))||((f == x9)&&(g == Hu))||((f == HO)&&(g == KB))||((f == Cr)&&(g == Cq))||((f == x9)&&(g == Bd||g == w5))||((f == Bd||f == w5)&&(g == Cr))||((f == Cr)&&(g == BD))
def bZ(f:FuncId):Bool:=f == BR||f == Al
def C2(f:FuncId):Ctx:={raw:=if rbF f then λg=>B3 g||mI f g else B3,mutApp:=mutF f,rawv:=CJ f,ro:=TD f,noB:=L3,rst:=bZ f}
@[simp]theorem layAll(f:FuncId):(C2 f).lay=false:=_root_.id rfl
@[simp]theorem flags_1:L3 i7=false/\L3 H8=false/\L3 G4=false/\L3 M4=false/\L3 S9=false/\L3 U5=false/\L3 Q2=false/\TD P8=true/\L3 P8=false/\L3 N9=false/\L3 Ht=false/\CJ BD=true/\TD BD=false/\L3 At=false/\L3 Au=false/\TD n9=true/\CJ M7=false/\CJ L4=true/\L3 L4=false/\L3 y9=false/\CJ U3=false/\L3 Hw=false/\L3 CA=false/\L3 X3=false/\L3 Z1=false/\L3 R0=false/\L3 T7=false/\L3 Dj=false/\L3 ET=false/\L3 ES=false/\TD Ew=true/\L3 Eg=false/\L3 Fg=false/\L3 Dy=false/\L3 Fh=false/\CJ X7=true/\TD X7=false/\L3 X7=false/\L3 BR=false/\L3 Al=false/\L3 Cs=false/\L3 Ct=false/\TD s7=false/\L3 s7=false/\CJ T6=false/\TD T6=true/\L3 T6=false/\CJ Z7=false/\CJ X9=true/\TD X9=false:=by repeat' (first|rfl|constructor)
@[simp]theorem flags_2:L3 AM=false/\L3 Aq=false/\L3 K7=false/\L3 M2=false/\L3 T2=false/\L3 Dk=false/\L3 Ao=false/\L3 Y9=true/\L3 Q1=true/\L3 Z0=true/\L3 Cn=false/\L3 By=false/\TD Ia=true/\L3 CT=false/\TD Gf=true/\L3 BS=false/\L3 l6=true/\CJ S2=false/\CJ T4=false/\TD l8=false/\L3 l8=false/\L3 Y5=false/\L3 AZ=false/\L3 CO=false/\TD AA=true/\TD Dz=true/\TD N7=true/\L3 N7=false/\L3 O0=false/\L3 T5=false/\L3 Ar=false/\L3 M9=false/\CJ CU=true/\TD CU=false/\CJ Ey=true/\TD GO=true/\L3 GO=true/\CJ FP=true/\L3 FP=false/\L3 Bt=false/\L3 Fn=false/\L3 Co=false/\L3 X2=true/\L3 Bq=false/\CJ Q8=true/\L3 Q8=false/\L3 BW=false/\L3 z8=false/\CJ X8=true/\L3 X8=false:=by repeat' (first|rfl|constructor)
@[simp]theorem flags_3:L3 LR=false/\TD DU=true/\L3 Cp=false/\CJ Y4=false/\L3 Y4=false/\CJ M1=true/\L3 M1=false/\L3 T1=false/\L3 P5=false/\L3 Q9=false/\L3 Q6=false/\CJ K0=true/\L3 K0=false/\CJ L5=true/\L3 L5=false/\CJ O8=true/\L3 O8=false/\L3 BV=false/\CJ S3=false/\CJ S1=false/\CJ W2=false/\TD x8=true/\TD Am=true/\TD An=true/\L3 T0=true/\L3 W0=true/\L3 DK=false/\CJ Q0=true/\L3 Q0=false/\L3 Ap=false/\L3 N8=false/\L3 V3=false/\L3 AB=false/\L3 r6=false/\L3 r7=false/\L3 FD=false/\CJ R4=true/\L3 R4=false/\L3 As=false/\L3 Fi=false/\L3 Ez=false/\L3 Ei=false/\L3 GP=false/\TD AU=true/\L3 R6=true/\L3 BU=false/\L3 HQ=false/\L3 Ic=false/\L3 Eh=false/\CJ Y7=false:=by repeat' (first|rfl|constructor)
@[simp]theorem flags_4:L3 Y7=false/\L3 i9=true/\L3 GM=false/\L3 GN=false/\L3 AL=false/\L3 Q7=true/\L3 AK=false/\L3 p7=false/\L3 FN=false:=by repeat' (first|rfl|constructor)
@[simp]theorem Xz:(C2 U8).raw=B3:=_root_.id rfl
@[simp]theorem rv:(C2 x9).raw=λg=>B3 g||mI x9 g:=_root_.id rfl
@[simp]theorem xU:(C2 Br).raw=B3:=_root_.id rfl
@[simp]theorem xS:(C2 Gv).raw=B3:=_root_.id rfl
@[simp]theorem sI:(C2 CB).raw=B3:=_root_.id rfl
@[simp]theorem vR:(C2 EU).raw=B3:=_root_.id rfl
@[simp]theorem vT:(C2 Hu).raw=B3:=_root_.id rfl
@[simp]theorem mD:(C2 Bd).raw=λg=>B3 g||mI Bd g:=_root_.id rfl
@[simp]theorem cw:(C2 w5).raw=λg=>B3 g||mI w5 g:=_root_.id rfl
@[simp]theorem xT:(C2 Gw).raw=B3:=_root_.id rfl
@[simp]theorem nD:(C2 EB).raw=B3:=_root_.id rfl
@[simp]theorem nK:(C2 ED).raw=B3:=_root_.id rfl
@[simp]theorem nH:(C2 EC).raw=B3:=_root_.id rfl
@[simp]theorem cy:(C2 i7).raw=B3:=_root_.id rfl
@[simp]theorem YL:(C2 H8).raw=B3:=_root_.id rfl
@[simp]theorem YI:(C2 G4).raw=B3:=_root_.id rfl
@[simp]theorem vS:(C2 EV).raw=B3:=_root_.id rfl
@[simp]theorem vX:(C2 Cr).raw=λg=>B3 g||mI Cr g:=_root_.id rfl
@[simp]theorem mH:(C2 Ag).raw=B3:=_root_.id rfl
@[simp]theorem ry:(C2 Bz).raw=B3:=_root_.id rfl
@[simp]theorem RJ:(C2 X0).raw=B3:=_root_.id rfl
@[simp]theorem jB:(C2 BE).raw=B3:=_root_.id rfl
@[simp]theorem RK:(C2 M4).raw=B3:=_root_.id rfl
@[simp]theorem vU:(C2 Hv).raw=B3:=_root_.id rfl
@[simp]theorem nI:(C2 l7).raw=B3:=_root_.id rfl
@[simp]theorem ZK:(C2 S9).raw=B3:=_root_.id rfl
@[simp]theorem bO:(C2 U5).raw=B3:=_root_.id rfl
@[simp]theorem bS:(C2 Q2).raw=B3:=_root_.id rfl
@[simp]theorem YH:(C2 P8).raw=B3:=_root_.id rfl
@[simp]theorem ck:(C2 i6).raw=B3:=_root_.id rfl
@[simp]theorem mG:(C2 U0).raw=B3:=_root_.id rfl
@[simp]theorem sD:(C2 X4).raw=B3:=_root_.id rfl
@[simp]theorem ct:(C2 P6).raw=B3:=_root_.id rfl
@[simp]theorem UB:(C2 N9).raw=B3:=_root_.id rfl
@[simp]theorem vQ:(C2 Ht).raw=B3:=_root_.id rfl
@[simp]theorem YD:(C2 s6).raw=B3:=_root_.id rfl
@[simp]theorem sL:(C2 DV).raw=B3:=_root_.id rfl
@[simp]theorem jA:(C2 BD).raw=B3:=_root_.id rfl
@[simp]theorem Vu:(C2 At).raw=B3:=_root_.id rfl
@[simp]theorem Vv:(C2 Au).raw=B3:=_root_.id rfl
@[simp]theorem cp:(C2 Cq).raw=B3:=_root_.id rfl
@[simp]theorem cu:(C2 FE).raw=B3:=_root_.id rfl
@[simp]theorem Tw:(C2 y8).raw=B3:=_root_.id rfl
@[simp]theorem sH:(C2 Gg).raw=B3:=_root_.id rfl
@[simp]theorem xR:(C2 JI).raw=B3:=_root_.id rfl
@[simp]theorem nC:(C2 EA).raw=B3:=_root_.id rfl
@[simp]theorem ls:(C2 n9).raw=B3:=_root_.id rfl
@[simp]theorem UY:(C2 M7).raw=B3:=_root_.id rfl
@[simp]theorem UZ:(C2 L4).raw=B3:=_root_.id rfl
@[simp]theorem vV:(C2 y9).raw=B3:=_root_.id rfl
@[simp]theorem mC:(C2 Bc).raw=B3:=_root_.id rfl
@[simp]theorem Tx:(C2 U3).raw=B3:=_root_.id rfl
@[simp]theorem Uf:(C2 j0).raw=B3:=_root_.id rfl
@[simp]theorem nA:(C2 Fj).raw=B3:=_root_.id rfl
@[simp]theorem bU:(C2 CN).raw=B3:=_root_.id rfl
@[simp]theorem cn:(C2 BN).raw=B3:=_root_.id rfl
@[simp]theorem vW:(C2 Hw).raw=B3:=_root_.id rfl
@[simp]theorem ZP:(C2 X3).raw=B3:=_root_.id rfl
@[simp]theorem bW:(C2 Z1).raw=B3:=_root_.id rfl
@[simp]theorem Vy:(C2 R0).raw=B3:=_root_.id rfl
@[simp]theorem Vz:(C2 T7).raw=B3:=_root_.id rfl
@[simp]theorem ew:(C2 Dj).raw=B3:=_root_.id rfl
@[simp]theorem iw:(C2 ET).raw=B3:=_root_.id rfl
@[simp]theorem iv:(C2 ES).raw=B3:=_root_.id rfl
@[simp]theorem lx:(C2 Ew).raw=B3:=_root_.id rfl
@[simp]theorem lw:(C2 DJ).raw=λg=>B3 g||mI DJ g:=_root_.id rfl
@[simp]theorem nE:(C2 AN).raw=B3:=_root_.id rfl
@[simp]theorem Sw:(C2 Y6).raw=B3:=_root_.id rfl
@[simp]theorem cz:(C2 Cs).raw=B3:=_root_.id rfl
@[simp]theorem dA:(C2 Ct).raw=B3:=_root_.id rfl
@[simp]theorem YG:(C2 s7).raw=B3:=_root_.id rfl
@[simp]theorem Vs:(C2 T6).raw=B3:=_root_.id rfl
@[simp]theorem lz:(C2 HP).raw=B3:=_root_.id rfl
@[simp]theorem nJ:(C2 Z7).raw=B3:=_root_.id rfl
@[simp]theorem mB:(C2 DL).raw=B3:=_root_.id rfl
@[simp]theorem eu:(C2 AW).raw=B3:=_root_.id rfl
@[simp]theorem sE:(C2 DT).raw=B3:=_root_.id rfl
@[simp]theorem iz:(C2 X9).raw=B3:=_root_.id rfl
@[simp]theorem Ub:(C2 AX).raw=B3:=_root_.id rfl
@[simp]theorem ZO:(C2 K7).raw=B3:=_root_.id rfl
@[simp]theorem Vx:(C2 M2).raw=B3:=_root_.id rfl
@[simp]theorem ZN:(C2 T2).raw=B3:=_root_.id rfl
@[simp]theorem xZ:(C2 Cj).raw=B3:=_root_.id rfl
@[simp]theorem ey:(C2 Dk).raw=B3:=_root_.id rfl
@[simp]theorem Vn:(C2 Ao).raw=B3:=_root_.id rfl
@[simp]theorem YB:(C2 BT).raw=B3:=_root_.id rfl
@[simp]theorem bQ:(C2 Y9).raw=B3:=_root_.id rfl
@[simp]theorem bP:(C2 Q1).raw=B3:=_root_.id rfl
@[simp]theorem bR:(C2 Z0).raw=B3:=_root_.id rfl
@[simp]theorem ZL:(C2 Bs).raw=B3:=_root_.id rfl
@[simp]theorem sC:(C2 Gf).raw=B3:=_root_.id rfl
@[simp]theorem YA:(C2 BS).raw=B3:=_root_.id rfl
@[simp]theorem Vq:(C2 l6).raw=B3:=_root_.id rfl
@[simp]theorem xX:(C2 Ci).raw=B3:=_root_.id rfl
@[simp]theorem xV:(C2 FO).raw=B3:=_root_.id rfl
@[simp]theorem ez:(C2 Dl).raw=B3:=_root_.id rfl
@[simp]theorem RN:(C2 S2).raw=B3:=_root_.id rfl
@[simp]theorem Vp:(C2 T4).raw=B3:=_root_.id rfl
@[simp]theorem Vr:(C2 l8).raw=B3:=_root_.id rfl
@[simp]theorem Sv:(C2 Y5).raw=B3:=_root_.id rfl
@[simp]theorem Ue:(C2 AZ).raw=B3:=_root_.id rfl
@[simp]theorem bV:(C2 CO).raw=B3:=_root_.id rfl
@[simp]theorem Tz:(C2 AA).raw=B3:=_root_.id rfl
@[simp]theorem xQ:(C2 Dz).raw=B3:=_root_.id rfl
@[simp]theorem Vw:(C2 N7).raw=B3:=_root_.id rfl
@[simp]theorem UD:(C2 O0).raw=B3:=_root_.id rfl
@[simp]theorem xW:(C2 Gx).raw=B3:=_root_.id rfl
@[simp]theorem cv:(C2 T5).raw=B3:=_root_.id rfl
@[simp]theorem Uc:(C2 AY).raw=B3:=_root_.id rfl
@[simp]theorem vP:(C2 Hs).raw=B3:=_root_.id rfl
@[simp]theorem sK:(C2 Gh).raw=B3:=_root_.id rfl
@[simp]theorem YJ:(C2 M9).raw=B3:=_root_.id rfl
@[simp]theorem fB:(C2 Z3).raw=B3:=_root_.id rfl
@[simp]theorem iy:(C2 CU).raw=B3:=_root_.id rfl
@[simp]theorem ly:(C2 Ey).raw=B3:=_root_.id rfl
@[simp]theorem xY:(C2 FP).raw=B3:=_root_.id rfl
@[simp]theorem fA:(C2 Bt).raw=B3:=_root_.id rfl
@[simp]theorem nG:(C2 Fn).raw=B3:=_root_.id rfl
@[simp]theorem cr:(C2 X2).raw=B3:=_root_.id rfl
@[simp]theorem ZI:(C2 Bq).raw=B3:=_root_.id rfl
@[simp]theorem QY:(C2 Q8).raw=B3:=_root_.id rfl
@[simp]theorem UU:(C2 V9).raw=B3:=_root_.id rfl
@[simp]theorem YK:(C2 BW).raw=B3:=_root_.id rfl
@[simp]theorem Ty:(C2 z8).raw=B3:=_root_.id rfl
@[simp]theorem Vo:(C2 X8).raw=B3:=_root_.id rfl
@[simp]theorem RL:(C2 X1).raw=B3:=_root_.id rfl
@[simp]theorem sA:(C2 Er).raw=B3:=_root_.id rfl
@[simp]theorem rx:(C2 DS).raw=B3:=_root_.id rfl
@[simp]theorem sB:(C2 Ge).raw=B3:=_root_.id rfl
@[simp]theorem UC:(C2 Z8).raw=B3:=_root_.id rfl
@[simp]theorem fC:(C2 Dm).raw=B3:=_root_.id rfl
@[simp]theorem Ud:(C2 CW).raw=B3:=_root_.id rfl
@[simp]theorem vY:(C2 Hx).raw=B3:=_root_.id rfl
@[simp]theorem sJ:(C2 DU).raw=B3:=_root_.id rfl
@[simp]theorem mE:(C2 b6).raw=B3:=_root_.id rfl
@[simp]theorem co:(C2 Cp).raw=B3:=_root_.id rfl
@[simp]theorem Su:(C2 Y4).raw=B3:=_root_.id rfl
@[simp]theorem Mg:(C2 M1).raw=B3:=_root_.id rfl
@[simp]theorem Pm:(C2 T1).raw=B3:=_root_.id rfl
@[simp]theorem Mf:(C2 P5).raw=B3:=_root_.id rfl
@[simp]theorem Nd:(C2 Q9).raw=B3:=_root_.id rfl
@[simp]theorem ND:(C2 Q6).raw=B3:=_root_.id rfl
@[simp]theorem Kf:(C2 K0).raw=B3:=_root_.id rfl
@[simp]theorem MO:(C2 L5).raw=B3:=_root_.id rfl
@[simp]theorem Ou:(C2 O8).raw=B3:=_root_.id rfl
@[simp]theorem YF:(C2 BV).raw=B3:=_root_.id rfl
@[simp]theorem Ua:(C2 S3).raw=B3:=_root_.id rfl
@[simp]theorem rz:(C2 Ep).raw=B3:=_root_.id rfl
@[simp]theorem RM:(C2 S1).raw=B3:=_root_.id rfl
@[simp]theorem lr:(C2 DI).raw=B3:=_root_.id rfl
@[simp]theorem cq:(C2 u7).raw=B3:=_root_.id rfl
@[simp]theorem UX:(C2 W2).raw=B3:=_root_.id rfl
@[simp]theorem mF:(C2 DM).raw=B3:=_root_.id rfl
@[simp]theorem Tv:(C2 x8).raw=B3:=_root_.id rfl
@[simp]theorem Vl:(C2 Am).raw=B3:=_root_.id rfl
@[simp]theorem Vm:(C2 An).raw=B3:=_root_.id rfl
@[simp]theorem ZM:(C2 T0).raw=B3:=_root_.id rfl
@[simp]theorem UW:(C2 W0).raw=B3:=_root_.id rfl
@[simp]theorem mA:(C2 DK).raw=B3:=_root_.id rfl
@[simp]theorem Pn:(C2 Q0).raw=B3:=_root_.id rfl
@[simp]theorem MN:(C2 N8).raw=B3:=_root_.id rfl
@[simp]theorem Qk:(C2 V3).raw=B3:=_root_.id rfl
@[simp]theorem UA:(C2 AB).raw=B3:=_root_.id rfl
@[simp]theorem Sz:(C2 r6).raw=B3:=_root_.id rfl
@[simp]theorem TA:(C2 r7).raw=B3:=_root_.id rfl
@[simp]theorem Ql:(C2 R4).raw=B3:=_root_.id rfl
@[simp]theorem Vt:(C2 As).raw=B3:=_root_.id rfl
@[simp]theorem UV:(C2 AU).raw=B3:=_root_.id rfl
@[simp]theorem YE:(C2 R6).raw=B3:=_root_.id rfl
@[simp]theorem YC:(C2 BU).raw=B3:=_root_.id rfl
@[simp]theorem Sx:(C2 Y7).raw=B3:=_root_.id rfl
@[simp]theorem ZJ:(C2 i9).raw=B3:=_root_.id rfl
@[simp]theorem QX:(C2 Q7).raw=B3:=_root_.id rfl
@[simp]theorem flags_5:B3 x9=false/\B3 Br=false/\B3 Gv=false/\B3 CB=false/\B3 EU=false/\B3 Hu=false/\B3 Bd=false/\B3 w5=false/\B3 Gw=false/\B3 EB=false/\B3 ED=false/\B3 EC=false/\B3 i7=true/\B3 H8=true/\B3 G4=true/\B3 EV=false/\B3 Cr=false/\B3 Ag=false/\B3 Bz=false/\B3 X0=false/\B3 BE=false/\B3 M4=true/\B3 Hv=false/\B3 l7=false/\B3 S9=true/\B3 U5=true/\B3 Q2=true/\B3 P8=true/\B3 i6=false/\B3 U0=false/\B3 X4=false/\B3 P6=false/\B3 N9=true/\B3 Ht=true/\B3 s6=false/\B3 HO=false/\B3 DV=false/\B3 BD=false/\B3 At=true/\B3 Au=true/\B3 Cq=false/\B3 FE=false/\B3 y8=false/\B3 Gg=false/\B3 JI=false/\B3 EA=false/\B3 n9=false/\B3 M7=false/\B3 L4=true/\B3 y9=true:=by repeat' (first|rfl|constructor)
@[simp]theorem flags_6:B3 Bc=false/\B3 U3=false/\B3 j0=false/\B3 Fj=false/\B3 CN=false/\B3 BN=false/\B3 Hw=true/\B3 CA=true/\B3 X3=true/\B3 Z1=true/\B3 R0=true/\B3 T7=true/\B3 Dj=true/\B3 ET=true/\B3 ES=true/\B3 Ew=false/\B3 Eg=true/\B3 Fg=true/\B3 Dy=true/\B3 GL=false/\B3 DR=false/\B3 KB=false/\B3 Fh=true/\B3 X7=true/\B3 BR=true/\B3 Al=true/\B3 DJ=false/\B3 AN=false/\B3 Y6=false/\B3 Cs=true/\B3 Ct=true/\B3 s7=true/\B3 T6=true/\B3 HP=false/\B3 Z7=false/\B3 DL=false/\B3 AW=false/\B3 DT=false/\B3 X9=false/\B3 AX=false/\B3 Fk=false/\B3 AM=true/\B3 Aq=true/\B3 K7=true/\B3 M2=true/\B3 T2=true/\B3 Cj=false/\B3 Dk=true/\B3 Ao=true/\B3 BT=false:=by repeat' (first|rfl|constructor)
@[simp]theorem flags_7:B3 Y9=true/\B3 Q1=true/\B3 Z0=true/\B3 Cn=true/\B3 By=true/\B3 Ia=false/\B3 CT=true/\B3 Bs=false/\B3 Gf=false/\B3 BS=true/\B3 l6=true/\B3 Ci=false/\B3 FO=false/\B3 Dl=false/\B3 S2=false/\B3 T4=false/\B3 l8=true/\B3 Y5=true/\B3 AZ=true/\B3 CO=true/\B3 AA=false/\B3 Dz=false/\B3 N7=true/\B3 O0=true/\B3 Gx=false/\B3 T5=true/\B3 AY=false/\B3 Ar=true/\B3 Hs=false/\B3 Gh=false/\B3 M9=true/\B3 Z3=false/\B3 CU=false/\B3 Ey=false/\B3 GO=true/\B3 FP=true/\B3 Bt=true/\B3 Fn=true/\B3 Co=true/\B3 X2=true/\B3 Bq=true/\B3 Q8=true/\B3 V9=false/\B3 BW=true/\B3 z8=true/\B3 X8=true/\B3 X1=false/\B3 Er=false/\B3 DS=false/\B3 Ge=false:=by repeat' (first|rfl|constructor)
@[simp]theorem flags_8:B3 Z8=false/\B3 Dm=false/\B3 CW=false/\B3 Hx=false/\B3 DU=false/\B3 b6=false/\B3 Cp=true/\B3 Y4=true/\B3 M1=true/\B3 T1=true/\B3 P5=true/\B3 Q9=true/\B3 Q6=true/\B3 K0=true/\B3 L5=true/\B3 O8=true/\B3 BV=true/\B3 S3=false/\B3 Ep=false/\B3 S1=false/\B3 DI=false/\B3 u7=false/\B3 W2=false/\B3 DM=false/\B3 x8=false/\B3 Am=false/\B3 An=false/\B3 T0=true/\B3 W0=true/\B3 DK=true/\B3 Q0=true/\B3 Ap=true/\B3 N8=true/\B3 V3=true/\B3 AB=true/\B3 r6=true/\B3 r7=true/\B3 FD=true/\B3 R4=true/\B3 As=true/\B3 Fi=true/\B3 Ez=true/\B3 Ei=true/\B3 GP=true/\B3 AU=false/\B3 R6=true/\B3 BU=true/\B3 HQ=true/\B3 Ic=true/\B3 Eh=true:=by repeat' (first|rfl|constructor)
@[simp]theorem flags_9:B3 Y7=true/\B3 i9=true/\B3 GM=true/\B3 GN=true/\B3 AL=true/\B3 Ib=false/\B3 Q7=true/\B3 AK=true/\B3 p7=true:=by repeat' (first|rfl|constructor)
@[simp]def X(d a i:Nat):RO:=⟨some d,.ext (.t a) i,none⟩
@[simp]def P(d:Nat)(p:BinOp)(a:Nat)(n:Int):RO:=⟨some d,.bin p (.t a) (.c (.int .i64 n)),none⟩
@[simp]def oQ(d:Nat)(p:BinOp)(a b:Nat):RO:=⟨some d,.bin p (.t a) (.t b),none⟩
@[simp]def oR(d s z a b:Nat):RO:=⟨some d,.app s z (.t a) (.t b),none⟩
@[simp]def oS(d a b:Nat):RO:=⟨some d,.pick (.t a) (.c (.bool true)) (.t b),none⟩
@[simp]def k1(d:Nat)(f:FuncId)(a:Nat):RO:=⟨some d,.call f [.t a],none⟩
@[simp]def k2(d:Nat)(f:FuncId)(a b:Nat):RO:=⟨some d,.call f [.t a,.t b],none⟩
@[simp]def cX(a i:Nat):RCode:=.cond (.t a) .skip (.exit i)
@[simp]def cR(a:Nat)(l:List RO):RCode:=.cond (.t a) (.seq (.region false l) .ret) .skip
@[simp]def sG(l:List RO)(c:RCode):RCode:=.seq (.region false l) c
@[simp]def bT:AV:=.bool true
@[simp]def bF:AV:=.bool false
@[simp]def cT:Opd:=.c (.bool true)
@[simp]def cF:Opd:=.c (.bool false)
@[simp]def cI(n:Int):Opd:=.c (.int .i64 n)
@[simp]def cU(n:Int):Opd:=.c (.int .u8 n)
@[simp]def cS(l:List Nat):Opd:=.c (.str (bs l))
@[simp]def oY(d a b:Nat):RO:=⟨some d,.pick (.t a) (.t b) (.c (.bool false)),none⟩
@[simp]def pP(a b:Nat):ROp:=.pick (.t a) (.t b) (.c (.bool false))
@[simp]def pR(a b:Nat):ROp:=.pick (.t a) (.c (.bool true)) (.t b)
@[simp]def pX(n a:Nat)(k:Int):ROp:=.iaddr n (.t a) (.c (.int .i64 k))
@[simp]def pY(n a b:Nat):ROp:=.iaddr n (.t a) (.t b)
@[simp]def pC(p:BinOp)(a:Nat)(k:Int):ROp:=.bin p (.t a) (.c (.int .i64 k))
@[simp]def pD(p:BinOp)(a b:Nat):ROp:=.bin p (.t a) (.t b)
@[simp]def pE(p:BinOp)(a:Nat)(l:List Nat):ROp:=.bin p (.t a) (.c (.str (bs l)))
@[simp]def pU(p:BinOp)(a:Nat)(k:Int):ROp:=.bin p (.t a) (.c (.int .u8 k))
@[simp]def pN(a:Nat):ROp:=.len true (.t a)
@[simp]def pM(a:Nat):ROp:=.len false (.t a)
@[simp]def pJ(a b:Nat):ROp:=.idx (.t a) (.t b)
@[simp]def pK(a:Nat):ROp:=.nilck (.t a)
@[simp]def pO(a:Nat):ROp:=.un .not (.t a)
@[simp]def p1(f:FuncId)(a:Nat):ROp:=.call f [.t a]
@[simp]def p2(f:FuncId)(a b:Nat):ROp:=.call f [.t a,.t b]
@[simp]def pB(z:AV)(a:Nat):ROp:=.bslice 1 z [(0,.t a)]
@[simp]def pZ(z:AV):ROp:=.build z []
@[simp]def bL(b:Nat)(c:RCode):RCode:=.block b (.loop c)
@[simp]def bK(b:Nat)(c:RCode):RCode:=.block b c
@[simp]def sQ(a b:RCode):RCode:=.seq a b
@[simp]def sR(l:List RO):RCode:=.seq (.region false l) .ret
@[simp]def cD(a:Nat)(b c:RCode):RCode:=.cond (.t a) b c
@[simp]def fT(n a:Nat)(c:RCode):RFunc:=⟨n,[.tmp a],c⟩
@[simp]def fU(n a b:Nat)(c:RCode):RFunc:=⟨n,[.tmp a,.tmp b],c⟩
@[simp]def zv:AV:=.vs true 0 []
@[simp]def zs:AV:=.str (bs [])
@[simp]def z0:AV:=.agg [(pI 0),zs,(pI 0),zv]
@[simp]def z1:AV:=.agg [(pI 0),zv]
@[simp]def z2:AV:=.agg [zs,zv,(pI 0),zv]
@[simp]def z3:AV:=.agg [(pI 0),(pI 0),zv]
@[simp]def z4:AV:=.agg [zs,(pI 0),(pI 0),(pI 0)]
@[simp]def z5:AV:=.agg [(pI 0),(pI 0),(pI 0),(pI 0),zv,(pI 0),zs,(pI 0),zv,(pI 0),zv,(pI 0),(pI 0),zv]
@[simp]def z6:AV:=.agg [zv,zv]
@[simp]def z7:AV:=.agg [(pI 0),zs,(pI 0),zv,(pI 0),zv]
def H9:=fT 76 6 (sG [B 3 0,B 4 1,B 5 2,C 6 bF] (sQ (sG [oK 14 x9 [],oU 15 14,V 16 15,H 17 16 (pA 2 3),H 18 16 (p1 Br 17),H 19 16 (pO 18),oS 20 16 19,V 21 20,H 22 21 (pF 2 5),H 23 21 (pL 22),H 24 21 (pM 23),H 25 21 (pC .gtr 24 8),oS 26 21 25,V 27 26,H 28 27 (pA 4 4),H 29 27 (pB z0 28),H 30 27 (pF 2 5),H 31 27 (pL 30),H 32 27 (.app 4 56 (.t 29) (.t 31)),H 33 27 (.call Gv [(.t 32),(cI 9),(cI 80)]),H 34 27 (pO 33),oS 35 27 34] (cD 35 (sR [oK 36 x9 [],V 6 36]) .skip)) (sQ (.regd [0,1,0,0,8,28,0,64,252,511,0,2047] [F 37 0 3,L 38 37,O 39 (.bslice 0 z3 []),F 40 1 3,L 41 40,oR 42 3 40 39 41,A 43 3 5,O 44 (pB z3 43),oR 45 3 40 42 44,O 46 (.build z6 [(0,(1,(.t 38))),(1,(1,(.t 45)))]),oZ 7 z6,oW 2 7 46]) (sG [A 48 2 3,A 49 4 4,k2 50 CB 48 49,V 47 50,X 51 47 0,X 52 47 1,X 53 47 2,oZ 8 z1,oW 2 8 51,V 9 52,V 10 53] (sG [A 55 2 7,A 56 4 4,k2 57 CB 55 56,V 54 57,X 58 54 0,X 59 54 1,X 60 54 2,oZ 11 z1,oW 2 11 58,V 12 59,V 13 60] (sR [V 61 10,P 62 .neq 61 0,V 63 62,H 64 63 (pV 13),H 65 63 (pC .eql 64 1),oS 66 63 65,V 67 66,H 68 67 (pV 13),H 69 67 (pC .eql 68 0),H 70 67 (pV 69),G 71 70 (pA 2 8),G 72 70 (pA 2 11),G 73 70 (p2 EU 71 72),H 74 67 (pP 70 73),oS 75 67 74,V 6 75]))))))
def DW:=(sQ (sG [V 30 5,F 31 1 1,L 32 31,N 33 32,E 34 30 33] (cX 34 2)) (sQ (bK 3 (sQ (sG [F 37 1 1,L 38 37,V 39 5,oI 40 3 38 39,F 41 2 40,L 42 41,N 43 42,P 44 .gtr 43 12] (cR 44 [C 2 bF])) (rG [V 45 3,F 46 1 1,L 47 46,V 48 5,oI 49 3 47 48,F 50 2 49,L 51 50,oR 52 4 56 45 51,V 3 52]))) (rG [V 35 5,J 36 35,V 5 36])))
def DX:=(sQ (sG [V 6 4,F 7 0 1,L 8 7,N 9 8,E 10 6 9] (cX 10 0)) (sQ (bK 1 (sQ (sG [F 13 0 1,L 14 13,V 15 4,oI 16 6 14 15,F 17 4 16,A 18 2 17,k1 19 Gw 18,oU 20 19] (cR 20 [C 2 bF])) (rG [V 21 3,F 22 0 1,L 23 22,V 24 4,oI 25 6 23 24,F 26 0 25,A 27 4 26,O 28 (pB z0 27),oR 29 4 56 21 28,V 3 29]))) (rG [V 11 4,J 12 11,V 4 12])))
def Lj:=fT 67 2 (sG [B 1 0,C 2 bF] (sG [C 3 zv] (sQ (sG [C 4 (pI 0)] (bL 0 DX)) (sQ (sG [C 5 (pI 0)] (bL 2 DW)) (sR [F 53 0 1,L 54 53,N 55 54,P 56 .leq 55 90,V 57 56,G 58 57 (pF 1 1),G 59 57 (pL 58),G 60 57 (pM 59),G 61 57 (pC .leq 60 70),oY 62 57 61,V 63 62,G 64 63 (pV 3),G 65 63 (.call Gv [(.t 64),(cI 900),(cI 400)]),oY 66 63 65,V 2 66])))))
def Gn:=(sQ (sG [V 12 7,V 13 0,N 14 13,E 15 12 14] (cX 15 0)) (sQ (bK 1 (sG [V 18 0,V 19 7,oI 20 4 18 19,A 21 4 20,V 22 2,k2 23 EB 21 22,V 2 23] (sG [V 24 2,P 25 .lss 24 0] (cR 25 [C 6 bF])))) (rG [V 16 7,J 17 16,V 7 17])))
def JM:=fT 26 6 (sG [C 6 bF] (sQ (sG [V 8 0,N 9 8,V 10 1,oQ 11 .gtr 9 10] (cR 11 [C 6 bF])) (sQ (sG [C 7 (pI 0)] (bL 0 Gn)) (sR [C 6 bT]))))
def N0:RFunc:=⟨61,[(.cell 4 true 2),(.tmp 5),(.tmp 6)],(sG [B 2 0,B 3 1,oZ 4 z1,C 5 zv,C 6 (pI 0)] (sQ (sG [A 10 2 2,k1 11 ED 10,oU 12 11] (cD 12 (sR [O 13 (pZ z1),oW 2 4 13,C 5 zv,C 6 (pI 1)]) .skip)) (sQ (sG [A 14 4 3,k1 15 EC 14,V 7 15] (sG [V 16 7,P 17 .neq 16 0] (cD 17 (sR [O 18 (pZ z1),V 19 7,oW 2 4 18,C 5 zv,V 6 19]) .skip))) (sG [A 20 2 2,oK 21 i7 [(.t 20),(cI 0),(cI 0)],V 8 21] (sG [V 22 8,A 23 4 3,k2 24 H8 22 23,V 9 24] (sQ (sG [V 25 9,P 26 .lss 25 0] (cD 26 (sR [O 27 (pZ z1),oW 2 4 27,C 5 zv,C 6 (pI 10)]) .skip)) (sQ (sG [V 28 9,V 29 8,O 30 (pK 29),F 31 4 30,L 32 31,N 33 32,P 34 .sub 33 1,E 35 28 34] (cD 35 (rD [V 36 8,A 37 4 3,V 38 8,O 39 (pK 38),F 40 4 39,L 41 40,V 42 9,oI 43 14 41 42,F 44 9 43,A 45 2 44,V 46 9,O 47 (.bslice 1 (pI 0) [(0,(.t 46))]),oK 48 G4 [(.t 36),(cI 22),(.t 37),(.t 45),(.t 47)],V 9 48]) .skip)) (sQ (.regd [0,1,3,7,0,31,63,127,0,256,768,1792,255,8191,16383] [V 49 8,O 50 (pK 49),F 51 4 50,L 52 51,V 53 9,oI 54 14 52 53,F 55 9 54,A 56 2 55,V 57 8,O 58 (pK 57),F 59 4 58,L 60 59,oW 2 4 56,V 5 60,C 6 (pI 0)]) .ret))))))))⟩
def R3:=(sQ (sG [V 22 5,F 23 1 2,L 24 23,N 25 24,E 26 22 25] (cX 26 0)) (sQ (bK 1 (sQ (.regd [0,1,0,7,15,0,32,0,224,480,0,0,3103,8191] [F 29 1 2,L 30 29,V 31 5,oI 32 4 30 31,A 33 4 32,F 34 1 3,L 35 34,V 36 5,oI 37 4 35 36,A 38 4 37,O 6 (.allocAt 2 z2),O 7 (.allocAt 1 z2),oW 4 6 33,oW 4 7 38]) (sG [F 39 0 6,L 40 39,F 41 0 7,L 42 41,oQ 43 .neq 40 42,V 44 43,H 45 44 (pF 2 6),H 46 44 (pL 45),H 47 44 (pF 2 7),H 48 44 (pL 47),H 49 44 (pD .neq 46 48),oS 50 44 49,V 51 50,H 52 51 (pF 1 6),H 53 51 (pL 52),H 54 51 (pF 1 7),H 55 51 (pL 54),H 56 51 (p2 EV 53 55),H 57 51 (pO 56),oS 58 51 57,V 59 58,H 60 59 (pF 3 6),H 61 59 (pL 60),H 62 59 (pF 3 7),H 63 59 (pL 62),H 64 59 (p2 EV 61 63),H 65 59 (pO 64),oS 66 59 65] (cR 66 [C 4 bF])))) (rG [V 27 5,J 28 27,V 5 28])))
def Ft:=fT 67 4 (sG [B 2 0,B 3 1,C 4 bF] (sQ (sG [F 8 0 2,L 9 8,F 10 0 3,L 11 10,oQ 12 .neq 9 11,V 13 12,H 14 13 (pF 1 2),H 15 13 (pL 14),H 16 13 (pM 15),H 17 13 (pF 1 3),H 18 13 (pL 17),H 19 13 (pM 18),H 20 13 (pD .neq 16 19),oS 21 13 20] (cR 21 [C 4 bF])) (sQ (sG [C 5 (pI 0)] (bL 0 R3)) (sR [C 4 bT]))))
def BC:=(sQ (sG [V 9 3,F 10 1 1,L 11 10,N 12 11,E 13 9 12] (cX 13 0)) (sQ (bK 1 (sG [F 16 1 1,L 17 16,V 18 3,oI 19 4 17 18,A 20 4 19,oZ 4 z2,oW 4 4 20] (sG [F 21 0 4,L 22 21,O 23 (pN 22),P 24 .gtr 23 60,V 25 24,H 26 25 (pF 1 4),H 27 25 (pL 26),H 28 25 (pM 27),H 29 25 (pC .gtr 28 12),oS 30 25 29,V 31 30,H 32 31 (pF 3 4),H 33 31 (pL 32),H 34 31 (pM 33),H 35 31 (pC .gtr 34 12),oS 36 31 35] (cR 36 [C 2 bF])))) (rG [V 14 3,J 15 14,V 3 15])))
def JN:=fT 37 2 (sG [B 1 0,C 2 bF] (sQ (sG [F 5 1 1,L 6 5,N 7 6,P 8 .gtr 7 12] (cR 8 [C 2 bF])) (sQ (sG [C 3 (pI 0)] (bL 0 BC)) (sR [C 2 bT]))))
def EY:=(sQ (sG [V 16 5,F 17 3 2,L 18 17,N 19 18,E 20 16 19] (cX 20 0)) (sQ (bK 1 (sG [F 23 3 2,L 24 23,V 25 5,oI 26 4 24 25,A 27 4 26,V 28 1,k2 29 EB 27 28,V 1 29] (sG [V 30 1,P 31 .lss 30 0] (cR 31 [C 4 (.int .i64 (-1))])))) (rG [V 21 5,J 22 21,V 5 22])))
def EM:=fT 33 4 (sG [B 2 0,C 4 (pI 0)] (sQ (sG [V 6 1,P 7 .leq 6 0,V 8 7,H 9 8 (pF 1 2),H 10 8 (pL 9),H 11 8 (pN 10),H 12 8 (pC .gtr 11 40),oS 13 8 12] (cR 13 [C 4 (.int .i64 (-1))])) (sG [V 14 1,P 15 .sub 14 1,V 1 15] (sQ (sG [C 5 (pI 0)] (bL 0 EY)) (sR [V 32 1,V 4 32])))))
def w8:=(sG [E 19 18 17] (sQ (cX 19 0) (sQ (bK 1 (sG [oI 20 6 16 18,A 21 6 20,oZ 4 z7,oW 6 4 21] (sG [F 22 0 4,A 23 4 22,k1 24 Ag 23,V 25 24,H 26 25 (pF 4 4),H 27 25 (pA 2 26),H 28 25 (p1 Bz 27),H 29 25 (pC .neq 28 0),oS 30 25 29] (cR 30 [C 2 bF])))) (rG [J 31 18,V 18 31]))))
def EN:=fT 36 2 (sG [B 1 0,C 2 bF] (sQ (sG [F 5 0 1,L 6 5,N 7 6,P 8 .gtr 7 80,V 9 8,H 10 9 (pF 1 1),H 11 9 (pL 10),H 12 9 (pM 11),H 13 9 (pC .gtr 12 60),oS 14 9 13] (cR 14 [C 2 bF])) (sQ (sG [F 15 0 1,L 16 15,N 17 16,C 18 (pI 0)] (bL 0 w8)) (sR [F 32 1 1,L 33 32,O 34 (.call X0 [(.t 33),(.c (.fn BE []))]),oU 35 34,V 2 35]))))
def Cd:=fT 11 2 (sG [B 1 0,C 2 (pI 0)] (sQ (sG [A 4 4 1,k1 5 Hv 4,V 3 5] (sG [V 6 3,P 7 .neq 6 0] (cR 7 [V 8 3,V 2 8]))) (sR [A 9 4 1,k1 10 l7 9,V 2 10])))
def BP:=fT 41 6 (sG [B 3 0,C 6 .nilp] (sG [V 8 1,V 9 2,O 10 (.build z5 [(1,(1,(.t 8))),(3,(1,(.t 9)))]),⟨(some 11),.mkmap,none⟩,O 12 (.build (.agg [zv,zv,zv,zv,zv,(pI 0),(pI 0),(pI 0),(pI 0),zv,(pI 0),zs,(pI 0),zv,(pI 0),zv,(pI 0),(pI 0),zv,.nilm]) [(5,(14,(.t 10))),(19,(1,(.t 11)))]),B 13 12,V 7 13] (sQ (.regd [0,0,2,6,0,16,62,126,255,511,1023] [V 14 7,F 15 0 3,L 16 15,k1 17 S9 16,F 18 1 3,L 19 18,k1 20 U5 19,O 21 (.build z6 [(0,(1,(.t 17))),(1,(1,(.t 20)))]),O 22 (pK 14),F 23 0 22,oW 2 23 21]) (sG [V 24 7,O 25 (.bslice 1 (pI 0) [(0,(.c (.int .i64 (-1))))]),F 26 0 3,L 27 26,N 28 27,k2 29 Q2 25 28,O 30 (pK 24),F 31 2 30,oW 1 31 29] (sG [V 32 7,O 33 (.bslice 1 (pI 0) [(0,(.c (.int .i64 (-1))))]),F 34 1 3,L 35 34,N 36 35,k2 37 Q2 33 36,O 38 (pK 32),F 39 3 38,oW 1 39 37] (sR [V 40 7,V 6 40]))))))
def I4:=fT 84 4 (sG [B 3 1,C 4 (pI 0)] (sQ (sG [V 12 0,A 13 4 3,k2 14 P8 12 13,V 5 14] (sG [V 15 5,P 16 .geq 15 0] (cR 16 [V 17 5,V 4 17]))) (sQ (sG [A 18 4 3,k1 19 i6 18] (cD 19 (sQ (rD [V 20 0,A 21 4 3,oK 22 U0 [(cI 1)],O 23 (.call G4 [(.t 20),(cI 2),(.t 21),(.t 22),(.c zv)]),V 4 23]) .ret) .skip)) (sQ (sG [F 24 0 3,L 25 24,P 26 .neq 25 3] (cR 26 [C 4 (.int .i64 (-1))])) (sG [A 28 4 3,k1 29 X4 28,V 27 29,X 30 27 0,X 31 27 1,V 6 30,V 7 31] (sQ (rD [V 32 0,O 33 (pK 32),F 34 5 33,F 35 2 34,L 36 35,k1 37 P6 36,O 38 (pE .add 37 [32]),V 39 0,O 40 (pK 39),F 41 0 40,F 42 0 41,L 43 42,N 44 43,k1 45 P6 44,oQ 46 .add 38 45,O 47 (pE .add 46 [32]),V 48 0,O 49 (pK 48),F 50 0 49,F 51 1 50,L 52 51,N 53 52,k1 54 P6 53,oQ 55 .add 47 54,O 56 (pE .add 55 [32]),V 57 6,oQ 58 .add 56 57,V 8 58]) (sQ (sG [V 60 0,O 61 (pK 60),F 62 19 61,L 63 62,V 64 8,O 65 (.mlook true true (pI 0) (.t 63) (.t 64)),V 59 65,X 66 59 0,X 67 59 1,V 9 66,V 10 67] (sG [V 68 10,V 69 68,G 70 69 (pV 7),G 71 69 (pC .eql 70 0),oY 72 69 71] (cR 72 [V 73 9,V 4 73]))) (sG [V 74 0,A 75 4 3,k2 76 N9 74 75,V 11 76] (sG [V 77 0,O 78 (pK 77),F 79 19 78,L 80 79,V 81 8,V 82 11,⟨none,(.mup true (.t 80) (.t 81) (.t 82)),none⟩] (sR [V 83 11,V 4 83]))))))))))
def s8:=fT 40 10 (sG [B 7 2,B 8 3,C 10 (pI 0)] (sG [V 12 0,O 13 (pK 12),F 14 5 13,A 15 14 14,oZ 11 z5,oW 14 11 15] (sQ (.regd [0,0,0,0,1,17,51,115,247,503,1023,2047] [V 16 1,V 17 4,A 18 4 7,A 19 2 8,F 20 0 11,oW 1 20 16,F 21 4 11,oW 1 21 17,F 22 5 11,oW 4 22 18,F 23 9 11,oW 2 23 19]) (sQ (rD [V 24 0,V 25 0,O 26 (pK 25),F 27 4 26,L 28 27,A 29 14 11,O 30 (pB z5 29),oR 31 14 184 28 30,O 32 (pK 24),F 33 4 32,oW 1 33 31]) (sR [V 34 0,O 35 (pK 34),F 36 4 35,L 37 36,N 38 37,P 39 .sub 38 1,V 10 39])))))
def Cb:=(sQ (sG [V 11 5,V 12 0,N 13 12,E 14 11 13] (cX 14 0)) (sQ (bK 1 (sQ (rD [V 17 0,V 18 5,oI 19 1 17 18,L 20 19,V 21 1,V 22 5,oI 23 1 21 22,L 24 23,oQ 25 .neq 20 24]) (cR 25 [C 4 bF]))) (rG [V 15 5,J 16 15,V 5 16])))
def IB:=fT 26 4 (sG [C 4 bF] (sQ (sG [V 6 0,N 7 6,V 8 1,N 9 8,oQ 10 .neq 7 9] (cR 10 [C 4 bF])) (sQ (sG [C 5 (pI 0)] (bL 0 Cb)) (sR [C 4 bT]))))
def Hd:=fT 6 2 (sG [B 1 0,C 2 bF] (sR [A 3 4 1,k1 4 Gg 3,oU 5 4,V 2 5]))
def o7:=(sG [E 35 34 33] (sQ (cX 35 1) (sQ (bK 2 (sG [oI 36 4 32 34,A 37 4 36,oZ 5 z2,oW 4 5 37] (sQ (bK 3 (sG [F 39 0 5,L 40 39,k1 41 EA 40,oU 42 41,V 38 42] (cD 38 (sR [C 2 (pI 2)]) (sG [A 44 4 5,k1 45 n9 44,oU 46 45,V 43 46] (cD 43 (sR [C 2 (pI 7)]) (sG [F 48 0 5,L 49 48,V 50 3,oQ 51 .leq 49 50,V 47 51] (cR 47 [C 2 (pI 5)]))))))) (rG [F 52 0 5,L 53 52,V 3 53])))) (rG [J 54 34,V 34 54]))))
def Ay:=fT 55 2 (sG [B 1 0,C 2 (pI 0)] (sQ (bK 0 (sG [F 7 0 1,L 8 7,P 9 .lss 8 1,V 10 9,H 11 10 (pF 0 1),H 12 10 (pL 11),H 13 10 (pC .gtr 12 6),oS 14 10 13,V 6 14] (cD 6 (sR [C 2 (pI 10)]) (sG [F 16 0 1,L 17 16,k1 18 JI 17,oU 19 18,V 20 19,G 21 20 (pF 1 1),G 22 20 (pL 21),G 23 20 (pM 22),G 24 20 (pC .gtr 23 0),oY 25 20 24,V 15 25] (cD 15 (sR [C 2 (pI 1)]) (sG [F 27 1 1,L 28 27,N 29 28,P 30 .gtr 29 8,V 26 30] (cR 26 [C 2 (pI 3)]))))))) (sG [C 3 zs] (sQ (sG [F 31 1 1,L 32 31,N 33 32,C 34 (pI 0)] (bL 1 o7)) (sR [C 2 (pI 0)])))))
def Im:=fT 9 4 (sG [C 4 bF] (sR [V 5 0,V 6 1,k2 7 M7 5 6,P 8 .geq 7 0,V 4 8]))
def w9:=fT 27 2 (sG [B 1 0,C 2 bF] (sR [F 3 0 1,L 4 3,P 5 .neq 4 2,V 6 5,H 7 6 (pF 1 1),H 8 6 (pL 7),H 9 6 (pC .lss 8 0),oS 10 6 9,V 11 10,H 12 11 (pF 1 1),H 13 11 (pL 12),H 14 11 (pC .gtr 13 7),oS 15 11 14,V 16 15,H 17 16 (pF 2 1),H 18 16 (pL 17),H 19 16 (pM 18),H 20 16 (pC .gtr 19 8),oS 21 16 20,V 22 21,H 23 22 (pF 2 1),H 24 22 (pL 23),H 25 22 (.call M4 [(.t 24),(.c (.fn Ag []))]),oS 26 22 25,V 2 26]))
def In:=fT 9 4 (sG [C 4 bF] (sR [V 5 0,V 6 1,k2 7 L4 5 6,P 8 .geq 7 0,V 4 8]))
def EZ:=fT 17 2 (sG [B 1 0,C 2 (pI 0)] (sG [oZ 3 (pI 0),oZ 4 (pI 0),⟨none,(.st 1 (.t 3) (cI 0)),none⟩,⟨none,(.st 1 (.t 4) (cI 0)),none⟩] (sQ (sG [A 6 4 1,oK 7 y9 [(.t 6),(cI 1),(.t 3),(.t 4)],V 5 7] (sG [V 8 5,P 9 .neq 8 0] (cR 9 [V 10 5,V 2 10]))) (sQ (sG [L 11 3,P 12 .gtr 11 400,V 13 12,H 14 13 (pL 4),H 15 13 (pC .gtr 14 40),oS 16 13 15] (cR 16 [C 2 (pI 3)])) (sR [C 2 (pI 0)])))))
def BG:=(sG [E 65 64 63] (sQ (cX 65 3) (sQ (bK 4 (sG [oI 66 4 62 64,A 67 4 66,oZ 8 z0,oW 4 8 67] (sG [A 68 4 8,k1 69 l7 68,V 9 69] (sG [V 70 9,P 71 .neq 70 0] (cR 71 [V 72 9,V 2 72]))))) (rG [J 73 64,V 64 73]))))
def w7:=(sG [E 41 40 39] (sQ (cX 41 1) (sQ (bK 2 (sG [oI 42 4 38 40,A 43 4 42,oZ 6 z0,oW 4 6 43] (sG [F 44 0 6,L 45 44,P 46 .eql 45 3,V 47 46,H 48 47 (pF 2 6),H 49 47 (pL 48),H 50 47 (pC .neq 49 1),oS 51 47 50] (cR 51 [C 2 (pI 10)])))) (rG [J 52 40,V 40 52]))))
def J6:=fT 74 2 (sG [B 1 0,C 2 (pI 0)] (sQ (sG [F 10 0 1,L 11 10,P 12 .neq 11 3] (cR 12 [C 2 (pI 0)])) (sG [F 13 1 1,L 14 13,k1 15 Bc 14,oZ 3 z4,oW 4 3 15] (sQ (sG [F 16 3 3,L 17 16,P 18 .eql 17 0] (cR 18 [C 2 (pI 10)])) (sQ (sG [F 19 3 1,L 20 19,N 21 20,V 4 21] (sG [V 22 4,F 23 1 3,L 24 23,E 25 22 24,V 26 25,H 27 26 (pV 4),H 28 26 (pF 2 3),H 29 26 (pL 28),H 30 26 (pD .gtr 27 29),oS 31 26 30] (cR 31 [C 2 (pI 6)]))) (sQ (sG [F 32 1 1,L 33 32] (bK 0 (sQ (sG [O 35 (pE .eql 33 [115,107]),V 34 35] (cD 34 .skip (rG [O 36 (pE .eql 33 [115,104,107]),V 34 36]))) (cD 34 (sG [F 37 3 1,L 38 37,N 39 38,C 40 (pI 0)] (bL 1 w7)) (sG [O 54 (pE .eql 33 [110,101,119]),V 53 54] (cD 53 (sG [F 55 3 1,L 56 55,O 57 (pX 4 56 0),F 58 0 57,L 59 58,P 60 .neq 59 2] (cR 60 [C 2 (pI 10)])) .skip)))))) (sQ (sG [F 61 3 1,L 62 61,N 63 62,C 64 (pI 0)] (bL 3 BG)) (sR [C 2 (pI 0)]))))))))
def O5:=fT 8 2 (sG [C 2 zv] (sQ (sG [V 3 0,O 4 (.nileq false (.t 3))] (cR 4 [C 2 zv])) (sR [O 5 (.bslice 0 z7 []),V 6 0,oR 7 6 88 5 6,V 2 7])))
def Q3:=fT 8 2 (sG [C 2 zv] (sQ (sG [V 3 0,O 4 (.nileq false (.t 3))] (cR 4 [C 2 zv])) (sR [O 5 (.bslice 0 z3 []),V 6 0,oR 7 3 40 5 6,V 2 7])))
def I9:=fT 48 4 (sG [B 3 1,C 4 (pI 0)] (sG [V 6 0,O 7 (pK 6),F 8 0 7,F 9 0 8,L 10 9,O 11 (.clos j0 [(.t 3)]),k2 12 U3 10 11,V 5 12] (sQ (sG [V 13 5,P 14 .lss 13 0] (cR 14 [C 4 (.int .i64 (-1))])) (sQ (sG [V 15 0,O 16 (pK 15),F 17 2 16,L 18 17,V 19 5,oI 20 1 18 19,L 21 20,P 22 .lss 21 0] (cD 22 (.regd [0,1,3,7,0,0,0,0,128,384,896,1920,0,8064,16256,32640,65504,131071,262143] [V 23 0,O 24 (pK 23),F 25 2 24,L 26 25,V 27 5,V 28 0,A 29 4 3,V 30 0,O 31 (pK 30),F 32 0 31,F 33 0 32,L 34 33,V 35 5,oI 36 6 34 35,F 37 4 36,A 38 2 37,O 39 (.call G4 [(.t 28),(cI 1),(.t 29),(.t 38),(.c zv)]),oI 40 1 26 27,oW 1 40 39]) .skip)) (sR [V 41 0,O 42 (pK 41),F 43 2 42,L 44 43,V 45 5,oI 46 1 44 45,L 47 46,V 4 47])))))
def A7:=fT 52 2 (sG [B 1 0,C 2 bF] (sQ (sG [F 5 0 1,L 6 5,P 7 .eql 6 3] (cD 7 (sR [A 8 4 1,O 9 (.bslice 2 zs [(0,(cS [122,101,114,111])),(1,(cS [111,110,101]))]),k2 10 Fj 8 9,V 11 10,G 12 11 (pF 3 1),G 13 11 (pL 12),G 14 11 (pM 13),G 15 11 (pC .eql 14 0),oY 16 11 15,V 2 16]) .skip)) (sQ (sG [F 17 0 1,L 18 17,P 19 .neq 18 2] (cR 19 [C 2 bF])) (sG [F 21 1 1,L 22 21,O 23 (.call CN [(.t 22),(cS [101,35])]),V 20 23,X 24 20 0,X 25 20 1,V 3 24,V 4 25] (sQ (sG [F 26 2 1,L 27 26] (bK 0 (sQ (sG [P 29 .eql 27 1,V 28 29] (cD 28 .skip (rG [P 30 .eql 27 5,V 28 30]))) (cD 28 (sR [C 2 bT]) (sG [P 32 .eql 27 4,V 31 32] (cD 31 (sR [F 33 1 1,L 34 33,O 35 (pE .eql 34 [103]),V 36 35,H 37 36 (pV 4),H 38 36 (pV 37),G 39 38 (pV 3),G 40 38 (p1 BN 39),H 41 36 (pP 38 40),oS 42 36 41,V 2 42]) (sQ (sG [P 44 .eql 27 0,V 43 44] (cD 43 .skip (sG [P 45 .eql 27 2,V 43 45] (cD 43 .skip (rG [P 46 .eql 27 3,V 43 46]))))) (cD 43 (sR [V 47 4,V 48 47,G 49 48 (pV 3),G 50 48 (p1 BN 49),oY 51 48 50,V 2 51]) .skip)))))))) (sR [C 2 bF]))))))
def Hc:RFunc:=⟨5,[(.cell 2 true 2)],(sG [oZ 2 z1] (sR [V 3 0,O 4 (.build z1 [(0,(1,(.t 3)))]),oW 2 2 4]))⟩
def B7:=fT 57 4 (sG [B 3 1,C 4 (pI 0)] (sQ (sG [F 6 1 3,L 7 6] (bK 0 (sG [O 9 (pE .eql 7 [112,97,105,114]),V 8 9] (cD 8 (sR [V 10 0,A 11 4 3,k2 12 X3 10 11,V 4 12]) (sG [O 14 (pE .eql 7 [104,97,115,104]),V 13 14] (cD 13 (sG [V 15 0,F 16 3 3,L 17 16,O 18 (pX 4 17 0),A 19 4 18,k2 20 H8 15 19,V 5 20] (sG [V 21 5,P 22 .geq 21 0] (cD 22 (sQ (rD [V 23 0,A 24 4 3,oK 25 U0 [(cI 1)],V 26 5,O 27 (.bslice 1 (pI 0) [(0,(.t 26))]),oK 28 G4 [(.t 23),(cI 14),(.t 24),(.t 25),(.t 27)],V 4 28]) .ret) .skip))) (sG [O 30 (pE .eql 7 [112,107]),V 29 30] (cD 29 (sR [V 31 0,A 32 4 3,k2 33 Z1 31 32,V 4 33]) (sG [O 35 (pE .eql 7 [101,110,99]),V 34 35] (cD 34 (sQ (rD [V 36 0,A 37 4 3,F 38 3 3,L 39 38,O 40 (pX 4 39 1),A 41 4 40,oK 42 R0 [(.t 36),(.t 37),(.t 41),(cI 3),(cI 16),(cI 17)],V 4 42]) .ret) (sG [O 44 (pE .eql 7 [115,105,103,110]),V 43 44] (cD 43 (sQ (rD [V 45 0,A 46 4 3,F 47 3 3,L 48 47,O 49 (pX 4 48 1),A 50 4 49,oK 51 R0 [(.t 45),(.t 46),(.t 50),(cI 4),(cI 20),(cI 21)],V 4 51]) .ret) (sG [O 53 (pE .eql 7 [97,101,110,99]),V 52 53] (cR 52 [V 54 0,A 55 4 3,k2 56 T7 54 55,V 4 56])))))))))))))) (sR [C 4 (.int .i64 (-1))])))
def W3:=(sG [E 9 8 7] (sQ (cX 9 0) (sQ (bK 1 (sG [V 10 8,V 5 10] (sG [V 11 1,V 12 0,V 13 5,oI 14 1 12 13,L 15 14,oQ 16 .eql 11 15] (cR 16 [V 17 5,V 4 17])))) (rG [J 18 8,V 8 18]))))
def De:=fT 19 4 (sG [C 4 (pI 0)] (sQ (sG [V 6 0,N 7 6,C 8 (pI 0)] (bL 0 W3)) (sR [C 4 (.int .i64 (-1))])))
def Jk:=fT 9 4 (sG [B 2 0,B 3 1,C 4 bF] (sR [A 5 4 2,A 6 4 3,k2 7 AN 5 6,P 8 .eql 7 0,V 4 8]))
def CF:=fT 9 4 (sG [C 4 bF] (sR [V 5 0,V 6 1,k2 7 s6 5 6,P 8 .geq 7 0,V 4 8]))
def DY:=fT 10 2 (sG [B 1 0,C 2 bF] (sR [A 3 4 1,k1 4 EC 3,P 5 .eql 4 0,V 6 5,G 7 6 (pA 4 1),G 8 6 (.call Z7 [(.t 7),(.c (.fn DL []))]),oY 9 6 8,V 2 9]))
def FW:=fT 13 2 (sG [C 2 bF] (sR [V 3 0,P 4 .eql 3 3,V 5 4,H 6 5 (pV 0),H 7 5 (pC .eql 6 4),oS 8 5 7,V 9 8,H 10 9 (pV 0),H 11 9 (pC .eql 10 5),oS 12 9 11,V 2 12]))
def O9:=(sG [E 9 8 7] (sQ (cX 9 0) (sQ (bK 1 (sG [V 10 8,V 3 10] (sG [V 11 0,V 12 3,O 13 (pJ 11 12),V 4 13] (sG [V 14 4,O 15 (pU .geq 14 97),V 16 15,G 17 16 (pV 4),G 18 16 (pU .leq 17 122),oY 19 16 18,V 20 19,H 21 20 (pV 4),H 22 20 (pU .geq 21 65),H 23 20 (pV 22),G 24 23 (pV 4),G 25 23 (pU .leq 24 90),H 26 20 (pP 23 25),oS 27 20 26,V 5 27] (sG [V 28 5,oU 29 28,V 30 29,G 31 30 (pV 3),G 32 30 (pC .eql 31 0),G 33 30 (pV 32),H 34 33 (pV 4),H 35 33 (pU .neq 34 95),H 36 33 (pV 35),G 37 36 (pV 4),G 38 36 (pU .neq 37 35),H 39 33 (pP 36 38),H 40 33 (pV 39),G 41 40 (pV 4),G 42 40 (pU .lss 41 48),G 43 40 (pV 42),H 44 43 (pV 4),H 45 43 (pU .gtr 44 57),G 46 40 (pR 43 45),H 47 33 (pP 40 46),G 48 30 (pR 33 47),oY 49 30 48] (cR 49 [C 2 bF])))))) (rG [J 50 8,V 8 50]))))
def Il:=fT 59 2 (sG [C 2 bF] (sQ (sG [V 6 0,O 7 (pN 6),C 8 (pI 0)] (bL 0 O9)) (sR [V 51 0,O 52 (pN 51),P 53 .gtr 52 0,V 54 53,G 55 54 (pV 0),G 56 54 (pN 55),G 57 54 (pC .leq 56 24),oY 58 54 57,V 2 58])))
def Z5:=(sG [E 46 45 44] (sQ (cX 46 0) (sQ (bK 1 (sG [oI 47 1 43 45,L 48 47,V 5 48] (sG [V 49 5,P 50 .neq 49 1,V 51 50,G 52 51 (pV 5),G 53 51 (pC .neq 52 2),oY 54 51 53,V 55 54,G 56 55 (pV 5),G 57 55 (pC .neq 56 6),oY 58 55 57] (cR 58 [C 2 bF])))) (rG [J 59 45,V 45 59]))))
def R8:=fT 65 2 (sG [B 1 0,C 2 bF] (sG [F 6 1 1,L 7 6,N 8 7,oZ 3 (pI 0),oW 1 3 8] (sQ (sG [L 9 3,P 10 .lss 9 1,V 11 10,H 12 11 (pL 3),H 13 11 (pC .gtr 12 6),oS 14 11 13,V 15 14,H 16 15 (pF 2 1),H 17 15 (pL 16),H 18 15 (.bin .lss (.t 17) (.c (.int .i64 (-1)))),oS 19 15 18,V 20 19,H 21 20 (pF 2 1),H 22 20 (pL 21),H 23 20 (pC .gtr 22 7),oS 24 20 23,V 25 24,H 26 25 (pF 3 1),H 27 25 (pL 26),H 28 25 (pM 27),H 29 25 (pC .gtr 28 8),oS 30 25 29,V 31 30,H 32 31 (pF 2 1),H 33 31 (pL 32),H 34 31 (pC .lss 33 0),H 35 31 (pV 34),G 36 35 (pF 3 1),G 37 35 (pL 36),G 38 35 (pM 37),G 39 35 (pC .gtr 38 0),H 40 31 (pP 35 39),oS 41 31 40] (cR 41 [C 2 bF])) (sQ (sG [F 42 1 1,L 43 42,N 44 43,C 45 (pI 0)] (bL 0 Z5)) (sR [F 60 3 1,L 61 60,O 62 (.clos AW [(.t 3)]),k2 63 Y6 61 62,oU 64 63,V 2 64])))))
def JA:=(sG [E 9 8 7] (sQ (cX 9 0) (sQ (bK 1 (sG [V 10 8,V 5 10] (sG [V 11 1,V 12 0,V 13 5,oI 14 3 12 13,A 15 3 14,O 16 (.callv (.t 11) [(.t 15)])] (cR 16 [V 17 5,V 4 17])))) (rG [J 18 8,V 8 18]))))
def KM:=fT 19 4 (sG [C 4 (pI 0)] (sQ (sG [V 6 0,N 7 6,C 8 (pI 0)] (bL 0 JA)) (sR [C 4 (.int .i64 (-1))])))
def JB:=(sG [E 9 8 7] (sQ (cX 9 0) (sQ (bK 1 (sG [V 10 8,V 5 10] (sG [V 11 1,V 12 0,V 13 5,oI 14 4 12 13,A 15 4 14,O 16 (.callv (.t 11) [(.t 15)])] (cR 16 [V 17 5,V 4 17])))) (rG [J 18 8,V 8 18]))))
def KN:=fT 19 4 (sG [C 4 (pI 0)] (sQ (sG [V 6 0,N 7 6,C 8 (pI 0)] (bL 0 JB)) (sR [C 4 (.int .i64 (-1))])))
def BO:=(sG [E 60 59 58] (sQ (cX 60 1) (sQ (bK 2 (sG [oI 61 4 57 59,A 62 4 61,oZ 10 z0,oW 4 10 62] (sG [A 63 4 10,V 64 1,J 65 64,V 66 2,V 67 3,oK 68 y9 [(.t 63),(.t 65),(.t 66),(.t 67)],V 11 68] (sG [V 69 11,P 70 .neq 69 0] (cR 70 [V 71 11,V 8 71]))))) (rG [J 72 59,V 59 72]))))
def Y1:=fT 73 8 (sG [B 4 0,C 8 (pI 0)] (sG [V 12 2,O 13 (pK 12),L 14 13,J 15 14,O 16 (pK 12),oW 1 16 15] (sG [V 17 3,V 18 3,O 19 (pK 18),L 20 19,V 21 1,O 22 (.max (.t 20) (.t 21)),O 23 (pK 17),oW 1 23 22] (sQ (sG [F 24 0 4,L 25 24] (bK 0 (sQ (sG [P 27 .eql 25 1,V 26 27] (cD 26 .skip (rG [P 28 .eql 25 2,V 26 28]))) (cD 26 (sG [F 29 2 4,L 30 29,P 31 .lss 30 0,V 32 31,H 33 32 (pF 2 4),H 34 32 (pL 33),H 35 32 (pC .gtr 34 5),oS 36 32 35,V 37 36,H 38 37 (pF 3 4),H 39 37 (pL 38),H 40 37 (pM 39),H 41 37 (pC .gtr 40 0),oS 42 37 41] (cR 42 [C 8 (pI 1)])) (sG [P 44 .eql 25 3,V 43 44] (cD 43 (sG [F 45 2 4,L 46 45,P 47 .neq 46 0] (cR 47 [C 8 (pI 1)])) (sR [C 8 (pI 1)]))))))) (sQ (sG [F 48 1 4,L 49 48,k1 50 DT 49,oU 51 50] (cR 51 [C 8 (pI 2)])) (sQ (sG [F 52 3 4,L 53 52,N 54 53,P 55 .gtr 54 8] (cR 55 [C 8 (pI 3)])) (sQ (sG [F 56 3 4,L 57 56,N 58 57,C 59 (pI 0)] (bL 1 BO)) (sR [C 8 (pI 0)]))))))))
def Ad:=(sG [E 8 7 6] (sQ (cX 8 0) (sQ (bK 1 (sG [oI 9 4 5 7,A 10 4 9,oZ 4 z4,oW 4 4 10] (sG [F 11 0 4,L 12 11,V 13 0,oQ 14 .eql 12 13] (cR 14 [A 15 4 4,oW 4 2 15])))) (rG [J 16 7,V 7 16]))))
def Ha:RFunc:=⟨18,[(.cell 2 true 4)],(sG [oZ 2 z4] (sQ (sG [oK 5 X9 [],N 6 5,C 7 (pI 0)] (bL 0 Ad)) (sR [O 17 (pZ z4),oW 4 2 17])))⟩
def Ir:=(sG [E 9 8 7] (sQ (cX 9 0) (sQ (bK 1 (sG [V 10 8,V 5 10] (sG [V 11 1,V 12 0,V 13 5,oI 14 6 12 13,A 15 6 14,O 16 (.callv (.t 11) [(.t 15)])] (cR 16 [V 17 5,V 4 17])))) (rG [J 18 8,V 8 18]))))
def Jh:=fT 19 4 (sG [C 4 (pI 0)] (sQ (sG [V 6 0,N 7 6,C 8 (pI 0)] (bL 0 Ir)) (sR [C 4 (.int .i64 (-1))])))
def Ce:=fT 8 3 (sG [B 2 0,C 3 bF] (sR [F 4 0 2,A 5 4 4,A 6 4 1,k2 7 DV 5 6,V 3 7]))
def Ca:=fT 14 4 (sG [B 2 0,C 4 bF] (sR [F 5 0 2,L 6 5,P 7 .eql 6 3,V 8 7,G 9 8 (pV 1),G 10 8 (pF 1 2),G 11 8 (pL 10),G 12 8 (p2 y8 9 11),oY 13 8 12,V 4 13]))
def n6:=fU 11 4 5 (sG [C 4 zs,C 5 bF] (sR [V 6 0,V 7 1,k2 8 AX 6 7,X 9 8 0,X 10 8 1,V 4 9,V 5 10]))
def T8:=fT 10 2 (sG [C 2 bF] (sR [V 3 0,O 4 (.bin .neq (.t 3) (.c zs)),V 5 4,G 6 5 (pV 0),G 7 5 (.call Fk [(.t 6),(cS [48,49,50,51,52,53,54,55,56,57])]),G 8 5 (.bin .eql (.t 7) (.c zs)),oY 9 5 8,V 2 9]))
def I8:=fT 41 4 (sG [B 3 1,C 4 (pI 0)] (sG [V 8 0,F 9 3 3,L 10 9,O 11 (pX 4 10 0),A 12 4 11,k2 13 H8 8 12,V 5 13] (sQ (sG [V 14 5,P 15 .lss 14 0] (cR 15 [C 4 (.int .i64 (-1))])) (sG [V 16 0,F 17 3 3,L 18 17,O 19 (pX 4 18 1),A 20 4 19,k2 21 H8 16 20,V 6 21] (sQ (sG [V 22 6,P 23 .lss 22 0] (cR 23 [C 4 (.int .i64 (-1))])) (sG [oK 24 U0 [(cI 6)],oZ 7 z1,oW 2 7 24] (sQ (sG [V 25 0,V 26 5,k2 27 K7 25 26,V 28 27,G 29 28 (pV 0),G 30 28 (pV 6),G 31 28 (p2 K7 29 30),oY 32 28 31] (cD 32 (rG [oK 33 U0 [(cI 1)],oW 2 7 33]) .skip)) (sR [V 34 0,A 35 4 3,A 36 2 7,V 37 5,V 38 6,O 39 (.bslice 2 (pI 0) [(0,(.t 37)),(1,(.t 38))]),oK 40 G4 [(.t 34),(cI 13),(.t 35),(.t 36),(.t 39)],V 4 40]))))))))
def E9:=fT 51 4 (sG [B 3 1,C 4 (pI 0)] (sG [V 6 0,F 7 3 3,L 8 7,O 9 (pX 4 8 0),A 10 4 9,k2 11 H8 6 10,V 5 11] (sQ (bK 0 (sG [V 13 5,P 14 .lss 13 0,V 12 14] (cD 12 (sR [C 4 (.int .i64 (-1))]) (sG [V 16 0,O 17 (pK 16),F 18 4 17,L 19 18,V 20 5,oI 21 14 19 20,F 22 9 21,F 23 0 22,L 24 23,P 25 .eql 24 4,V 15 25] (cD 15 (sQ (rD [V 26 0,A 27 4 3,V 28 0,O 29 (pK 28),F 30 4 29,L 31 30,V 32 5,oI 33 14 31 32,F 34 9 33,F 35 1 34,L 36 35,O 37 (.build z1 [(0,(1,(cI 5))),(1,(1,(.t 36)))]),V 38 5,O 39 (.bslice 1 (pI 0) [(0,(.t 38))]),oK 40 G4 [(.t 26),(cI 15),(.t 27),(.t 37),(.t 39)],V 4 40]) .ret) (sG [V 42 0,V 43 5,k2 44 K7 42 43,V 41 44] (cD 41 (sQ (rD [V 45 0,A 46 4 3,oK 47 U0 [(cI 1)],V 48 5,O 49 (.bslice 1 (pI 0) [(0,(.t 48))]),oK 50 G4 [(.t 45),(cI 15),(.t 46),(.t 47),(.t 49)],V 4 50]) .ret) .skip))))))) (sR [C 4 (.int .i64 (-1))]))))
def H4:=fT 42 12 (sG [B 7 1,B 8 2,C 12 (pI 0)] (sG [V 14 0,A 15 4 8,k2 16 H8 14 15,V 13 16] (sQ (bK 0 (sG [V 18 13,P 19 .lss 18 0,V 17 19] (cD 17 (sR [C 12 (.int .i64 (-1))]) (sG [V 21 0,O 22 (pK 21),F 23 4 22,L 24 23,V 25 13,oI 26 14 24 25,F 27 9 26,F 28 0 27,L 29 28,V 30 3,oQ 31 .eql 29 30,V 20 31] (cD 20 (sR [V 32 0,V 33 4,A 34 4 7,A 35 4 8,V 36 13,oK 37 M2 [(.t 32),(.t 33),(.t 34),(.t 35),(.t 36)],V 12 37]) .skip))))) (sR [V 38 0,V 39 5,A 40 4 7,oK 41 T2 [(.t 38),(.t 39),(.t 40)],V 12 41]))))
def C3:=fT 48 4 (sG [B 3 1,C 4 (pI 0)] (sQ (sG [F 8 3 3,L 9 8,O 10 (pX 4 9 1),A 11 4 10,oZ 5 z0,oW 4 5 11] (sG [A 12 4 5,O 13 (.call Cj [(.t 12),(cS [112,107])])] (cD 13 (sG [V 14 0,F 15 3 5,L 16 15,O 17 (pX 4 16 0),A 18 4 17,k2 19 H8 14 18,V 6 19] (sG [V 20 6,P 21 .geq 20 0,V 22 21,G 23 22 (pV 0),G 24 22 (pK 23),G 25 22 (pF 4 24),G 26 22 (pL 25),G 27 22 (pV 6),G 28 22 (pY 14 26 27),G 29 22 (pF 9 28),G 30 22 (pF 0 29),G 31 22 (pL 30),G 32 22 (pC .eql 31 4),oY 33 22 32] (cD 33 (sQ (rD [V 34 0,A 35 4 3,F 36 3 5,L 37 36,O 38 (pX 4 37 0),A 39 4 38,V 40 6,oK 41 M2 [(.t 34),(cI 18),(.t 35),(.t 39),(.t 40)],V 7 41]) (sG [V 42 7,P 43 .geq 42 0] (cR 43 [V 44 7,V 4 44]))) .skip))) .skip))) (sR [V 45 0,A 46 4 3,oK 47 T2 [(.t 45),(cI 19),(.t 46)],V 4 47])))
def Cc:=(sQ (sG [V 42 5,P 43 .eql 42 0,V 44 43,G 45 44 (pV 6),G 46 44 (pF 3 2),G 47 44 (pL 46),G 48 44 (pM 47),G 49 44 (pD .lss 45 48),oY 50 44 49] (cX 50 0)) (sQ (bK 1 (rD [F 53 3 2,L 54 53,V 55 6,oI 56 4 54 55,A 57 4 56,F 58 3 3,L 59 58,V 60 6,oI 61 4 59 60,A 62 4 61,k2 63 AN 57 62,V 5 63])) (rG [V 51 6,J 52 51,V 6 52])))
def Is:=fT 65 4 (sG [B 2 0,B 3 1,C 4 (pI 0)] (sQ (rD [A 7 4 2,k1 8 FO 7,A 9 4 3,k1 10 FO 9,k2 11 Ci 8 10,V 5 11]) (sQ (sG [V 12 5,P 13 .eql 12 0] (cD 13 (rG [F 14 0 2,L 15 14,F 16 0 3,L 17 16,k2 18 Ci 15 17,V 5 18]) .skip)) (sQ (sG [V 19 5,P 20 .eql 19 0] (cD 20 (rG [F 21 1 2,L 22 21,F 23 1 3,L 24 23,k2 25 Dl 22 24,V 5 25]) .skip)) (sQ (sG [V 26 5,P 27 .eql 26 0] (cD 27 (rG [F 28 2 2,L 29 28,F 30 2 3,L 31 30,k2 32 Ci 29 31,V 5 32]) .skip)) (sQ (sG [V 33 5,P 34 .eql 33 0] (cD 34 (rG [F 35 3 2,L 36 35,N 37 36,F 38 3 3,L 39 38,N 40 39,k2 41 Ci 37 40,V 5 41]) .skip)) (sQ (sG [C 6 (pI 0)] (bL 0 Cc)) (sR [V 64 5,V 4 64]))))))))
def Iy:=fT 9 4 (sG [C 4 bF] (sR [V 5 0,V 6 1,k2 7 T4 5 6,P 8 .geq 7 0,V 4 8]))
def BH:=(sG [E 21 20 19] (sQ (cX 21 0) (sQ (bK 1 (sG [oI 22 4 18 20,A 23 4 22,oZ 6 z0,oW 4 6 23] (sG [A 24 4 6,V 25 1,k2 26 Z7 24 25,oU 27 26] (cR 27 [C 4 bF])))) (rG [J 28 20,V 20 28]))))
def m9:=fT 29 4 (sG [B 2 0,C 4 bF] (sQ (sG [F 7 0 2,L 8 7,P 9 .eql 8 3,V 10 9,G 11 10 (pV 1),G 12 10 (pF 1 2),G 13 10 (pL 12),G 14 10 (.callv (.t 11) [(.t 13)]),G 15 10 (pO 14),oY 16 10 15] (cR 16 [C 4 bF])) (sQ (sG [F 17 3 2,L 18 17,N 19 18,C 20 (pI 0)] (bL 0 BH)) (sR [C 4 bT]))))
def J7:=fT 15 2 (sG [C 2 bF] (sQ (sG [V 3 0] (bK 0 (sQ (sG [O 5 (pE .eql 3 [120,111,114]),V 4 5] (cD 4 .skip (sG [O 6 (pE .eql 3 [122,101,114,111]),V 4 6] (cD 4 .skip (sG [O 7 (pE .eql 3 [101,120,112]),V 4 7] (cD 4 .skip (sG [O 8 (pE .eql 3 [109,117,108]),V 4 8] (cD 4 .skip (sG [O 9 (pE .eql 3 [105,110,118]),V 4 9] (cD 4 .skip (rG [O 10 (pE .eql 3 [111,110,101]),V 4 10]))))))))))) (cR 4 [C 2 bF])))) (sR [V 11 0,k1 12 Bc 11,O 13 (.fld false 3 1 (.t 12)),P 14 .neq 13 3,V 2 14])))
def Do:=fT 12 3 (sG [C 3 bF] (sR [V 4 0,P 5 .lss 4 0,V 6 5,H 7 6 (pV 0),H 8 6 (pL 1),H 9 6 (pC .add 8 1),H 10 6 (pD .gtr 7 9),oS 11 6 10,V 3 11]))
def Bf:=(sG [E 40 39 38] (sQ (cX 40 0) (sQ (bK 1 (sG [V 41 39,V 3 41] (sG [V 42 0,V 43 3,O 44 (pJ 42 43),k1 45 Gx 44,oU 46 45] (cR 46 [C 2 bF])))) (rG [J 47 39,V 39 47]))))
def AC:=fT 48 2 (sG [C 2 bF] (sQ (sG [V 4 0,O 5 (.bin .eql (.t 4) (.c zs)),V 6 5,H 7 6 (pV 0),H 8 6 (pN 7),H 9 6 (pC .gtr 8 24),oS 10 6 9,V 11 10,H 12 11 (pV 0),H 13 11 (.idx (.t 12) (cI 0)),H 14 11 (p1 Gx 13),H 15 11 (pO 14),oS 16 11 15,V 17 16,H 18 17 (pV 0),H 19 17 (.idx (.t 18) (cI 0)),H 20 17 (pU .geq 19 48),H 21 17 (pV 20),G 22 21 (pV 0),G 23 21 (.idx (.t 22) (cI 0)),G 24 21 (pU .leq 23 57),H 25 17 (pP 21 24),oS 26 17 25,V 27 26,H 28 27 (pV 0),H 29 27 (.idx (.t 28) (cI 0)),H 30 27 (pU .eql 29 95),oS 31 27 30,V 32 31,H 33 32 (pV 0),H 34 32 (.idx (.t 33) (cI 0)),H 35 32 (pU .eql 34 35),oS 36 32 35] (cR 36 [C 2 bF])) (sQ (sG [V 37 0,O 38 (pN 37),C 39 (pI 0)] (bL 0 Bf)) (sR [C 2 bT]))))
def Ea:=fT 71 0 (sG [C 0 zv] (sG [oZ 1 zv] (sG [O 6 (.clos T5 [(.t 1)]),V 2 6] (sG [C 3 (pI 1),C 4 (pI 2),C 5 (pI 3)] (sG [V 7 2,V 8 3,O 9 (.callv (.t 7) [(.t 8),(cS [112,97,105,114]),(cI 2),(cI 2)])] (sG [V 10 2,V 11 3,O 12 (.callv (.t 10) [(.t 11),(cS [101,110,99]),(cI 2),(cI 2)])] (sG [V 13 2,V 14 3,O 15 (.callv (.t 13) [(.t 14),(cS [97,101,110,99]),(cI 2),(cI 2)])] (sG [V 16 2,V 17 3,O 18 (.callv (.t 16) [(.t 17),(cS [112,107]),(cI 1),(cI 1)])] (sG [V 19 2,V 20 3,O 21 (.callv (.t 19) [(.t 20),(cS [115,105,103,110]),(cI 2),(cI 2)])] (sG [V 22 2,V 23 3,O 24 (.callv (.t 22) [(.t 23),(cS [104,97,115,104]),(cI 1),(cI 1)])] (sG [V 25 2,V 26 3,O 27 (.callv (.t 25) [(.t 26),(cS [120,111,114]),(cI 2),(cI 8)])] (sG [V 28 2,V 29 3,O 30 (.callv (.t 28) [(.t 29),(cS [122,101,114,111]),(cI 0),(cI 0)])] (sG [V 31 2,V 32 3,O 33 (.callv (.t 31) [(.t 32),(cS [101,120,112]),(cI 2),(cI 2)])] (sG [V 34 2,V 35 3,O 36 (.callv (.t 34) [(.t 35),(cS [109,117,108]),(cI 2),(cI 8)])] (sG [V 37 2,V 38 3,O 39 (.callv (.t 37) [(.t 38),(cS [105,110,118]),(cI 1),(cI 1)])] (sG [V 40 2,V 41 3,O 42 (.callv (.t 40) [(.t 41),(cS [111,110,101]),(cI 0),(cI 0)])] (sG [V 43 2,V 44 4,O 45 (.callv (.t 43) [(.t 44),(cS [115,107]),(cI 1),(cI 1)])] (sG [V 46 2,V 47 4,O 48 (.callv (.t 46) [(.t 47),(cS [115,104,107]),(cI 2),(cI 2)])] (sG [V 49 2,V 50 4,O 51 (.callv (.t 49) [(.t 50),(cS [110,101,119]),(cI 1),(cI 8)])] (sG [V 52 2,V 53 5,O 54 (.callv (.t 52) [(.t 53),(cS [102,115,116]),(cI 1),(cI 1)])] (sG [V 55 2,V 56 5,O 57 (.callv (.t 55) [(.t 56),(cS [115,110,100]),(cI 1),(cI 1)])] (sG [V 58 2,V 59 5,O 60 (.callv (.t 58) [(.t 59),(cS [100,101,99]),(cI 2),(cI 2)])] (sG [V 61 2,V 62 5,O 63 (.callv (.t 61) [(.t 62),(cS [97,100,101,99]),(cI 2),(cI 2)])] (sG [V 64 2,V 65 5,O 66 (.callv (.t 64) [(.t 65),(cS [111,112,101,110]),(cI 2),(cI 2)])] (sG [V 67 2,V 68 5,O 69 (.callv (.t 67) [(.t 68),(cS [114,101,97,100]),(cI 1),(cI 1)])] (sR [L 70 1,V 0 70]))))))))))))))))))))))))))
def W4:=fU 15 4 5 (sG [C 4 zs,C 5 bF] (sQ (sG [V 6 0,V 7 1,k2 8 AY 6 7,oU 9 8] (cR 9 [V 10 0,V 4 10,C 5 bF])) (sR [V 11 0,V 12 1,O 13 (pN 12),O 14 (.slc 0 (.t 11) (some (.t 13)) none none),V 4 14,C 5 bT])))
def O7:=fT 18 4 (sG [C 4 bF] (sR [V 5 1,P 6 .geq 5 0,V 7 6,G 8 7 (pV 0),G 9 7 (pK 8),G 10 7 (pF 4 9),G 11 7 (pL 10),G 12 7 (pV 1),G 13 7 (pY 14 11 12),G 14 7 (pF 9 13),G 15 7 (pA 2 14),G 16 7 (p1 Hs 15),oY 17 7 16,V 4 17]))
def A9:=fT 83 10 (sG [B 7 2,B 8 3,C 10 (pI 0)] (sQ (rD [V 19 0,O 20 (pK 19),F 21 4 20,L 22 21,V 23 4,oI 24 14 22 23,F 25 9 24,A 26 2 25,F 27 3 7,L 28 27,O 29 (pX 4 28 0),A 30 4 29,k2 31 Gh 26 30,V 18 31,X 32 18 0,X 33 18 1,X 34 18 2,oZ 11 z2,oW 4 11 32,V 12 33,V 13 34]) (sQ (sG [V 35 13,oU 36 35] (cR 36 [C 10 (.int .i64 (-1))])) (sG [V 38 0,A 39 4 11,V 40 12,V 41 1,P 42 .eql 41 20,oK 43 M9 [(.t 38),(.t 39),(.t 40),(.t 42)],V 37 43,X 44 37 0,X 45 37 1,V 14 44,V 13 45] (sQ (sG [V 46 13,oU 47 46] (cR 47 [C 10 (.int .i64 (-1))])) (sG [V 48 4,O 49 (.bslice 1 (pI 0) [(0,(.t 48))]),V 50 14,oR 51 1 8 49 50,V 14 51] (sQ (sG [V 52 1,P 53 .neq 52 18,V 54 53,G 55 54 (pF 2 11),G 56 54 (pL 55),G 57 54 (pC .geq 56 0),oY 58 54 57] (cD 58 (sG [A 60 4 11,V 61 12,A 62 4 8,oK 63 Z3 [(.t 60),(.t 61),(.t 62)],V 59 63,X 64 59 0,X 65 59 1,oZ 15 z3,oW 3 15 64,V 16 65] (sQ (sG [V 66 16,oU 67 66] (cR 67 [C 10 (.int .i64 (-1))])) (sG [V 68 0,A 69 3 15,k2 70 N7 68 69,V 17 70] (sQ (sG [V 71 17,P 72 .lss 71 0] (cR 72 [C 10 (.int .i64 (-1))])) (rG [V 73 14,V 74 17,O 75 (.bslice 1 (pI 0) [(0,(.t 74))]),oR 76 1 8 73 75,V 14 76]))))) .skip)) (sQ (rD [V 77 0,V 78 1,A 79 4 7,oK 80 U0 [(cI 1)],V 81 14,oK 82 G4 [(.t 77),(.t 78),(.t 79),(.t 80),(.t 81)],V 10 82]) .ret))))))))
def O6:=fT 37 6 (sG [B 5 2,C 6 (pI 0)] (sG [V 9 0,F 10 3 5,L 11 10,O 12 (pX 4 11 0),A 13 4 12,k2 14 H8 9 13,V 7 14] (sQ (sG [V 15 0,V 16 7,k2 17 K7 15 16,oU 18 17] (cR 18 [C 6 (.int .i64 (-1))])) (sG [V 19 0,F 20 3 5,L 21 20,O 22 (pX 4 21 1),A 23 4 22,k2 24 H8 19 23,V 8 24] (sQ (sG [V 25 0,V 26 8,k2 27 K7 25 26,oU 28 27] (cR 28 [C 6 (.int .i64 (-1))])) (sQ (rD [V 29 0,V 30 1,A 31 4 5,oK 32 U0 [(cI 1)],V 33 7,V 34 8,O 35 (.bslice 2 (pI 0) [(0,(.t 33)),(1,(.t 34))]),oK 36 G4 [(.t 29),(.t 30),(.t 31),(.t 32),(.t 35)],V 6 36]) .ret))))))
def HF:=fT 14 4 (sG [B 2 0,C 4 bF] (sR [F 5 0 2,L 6 5,P 7 .eql 6 3,V 8 7,G 9 8 (pF 1 2),G 10 8 (pL 9),G 11 8 (pV 1),G 12 8 (pD .eql 10 11),oY 13 8 12,V 4 13]))
def Ll:=fT 13 4 (sG [C 4 (pI 0)] (sQ (bK 0 (sG [V 6 0,V 7 1,E 8 6 7,V 5 8] (cD 5 (sR [C 4 (.int .i64 (-1))]) (sG [V 10 0,V 11 1,oQ 12 .gtr 10 11,V 9 12] (cR 9 [C 4 (pI 1)]))))) (sR [C 4 (pI 0)])))
def Jj:=(sG [E 10 9 8] (sQ (cX 10 0) (sQ (bK 1 (sG [oI 11 4 7 9,A 12 4 11,oZ 5 z0,oW 4 5 12] (rG [V 13 3,A 14 4 5,k1 15 FO 14,oQ 16 .add 13 15,V 3 16]))) (rG [J 17 9,V 9 17]))))
def Qc:=fT 19 2 (sG [B 1 0,C 2 (pI 0)] (sG [C 3 (pI 1)] (sQ (sG [F 6 3 1,L 7 6,N 8 7,C 9 (pI 0)] (bL 0 Jj)) (sR [V 18 3,V 2 18]))))
def JO:=fT 8 4 (sG [C 4 (pI 0)] (sR [V 5 0,V 6 1,k2 7 V9 5 6,V 4 7]))
def HZ:=(sG [E 9 8 7] (sQ (cX 9 0) (sQ (bK 1 (sG [V 10 8,V 5 10] (sG [V 11 1,V 12 0,V 13 5,oI 14 4 12 13,A 15 4 14,O 16 (.callv (.t 11) [(.t 15)])] (cR 16 [V 17 5,V 4 17])))) (rG [J 18 8,V 8 18]))))
def Iq:=fT 19 4 (sG [C 4 (pI 0)] (sQ (sG [V 6 0,N 7 6,C 8 (pI 0)] (bL 0 HZ)) (sR [C 4 (.int .i64 (-1))])))
def Ji:=(sG [E 9 8 7] (sQ (cX 9 0) (sQ (bK 1 (sG [V 10 8,V 5 10] (sG [V 11 1,V 12 0,V 13 5,oI 14 1 12 13,L 15 14,O 16 (.callv (.t 11) [(.t 15)])] (cR 16 [V 17 5,V 4 17])))) (rG [J 18 8,V 8 18]))))
def Ko:=fT 19 4 (sG [C 4 (pI 0)] (sQ (sG [V 6 0,N 7 6,C 8 (pI 0)] (bL 0 Ji)) (sR [C 4 (.int .i64 (-1))])))
def Bw:=fT 19 4 (sG [B 2 0,B 3 1,C 4 bF] (sR [A 5 2 2,k1 6 Bz 5,P 7 .eql 6 0,V 8 7,G 9 8 (pA 2 3),G 10 8 (p1 Bz 9),G 11 8 (pC .eql 10 0),oY 12 8 11,V 13 12,G 14 13 (pA 2 2),G 15 13 (p1 Er 14),G 16 13 (.clos DS [(.t 3)]),G 17 13 (p2 X1 15 16),oY 18 13 17,V 4 18]))
def L2:=fT 39 4 (sG [B 3 1,C 4 (pI 0)] (sG [V 6 0,O 7 (pK 6),F 8 0 7,F 9 1 8,L 10 9,O 11 (.clos Z8 [(.t 3)]),k2 12 M7 10 11,V 5 12] (sQ (sG [V 13 5,P 14 .lss 13 0] (cR 14 [C 4 (.int .i64 (-1))])) (sQ (sG [V 15 0,O 16 (pK 15),F 17 3 16,L 18 17,V 19 5,oI 20 1 18 19,L 21 20,P 22 .lss 21 0] (cD 22 (.regd [0,1,3,7,0,0,0,96,255,511] [V 23 0,O 24 (pK 23),F 25 3 24,L 26 25,V 27 5,V 28 0,A 29 3 3,O 30 (.call O0 [(.t 28),(cI 1),(.t 29),(.c zv)]),oI 31 1 26 27,oW 1 31 30]) .skip)) (sR [V 32 0,O 33 (pK 32),F 34 3 33,L 35 34,V 36 5,oI 37 1 35 36,L 38 37,V 4 38])))))
def b5:=fT 36 8 (sG [B 6 2,C 8 (pI 0)] (sG [V 10 0,O 11 (pK 10),F 12 5 11,A 13 14 12,oZ 9 z5,oW 14 9 13] (sQ (.regd [0,0,0,1,9,27,59,127,255] [V 14 1,V 15 3,A 16 3 6,F 17 0 9,oW 1 17 14,F 18 4 9,oW 1 18 15,F 19 11 9,oW 3 19 16]) (sQ (rD [V 20 0,V 21 0,O 22 (pK 21),F 23 4 22,L 24 23,A 25 14 9,O 26 (pB z5 25),oR 27 14 184 24 26,O 28 (pK 20),F 29 4 28,oW 1 29 27]) (sR [V 30 0,O 31 (pK 30),F 32 4 31,L 33 32,N 34 33,P 35 .sub 34 1,V 8 35])))))
def Lk:=fT 33 2 (sG [C 2 bF] (sR [V 3 0,O 4 (pU .geq 3 97),V 5 4,G 6 5 (pV 0),G 7 5 (pU .leq 6 122),oY 8 5 7,V 9 8,H 10 9 (pV 0),H 11 9 (pU .geq 10 65),H 12 9 (pV 11),G 13 12 (pV 0),G 14 12 (pU .leq 13 90),H 15 9 (pP 12 14),oS 16 9 15,V 17 16,H 18 17 (pV 0),H 19 17 (pU .geq 18 48),H 20 17 (pV 19),G 21 20 (pV 0),G 22 20 (pU .leq 21 57),H 23 17 (pP 20 22),oS 24 17 23,V 25 24,H 26 25 (pV 0),H 27 25 (pU .eql 26 95),oS 28 25 27,V 29 28,H 30 29 (pV 0),H 31 29 (pU .eql 30 35),oS 32 29 31,V 2 32]))
def Cy:RFunc:=⟨17,[],(rG [L 9 4,V 10 1,V 11 2,V 12 3,V 13 0,O 14 (.build z4 [(0,(1,(.t 10))),(1,(1,(.t 11))),(2,(1,(.t 12))),(3,(1,(.t 13)))]),O 15 (pB z4 14),oR 16 4 40 9 15,oW 1 4 16])⟩
def Ac:=fT 18 4 (sG [C 4 bF] (sR [V 5 0,O 6 (pN 5),V 7 1,O 8 (pN 7),oQ 9 .geq 6 8,V 10 9,G 11 10 (pV 0),G 12 10 (pV 1),G 13 10 (pN 12),G 14 10 (.slc 0 (.t 11) none (some (.t 13)) none),G 15 10 (pV 1),G 16 10 (pD .eql 14 15),oY 17 10 16,V 4 17]))
def Kn:=fT 6 2 (sG [B 1 0,C 2 bF] (sR [A 3 2 1,O 4 (.build z1 [(0,(1,(cI 1)))]),k2 5 Dz 3 4,V 2 5]))
def X5:RFunc:=⟨42,[(.cell 4 true 4),(.tmp 5),(.tmp 6)],(sG [B 2 0,B 3 1,oZ 4 z2,C 5 zv,C 6 bF] (sG [A 12 4 3,k1 13 Hx 12,V 11 13,X 14 11 0,X 15 11 1,V 7 14,V 8 15] (sQ (sG [V 16 8,oU 17 16] (cD 17 (sR [O 18 (pZ z2),oW 4 4 18,C 5 zv,C 6 bF]) .skip)) (sG [A 20 2 2,V 21 7,k2 22 DU 20 21,V 19 22,X 23 19 0,X 24 19 1,oZ 9 z2,oW 4 9 23,V 8 24] (sQ (sG [V 25 8,oU 26 25] (cD 26 (sR [O 27 (pZ z2),oW 4 4 27,C 5 zv,C 6 bF]) .skip)) (sQ (rD [F 29 3 3,L 30 29,O 31 (pX 4 30 1),A 32 4 31,F 33 1 9,L 34 33,N 35 34,k2 36 b6 32 35,V 28 36,X 37 28 0,X 38 28 1,V 10 37,V 8 38]) (sR [A 39 4 9,V 40 10,V 41 8,oW 4 4 39,V 5 40,V 6 41])))))))⟩
def B5:=(sG [E 19 18 17] (sQ (cX 19 0) (sQ (bK 1 (sG [V 20 18,oI 21 4 16 18,A 22 4 21,oZ 12 z0,V 11 20,oW 4 12 22] (sG [V 23 0,A 24 4 12,k2 25 H8 23 24,V 13 25] (sQ (sG [V 26 13,P 27 .lss 26 0] (cR 27 [C 8 zv,C 9 bF])) (sQ (.regd [0,1,3,7,0,31,63,127,0,256,0,1792,3840,7936,0,0,65535,131071] [V 28 0,O 29 (pK 28),F 30 4 29,L 31 30,V 32 13,oI 33 14 31 32,F 34 9 33,A 35 2 34,F 36 1 5,L 37 36,V 38 11,oI 39 1 37 38,L 40 39,k1 41 U0 40,O 14 (.allocAt 2 z1),O 15 (.allocAt 1 z1),oW 2 14 35,oW 2 15 41]) (sQ (sG [V 42 3,V 43 42,G 44 43 (pV 0),G 45 43 (pV 13),G 46 43 (p2 K7 44 45),G 47 43 (pO 46),oY 48 43 47,V 49 48,H 50 49 (pV 3),H 51 49 (pO 50),H 52 49 (pV 51),G 53 52 (pA 2 14),G 54 52 (pA 2 15),G 55 52 (p2 Dz 53 54),G 56 52 (pO 55),H 57 49 (pP 52 56),oS 58 49 57] (cR 58 [C 8 zv,C 9 bF])) (sQ (sG [V 59 3,oU 60 59,V 61 60,G 62 61 (pF 0 14),G 63 61 (pL 62),G 64 61 (pF 0 15),G 65 61 (pL 64),G 66 61 (pD .neq 63 65),G 67 61 (pV 66),H 68 67 (pF 1 14),H 69 67 (pL 68),H 70 67 (pM 69),H 71 67 (pC .gtr 70 0),G 72 61 (pR 67 71),oY 73 61 72] (cD 73 (rG [V 74 0,A 75 4 12,A 76 2 15,V 77 13,O 78 (.bslice 1 (pI 0) [(0,(.t 77))]),oK 79 G4 [(.t 74),(cI 22),(.t 75),(.t 76),(.t 78)],V 13 79]) .skip)) (rG [V 80 10,V 81 13,O 82 (.bslice 1 (pI 0) [(0,(.t 81))]),oR 83 1 8 80 82,V 10 83])))))))) (rG [J 84 18,V 18 84]))))
def BX:=fU 86 8 9 (sG [B 5 1,C 8 zv,C 9 bF] (sG [C 10 zv] (sQ (sG [V 16 2,N 17 16,C 18 (pI 0)] (bL 0 B5)) (sR [V 85 10,V 8 85,C 9 bT]))))
def U7:=(sG [E 36 35 34] (sQ (cX 36 1) (sQ (bK 2 (sG [oI 37 1 33 35,L 38 37,V 11 38] (bK 3 (sG [V 50 11,P 51 .lss 50 2,V 52 51,G 53 52 (pV 8),G 54 52 (pM 53),G 55 52 (pC .eql 54 0),oY 56 52 55,V 57 56,H 58 57 (pV 11),H 59 57 (pC .sub 58 2),H 60 57 (pV 1),H 61 57 (pM 60),H 62 57 (pD .geq 59 61),oS 63 57 62,V 49 63] (cD 49 (sR [O 64 (pZ z3),oW 3 6 64,C 7 bF]) (sG [V 66 11,P 67 .lss 66 2,V 65 67] (cD 65 (rD [F 68 2 9,L 69 68,V 70 8,V 71 11,oI 72 4 70 71,A 73 4 72,O 74 (pB z0 73),oR 75 4 56 69 74,F 76 2 9,oW 1 76 75]) (rD [F 39 2 9,L 40 39,V 41 1,V 42 11,P 43 .sub 42 2,oI 44 4 41 43,A 45 4 44,O 46 (pB z0 45),oR 47 4 56 40 46,F 48 2 9,oW 1 48 47])))))))) (rG [J 77 35,V 35 77]))))
def V5:RFunc:=⟨79,[(.cell 6 true 3),(.tmp 7)],(sG [B 3 0,B 5 2,oZ 6 z3,C 7 bF] (sG [C 8 zv] (sQ (bK 0 (sG [A 13 4 5,O 14 (.call Cj [(.t 13),(cS [115,104,107])]),V 12 14] (cD 12 (rG [F 15 3 5,L 16 15,V 8 16]) (sG [A 18 4 5,O 19 (.call Cj [(.t 18),(cS [115,107])]),V 17 19] (cD 17 (rD [F 20 3 5,L 21 20,O 22 (pX 4 21 0),A 23 4 22,F 24 3 5,L 25 24,O 26 (pX 4 25 0),A 27 4 26,O 28 (.bslice 2 z0 [(0,(.t 23)),(1,(.t 27))]),V 8 28]) .skip))))) (sG [F 29 2 3,L 30 29,O 31 (.build z3 [(0,(1,(cI 2))),(1,(1,(.t 30)))]),oZ 9 z3,oW 3 9 31] (sQ (sG [F 32 3 3,L 33 32,N 34 33,C 35 (pI 0)] (bL 1 U7)) (sR [A 78 3 9,oW 3 6 78,C 7 bT]))))))⟩
def Io:=fT 9 4 (sG [C 4 bF] (sR [V 5 0,V 6 1,k2 7 S3 5 6,P 8 .geq 7 0,V 4 8]))
def N4:=(sQ (sG [V 10 4,P 11 .neq 10 0] (cX 11 0)) (sQ (bK 1 (rG [V 14 3,V 15 4,O 16 (.build z1 [(0,(1,(.t 15)))]),O 17 (pB z1 16),oR 18 2 32 14 17,V 3 18])) (rG [V 12 4,k1 13 Ep 12,V 4 13])))
def BA:=fT 20 2 (sG [B 1 0,C 2 zv] (sG [A 5 2 1,O 6 (pB z1 5),V 3 6] (sQ (sG [F 7 0 1,L 8 7,k1 9 Ep 8,V 4 9] (bL 0 N4)) (sR [V 19 3,V 2 19]))))
def Jg:=fT 7 3 (sG [B 2 0,C 3 bF] (sR [A 4 2 2,A 5 2 1,k2 6 Ge 4 5,V 3 6]))
def Gm:=fT 17 4 (sG [B 2 0,B 3 1,C 4 bF] (sR [F 5 0 2,L 6 5,F 7 0 3,L 8 7,oQ 9 .eql 6 8,V 10 9,G 11 10 (pF 1 2),G 12 10 (pL 11),G 13 10 (pF 1 3),G 14 10 (pL 13),G 15 10 (.call S1 [(.t 12),(.t 14),(.c (.fn DI []))]),oY 16 10 15,V 4 16]))
def CG:=fT 7 3 (sG [B 2 0,C 3 bF] (sR [A 4 3 2,A 5 3 1,k2 6 Dm 4 5,V 3 6]))
def Bx:=fT 24 4 (sG [B 2 0,B 3 1,C 4 bF] (sR [F 5 0 2,L 6 5,F 7 0 3,L 8 7,oQ 9 .eql 6 8,V 10 9,G 11 10 (pF 1 2),G 12 10 (pL 11),G 13 10 (pF 1 3),G 14 10 (pL 13),G 15 10 (pD .eql 12 14),oY 16 10 15,V 17 16,G 18 17 (pF 2 2),G 19 17 (pL 18),G 20 17 (pF 2 3),G 21 17 (pL 20),G 22 17 (.call W2 [(.t 19),(.t 21),(.c (.fn DV []))]),oY 23 17 22,V 4 23]))
def b9:=fU 28 2 3 (sG [B 1 0,C 2 zs,C 3 bF] (sQ (sG [A 4 4 1,O 5 (.call Cj [(.t 4),(cS [112,97,105,114])]),oU 6 5,V 7 6,H 8 7 (pF 3 1),H 9 7 (pL 8),H 10 7 (pX 4 9 0),H 11 7 (pF 0 10),H 12 7 (pL 11),H 13 7 (pC .neq 12 2),oS 14 7 13,V 15 14,H 16 15 (pF 3 1),H 17 15 (pL 16),H 18 15 (pX 4 17 0),H 19 15 (pF 2 18),H 20 15 (pL 19),H 21 15 (pC .neq 20 5),oS 22 15 21] (cR 22 [C 2 zs,C 3 bF])) (sR [F 23 3 1,L 24 23,O 25 (pX 4 24 0),F 26 1 25,L 27 26,V 2 27,C 3 bT])))
def DZ:RFunc:=⟨19,[(.cell 4 true 4),(.tmp 5)],(sG [B 2 0,B 3 1,oZ 4 z2,C 5 bF] (sG [F 7 1 2,L 8 7,O 9 (.clos DM [(.t 3)]),k2 10 S2 8 9,V 6 10] (sQ (sG [V 11 6,P 12 .lss 11 0] (cD 12 (sR [O 13 (pZ z2),oW 4 4 13,C 5 bF]) .skip)) (sR [F 14 1 2,L 15 14,V 16 6,oI 17 4 15 16,A 18 4 17,oW 4 4 18,C 5 bT]))))⟩
def n5:=(sG [E 10 9 8] (sQ (cX 10 0) (sQ (bK 1 (sQ (sG [A 11 4 2,O 12 (.call Cj [(.t 11),(cS [112,97,105,114])]),oU 13 12] (cR 13 [C 4 zv,C 5 bF])) (sG [V 14 6,F 15 3 2,L 16 15,O 17 (pX 4 16 0),A 18 4 17,O 19 (pB z0 18),oR 20 4 56 14 19,V 6 20] (rG [F 21 3 2,L 22 21,O 23 (pX 4 22 1),A 24 4 23,oW 4 2 24])))) (rG [J 25 9,V 9 25]))))
def FB:=fU 30 4 5 (sG [B 2 0,C 4 zv,C 5 bF] (sG [C 6 zv] (sQ (sG [V 7 1,P 8 .sub 7 1,C 9 (pI 0)] (bL 0 n5)) (sR [V 26 6,A 27 4 2,O 28 (pB z0 27),oR 29 4 56 26 28,V 4 29,C 5 bT]))))
def JC:=(sG [E 9 8 7] (sQ (cX 9 0) (sQ (bK 1 (sG [V 10 8,V 5 10] (sG [V 11 1,V 12 0,V 13 5,oI 14 2 12 13,A 15 2 14,O 16 (.callv (.t 11) [(.t 15)])] (cR 16 [V 17 5,V 4 17])))) (rG [J 18 8,V 8 18]))))
def KO:=fT 19 4 (sG [C 4 (pI 0)] (sQ (sG [V 6 0,N 7 6,C 8 (pI 0)] (bL 0 JC)) (sR [C 4 (.int .i64 (-1))])))
def Az:=fT 12 2 (sG [C 2 (pI 0)] (sQ (sG [V 3 0] (bK 0 (sG [P 5 .eql 3 5,V 4 5] (cD 4 (sR [C 2 (pI 1)]) (sQ (sG [P 7 .eql 3 3,V 6 7] (cD 6 .skip (rG [P 8 .eql 3 4,V 6 8]))) (cD 6 (sR [C 2 (pI 2)]) (sQ (sG [P 10 .eql 3 1,V 9 10] (cD 9 .skip (rG [P 11 .eql 3 2,V 9 11]))) (cR 9 [C 2 (pI 6)])))))))) (sR [C 2 (pI 0)])))
def HY:=(sG [E 18 17 16] (sQ (cX 18 0) (sQ (bK 1 (sG [V 19 17,oI 20 4 15 17,A 21 4 20,oZ 8 z2,V 7 19,oW 4 8 21] (sG [V 22 1,V 23 7,oI 24 4 22 23,A 25 4 24,oZ 9 z2,oW 4 9 25] (sG [V 26 2,A 27 4 8,A 28 4 9,O 29 (.callv (.t 26) [(.t 27),(.t 28)]),oU 30 29] (cR 30 [C 6 bF]))))) (rG [J 31 17,V 17 31]))))
def Ip:=fT 32 6 (sG [C 6 bF] (sQ (sG [V 10 0,N 11 10,V 12 1,N 13 12,oQ 14 .neq 11 13] (cR 14 [C 6 bF])) (sQ (sG [V 15 0,N 16 15,C 17 (pI 0)] (bL 0 HY)) (sR [C 6 bT]))))
def Be:=fT 31 4 (sG [B 2 0,B 3 1,C 4 bF] (sR [F 5 0 2,L 6 5,F 7 0 3,L 8 7,oQ 9 .eql 6 8,V 10 9,G 11 10 (pF 2 2),G 12 10 (pL 11),G 13 10 (pF 2 3),G 14 10 (pL 13),G 15 10 (pD .eql 12 14),oY 16 10 15,V 17 16,G 18 17 (pF 1 2),G 19 17 (pL 18),G 20 17 (pF 1 3),G 21 17 (pL 20),G 22 17 (p2 u7 19 21),oY 23 17 22,V 24 23,G 25 24 (pF 3 2),G 26 24 (pL 25),G 27 24 (pF 3 3),G 28 24 (pL 27),G 29 24 (p2 u7 26 28),oY 30 24 29,V 4 30]))
def j4:=(sG [E 14 13 12] (sQ (cX 14 0) (sQ (bK 1 (sG [V 15 13,V 5 15] (sQ (rD [V 16 0,V 17 5,oI 18 1 16 17,L 19 18,V 20 1,V 21 5,oI 22 1 20 21,L 23 22,oQ 24 .neq 19 23]) (cR 24 [C 4 bF])))) (rG [J 25 13,V 13 25]))))
def Cx:=fT 26 4 (sG [C 4 bF] (sQ (sG [V 6 0,N 7 6,V 8 1,N 9 8,oQ 10 .neq 7 9] (cR 10 [C 4 bF])) (sQ (sG [V 11 0,N 12 11,C 13 (pI 0)] (bL 0 j4)) (sR [C 4 bT]))))
def Iz:=(sG [E 18 17 16] (sQ (cX 18 0) (sQ (bK 1 (sG [V 19 17,oI 20 4 15 17,A 21 4 20,oZ 8 z0,V 7 19,oW 4 8 21] (sG [V 22 1,V 23 7,oI 24 4 22 23,A 25 4 24,oZ 9 z0,oW 4 9 25] (sG [V 26 2,A 27 4 8,A 28 4 9,O 29 (.callv (.t 26) [(.t 27),(.t 28)]),oU 30 29] (cR 30 [C 6 bF]))))) (rG [J 31 17,V 17 31]))))
def KL:=fT 32 6 (sG [C 6 bF] (sQ (sG [V 10 0,N 11 10,V 12 1,N 13 12,oQ 14 .neq 11 13] (cR 14 [C 6 bF])) (sQ (sG [V 15 0,N 16 15,C 17 (pI 0)] (bL 0 Iz)) (sR [C 6 bT]))))
def Hb:=fT 8 3 (sG [B 2 0,C 3 bF] (sR [F 4 0 2,L 5 4,L 6 1,oQ 7 .eql 5 6,V 3 7]))
end Go.Abs.Q
