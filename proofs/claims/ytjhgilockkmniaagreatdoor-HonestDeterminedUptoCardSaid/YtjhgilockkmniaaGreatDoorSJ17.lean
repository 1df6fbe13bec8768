/- A part of the proof. -/
import Derived.Test.YtjhgilockkmniaaGreatDoorSJ15
set_option linter.all false
namespace Go.Abs.Q
def bs (l:List Nat):ByteArray:=⟨(l.map UInt8.ofNat).toArray⟩
def E7:=3
def Fo:=5
def W9:=6
def T7:=7
def L7:=8
def S9:=9
def Q5:=10
def P2:=11
def HO:=15
def AZ:=24
def EQ:=25
def As:=26
def BM:=27
def CM:=28
def J2:=29
def Em:=30
def i6:=31
def s9:=33
def Iz:=38
def Ar:=40
def Iy:=41
def Ek:=42
def FY:=44
def Q7:=45
def DV:=46
def u7:=47
def Cj:=48
def Cn:=49
def BQ:=50
def M2:=51
def X1:=52
def Ab:=53
def D8:=54
def K8:=55
def o6:=56
def Es:=57
def Aa:=58
def O6:=59
def K0:=60
def i4:=61
def Y5:=62
def T0:=63
def Aq:=64
def DB:=65
def Q4:=66
def Ft:=67
def Ep:=70
def Fa:=71
def FZ:=72
def Y4:=73
def Dr:=74
def X0:=75
def y8:=76
def Eo:=77
def I8:=80
def Ck:=82
def V1:=84
def P6:=86
def Bi:=87
def Cs:=88
def CX:=89
def Dh:=91
def J5:=92
def o7:=93
def Dg:=94
def F9:=95
def V7:=96
def D7:=97
def u6:=98
def Y6:=99
def V0:=100
def V6:=101
def l7:=102
def Y3:=103
def AY:=104
def Y7:=105
def H3:=106
def H2:=107
def E6:=108
def H4:=109
def En:=110
def Cp:=111
def i5:=112
def Z8:=116
def s8:=118
def Ho:=119
def Gh:=126
def y7:=129
def S0:=132
def L9:=137
def s6:=138
def DD:=139
def R5:=140
def GQ:=141
def Er:=142
def BO:=143
def Co:=145
def Fs:=146
def Fq:=147
def Bh:=148
def DU:=150
def Ci:=153
def FV:=154
def Ei:=159
def P1:=160
def x4:=161
def l6:=162
def GP:=165
def X2:=166
def El:=168
def Bt:=169
def x5:=170
def GI:=172
def K7:=184
def Cl:=185
def s7:=186
def Ac:=187
def Cq:=189
def CA:=190
def DC:=191
def n7:=192
def n6:=193
def Au:=202
def Bp:=206
def Ao:=207
def HM:=208
def BK:=209
def Cr:=210
def IA:=211
def CS:=213
def l8:=214
def CN:=215
def BP:=216
def U7:=217
def DE:=231
def GK:=232
def Ds:=233
def HQ:=234
def Fp:=235
def BE:=236
def ES:=237
def HP:=241
def Gg:=242
def Fb:=245
def CY:=251
def JA:=253
def At:=254
def Bq:=255
def R4:=260
def Cm:=263
def M0:=265
def GJ:=267
def M7:=268
def I7:=269
def IB:=271
def Dx:=287
def U5:=288
def Z9:=290
def Y9:=300
def m8:=301
def G8:=304
def Q0:=305
def K9:=306
def N0:=307
def M1:=308
def D9:=309
def G6:=310
def J4:=311
def F6:=313
def N1:=314
def I5:=315
def K1:=316
def I9:=317
def D6:=318
def E8:=319
def H5:=320
def Dw:=330
def Ap:=340
def Br:=341
def Bs:=343
def N8:=345
def S1:=346
def m9:=347
def K6:=349
def l9:=351
def K3:=352
def S4:=353
def H9:=354
def H8:=355
def P3:=356
def Ej:=359
def Js:=377
def N2:=378
def J3:=379
def M8:=382
def CT:=383
def Dt:=390
def DX:=391
def Fc:=392
def BN:=395
def GR:=409
def HR:=410
def DW:=411
def U6:=412
def Y8:=413
def FW:=415
def FX:=423
def Y2:=424
def HN:=429
def L8:=430
def Y1:=432
def U3:=433
def ER:=453
def A8 (f:FuncId):Bool:=f == Iz||f == Iy||f == Ek||f == FY||f == Q7||f == DV||f == Cj||f == T0||f == Ep||f == Fa||f == FZ||f == Ck||f == P6||f == F9||f == H3||f == H2||f == H4||f == DU||f == Ci||f == Ei||f == P1||f == x4||f == l6||f == X2||f == El||f == Bt||f == Bp||f == Ao||f == BK||f == CS||f == l8||f == U7||f == GK||f == Ds||f == HQ||f == Fb||f == CY||f == JA||f == At||f == Bq||f == R4||f == Cm||f == M0||f == M7||f == I7||f == IB||f == Dx||f == U5||f == Y9||f == m8||f == G8||f == Q0||f == K9||f == N0||f == M1||f == D9||f == G6||f == J4||f == F6||f == N1||f == I5||f == K1||f == I9||f == D6||f == E8||f == H5||f == Dw||f == N8||f == S1||f == m9||f == K6||f == l9||f == K3||f == S4||f == H9||f == H8||f == P3||f == Ej||f == Js||f == N2||f == J3||f == M8||f == CT||f == Dt||f == DX||f == Fc||f == GR||f == HR||f == DW||f == U6||f == Y8||f == FW||f == FX||f == Y2||f == L8||f == Y1||f == U3||f == ER
def cq (f:FuncId):Bool:=f == Ek||f == I8||f == H3||f == H2||f == H4||f == Cr||f == BP||f == Ds||f == CY||f == S1||f == Dt||f == Y8||f == HN||f == L8
@[simp] def V (d a:Nat):RO:=⟨some d,.mov (.t a),none⟩
@[simp] def F (d k a:Nat):RO:=⟨some d,.faddr k (.t a),none⟩
@[simp] def L (d a:Nat):RO:=⟨some d,.ld false 1 (.t a),none⟩
@[simp] def A (d n a:Nat):RO:=⟨some d,.ld true n (.t a),none⟩
@[simp] def N (d a:Nat):RO:=⟨some d,.len false (.t a),none⟩
@[simp] def oI (d s a b:Nat):RO:=⟨some d,.iaddr s (.t a) (.t b),none⟩
@[simp] def C (d:Nat) (v:AV):RO:=⟨some d,.mov (.c v),none⟩
@[simp] def oK (d:Nat) (f:FuncId) (l:List Opd):RO:=⟨some d,.call f l,none⟩
@[simp] def B (d a:Nat):RO:=⟨some d,.box (.t a),none⟩
@[simp] def oZ (d:Nat) (v:AV):RO:=⟨some d,.alloc v,none⟩
@[simp] def W (n a b:Nat):RO:=⟨none,.st n (.t a) (.t b),none⟩
@[simp] def J (d a:Nat):RO:=⟨some d,.bin .add (.t a) (.c (.int .i64 1)),none⟩
@[simp] def E (d a b:Nat):RO:=⟨some d,.bin .lss (.t a) (.t b),none⟩
@[simp] def oU (d a:Nat):RO:=⟨some d,.un .not (.t a),none⟩
@[simp] def O (d:Nat) (p:ROp):RO:=⟨some d,p,none⟩
@[simp] def G (d g:Nat) (p:ROp):RO:=⟨some d,p,some (g,true)⟩
@[simp] def H (d g:Nat) (p:ROp):RO:=⟨some d,p,some (g,false)⟩
@[simp] def pV (a:Nat):ROp:=ROp.mov (.t a)
@[simp] def pF (k a:Nat):ROp:=ROp.faddr k (.t a)
@[simp] def pL (a:Nat):ROp:=ROp.ld false 1 (.t a)
@[simp] def pA (n a:Nat):ROp:=ROp.ld true n (.t a)
@[simp] def pI (n:Int):AV:=AV.int .i64 n
@[simp] def rG (l:List RO):RCode:=RCode.region false l
@[simp] def rD (l:List RO):RCode:=RCode.region true l
def Bk (f:FuncId):Bool:=f == Q7||f == M2||f == P6||f == E6||f == y7||f == P1||f == DE||f == GK||f == M0||f == I7||f == G8||f == Q0||f == K9||f == N0||f == M1||f == D9||f == G6||f == J4||f == F6||f == N1||f == I5||f == K1||f == I9||f == D6||f == E8||f == H5||f == K6||f == l9||f == K3||f == S4||f == H9||f == H8||f == P3||f == N2||f == J3
def YB (f:FuncId):Bool:=f == i6||f == x5||f == GI||f == HM||f == IA||f == Fb||f == Ap||f == Br||f == Bs||f == BN
def G5 (f:FuncId):Bool:=f == H3||f == H2||f == H4||f == l8||f == U7||f == Fb||f == R4||f == M7||f == N8||f == S1||f == M8||f == Y8||f == L8
def uB (f:FuncId):Bool:=f == S0||f == Au||f == R4||f == M7||f == N8||f == M8
def uu (f:FuncId):Bool:=f == GP||f == x5||f == y7||f == FV
def tr (f g:FuncId):Bool:=((f == GP||f == x5)&&(g == Cr||g == BP))||((f == y7||f == FV)&&(g == I8))
def uq (f:FuncId):Bool:=f == HO
def Uw (f:FuncId):Bool:=f == x4||f == l6
def B9 (f:FuncId):Ctx:={raw:=if uu f then λg=>A8 g||tr f g else A8,mutApp:=cq f,rawv:=Bk f,ro:=YB f,noB:=G5,bx:=uq f,rst:=Uw f}
@[simp] theorem qv:YB i6=true/\G5 Iz=false/\G5 Iy=false/\G5 Ek=false/\G5 FY=false/\G5 Q7=false/\G5 DV=false/\G5 Cj=false/\Bk M2=true/\YB M2=false/\G5 T0=false/\G5 Ep=false/\G5 Fa=false/\G5 FZ=false/\G5 Ck=false/\Bk P6=true/\G5 P6=false/\G5 F9=false/\G5 H3=true/\G5 H2=true/\Bk E6=true/\G5 H4=true/\Bk y7=true/\YB y7=false/\G5 DU=false/\G5 Ci=false/\G5 Ei=false/\Bk P1=true/\YB P1=false/\G5 P1=false/\G5 x4=false/\G5 l6=false/\G5 X2=false/\G5 El=false/\G5 Bt=false/\Bk K7=false/\G5 Bp=false/\G5 Ao=false/\YB HM=true/\G5 BK=false/\YB IA=true/\G5 CS=false/\G5 l8=true/\G5 U7=true/\Bk DE=true/\YB DE=false/\Bk GK=true/\G5 GK=false/\G5 Ds=false/\G5 HQ=false:=by repeat' (first|rfl|constructor)
@[simp] theorem qw:YB Fb=true/\G5 Fb=true/\G5 CY=false/\G5 JA=false/\G5 At=false/\G5 Bq=false/\G5 R4=true/\G5 Cm=false/\Bk M0=true/\G5 M0=false/\G5 M7=true/\Bk I7=true/\G5 I7=false/\G5 IB=false/\G5 Dx=false/\Bk U5=false/\G5 U5=false/\G5 Y9=false/\G5 m8=false/\Bk G8=true/\G5 G8=false/\G5 Q0=false/\G5 K9=false/\G5 N0=false/\G5 M1=false/\Bk D9=true/\G5 D9=false/\Bk G6=true/\G5 G6=false/\Bk J4=true/\G5 J4=false/\Bk F6=true/\G5 F6=false/\G5 N1=false/\G5 I5=false/\G5 K1=false/\G5 I9=false/\Bk D6=true/\G5 D6=false/\Bk E8=true/\G5 E8=false/\Bk H5=true/\G5 H5=false/\G5 Dw=false/\YB Ap=true/\YB Br=true/\YB Bs=true/\G5 N8=true/\G5 S1=true/\G5 m9=false:=by repeat' (first|rfl|constructor)
@[simp] theorem qx:Bk K6=true/\G5 K6=false/\G5 l9=false/\G5 K3=false/\G5 S4=false/\Bk H9=true/\G5 H9=false/\G5 H8=false/\G5 P3=false/\G5 Ej=false/\G5 Js=false/\Bk N2=true/\G5 N2=false/\Bk J3=true/\G5 J3=false/\G5 M8=true/\G5 CT=false/\G5 Dt=false/\G5 DX=false/\G5 Fc=false/\YB BN=true/\G5 GR=false/\G5 HR=false/\G5 DW=false/\Bk U6=false/\G5 U6=false/\G5 Y8=true/\G5 FW=false/\G5 FX=false/\G5 Y2=false/\G5 L8=true/\G5 Y1=false/\G5 U3=false/\G5 ER=false:=by repeat' (first|rfl|constructor)
@[simp] theorem Pi:(B9 E7).raw=A8:=_root_.id rfl
@[simp] theorem dh:(B9 W9).raw=A8:=_root_.id rfl
@[simp] theorem Un:(B9 T7).raw=A8:=_root_.id rfl
@[simp] theorem Zt:(B9 L7).raw=A8:=_root_.id rfl
@[simp] theorem Wv:(B9 S9).raw=A8:=_root_.id rfl
@[simp] theorem ah:(B9 Q5).raw=A8:=_root_.id rfl
@[simp] theorem Xw:(B9 P2).raw=A8:=_root_.id rfl
@[simp] theorem aP:(B9 HO).raw=A8:=_root_.id rfl
@[simp] theorem gc:(B9 AZ).raw=A8:=_root_.id rfl
@[simp] theorem gb:(B9 EQ).raw=A8:=_root_.id rfl
@[simp] theorem dp:(B9 As).raw=A8:=_root_.id rfl
@[simp] theorem aQ:(B9 BM).raw=A8:=_root_.id rfl
@[simp] theorem dk:(B9 CM).raw=A8:=_root_.id rfl
@[simp] theorem af:(B9 J2).raw=A8:=_root_.id rfl
@[simp] theorem eZ:(B9 Em).raw=A8:=_root_.id rfl
@[simp] theorem Zv:(B9 i6).raw=A8:=_root_.id rfl
@[simp] theorem aY:(B9 s9).raw=A8:=_root_.id rfl
@[simp] theorem di:(B9 Ar).raw=A8:=_root_.id rfl
@[simp] theorem ak:(B9 u7).raw=A8:=_root_.id rfl
@[simp] theorem aU:(B9 Cn).raw=A8:=_root_.id rfl
@[simp] theorem ai:(B9 BQ).raw=A8:=_root_.id rfl
@[simp] theorem Xy:(B9 M2).raw=A8:=_root_.id rfl
@[simp] theorem dq:(B9 X1).raw=A8:=_root_.id rfl
@[simp] theorem Wx:(B9 Ab).raw=A8:=_root_.id rfl
@[simp] theorem Vd:(B9 D8).raw=A8:=_root_.id rfl
@[simp] theorem Vb:(B9 K8).raw=A8:=_root_.id rfl
@[simp] theorem Xx:(B9 o6).raw=A8:=_root_.id rfl
@[simp] theorem eu:(B9 Es).raw=A8:=_root_.id rfl
@[simp] theorem eo:(B9 Aa).raw=A8:=_root_.id rfl
@[simp] theorem dl:(B9 O6).raw=A8:=_root_.id rfl
@[simp] theorem dn:(B9 K0).raw=A8:=_root_.id rfl
@[simp] theorem Zp:(B9 i4).raw=A8:=_root_.id rfl
@[simp] theorem gh:(B9 Y5).raw=A8:=_root_.id rfl
@[simp] theorem Ww:(B9 T0).raw=A8:=_root_.id rfl
@[simp] theorem de:(B9 Aq).raw=A8:=_root_.id rfl
@[simp] theorem ef:(B9 DB).raw=A8:=_root_.id rfl
@[simp] theorem df:(B9 Q4).raw=A8:=_root_.id rfl
@[simp] theorem dg:(B9 Ft).raw=A8:=_root_.id rfl
@[simp] theorem aX:(B9 Y4).raw=A8:=_root_.id rfl
@[simp] theorem Zs:(B9 Dr).raw=A8:=_root_.id rfl
@[simp] theorem dj:(B9 X0).raw=A8:=_root_.id rfl
@[simp] theorem Zr:(B9 y8).raw=A8:=_root_.id rfl
@[simp] theorem eh:(B9 Eo).raw=A8:=_root_.id rfl
@[simp] theorem SV:(B9 I8).raw=A8:=_root_.id rfl
@[simp] theorem SW:(B9 V1).raw=A8:=_root_.id rfl
@[simp] theorem gp:(B9 Bi).raw=A8:=_root_.id rfl
@[simp] theorem gk:(B9 Cs).raw=A8:=_root_.id rfl
@[simp] theorem Wy:(B9 CX).raw=A8:=_root_.id rfl
@[simp] theorem dt:(B9 Dh).raw=A8:=_root_.id rfl
@[simp] theorem aj:(B9 J5).raw=A8:=_root_.id rfl
@[simp] theorem Xz:(B9 o7).raw=A8:=_root_.id rfl
@[simp] theorem dr:(B9 Dg).raw=A8:=_root_.id rfl
@[simp] theorem Va:(B9 F9).raw=A8:=_root_.id rfl
@[simp] theorem Ve:(B9 V7).raw=A8:=_root_.id rfl
@[simp] theorem Pj:(B9 D7).raw=A8:=_root_.id rfl
@[simp] theorem iq:(B9 u6).raw=A8:=_root_.id rfl
@[simp] theorem Su:(B9 Y6).raw=A8:=_root_.id rfl
@[simp] theorem SU:(B9 V0).raw=A8:=_root_.id rfl
@[simp] theorem Vc:(B9 V6).raw=A8:=_root_.id rfl
@[simp] theorem ek:(B9 l7).raw=A8:=_root_.id rfl
@[simp] theorem aW:(B9 Y3).raw=A8:=_root_.id rfl
@[simp] theorem ed:(B9 AY).raw=A8:=_root_.id rfl
@[simp] theorem Sv:(B9 Y7).raw=A8:=_root_.id rfl
@[simp] theorem Up:(B9 H3).raw=A8:=_root_.id rfl
@[simp] theorem Uo:(B9 H2).raw=A8:=_root_.id rfl
@[simp] theorem Zw:(B9 E6).raw=A8:=_root_.id rfl
@[simp] theorem Uq:(B9 H4).raw=A8:=_root_.id rfl
@[simp] theorem eg:(B9 En).raw=A8:=_root_.id rfl
@[simp] theorem ac:(B9 Cp).raw=A8:=_root_.id rfl
@[simp] theorem Zq:(B9 i5).raw=A8:=_root_.id rfl
@[simp] theorem Wu:(B9 Z8).raw=A8:=_root_.id rfl
@[simp] theorem aT:(B9 s8).raw=A8:=_root_.id rfl
@[simp] theorem gd:(B9 Ho).raw=A8:=_root_.id rfl
@[simp] theorem ew:(B9 Gh).raw=A8:=_root_.id rfl
@[simp] theorem NF:(B9 L9).raw=A8:=_root_.id rfl
@[simp] theorem aR:(B9 s6).raw=A8:=_root_.id rfl
@[simp] theorem YA:(B9 DD).raw=A8:=_root_.id rfl
@[simp] theorem Vf:(B9 R5).raw=A8:=_root_.id rfl
@[simp] theorem Zx:(B9 GQ).raw=A8:=_root_.id rfl
@[simp] theorem eq:(B9 Er).raw=A8:=_root_.id rfl
@[simp] theorem aZ:(B9 BO).raw=A8:=_root_.id rfl
@[simp] theorem aV:(B9 Co).raw=A8:=_root_.id rfl
@[simp] theorem da:(B9 Fs).raw=A8:=_root_.id rfl
@[simp] theorem dZ:(B9 Fq).raw=A8:=_root_.id rfl
@[simp] theorem gf:(B9 Bh).raw=A8:=_root_.id rfl
@[simp] theorem ez:(B9 X2).raw=A8:=_root_.id rfl
@[simp] theorem PJ:(B9 K7).raw=A8:=_root_.id rfl
@[simp] theorem aS:(B9 Cl).raw=A8:=_root_.id rfl
@[simp] theorem VZ:(B9 s7).raw=A8:=_root_.id rfl
@[simp] theorem ev:(B9 Ac).raw=A8:=_root_.id rfl
@[simp] theorem ae:(B9 Cq).raw=A8:=_root_.id rfl
@[simp] theorem Zu:(B9 CA).raw=A8:=_root_.id rfl
@[simp] theorem er:(B9 DC).raw=A8:=_root_.id rfl
@[simp] theorem db:(B9 n7).raw=A8:=_root_.id rfl
@[simp] theorem dY:(B9 n6).raw=A8:=_root_.id rfl
@[simp] theorem du:(B9 CN).raw=A8:=_root_.id rfl
@[simp] theorem dX:(B9 Fp).raw=A8:=_root_.id rfl
@[simp] theorem Ur:(B9 BE).raw=A8:=_root_.id rfl
@[simp] theorem ip:(B9 HP).raw=A8:=_root_.id rfl
@[simp] theorem ee:(B9 Gg).raw=A8:=_root_.id rfl
@[simp] theorem gn:(B9 GJ).raw=A8:=_root_.id rfl
@[simp] theorem QA:(B9 Z9).raw=A8:=_root_.id rfl
@[simp] theorem qy:A8 Fo=false/\A8 W9=false/\A8 T7=false/\A8 L7=false/\A8 S9=false/\A8 Q5=false/\A8 P2=false/\A8 HO=false/\A8 AZ=false/\A8 EQ=false/\A8 As=false/\A8 BM=false/\A8 CM=false/\A8 J2=false/\A8 Em=false/\A8 i6=false/\A8 s9=false/\A8 Iz=true/\A8 Ar=false/\A8 Iy=true/\A8 Ek=true/\A8 FY=true/\A8 Q7=true/\A8 DV=true/\A8 u7=false/\A8 Cj=true/\A8 Cn=false/\A8 BQ=false/\A8 M2=false/\A8 X1=false/\A8 Ab=false/\A8 D8=false/\A8 K8=false/\A8 o6=false/\A8 Es=false/\A8 Aa=false/\A8 O6=false/\A8 K0=false/\A8 i4=false/\A8 Y5=false/\A8 T0=true/\A8 Aq=false/\A8 DB=false/\A8 Q4=false/\A8 Ft=false/\A8 Ep=true/\A8 Fa=true/\A8 FZ=true/\A8 Y4=false/\A8 Dr=false:=by repeat' (first|rfl|constructor)
@[simp] theorem qz:A8 X0=false/\A8 y8=false/\A8 Eo=false/\A8 I8=false/\A8 Ck=true/\A8 V1=false/\A8 P6=true/\A8 Bi=false/\A8 Cs=false/\A8 CX=false/\A8 Dh=false/\A8 J5=false/\A8 o7=false/\A8 Dg=false/\A8 F9=true/\A8 V7=false/\A8 D7=false/\A8 u6=false/\A8 Y6=false/\A8 V0=false/\A8 V6=false/\A8 l7=false/\A8 Y3=false/\A8 AY=false/\A8 Y7=false/\A8 H3=true/\A8 H2=true/\A8 E6=false/\A8 H4=true/\A8 En=false/\A8 Cp=false/\A8 i5=false/\A8 Z8=false/\A8 s8=false/\A8 Ho=false/\A8 Gh=false/\A8 y7=false/\A8 S0=false/\A8 L9=false/\A8 s6=false/\A8 DD=false/\A8 R5=false/\A8 GQ=false/\A8 Er=false/\A8 BO=false/\A8 Co=false/\A8 Fs=false/\A8 Fq=false/\A8 Bh=false/\A8 DU=true:=by repeat' (first|rfl|constructor)
@[simp] theorem rA:A8 Ci=true/\A8 FV=false/\A8 Ei=true/\A8 P1=true/\A8 x4=true/\A8 l6=true/\A8 GP=false/\A8 X2=true/\A8 El=true/\A8 Bt=true/\A8 x5=false/\A8 GI=false/\A8 K7=false/\A8 Cl=false/\A8 s7=false/\A8 Ac=false/\A8 Cq=false/\A8 CA=false/\A8 DC=false/\A8 n7=false/\A8 n6=false/\A8 Au=false/\A8 Bp=true/\A8 Ao=true/\A8 HM=false/\A8 BK=true/\A8 Cr=false/\A8 IA=false/\A8 CS=true/\A8 l8=true/\A8 CN=false/\A8 BP=false/\A8 U7=true/\A8 DE=false/\A8 GK=true/\A8 Ds=true/\A8 HQ=true/\A8 Fp=false/\A8 BE=false/\A8 ES=false/\A8 HP=false/\A8 Gg=false/\A8 Fb=true/\A8 CY=true/\A8 JA=true/\A8 At=true/\A8 Bq=true/\A8 R4=true/\A8 Cm=true/\A8 M0=true:=by repeat' (first|rfl|constructor)
@[simp] theorem rB:A8 GJ=false/\A8 M7=true/\A8 I7=true/\A8 IB=true/\A8 Dx=true/\A8 U5=true/\A8 Z9=false/\A8 Y9=true/\A8 m8=true/\A8 G8=true/\A8 Q0=true/\A8 K9=true/\A8 N0=true/\A8 M1=true/\A8 D9=true/\A8 G6=true/\A8 J4=true/\A8 F6=true/\A8 N1=true/\A8 I5=true/\A8 K1=true/\A8 I9=true/\A8 D6=true/\A8 E8=true/\A8 H5=true/\A8 Dw=true/\A8 Ap=false/\A8 Br=false/\A8 Bs=false/\A8 N8=true/\A8 S1=true/\A8 m9=true/\A8 K6=true/\A8 l9=true/\A8 K3=true/\A8 S4=true/\A8 H9=true/\A8 H8=true/\A8 P3=true/\A8 Ej=true/\A8 N2=true/\A8 J3=true/\A8 M8=true/\A8 CT=true/\A8 Dt=true/\A8 DX=true/\A8 Fc=true/\A8 BN=false/\A8 GR=true/\A8 HR=true:=by repeat' (first|rfl|constructor)
@[simp] theorem rC:A8 DW=true/\A8 U6=true/\A8 Y8=true/\A8 FW=true/\A8 FX=true/\A8 Y2=true/\A8 HN=false/\A8 L8=true/\A8 Y1=true/\A8 U3=true:=by repeat' (first|rfl|constructor)
@[simp] def X (d a i:Nat):RO:=⟨some d,.ext (.t a) i,none⟩
@[simp] def P (d:Nat) (p:BinOp) (a:Nat) (n:Int):RO:=⟨some d,.bin p (.t a) (.c (.int .i64 n)),none⟩
@[simp] def oQ (d:Nat) (p:BinOp) (a b:Nat):RO:=⟨some d,.bin p (.t a) (.t b),none⟩
@[simp] def oR (d s z a b:Nat):RO:=⟨some d,.app s z (.t a) (.t b),none⟩
@[simp] def oS (d a b:Nat):RO:=⟨some d,.pick (.t a) (.c (.bool true)) (.t b),none⟩
@[simp] def k1 (d:Nat) (f:FuncId) (a:Nat):RO:=⟨some d,.call f [.t a],none⟩
@[simp] def k2 (d:Nat) (f:FuncId) (a b:Nat):RO:=⟨some d,.call f [.t a,.t b],none⟩
@[simp] def cX (a i:Nat):RCode:=.cond (.t a) .skip (.exit i)
@[simp] def cR (a:Nat) (l:List RO):RCode:=.cond (.t a) (.seq (.region false l) .ret) .skip
@[simp] def sG (l:List RO) (c:RCode):RCode:=.seq (.region false l) c
@[simp] def bT:AV:=.bool true
@[simp] def bF:AV:=.bool false
@[simp] def cT:Opd:=.c (.bool true)
@[simp] def cF:Opd:=.c (.bool false)
@[simp] def cI (n:Int):Opd:=.c (.int .i64 n)
@[simp] def cU (n:Int):Opd:=.c (.int .u8 n)
@[simp] def cS (l:List Nat):Opd:=.c (.str (bs l))
@[simp] def oY (d a b:Nat):RO:=⟨some d,.pick (.t a) (.t b) (.c (.bool false)),none⟩
@[simp] def pP (a b:Nat):ROp:=.pick (.t a) (.t b) (.c (.bool false))
@[simp] def pR (a b:Nat):ROp:=.pick (.t a) (.c (.bool true)) (.t b)
@[simp] def pX (n a:Nat) (k:Int):ROp:=.iaddr n (.t a) (.c (.int .i64 k))
@[simp] def pY (n a b:Nat):ROp:=.iaddr n (.t a) (.t b)
@[simp] def pC (p:BinOp) (a:Nat) (k:Int):ROp:=.bin p (.t a) (.c (.int .i64 k))
@[simp] def pD (p:BinOp) (a b:Nat):ROp:=.bin p (.t a) (.t b)
@[simp] def pE (p:BinOp) (a:Nat) (l:List Nat):ROp:=.bin p (.t a) (.c (.str (bs l)))
@[simp] def pU (p:BinOp) (a:Nat) (k:Int):ROp:=.bin p (.t a) (.c (.int .u8 k))
@[simp] def pN (a:Nat):ROp:=.len true (.t a)
@[simp] def pM (a:Nat):ROp:=.len false (.t a)
@[simp] def pJ (a b:Nat):ROp:=.idx (.t a) (.t b)
@[simp] def pK (a:Nat):ROp:=.nilck (.t a)
@[simp] def pO (a:Nat):ROp:=.un .not (.t a)
@[simp] def p1 (f:FuncId) (a:Nat):ROp:=.call f [.t a]
@[simp] def p2 (f:FuncId) (a b:Nat):ROp:=.call f [.t a,.t b]
@[simp] def pB (z:AV) (a:Nat):ROp:=.bslice 1 z [(0,.t a)]
@[simp] def pZ (z:AV):ROp:=.build z []
@[simp] def bL (b:Nat) (c:RCode):RCode:=.block b (.loop c)
@[simp] def bK (b:Nat) (c:RCode):RCode:=.block b c
@[simp] def sQ (a b:RCode):RCode:=.seq a b
@[simp] def sR (l:List RO):RCode:=.seq (.region false l) .ret
@[simp] def cD (a:Nat) (b c:RCode):RCode:=.cond (.t a) b c
@[simp] def fT (n a:Nat) (c:RCode):RFunc:=⟨n,[.tmp a],c⟩
@[simp] def fU (n a b:Nat) (c:RCode):RFunc:=⟨n,[.tmp a,.tmp b],c⟩
@[simp] def zv:AV:=.vs true 0 []
@[simp] def zs:AV:=.str (bs [])
@[simp] def z0:AV:=.agg [(pI 0),zs,(pI 0),zv]
@[simp] def z1:AV:=.agg [zs,zs,(pI 0),zs,(pI 0),zv,(pI 0)]
@[simp] def z2:AV:=.agg [(pI 0),zs,(pI 0),zs,(pI 0)]
@[simp] def z3:AV:=.agg [zs,zv,zv,zv,zv,zv]
@[simp] def z4:AV:=.agg [zs,zs,(pI 0)]
@[simp] def z5:AV:=.agg [zv,.nilm]
@[simp] def z6:AV:=.agg [(pI 0),zs,zs,zv,(pI 0)]
def J8:=(sG [E 117 116 115] (sQ (cX 117 8) (sQ (bK 9 (sG [V 118 116,V 18 118] (sG [A 120 6 1,V 121 18,k2 122 P2 120 121,V 119 122,X 123 119 0,X 124 119 1,V 19 123,V 20 124] (sG [A 126 6 14,V 127 18,k2 128 P2 126 127,V 125 128,X 129 125 0,X 130 125 1,V 21 129,V 22 130] (sQ (sG [V 131 20,P 132 .neq 131 0,V 133 132,H 134 133 (pV 22),H 135 133 (pC .neq 134 0),oS 136 133 135] (cR 136 [C 2 bF])) (rG [V 137 17,V 138 137,G 139 138 (pV 19),G 140 138 (pV 21),G 141 138 (p2 S9 139 140),oY 142 138 141,V 17 142])))))) (rG [J 143 116,V 116 143]))))
def O0:=(sG [E 99 98 97] (sQ (cX 99 6) (sQ (bK 7 (sG [oI 100 1 96 98,L 101 100,V 16 101] (rD [F 102 4 14,L 103 102,F 104 4 1,L 105 104,V 106 16,oI 107 7 105 106,A 108 7 107,O 109 (pB z1 108),oR 110 7 96 103 109,F 111 4 14,W 1 111 110]))) (rG [J 112 98,V 98 112]))))
def O1:=(sG [E 91 90 89] (sQ (cX 91 4) (sQ (bK 5 (sG [oI 92 1 88 90,L 93 92,V 13 93] (sG [A 94 6 1,oZ 14 z3,W 6 14 94] (sG [F 95 4 14,⟨none,(.st 1 (.t 95) (.c zv)),none⟩] (sQ (sG [V 96 13,N 97 96,C 98 (pI 0)] (bL 6 O0)) (sG [C 17 bT] (sQ (sG [F 113 1 1,L 114 113,N 115 114,C 116 (pI 0)] (bL 8 J8)) (rG [V 144 8,V 145 144,H 146 145 (pV 17),H 147 145 (pV 146),G 148 147 (pF 4 1),G 149 147 (pL 148),G 150 147 (pF 4 14),G 151 147 (pL 150),G 152 147 (p2 S9 149 151),G 153 147 (pO 152),H 154 145 (pP 147 153),oS 155 145 154,V 8 155])))))))) (rG [J 156 90,V 90 156]))))
def J9:=(sG [E 65 64 63] (sQ (cX 65 2) (sQ (bK 3 (sG [V 66 64,V 11 66] (rD [V 67 9,V 68 67,H 69 68 (pF 4 5),H 70 68 (pL 69),H 71 68 (pV 10),H 72 68 (pV 10),H 73 68 (pC .add 72 1),H 74 68 (.slc 7 (.t 70) (some (.t 71)) (some (.t 73)) none),H 75 68 (pF 4 5),H 76 68 (pL 75),H 77 68 (pV 11),H 78 68 (pV 11),H 79 68 (pC .add 78 1),H 80 68 (.slc 7 (.t 76) (some (.t 77)) (some (.t 79)) none),H 81 68 (p2 S9 74 80),oS 82 68 81,V 9 82]))) (rG [J 83 64,V 64 83]))))
def O2:=(sG [E 61 60 59] (sQ (cX 61 0) (sQ (bK 1 (sG [V 62 60,V 10 62] (sG [V 63 10,C 64 (pI 0)] (bL 2 J9)))) (rG [J 84 60,V 60 84]))))
def C7:=fT 167 2 (sG [B 1 0,C 2 bF] (sQ (sG [oK 23 Fo [],oU 24 23,V 25 24,H 26 25 (pA 6 1),H 27 25 (p1 W9 26),H 28 25 (pO 27),oS 29 25 28,V 30 29,H 31 30 (pF 4 1),H 32 30 (pL 31),H 33 30 (pM 32),H 34 30 (pC .gtr 33 5),oS 35 30 34] (cD 35 (sR [oK 36 Fo [],V 2 36]) .skip)) (sG [A 38 6 1,k1 39 T7 38,V 37 39,X 40 37 0,X 41 37 1,V 3 40,V 4 41] (sG [A 43 6 1,k1 44 L7 43,V 42 44,X 45 42 0,X 46 42 1,X 47 42 2,oZ 5 z3,W 6 5 45,V 6 46,V 7 47] (sQ (sG [V 48 4,P 49 .neq 48 0,V 50 49,H 51 50 (pV 7),H 52 50 (pC .neq 51 0),oS 53 50 52] (cR 53 [V 54 4,V 55 7,oQ 56 .eql 54 55,V 2 56])) (sG [C 8 bF,C 9 bF] (sQ (sG [F 57 4 5,L 58 57,N 59 58,C 60 (pI 0)] (bL 0 O2)) (sQ (sG [F 85 4 5,L 86 85,N 87 86,k1 88 Q5 87,N 89 88,C 90 (pI 0)] (bL 4 O1)) (sR [V 157 3,V 158 8,O 159 (.beq true (.t 157) (.t 158)),V 160 159,H 161 160 (pV 9),H 162 160 (pV 161),G 163 162 (pV 3),G 164 162 (pO 163),H 165 160 (pP 162 164),oS 166 160 165,V 2 166])))))))))
def CC:=(sQ (sG [V 37 5,F 38 5 1,L 39 38,N 40 39,E 41 37 40] (cX 41 2)) (sQ (bK 3 (rG [V 44 3,F 45 5 1,L 46 45,V 47 5,oI 48 5 46 47,F 49 3 48,L 50 49,oR 51 4 56 44 50,V 3 51])) (rG [V 42 5,J 43 42,V 5 43])))
def CD:=(sQ (sG [V 21 4,F 22 4 1,L 23 22,N 24 23,E 25 21 24] (cX 25 0)) (sQ (bK 1 (rG [V 28 3,F 29 4 1,L 30 29,V 31 4,oI 32 7 30 31,F 33 2 32,A 34 4 33,O 35 (pB z0 34),oR 36 4 56 28 35,V 3 36])) (rG [V 26 4,J 27 26,V 4 27])))
def CP:=fT 54 2 (sG [B 1 0,C 2 bF] (sQ (sG [A 6 6 1,k1 7 AZ 6,oU 8 7,V 9 8,H 10 9 (pF 4 1),H 11 9 (pL 10),H 12 9 (pM 11),H 13 9 (pC .gtr 12 5),oS 14 9 13,V 15 14,H 16 15 (pF 5 1),H 17 15 (pL 16),H 18 15 (pM 17),H 19 15 (pC .gtr 18 5),oS 20 15 19] (cR 20 [C 2 bF])) (sG [C 3 zv] (sQ (sG [C 4 (pI 0)] (bL 0 CD)) (sQ (sG [C 5 (pI 0)] (bL 2 CC)) (sR [V 52 3,oK 53 EQ [(.t 52),(cI 25),(cI 60)],V 2 53]))))))
def V2:=(sQ (sG [V 17 6,F 18 4 1,L 19 18,N 20 19,E 21 17 20] (cX 21 0)) (sQ (bK 1 (sQ (.regd [0,1,0,4,15,31,0,64,0,448,960,0,0,6207,16383] [F 24 4 1,L 25 24,V 26 6,P 27 .sub 26 1,oI 28 7 25 27,A 29 7 28,F 30 4 1,L 31 30,V 32 6,oI 33 7 31 32,A 34 7 33,O 7 (.allocAt 2 z1),O 8 (.allocAt 1 z1),W 7 7 29,W 7 8 34]) (sG [A 35 7 8,F 36 0 7,L 37 36,k2 38 BM 35 37,oU 39 38,V 40 39,G 41 40 (pA 7 8),G 42 40 (pF 1 7),G 43 40 (pL 42),G 44 40 (p2 BM 41 43),G 45 40 (pO 44),oY 46 40 45] (cR 46 [C 2 bF,C 3 (pI 0)])))) (rG [V 22 6,J 23 22,V 6 23])))
def T8:=fU 47 2 3 (sG [B 1 0,C 2 bF,C 3 (pI 0)] (sQ (sG [A 10 6 1,k1 11 As 10,V 9 11,X 12 9 0,X 13 9 1,V 4 12,V 5 13] (sG [V 14 5,P 15 .neq 14 0] (cR 15 [V 16 5,C 2 bF,V 3 16]))) (sQ (sG [C 6 (pI 1)] (bL 0 V2)) (sR [C 2 bT,C 3 (pI 0)]))))
def Ah:=(sQ (sG [V 62 12,F 63 5 1,L 64 63,V 65 10,oI 66 5 64 65,F 67 3 66,L 68 67,N 69 68,E 70 62 69] (cX 70 4)) (sQ (bK 5 (rD [F 73 3 11,L 74 73,A 75 6 1,F 76 5 1,L 77 76,V 78 10,oI 79 5 77 78,F 80 3 79,L 81 80,V 82 12,oI 83 4 81 82,A 84 4 83,k2 85 J2 75 84,O 86 (pB z0 85),oR 87 4 56 74 86,F 88 3 11,W 1 88 87])) (rG [V 71 12,J 72 71,V 12 72])))
def Ai:=(sQ (sG [V 49 10,F 50 5 1,L 51 50,N 52 51,E 53 49 52] (cX 53 2)) (sQ (bK 3 (sG [F 56 5 1,L 57 56,V 58 10,oI 59 5 57 58,A 60 5 59,oZ 11 z6,W 5 11 60] (sG [F 61 3 11,⟨none,(.st 1 (.t 61) (.c zv)),none⟩] (sQ (sG [C 12 (pI 0)] (bL 4 Ah)) (rG [F 89 5 7,L 90 89,A 91 5 11,O 92 (pB z6 91),oR 93 5 72 90 92,F 94 5 7,W 1 94 93]))))) (rG [V 54 10,J 55 54,V 10 55])))
def Aj:=(sQ (sG [V 26 8,F 27 4 1,L 28 27,N 29 28,E 30 26 29] (cX 30 0)) (sQ (bK 1 (sG [F 33 4 1,L 34 33,V 35 8,oI 36 7 34 35,A 37 7 36,oZ 9 z1,W 7 9 37] (sG [A 38 6 1,F 39 2 9,A 40 4 39,k2 41 J2 38 40,F 42 2 9,W 4 42 41] (rG [F 43 4 7,L 44 43,A 45 7 9,O 46 (pB z1 45),oR 47 7 96 44 46,F 48 4 7,W 1 48 47])))) (rG [V 31 8,J 32 31,V 8 32])))
def AF:RFunc:=⟨96,[(.cell 2 true 6),(.tmp 3),(.tmp 4)],(sG [B 1 0,oZ 2 z3,C 3 (pI 0),C 4 (pI 0)] (sQ (sG [A 14 6 1,k1 15 CM 14,V 13 15,X 16 13 0,X 17 13 1,V 5 16,V 6 17] (sG [V 18 6,P 19 .neq 18 0] (cD 19 (sR [O 20 (pZ z3),V 21 5,V 22 6,W 6 2 20,V 3 21,V 4 22]) .skip))) (sG [A 23 6 1,oZ 7 z3,W 6 7 23] (sG [F 24 4 7,⟨none,(.st 1 (.t 24) (.c zv)),none⟩,F 25 5 7,⟨none,(.st 1 (.t 25) (.c zv)),none⟩] (sQ (sG [C 8 (pI 0)] (bL 0 Aj)) (sQ (sG [C 10 (pI 0)] (bL 2 Ai)) (sR [A 95 6 7,W 6 2 95,C 3 (pI 0),C 4 (pI 0)])))))))⟩
def M5:=(sQ (sG [V 11 5,V 12 0,N 13 12,E 14 11 13] (cX 14 0)) (sQ (bK 1 (sQ (rD [V 17 0,V 18 5,oI 19 7 17 18,F 20 0 19,L 21 20,V 22 1,V 23 5,oI 24 7 22 23,F 25 0 24,L 26 25,oQ 27 .neq 21 26,V 28 27,H 29 28 (pV 0),H 30 28 (pV 5),H 31 28 (pY 7 29 30),H 32 28 (pF 1 31),H 33 28 (pL 32),H 34 28 (pV 1),H 35 28 (pV 5),H 36 28 (pY 7 34 35),H 37 28 (pF 1 36),H 38 28 (pL 37),H 39 28 (pD .neq 33 38),oS 40 28 39,V 41 40,H 42 41 (pV 0),H 43 41 (pV 5),H 44 41 (pY 7 42 43),H 45 41 (pF 2 44),H 46 41 (pA 4 45),H 47 41 (pV 1),H 48 41 (pV 5),H 49 41 (pY 7 47 48),H 50 41 (pF 2 49),H 51 41 (pA 4 50),H 52 41 (p2 Em 46 51),H 53 41 (pO 52),oS 54 41 53]) (cR 54 [C 4 bF]))) (rG [V 15 5,J 16 15,V 5 16])))
def a8:=fT 55 4 (sG [C 4 bF] (sQ (sG [V 6 0,N 7 6,V 8 1,N 9 8,oQ 10 .neq 7 9] (cR 10 [C 4 bF])) (sQ (sG [C 5 (pI 0)] (bL 0 M5)) (sR [C 4 bT]))))
def BZ:=(sQ (sG [V 21 6,V 22 0,E 23 21 22] (cX 23 2)) (sQ (bK 3 (sG [O 26 (.bslice 0 (pI 0) []),V 27 4,V 28 5,oI 29 1 27 28,L 30 29,V 31 6,O 32 (.slc 1 (.t 30) none (some (.t 31)) none),oR 33 1 8 26 32,V 7 33] (.regd [0,0,0,4,12,30,0,0,192,448,0,1984,4094,8190,16383,32767] [V 34 3,V 35 7,V 36 0,P 37 .sub 36 1,O 38 (.bslice 1 (pI 0) [(0,(.t 37))]),oR 39 1 8 35 38,V 40 4,V 41 5,oI 42 1 40 41,L 43 42,V 44 6,O 45 (.slc 1 (.t 43) (some (.t 44)) none none),oR 46 1 8 39 45,O 47 (pB zv 46),oR 48 1 24 34 47,V 3 48]))) (rG [V 24 6,J 25 24,V 6 25])))
def Ba:=(sQ (sG [V 15 5,V 16 4,N 17 16,E 18 15 17] (cX 18 0)) (sQ (bK 1 (sG [C 6 (pI 0)] (bL 2 BZ))) (rG [V 19 5,J 20 19,V 5 20])))
def BY:=fT 50 2 (sG [C 2 zv] (sQ (sG [V 8 0,P 9 .eql 8 0] (cD 9 (sR [O 10 (.bslice 0 (pI 0) []),O 11 (pB zv 10),V 2 11]) .skip)) (sG [C 3 zv] (sG [V 12 0,P 13 .sub 12 1,k1 14 Q5 13,V 4 14] (sQ (sG [C 5 (pI 0)] (bL 0 Ba)) (sR [V 49 3,V 2 49]))))))
def V8:=(sG [E 34 33 32] (sQ (cX 34 0) (sQ (bK 1 (sG [oI 35 7 31 33,A 36 7 35,oZ 11 z1,W 7 11 36] (sQ (rD [A 37 7 11,F 38 1 2,L 39 38,V 40 1,oI 41 1 39 40,L 42 41,k2 43 BM 37 42]) (cD 43 (rG [V 44 9,A 45 7 11,O 46 (pB z1 45),oR 47 7 96 44 46,V 9 47]) .skip)))) (rG [J 48 33,V 33 48]))))
def H7:=fU 50 4 5 (sG [B 2 0,C 4 zv,C 5 (pI 0)] (sG [A 13 6 2,k1 14 i6 13,V 12 14,X 15 12 0,X 16 12 1,X 17 12 2,oZ 6 z3,W 6 6 15,V 7 16,V 8 17] (sQ (sG [V 18 8,P 19 .neq 18 0] (cR 19 [V 20 8,C 4 zv,V 5 20])) (sQ (sG [V 21 1,P 22 .lss 21 0,V 23 22,H 24 23 (pV 1),H 25 23 (pF 1 2),H 26 23 (pL 25),H 27 23 (pM 26),H 28 23 (pD .geq 24 27),oS 29 23 28] (cR 29 [C 4 zv,C 5 (pI 7)])) (sG [C 9 zv] (sQ (sG [F 30 4 6,L 31 30,N 32 31,C 33 (pI 0)] (bL 0 V8)) (sR [V 49 9,V 4 49,C 5 (pI 0)])))))))
def Dl:=(sQ (sG [V 50 5,F 51 5 1,L 52 51,N 53 52,E 54 50 53] (cX 54 2)) (sQ (bK 3 (rG [V 57 3,F 58 5 1,L 59 58,V 60 5,oI 61 5 59 60,F 62 3 61,L 63 62,oR 64 4 56 57 63,V 3 64])) (rG [V 55 5,J 56 55,V 5 56])))
def Dm:=(sQ (sG [V 34 4,F 35 4 1,L 36 35,N 37 36,E 38 34 37] (cX 38 0)) (sQ (bK 1 (rG [V 41 3,F 42 4 1,L 43 42,V 44 4,oI 45 7 43 44,F 46 2 45,A 47 4 46,O 48 (pB z0 47),oR 49 4 56 41 48,V 3 49])) (rG [V 39 4,J 40 39,V 4 40])))
def Bn:=fT 67 2 (sG [B 1 0,C 2 bF] (sQ (sG [F 6 1 1,L 7 6,N 8 7,P 9 .gtr 8 16,V 10 9,H 11 10 (pF 2 1),H 12 10 (pL 11),H 13 10 (pM 12),H 14 10 (pC .gtr 13 16),oS 15 10 14,V 16 15,H 17 16 (pF 3 1),H 18 16 (pL 17),H 19 16 (pM 18),H 20 16 (pC .gtr 19 16),oS 21 16 20,V 22 21,H 23 22 (pF 4 1),H 24 22 (pL 23),H 25 22 (pM 24),H 26 22 (pC .gtr 25 16),oS 27 22 26,V 28 27,H 29 28 (pF 5 1),H 30 28 (pL 29),H 31 28 (pM 30),H 32 28 (pC .gtr 31 16),oS 33 28 32] (cR 33 [C 2 bF])) (sG [C 3 zv] (sQ (sG [C 4 (pI 0)] (bL 0 Dm)) (sQ (sG [C 5 (pI 0)] (bL 2 Dl)) (sR [V 65 3,oK 66 EQ [(.t 65),(cI 100),(cI 900)],V 2 66]))))))
def Fz:=(sQ (sG [V 12 7,V 13 0,N 14 13,E 15 12 14] (cX 15 0)) (sQ (bK 1 (sG [V 18 0,V 19 7,oI 20 4 18 19,A 21 4 20,V 22 2,k2 23 Cn 21 22,V 2 23] (sG [V 24 2,P 25 .lss 24 0] (cR 25 [C 6 bF])))) (rG [V 16 7,J 17 16,V 7 17])))
def Hq:=fT 26 6 (sG [C 6 bF] (sQ (sG [V 8 0,N 9 8,V 10 1,oQ 11 .gtr 9 10] (cR 11 [C 6 bF])) (sQ (sG [C 7 (pI 0)] (bL 0 Fz)) (sR [C 6 bT]))))
def AJ:=(sG [E 54 53 52] (sQ (cX 54 2) (sQ (bK 3 (sG [oI 55 5 51 53,A 56 5 55,oZ 11 z6,W 5 11 56] (sG [A 57 2 6,A 58 5 11,k2 59 K8 57 58,V 12 59] (sG [V 60 12,P 61 .neq 60 0] (cR 61 [F 62 4 11,L 63 62,V 64 12,V 2 63,V 3 64]))))) (rG [J 65 53,V 53 65]))))
def i8:=(sG [E 29 28 27] (sQ (cX 29 0) (sQ (bK 1 (sG [oI 30 7 26 28,A 31 7 30,oZ 8 z1,W 7 8 31] (sG [A 32 2 6,F 33 0 8,L 34 33,F 35 1 8,L 36 35,oK 37 Ab [(.t 32),(.t 34),(.t 36)],V 9 37] (sQ (sG [V 38 9,P 39 .eql 38 0] (cD 39 (rG [A 40 2 6,F 41 2 8,A 42 4 41,k2 43 D8 40 42,V 9 43]) .skip)) (sG [V 44 9,P 45 .neq 44 0] (cR 45 [F 46 6 8,L 47 46,V 48 9,V 2 47,V 3 48])))))) (rG [J 49 28,V 28 49]))))
def Do:=fU 66 2 3 (sG [B 1 0,C 2 (pI 0),C 3 (pI 0)] (sQ (sG [A 13 6 1,k1 14 BQ 13,V 4 14] (sG [V 15 4,P 16 .neq 15 0] (cR 16 [V 17 4,C 2 (pI 0),V 3 17]))) (sQ (sG [A 18 6 1,k1 19 M2 18,V 5 19] (sG [V 20 5,P 21 .neq 20 0] (cR 21 [V 22 5,C 2 (pI 0),V 3 22]))) (sG [A 23 6 1,k1 24 X1 23,oZ 6 z5,W 2 6 24] (sQ (sG [F 25 4 1,L 26 25,N 27 26,C 28 (pI 0)] (bL 0 i8)) (sQ (sG [F 50 5 1,L 51 50,N 52 51,C 53 (pI 0)] (bL 2 AJ)) (sR [C 2 (pI 0),C 3 (pI 0)])))))))
def T3:=fT 15 4 (sG [B 2 0,C 4 bF] (sR [F 5 0 2,L 6 5,V 7 1,oQ 8 .eql 6 7,V 9 8,H 10 9 (pF 1 2),H 11 9 (pL 10),H 12 9 (pV 1),H 13 9 (pD .eql 11 12),oS 14 9 13,V 4 14]))
def AD:=(sQ (sG [V 43 8,F 44 5 1,L 45 44,N 46 45,E 47 43 46] (cX 47 2)) (sQ (bK 3 (sQ (rD [A 50 6 1,F 51 5 1,L 52 51,V 53 8,oI 54 5 52 53,A 55 5 54,k2 56 Aa 50 55,V 9 56]) (sG [V 57 9,P 58 .neq 57 0] (cR 58 [F 59 5 1,L 60 59,V 61 8,oI 62 5 60 61,F 63 4 62,L 64 63,V 65 9,V 2 64,V 3 65])))) (rG [V 48 8,J 49 48,V 8 49])))
def AE:=(sQ (sG [V 20 6,F 21 4 1,L 22 21,N 23 22,E 24 20 23] (cX 24 0)) (sQ (bK 1 (sQ (rD [A 27 6 1,F 28 4 1,L 29 28,V 30 6,oI 31 7 29 30,A 32 7 31,k2 33 Es 27 32,V 7 33]) (sG [V 34 7,P 35 .neq 34 0] (cR 35 [F 36 4 1,L 37 36,V 38 6,oI 39 7 37 38,F 40 6 39,L 41 40,V 42 7,V 2 41,V 3 42])))) (rG [V 25 6,J 26 25,V 6 26])))
def Dn:=fU 66 2 3 (sG [B 1 0,C 2 (pI 0),C 3 (pI 0)] (sQ (sG [A 10 6 1,k1 11 Ar 10,V 4 11] (sG [V 12 4,P 13 .neq 12 0] (cR 13 [V 14 4,C 2 (pI 0),V 3 14]))) (sQ (sG [A 15 6 1,k1 16 o6 15,V 5 16] (sG [V 17 5,P 18 .neq 17 0] (cR 18 [V 19 5,C 2 (pI 0),V 3 19]))) (sQ (sG [C 6 (pI 0)] (bL 0 AE)) (sQ (sG [C 8 (pI 0)] (bL 2 AD)) (sR [C 2 (pI 0),C 3 (pI 0)]))))))
def BX:=(sQ (sG [V 25 8,F 26 3 3,L 27 26,N 28 27,E 29 25 28] (cX 29 0)) (sQ (bK 1 (rD [V 32 7,A 33 6 2,F 34 3 3,L 35 34,V 36 8,oI 37 4 35 36,A 38 4 37,k2 39 J2 33 38,O 40 (pB z0 39),oR 41 4 56 32 40,V 7 41])) (rG [V 30 8,J 31 30,V 8 31])))
def FG:RFunc:=⟨45,[(.cell 4 true 4)],(sG [B 2 0,B 3 1,oZ 4 z0] (sQ (sG [F 9 0 3,L 10 9,P 11 .eql 10 2] (cD 11 (sG [A 13 6 2,k1 14 O6 13,V 12 14,X 15 12 0,X 16 12 1,V 5 15,V 6 16] (rG [V 17 6,V 18 5,F 19 1 3,L 20 19,k2 21 K0 18 20,oI 22 1 17 21,L 23 22,F 24 2 3,W 1 24 23])) .skip)) (sG [C 7 zv] (sQ (sG [C 8 (pI 0)] (bL 0 BX)) (sG [V 42 7,F 43 3 3,W 1 43 42] (sR [A 44 4 3,W 4 4 44]))))))⟩
def JN:=fT 9 4 (sG [B 2 0,B 3 1,C 4 bF] (sR [A 5 4 2,A 6 4 3,k2 7 i4 5 6,P 8 .eql 7 0,V 4 8]))
def AK:RFunc:=⟨23,[(.cell 2 true 6),(.tmp 3),(.tmp 4)],(sG [B 1 0,oZ 2 z3,C 3 (pI 0),C 4 (pI 0)] (sQ (sG [A 9 6 1,k1 10 As 9,V 8 10,X 11 8 0,X 12 8 1,V 5 11,V 6 12] (sG [V 13 6,P 14 .neq 13 0] (cD 14 (sR [O 15 (pZ z3),V 16 5,V 17 6,W 6 2 15,V 3 16,V 4 17]) .skip))) (sG [A 18 6 1,k1 19 X1 18,oZ 7 z5,W 2 7 19] (sR [A 20 6 1,O 21 (.clos T0 [(.t 7)]),k2 22 Y5 20 21,W 6 2 22,C 3 (pI 0),C 4 (pI 0)]))))⟩
def V9:=(sQ (sG [V 28 8,O 29 (pN 28),P 30 .gtr 29 0] (cX 30 2)) (bK 3 (sQ (sG [V 31 8,O 32 (.idx (.t 31) (cI 0)),k1 33 Q4 32,P 34 .eql 33 1] (cD 34 (sG [V 35 8,O 36 (.slc 0 (.t 35) (some (cI 1)) none none),V 8 36] (.exit 3)) .skip)) (sG [V 38 8,V 39 7,J 40 39,k2 41 Ft 38 40,V 37 41,X 42 37 0,X 43 37 1,X 44 37 2,oZ 9 z2,W 5 9 42,V 10 43,V 11 44] (sQ (sG [V 45 11,P 46 .neq 45 0] (cR 46 [V 47 7,J 48 47,V 49 11,C 2 zv,V 3 48,V 4 49])) (sG [V 50 5,A 51 5 9,O 52 (pB z2 51),oR 53 5 56 50 52,V 5 53] (rG [V 54 8,V 55 10,O 56 (.slc 0 (.t 54) (some (.t 55)) none none),V 8 56])))))))
def BT:=(sQ (sG [V 17 7,V 18 6,N 19 18,E 20 17 19] (cX 20 0)) (sQ (bK 1 (sG [V 23 6,V 24 7,oI 25 1 23 24,L 26 25,k1 27 DB 26,V 8 27] (bL 2 V9))) (rG [V 21 7,J 22 21,V 7 22])))
def FD:RFunc:=⟨58,[(.tmp 2),(.tmp 3),(.tmp 4)],(sG [C 2 zv,C 3 (pI 0),C 4 (pI 0)] (sQ (sG [V 12 0,O 13 (pN 12),P 14 .gtr 13 65536] (cR 14 [C 2 zv,C 3 (pI 0),C 4 (pI 3)])) (sG [C 5 zv] (sG [V 15 0,k1 16 Aq 15,V 6 16] (sQ (sG [C 7 (pI 0)] (bL 0 BT)) (sR [V 57 5,V 2 57,C 3 (pI 0),C 4 (pI 0)]))))))⟩
def AB:=(sQ (sG [V 91 8,F 92 5 1,L 93 92,N 94 93,E 95 91 94] (cX 95 4)) (sQ (bK 5 (sG [F 98 5 1,L 99 98,V 100 8,oI 101 5 99 100,A 102 5 101,k1 103 Eo 102,V 9 103] (sG [V 104 9,P 105 .neq 104 0] (cR 105 [V 106 9,V 2 106])))) (rG [V 96 8,J 97 96,V 8 97])))
def i7:=(sQ (sG [V 59 6,F 60 4 1,L 61 60,N 62 61,E 63 59 62] (cX 63 2)) (sQ (bK 3 (sQ (sQ (rD [F 66 4 1,L 67 66,V 68 6,oI 69 7 67 68,F 70 0 69,L 71 70,F 72 4 1,L 73 72,V 74 6,oI 75 7 73 74,F 76 1 75,L 77 76,O 78 (.bslice 2 zs [(0,(.t 71)),(1,(.t 77))]),k1 79 X0 78,oU 80 79]) (cR 80 [C 2 (pI 2)])) (sG [F 81 4 1,L 82 81,V 83 6,oI 84 7 82 83,F 85 2 84,A 86 4 85,k1 87 y8 86,V 7 87] (sG [V 88 7,P 89 .neq 88 0] (cR 89 [V 90 7,V 2 90]))))) (rG [V 64 6,J 65 64,V 6 65])))
def R2:=(sQ (sG [V 23 4,F 24 2 1,L 25 24,N 26 25,E 27 23 26] (cX 27 0)) (sQ (bK 1 (sG [F 30 2 1,L 31 30,V 32 4,oI 33 3 31 32,A 34 3 33,oZ 5 z4,W 3 5 34] (sQ (sG [F 35 0 5,L 36 35,F 37 1 5,L 38 37,O 39 (.bslice 2 zs [(0,(.t 36)),(1,(.t 38))]),k1 40 X0 39,oU 41 40] (cR 41 [C 2 (pI 2)])) (sG [F 42 2 5,L 43 42,P 44 .neq 43 2,V 45 44,G 46 45 (pF 2 5),G 47 45 (pL 46),G 48 45 (pC .neq 47 3),oY 49 45 48,V 50 49,G 51 50 (pF 2 5),G 52 50 (pL 51),G 53 50 (pC .neq 52 4),oY 54 50 53] (cR 54 [C 2 (pI 10)]))))) (rG [V 28 4,J 29 28,V 4 29])))
def CQ:=fT 107 2 (sG [B 1 0,C 2 (pI 0)] (sQ (sG [F 10 0 1,L 11 10,k1 12 Y4 11,oU 13 12] (cR 13 [C 2 (pI 2)])) (sQ (sG [A 14 6 1,k1 15 Dr 14,V 3 15] (sG [V 16 3,P 17 .neq 16 0] (cR 17 [V 18 3,V 2 18]))) (sQ (sG [F 19 1 1,L 20 19,k1 21 X0 20,oU 22 21] (cR 22 [C 2 (pI 2)])) (sQ (sG [C 4 (pI 0)] (bL 0 R2)) (sQ (sG [F 55 3 1,L 56 55,k1 57 X0 56,oU 58 57] (cR 58 [C 2 (pI 2)])) (sQ (sG [C 6 (pI 0)] (bL 2 i7)) (sQ (sG [C 8 (pI 0)] (bL 4 AB)) (sR [C 2 (pI 0)])))))))))
def Bd:=(sQ (sG [V 42 5,P 43 .eql 42 0,V 44 43,G 45 44 (pV 6),G 46 44 (pF 3 2),G 47 44 (pL 46),G 48 44 (pM 47),G 49 44 (pD .lss 45 48),oY 50 44 49] (cX 50 0)) (sQ (bK 1 (rD [F 53 3 2,L 54 53,V 55 6,oI 56 4 54 55,A 57 4 56,F 58 3 3,L 59 58,V 60 6,oI 61 4 59 60,A 62 4 61,k2 63 u7 57 62,V 5 63])) (rG [V 51 6,J 52 51,V 6 52])))
def Hf:=fT 65 4 (sG [B 2 0,B 3 1,C 4 (pI 0)] (sQ (rD [A 7 4 2,k1 8 Cs 7,A 9 4 3,k1 10 Cs 9,k2 11 Bi 8 10,V 5 11]) (sQ (sG [V 12 5,P 13 .eql 12 0] (cD 13 (rG [F 14 0 2,L 15 14,F 16 0 3,L 17 16,k2 18 Bi 15 17,V 5 18]) .skip)) (sQ (sG [V 19 5,P 20 .eql 19 0] (cD 20 (rG [F 21 1 2,L 22 21,F 23 1 3,L 24 23,k2 25 CX 22 24,V 5 25]) .skip)) (sQ (sG [V 26 5,P 27 .eql 26 0] (cD 27 (rG [F 28 2 2,L 29 28,F 30 2 3,L 31 30,k2 32 Bi 29 31,V 5 32]) .skip)) (sQ (sG [V 33 5,P 34 .eql 33 0] (cD 34 (rG [F 35 3 2,L 36 35,N 37 36,F 38 3 3,L 39 38,N 40 39,k2 41 Bi 37 40,V 5 41]) .skip)) (sQ (sG [C 6 (pI 0)] (bL 0 Bd)) (sR [V 64 5,V 4 64]))))))))
def DJ:=(sQ (sG [V 16 5,F 17 3 2,L 18 17,N 19 18,E 20 16 19] (cX 20 0)) (sQ (bK 1 (sG [F 23 3 2,L 24 23,V 25 5,oI 26 4 24 25,A 27 4 26,V 28 1,k2 29 Cn 27 28,V 1 29] (sG [V 30 1,P 31 .lss 30 0] (cR 31 [C 4 (.int .i64 (-1))])))) (rG [V 21 5,J 22 21,V 5 22])))
def Cw:=fT 33 4 (sG [B 2 0,C 4 (pI 0)] (sQ (sG [V 6 1,P 7 .leq 6 0,V 8 7,H 9 8 (pF 1 2),H 10 8 (pL 9),H 11 8 (pN 10),H 12 8 (pC .gtr 11 40),oS 13 8 12] (cR 13 [C 4 (.int .i64 (-1))])) (sG [V 14 1,P 15 .sub 14 1,V 1 15] (sQ (sG [C 5 (pI 0)] (bL 0 DJ)) (sR [V 32 1,V 4 32])))))
def r6:=(sG [E 41 40 39] (sQ (cX 41 2) (sQ (bK 3 (sG [oI 42 5 38 40,A 43 5 42,oZ 8 z6,W 5 8 43] (sG [A 44 5 8,k1 45 Dg 44,V 9 45] (sG [V 46 9,P 47 .neq 46 0] (cR 47 [V 48 9,V 2 48]))))) (rG [J 49 40,V 40 49]))))
def S3:=(sG [E 19 18 17] (sQ (cX 19 0) (sQ (bK 1 (sG [oI 20 7 16 18,A 21 7 20,oZ 5 z1,W 7 5 21] (sQ (sG [F 22 0 5,L 23 22,k1 24 J5 23,V 25 24,H 26 25 (pF 1 5),H 27 25 (pL 26),H 28 25 (p1 J5 27),oS 29 25 28] (cR 29 [C 2 (pI 2)])) (sG [F 30 2 5,A 31 4 30,k1 32 o7 31,V 6 32] (sG [V 33 6,P 34 .neq 33 0] (cR 34 [V 35 6,V 2 35])))))) (rG [J 36 18,V 18 36]))))
def FJ:=fT 50 2 (sG [B 1 0,C 2 (pI 0)] (sQ (sG [A 10 6 1,k1 11 Dh 10,V 3 11] (sG [V 12 3,P 13 .neq 12 0] (cR 13 [V 14 3,V 2 14]))) (sQ (sG [F 15 4 1,L 16 15,N 17 16,C 18 (pI 0)] (bL 0 S3)) (sQ (sG [F 37 5 1,L 38 37,N 39 38,C 40 (pI 0)] (bL 2 r6)) (sR [C 2 (pI 0)])))))
def W3:=(sG [E 54 53 52] (sQ (cX 54 4) (sQ (bK 5 (sG [oI 55 1 51 53,L 56 55,V 12 56] (sG [V 57 4,V 58 12,O 59 (.callv (.t 57) [(.t 58),cF]),V 13 59] (sG [V 60 13,P 61 .neq 60 0] (cR 61 [V 62 13,V 2 62]))))) (rG [J 63 53,V 53 63]))))
def P9:=(sG [E 33 32 31] (sQ (cX 33 2) (sQ (bK 3 (sG [oI 34 3 30 32,A 35 3 34,oZ 9 z4,W 3 9 35] (sQ (sG [V 36 4,F 37 1 9,L 38 37,O 39 (.callv (.t 36) [(.t 38),cT]),V 10 39] (sG [V 40 10,P 41 .neq 40 0] (cR 41 [V 42 10,V 2 42]))) (sG [F 43 1 1,L 44 43,F 45 0 9,L 46 45,k2 47 D7 44 46,oU 48 47] (cR 48 [C 2 (pI 13)]))))) (rG [J 49 32,V 32 49]))))
def W4:=(sG [E 19 18 17] (sQ (cX 19 0) (sQ (bK 1 (sG [oI 20 1 16 18,L 21 20,V 6 21] (sG [V 22 4,V 23 6,O 24 (.callv (.t 22) [(.t 23),cF]),V 7 24] (sG [V 25 7,P 26 .neq 25 0] (cR 26 [V 27 7,V 2 27]))))) (rG [J 28 18,V 18 28]))))
def Fj:=fT 64 2 (sG [B 1 0,C 2 (pI 0)] (sG [oZ 3 zv] (sG [O 14 (.clos F9 [(.t 3)]),V 4 14] (sQ (sG [F 15 1 1,L 16 15,N 17 16,C 18 (pI 0)] (bL 0 W4)) (sQ (sG [F 29 2 1,L 30 29,N 31 30,C 32 (pI 0)] (bL 2 P9)) (sQ (sG [F 50 3 1,L 51 50,N 52 51,C 53 (pI 0)] (bL 4 W3)) (sR [C 2 (pI 0)])))))))
def CI:=(sG [E 43 42 41] (sQ (cX 43 4) (sQ (bK 5 (sG [oI 44 1 40 42,L 45 44,V 9 45] (rG [F 46 1 3,L 47 46,V 48 9,⟨none,(.mup true (.t 47) (.t 48) (cI 5)),none⟩]))) (rG [J 49 42,V 42 49]))))
def CJ:=(sG [E 29 28 27] (sQ (cX 29 2) (sQ (bK 3 (sG [oI 30 3 26 28,A 31 3 30,oZ 7 z4,W 3 7 31] (rG [F 32 1 3,L 33 32,F 34 1 7,L 35 34,F 36 2 7,L 37 36,⟨none,(.mup true (.t 33) (.t 35) (.t 37)),none⟩]))) (rG [J 38 28,V 28 38]))))
def CK:=(sG [E 18 17 16] (sQ (cX 18 0) (sQ (bK 1 (sG [oI 19 1 15 17,L 20 19,V 5 20] (rG [F 21 1 3,L 22 21,V 23 5,⟨none,(.mup true (.t 22) (.t 23) (cI 1)),none⟩]))) (rG [J 24 17,V 17 24]))))
def IP:RFunc:=⟨51,[(.cell 2 true 2)],(sG [B 1 0,oZ 2 z5] (sG [F 10 1 1,L 11 10,⟨(some 12),.mkmap,none⟩,O 13 (.build z5 [(0,(1,(.t 11))),(1,(1,(.t 12)))]),oZ 3 z5,W 2 3 13] (sQ (sG [F 14 1 1,L 15 14,N 16 15,C 17 (pI 0)] (bL 0 CK)) (sQ (sG [F 25 2 1,L 26 25,N 27 26,C 28 (pI 0)] (bL 2 CJ)) (sQ (sG [F 39 3 1,L 40 39,N 41 40,C 42 (pI 0)] (bL 4 CI)) (sR [A 50 2 3,W 2 2 50]))))))⟩
def FI:=fT 24 6 (sG [B 3 0,C 6 (pI 0)] (sQ (bK 0 (sG [F 8 0 3,L 9 8,V 10 1,k2 11 D7 9 10,oU 12 11,V 13 12,H 14 13 (pF 0 3),H 15 13 (pL 14),H 16 13 (pV 2),H 17 13 (p2 D7 15 16),H 18 13 (pO 17),oS 19 13 18,V 7 19] (cD 7 (sR [C 6 (pI 13)]) (sG [V 21 1,V 22 2,oQ 23 .eql 21 22,V 20 23] (cR 20 [C 6 (pI 1)]))))) (sR [C 6 (pI 0)])))
def O5:=(sG [E 88 87 86] (sQ (cX 88 1) (sQ (bK 2 (sG [oI 89 4 85 87,A 90 4 89,oZ 9 z0,W 4 9 90] (sG [A 91 2 2,A 92 4 9,k2 93 D8 91 92,V 10 93] (sG [V 94 10,P 95 .neq 94 0] (cR 95 [V 96 10,V 4 96]))))) (rG [J 97 87,V 87 97]))))
def D0:=fT 98 4 (sG [B 2 0,B 3 1,C 4 (pI 0)] (sQ (sG [F 11 0 3,L 12 11,P 13 .neq 12 3] (cD 13 (sQ (sG [F 15 1 2,L 16 15,F 17 1 3,L 18 17,O 19 (.mlook true true (pI 0) (.t 16) (.t 18)),V 14 19,X 20 14 0,X 21 14 1,V 5 20,V 6 21] (sG [V 22 6,oU 23 22] (cR 23 [C 4 (pI 13)]))) (sR [C 4 (pI 0)])) .skip)) (sG [F 24 3 3,L 25 24,V 7 25] (sQ (bK 0 (sQ (sG [A 27 4 3,O 28 (.call u6 [(.t 27),(cS [112,97,105,114]),(cI 2)]),V 26 28] (cD 26 .skip (sG [A 29 4 3,O 30 (.call u6 [(.t 29),(cS [101,110,99]),(cI 2)]),V 26 30] (cD 26 .skip (rG [A 31 4 3,O 32 (.call u6 [(.t 31),(cS [104,97,115,104]),(cI 1)]),V 26 32]))))) (cD 26 .skip (sQ (sQ (rD [A 34 4 3,O 35 (.call u6 [(.t 34),(cS [97,101,110,99]),(cI 2)]),V 36 35,G 37 36 (pA 2 2),G 38 36 (pV 7),G 39 36 (pX 4 38 1),G 40 36 (pA 4 39),G 41 36 (p2 Y6 37 40),oY 42 36 41,V 33 42]) (cD 33 .skip (rD [A 43 4 3,O 44 (.call u6 [(.t 43),(cS [115,105,103,110]),(cI 2)]),V 45 44,G 46 45 (pA 2 2),G 47 45 (pV 7),G 48 45 (pX 4 47 1),G 49 45 (pA 4 48),G 50 45 (p2 V0 46 49),oY 51 45 50,V 33 51]))) (cD 33 (rG [V 52 7,O 53 (.slc 4 (.t 52) none (some (cI 1)) none),V 7 53]) (sQ (sG [A 55 2 2,A 56 4 3,k2 57 Y6 55 56,V 54 57] (cD 54 .skip (rD [A 58 4 3,O 59 (.call u6 [(.t 58),(cS [115,104,107]),(cI 2)]),V 60 59,G 61 60 (pA 2 2),G 62 60 (pV 7),G 63 60 (pX 4 62 0),G 64 60 (pA 4 63),G 65 60 (p2 V6 61 64),oY 66 60 65,V 67 66,G 68 67 (pA 2 2),G 69 67 (pV 7),G 70 67 (pX 4 69 1),G 71 67 (pA 4 70),G 72 67 (p2 V6 68 71),oY 73 67 72,V 74 73,G 75 74 (pV 7),G 76 74 (pX 4 75 0),G 77 74 (pF 1 76),G 78 74 (pL 77),G 79 74 (pV 7),G 80 74 (pX 4 79 1),G 81 74 (pF 1 80),G 82 74 (pL 81),G 83 74 (pD .neq 78 82),oY 84 74 83,V 54 84]))) (cD 54 (rG [C 7 zv]) (sR [C 4 (pI 10)])))))))) (sQ (sG [V 85 7,N 86 85,C 87 (pI 0)] (bL 1 O5)) (sR [C 4 (pI 0)]))))))
def O4:=(sG [E 36 35 34] (sQ (cX 36 0) (sQ (bK 1 (sG [oI 37 4 33 35,A 38 4 37,oZ 7 z0,W 4 7 38] (sG [A 39 2 2,A 40 4 7,k2 41 D8 39 40,V 8 41] (sG [V 42 8,P 43 .neq 42 0] (cR 43 [V 44 8,V 4 44]))))) (rG [J 45 35,V 35 45]))))
def O3:=fT 46 4 (sG [B 2 0,B 3 1,C 4 (pI 0)] (sQ (sG [F 9 0 2,L 10 9,F 11 1 3,L 12 11,k2 13 D7 10 12,oU 14 13] (cR 14 [C 4 (pI 13)])) (sQ (sG [F 15 0 3,L 16 15,P 17 .eql 16 2,V 18 17,H 19 18 (pF 0 3),H 20 18 (pL 19),H 21 18 (pC .eql 20 3),oS 22 18 21] (cD 22 (sG [A 23 2 2,F 24 1 3,L 25 24,F 26 2 3,L 27 26,oK 28 Ab [(.t 23),(.t 25),(.t 27)],V 5 28] (sG [V 29 5,P 30 .neq 29 0] (cR 30 [V 31 5,V 4 31]))) .skip)) (sQ (sG [F 32 3 3,L 33 32,N 34 33,C 35 (pI 0)] (bL 0 O4)) (sR [C 4 (pI 0)])))))
def W2:=(sQ (sG [V 35 7,V 36 3,V 37 5,oI 38 1 36 37,L 39 38,O 40 (pN 39),E 41 35 40] (cX 41 2)) (sQ (bK 3 (sG [V 44 3,V 45 5,oI 46 1 44 45,L 47 46,V 48 7,O 49 (pJ 47 48),O 50 (pU .eql 49 35)] (cR 50 [C 2 (pI 2)]))) (rG [V 42 7,J 43 42,V 7 43])))
def R6:=(sQ (sG [V 13 5,V 14 3,N 15 14,E 16 13 15] (cX 16 0)) (sQ (bK 1 (sG [V 19 5,F 20 1 1,L 21 20,N 22 21,oQ 23 .geq 19 22,V 24 23,G 25 24 (pV 5),G 26 24 (pF 1 1),G 27 24 (pL 26),G 28 24 (pM 27),G 29 24 (pF 2 1),G 30 24 (pL 29),G 31 24 (pM 30),G 32 24 (pD .add 28 31),G 33 24 (pD .lss 25 32),oY 34 24 33,V 6 34] (sQ (sG [C 7 (pI 0)] (bL 2 W2)) (sQ (sG [V 51 6,V 52 51,G 53 52 (pV 3),G 54 52 (pV 5),G 55 52 (pY 1 53 54),G 56 52 (pL 55),G 57 52 (pE .eql 56 [101]),G 58 52 (pV 57),H 59 58 (pV 3),H 60 58 (pV 5),H 61 58 (pY 1 59 60),H 62 58 (pL 61),H 63 58 (pE .eql 62 [103]),G 64 52 (pR 58 63),oY 65 52 64] (cR 65 [C 2 (pI 1)])) (sQ (sQ (rD [V 66 3,V 67 5,O 68 (.slc 1 (.t 66) none (some (.t 67)) none),V 69 3,V 70 5,oI 71 1 69 70,L 72 71,k2 73 K0 68 72,P 74 .geq 73 0]) (cR 74 [C 2 (pI 5)])) (sQ (rD [V 75 6,V 76 75,G 77 76 (pF 1 1),G 78 76 (pL 77),G 79 76 (pF 2 1),G 80 76 (pL 79),G 81 76 (pV 5),G 82 76 (pF 1 1),G 83 76 (pL 82),G 84 76 (pM 83),G 85 76 (pD .sub 81 84),G 86 76 (pY 3 80 85),G 87 76 (pF 0 86),G 88 76 (pL 87),G 89 76 (p2 K0 78 88),G 90 76 (pC .lss 89 0),oY 91 76 90]) (cR 91 [C 2 (pI 13)]))))))) (rG [V 17 5,J 18 17,V 5 18])))
def Fi:=fT 92 2 (sG [B 1 0,C 2 (pI 0)] (sG [A 9 6 1,k1 10 O6 9,V 8 10,X 11 8 0,X 12 8 1,V 3 11,V 4 12] (sQ (sG [C 5 (pI 0)] (bL 0 R6)) (sR [C 2 (pI 0)]))))
def DL:=fT 28 4 (sG [B 2 0,B 3 1,C 4 (pI 0)] (sQ (sG [F 5 1 2,L 6 5,F 7 0 3,L 8 7,k2 9 K0 6 8,P 10 .lss 9 0,V 11 10,H 12 11 (pF 1 2),H 13 11 (pL 12),H 14 11 (pF 1 3),H 15 11 (pL 14),H 16 11 (p2 K0 13 15),H 17 11 (pC .lss 16 0),oS 18 11 17] (cR 18 [C 4 (pI 13)])) (sQ (sG [F 19 0 3,L 20 19,F 21 1 3,L 22 21,oQ 23 .eql 20 22] (cR 23 [C 4 (pI 1)])) (sR [A 24 6 2,F 25 2 3,A 26 4 25,k2 27 l7 24 26,V 4 27]))))
def w6:=(sQ (sG [V 32 5,F 33 3 3,L 34 33,N 35 34,E 36 32 35] (cX 36 0)) (sQ (bK 1 (sQ (rD [A 39 6 2,F 40 3 3,L 41 40,V 42 5,oI 43 4 41 42,A 44 4 43,k2 45 l7 39 44,V 6 45]) (sG [V 46 6,P 47 .neq 46 0] (cR 47 [V 48 6,V 4 48])))) (rG [V 37 5,J 38 37,V 5 38])))
def X4:=fT 49 4 (sG [B 2 0,B 3 1,C 4 (pI 0)] (sQ (sG [F 7 1 2,L 8 7,F 9 1 3,L 10 9,k2 11 K0 8 10,P 12 .lss 11 0] (cR 12 [C 4 (pI 13)])) (sQ (sG [F 13 0 3,L 14 13,P 15 .eql 14 2,V 16 15,H 17 16 (pF 0 3),H 18 16 (pL 17),H 19 16 (pC .eql 18 3),oS 20 16 19] (cD 20 (sQ (sG [F 21 1 2,L 22 21,F 23 2 3,L 24 23,k2 25 K0 22 24,P 26 .lss 25 0] (cR 26 [C 4 (pI 13)])) (sG [F 27 2 3,L 28 27,F 29 1 3,L 30 29,oQ 31 .eql 28 30] (cR 31 [C 4 (pI 1)]))) .skip)) (sQ (sG [C 5 (pI 0)] (bL 0 w6)) (sR [C 4 (pI 0)])))))
def CF:=(sQ (sG [V 52 8,F 53 3 1,L 54 53,N 55 54,E 56 52 55] (cX 56 4)) (sQ (bK 5 (rG [V 59 4,F 60 3 1,L 61 60,V 62 8,oI 63 1 61 62,L 64 63,O 65 (pB zs 64),oR 66 1 16 59 65,V 67 5,O 68 (.bslice 1 (pI 0) [(0,(cI 5))]),oR 69 1 8 67 68,V 4 66,V 5 69])) (rG [V 57 8,J 58 57,V 8 58])))
def CG:=(sQ (sG [V 27 7,F 28 2 1,L 29 28,N 30 29,E 31 27 30] (cX 31 2)) (sQ (bK 3 (rD [V 34 4,F 35 2 1,O 36 (.ldb false 1 (.t 35)),V 37 7,oI 38 3 36 37,F 39 1 38,O 40 (.ldb false 1 (.t 39)),O 41 (.bslicev 1 zs [(0,(.t 40))]),oR 42 1 16 34 41,V 43 5,F 44 2 1,O 45 (.ldb false 1 (.t 44)),V 46 7,oI 47 3 45 46,F 48 2 47,O 49 (.ldb false 1 (.t 48)),O 50 (.bslicev 1 (pI 0) [(0,(.t 49))]),oR 51 1 8 43 50,V 4 42,V 5 51])) (rG [V 32 7,J 33 32,V 7 33])))
def CH:=(sQ (sG [V 9 6,F 10 1 1,L 11 10,N 12 11,E 13 9 12] (cX 13 0)) (sQ (bK 1 (rG [V 16 4,F 17 1 1,L 18 17,V 19 6,oI 20 1 18 19,L 21 20,O 22 (pB zs 21),oR 23 1 16 16 22,V 24 5,O 25 (.bslice 1 (pI 0) [(0,(cI 1))]),oR 26 1 8 24 25,V 4 23,V 5 26])) (rG [V 14 6,J 15 14,V 6 15])))
def IM:=fU 72 2 3 (sG [B 1 0,C 2 zv,C 3 zv] (sG [C 4 zv] (sG [C 5 zv] (sQ (sG [C 6 (pI 0)] (bL 0 CH)) (sQ (sG [C 7 (pI 0)] (bL 2 CG)) (sQ (sG [C 8 (pI 0)] (bL 4 CF)) (sR [V 70 4,V 71 5,V 2 70,V 3 71])))))))
def AG:=(sQ (sG [V 6 5,V 7 0,N 8 7,E 9 6 8] (cX 9 0)) (sQ (bK 1 (sG [V 12 0,V 13 5,oI 14 1 12 13,L 15 14,V 16 1,oQ 17 .eql 15 16] (cR 17 [V 18 5,V 4 18]))) (rG [V 10 5,J 11 10,V 5 11])))
def IN:=fT 19 4 (sG [C 4 (pI 0)] (sQ (sG [C 5 (pI 0)] (bL 0 AG)) (sR [C 4 (.int .i64 (-1))])))
def Ag:=(sQ (sG [V 55 9,F 56 3 2,L 57 56,N 58 57,E 59 55 58] (cX 59 0)) (sQ (bK 1 (sQ (rD [F 62 3 2,L 63 62,V 64 9,oI 65 4 63 64,A 66 4 65,F 67 3 3,L 68 67,V 69 9,oI 70 4 68 69,A 71 4 70,k2 72 i4 66 71,V 10 72]) (sG [V 73 10,P 74 .neq 73 0] (cR 74 [V 75 10,V 4 75])))) (rG [V 60 9,J 61 60,V 9 61])))
def GT:=fT 76 4 (sG [B 2 0,B 3 1,C 4 (pI 0)] (sQ (sQ (rD [A 11 4 2,k1 12 AY 11,A 13 4 3,k1 14 AY 13,k2 15 Y3 12 14,V 5 15]) (sG [V 16 5,P 17 .neq 16 0] (cR 17 [V 18 5,V 4 18]))) (sQ (sG [F 19 0 2,L 20 19,F 21 0 3,L 22 21,k2 23 Y3 20 22,V 6 23] (sG [V 24 6,P 25 .neq 24 0] (cR 25 [V 26 6,V 4 26]))) (sQ (sG [F 27 1 2,L 28 27,F 29 1 3,L 30 29,E 31 28 30] (cR 31 [C 4 (.int .i64 (-1))])) (sQ (sG [F 32 1 2,L 33 32,F 34 1 3,L 35 34,oQ 36 .gtr 33 35] (cR 36 [C 4 (pI 1)])) (sQ (sG [F 37 2 2,L 38 37,F 39 2 3,L 40 39,k2 41 Y3 38 40,V 7 41] (sG [V 42 7,P 43 .neq 42 0] (cR 43 [V 44 7,V 4 44]))) (sQ (sG [F 45 3 2,L 46 45,N 47 46,F 48 3 3,L 49 48,N 50 49,k2 51 Y3 47 50,V 8 51] (sG [V 52 8,P 53 .neq 52 0] (cR 53 [V 54 8,V 4 54]))) (sQ (sG [C 9 (pI 0)] (bL 0 Ag)) (sR [C 4 (pI 0)])))))))))
def n9:=(sG [E 65 64 63] (sQ (cX 65 4) (sQ (bK 5 (sG [V 66 64,V 8 66] (rG [V 67 7,V 68 8,V 69 7,V 70 8,oI 71 4 69 70,A 72 4 71,V 73 1,k2 74 E6 72 73,oI 75 4 67 68,W 4 75 74]))) (rG [J 76 64,V 64 76]))))
def X5:=(sG [E 53 52 51] (sQ (cX 53 2) (sQ (bK 3 (sG [V 54 52,V 6 54] (sG [F 55 5 2,L 56 55,V 57 6,oI 58 5 56 57,F 59 3 58,L 60 59,k1 61 H4 60,V 7 61] (sQ (sG [V 62 7,N 63 62,C 64 (pI 0)] (bL 4 n9)) (rG [F 77 5 2,L 78 77,V 79 6,V 80 7,oI 81 5 78 79,F 82 3 81,W 1 82 80]))))) (rG [J 83 52,V 52 83]))))
def Dp:=(sG [E 33 32 31] (sQ (cX 33 0) (sQ (bK 1 (sG [V 34 32,V 5 34] (rD [F 35 4 2,L 36 35,V 37 5,F 38 4 2,L 39 38,V 40 5,oI 41 7 39 40,F 42 2 41,A 43 4 42,V 44 1,k2 45 E6 43 44,oI 46 7 36 37,F 47 2 46,W 4 47 45]))) (rG [J 48 32,V 32 48]))))
def KF:RFunc:=⟨85,[(.cell 4 true 6)],(sG [B 2 0,oZ 4 z3] (sQ (rD [F 9 1 2,L 10 9,k1 11 I8 10,F 12 2 2,L 13 12,k1 14 Y7 13,F 15 3 2,L 16 15,k1 17 I8 16,F 18 1 2,W 1 18 11,F 19 2 2,W 1 19 14,F 20 3 2,W 1 20 17]) (sQ (rD [F 21 4 2,O 22 (.ldb false 1 (.t 21)),k1 23 H3 22,F 24 5 2,O 25 (.ldb false 1 (.t 24)),k1 26 H2 25,F 27 4 2,W 1 27 23,F 28 5 2,W 1 28 26]) (sQ (sG [F 29 4 2,L 30 29,N 31 30,C 32 (pI 0)] (bL 0 Dp)) (sQ (sG [F 49 5 2,L 50 49,N 51 50,C 52 (pI 0)] (bL 2 X5)) (sR [A 84 6 2,W 6 4 84]))))))⟩
def FH:RFunc:=⟨13,[],(rD [V 3 0,F 4 1 1,L 5 4,V 6 0,O 7 (pK 6),F 8 1 7,L 9 8,O 10 (.mlook true false (pI 0) (.t 5) (.t 9)),O 11 (pK 3),F 12 2 11,W 1 12 10])⟩
def z8:=(sQ (sG [V 6 5,V 7 0,O 8 (pN 7),E 9 6 8] (cX 9 0)) (sQ (bK 1 (sQ (sG [V 12 0,V 13 5,O 14 (pJ 12 13),O 15 (pU .eql 14 10)] (cD 15 (sG [V 16 3,V 17 4,O 18 (pB zs 17),oR 19 1 16 16 18,V 3 19] (sG [C 4 zs] (.exit 1))) .skip)) (rG [V 20 4,V 21 0,V 22 5,V 23 5,J 24 23,O 25 (.slc 0 (.t 21) (some (.t 22)) (some (.t 24)) none),oQ 26 .add 20 25,V 4 26]))) (rG [V 10 5,J 11 10,V 5 11])))
def IK:=fT 34 2 (sG [C 2 zv] (sG [C 3 zv] (sG [C 4 zs] (sQ (sG [C 5 (pI 0)] (bL 0 z8)) (sQ (sG [V 27 4,O 28 (.bin .neq (.t 27) (.c zs))] (cD 28 (rG [V 29 3,V 30 4,O 31 (pB zs 30),oR 32 1 16 29 31,V 3 32]) .skip)) (sR [V 33 3,V 2 33]))))))
def I2:=(sQ (sG [V 5 4,V 6 0,O 7 (pN 6),E 8 5 7] (cX 8 0)) (sQ (bK 1 (sQ (sG [V 11 3,V 12 11,G 13 12 (pV 0),G 14 12 (pV 4),G 15 12 (pJ 13 14),G 16 12 (pU .eql 15 92),oY 17 12 16] (cD 17 (sG [V 18 4,J 19 18,V 4 19] (.exit 1)) .skip)) (sQ (sG [V 20 0,V 21 4,O 22 (pJ 20 21),O 23 (pU .eql 22 34)] (cD 23 (rG [V 24 3,oU 25 24,V 3 25]) .skip)) (sG [V 26 3,oU 27 26,V 28 27,G 29 28 (pV 4),G 30 28 (pC .add 29 1),G 31 28 (pV 0),G 32 28 (pN 31),G 33 28 (pD .lss 30 32),oY 34 28 33,V 35 34,G 36 35 (pV 0),G 37 35 (pV 4),G 38 35 (pV 4),G 39 35 (pC .add 38 2),G 40 35 (.slc 0 (.t 36) (some (.t 37)) (some (.t 39)) none),G 41 35 (pE .eql 40 [35,35]),oY 42 35 41] (cR 42 [V 43 0,V 44 4,O 45 (.slc 0 (.t 43) none (some (.t 44)) none),V 2 45]))))) (rG [V 9 4,J 10 9,V 4 10])))
def JO:=fT 47 2 (sG [C 2 zs] (sG [C 3 bF] (sQ (sG [C 4 (pI 0)] (bL 0 I2)) (sR [V 46 0,V 2 46]))))
def AA:=(sQ (sG [V 45 4,V 46 3,O 47 (pN 46),E 48 45 47] (cX 48 1)) (sQ (bK 2 (sG [V 51 3,V 52 4,O 53 (pJ 51 52),V 54 0,oQ 55 .eql 53 54] (cR 55 [C 2 (pI 4)]))) (rG [V 49 4,J 50 49,V 4 50])))
def I3:=fT 56 2 (sG [C 2 (pI 0)] (sQ (bK 0 (sG [V 6 0,O 7 (pU .eql 6 32),V 8 7,H 9 8 (pV 0),H 10 8 (pU .eql 9 9),oS 11 8 10,V 12 11,H 13 12 (pV 0),H 14 12 (pU .eql 13 10),oS 15 12 14,V 16 15,H 17 16 (pV 0),H 18 16 (pU .eql 17 13),oS 19 16 18,V 5 19] (cD 5 (sR [C 2 (pI 1)]) (sG [V 21 0,O 22 (pU .geq 21 97),V 23 22,G 24 23 (pV 0),G 25 23 (pU .leq 24 122),oY 26 23 25,V 27 26,H 28 27 (pV 0),H 29 27 (pU .geq 28 65),H 30 27 (pV 29),G 31 30 (pV 0),G 32 30 (pU .leq 31 90),H 33 27 (pP 30 32),oS 34 27 33,V 20 34] (cD 20 (sR [C 2 (pI 2)]) (sG [V 36 0,O 37 (pU .geq 36 48),V 38 37,G 39 38 (pV 0),G 40 38 (pU .leq 39 57),oY 41 38 40,V 35 41] (cD 35 (sR [C 2 (pI 3)]) (sG [V 43 0,O 44 (pU .eql 43 34),V 42 44] (cR 42 [C 2 (pI 5)]))))))))) (sG [C 3 (.str (bs [40,41,123,125,91,93,44,59,58,61,46,45,62,60,63,124,38,42]))] (sQ (sG [C 4 (pI 0)] (bL 1 AA)) (sR [C 2 (pI 0)])))))
def S8:RFunc:=⟨65,[(.cell 4 true 5),(.tmp 5),(.tmp 6)],(sG [oZ 4 z2,C 5 (pI 0),C 6 (pI 0)] (sQ (sG [V 13 0,O 14 (.idx (.t 13) (cI 0)),k1 15 Q4 14] (bK 0 (sG [P 17 .eql 15 2,V 16 17] (cD 16 (sG [V 18 0,k1 19 En 18,V 7 19] (sQ (sG [V 20 7,O 21 (pN 20),P 22 .gtr 21 24] (cD 22 (sR [O 23 (pZ z2),W 5 4 23,C 5 (pI 0),C 6 (pI 3)]) .skip)) (sR [V 24 7,V 25 1,O 26 (.build z2 [(0,(1,(cI 1))),(1,(1,(.t 24))),(4,(1,(.t 25)))]),V 27 7,O 28 (pN 27),W 5 4 26,V 5 28,C 6 (pI 0)]))) (sG [P 30 .eql 15 3,V 29 30] (cD 29 (sG [V 32 0,k1 33 Cp 32,V 31 33,X 34 31 0,X 35 31 1,X 36 31 2,V 8 34,V 9 35,V 10 36] (sQ (sG [V 37 10,oU 38 37] (cD 38 (sR [O 39 (pZ z2),W 5 4 39,C 5 (pI 0),C 6 (pI 7)]) .skip)) (sR [V 40 9,V 41 1,O 42 (.build z2 [(0,(1,(cI 2))),(2,(1,(.t 40))),(4,(1,(.t 41)))]),V 43 8,O 44 (pN 43),W 5 4 42,V 5 44,C 6 (pI 0)]))) (sG [P 46 .eql 15 5,V 45 46] (cD 45 (sG [V 48 0,k1 49 i5 48,V 47 49,X 50 47 0,X 51 47 1,V 11 50,V 12 51] (sG [V 52 12,P 53 .gtr 52 0] (cD 53 (sR [V 54 11,V 55 1,O 56 (.build z2 [(0,(1,(cI 3))),(3,(1,(.t 54))),(4,(1,(.t 55)))]),V 57 12,W 5 4 56,V 5 57,C 6 (pI 0)]) .skip))) (sG [P 59 .eql 15 4,V 58 59] (cD 58 (sR [V 60 0,O 61 (.slc 0 (.t 60) none (some (cI 1)) none),V 62 1,O 63 (.build z2 [(0,(1,(cI 4))),(1,(1,(.t 61))),(4,(1,(.t 62)))]),W 5 4 63,C 5 (pI 1),C 6 (pI 0)]) .skip)))))))))) (sR [O 64 (pZ z2),W 5 4 64,C 5 (pI 0),C 6 (pI 2)])))⟩
def T4:=fT 38 2 (sG [C 2 bF] (sG [V 7 0,k1 8 s9 7,V 6 8,X 9 6 0,X 10 6 1,X 11 6 2,V 3 9,V 4 10,V 5 11] (sR [V 12 5,P 13 .eql 12 0,V 14 13,G 15 14 (pV 3),G 16 14 (pM 15),G 17 14 (pC .eql 16 1),oY 18 14 17,V 19 18,G 20 19 (pV 3),G 21 19 (pX 5 20 0),G 22 19 (pF 0 21),G 23 19 (pL 22),G 24 19 (pC .eql 23 1),oY 25 19 24,V 26 25,G 27 26 (pV 3),G 28 26 (pX 5 27 0),G 29 26 (pF 1 28),G 30 26 (pL 29),G 31 26 (pV 0),G 32 26 (pD .eql 30 31),oY 33 26 32,V 34 33,G 35 34 (pV 0),G 36 34 (p1 s8 35),oY 37 34 36,V 2 37])))
def O7:=fT 37 2 (sG [B 1 0,C 2 (pI 0)] (sQ (sG [F 3 1 1,L 4 3,N 5 4,P 6 .lss 5 2] (cR 6 [C 2 (pI 8)])) (sQ (sG [F 7 1 1,L 8 7,N 9 8,P 10 .gtr 9 4,V 11 10,H 12 11 (pF 2 1),H 13 11 (pL 12),H 14 11 (pM 13),H 15 11 (pC .gtr 14 12),oS 16 11 15,V 17 16,H 18 17 (pF 3 1),H 19 17 (pL 18),H 20 17 (pM 19),H 21 17 (pC .gtr 20 8),oS 22 17 21] (cR 22 [C 2 (pI 3)])) (sQ (sG [F 23 4 1,L 24 23,N 25 24,P 26 .eql 25 0] (cR 26 [C 2 (pI 8)])) (sQ (sG [F 27 4 1,L 28 27,N 29 28,P 30 .gtr 29 8,V 31 30,H 32 31 (pF 5 1),H 33 31 (pL 32),H 34 31 (pM 33),H 35 31 (pC .gtr 34 8),oS 36 31 35] (cR 36 [C 2 (pI 3)])) (sR [C 2 (pI 0)]))))))
def AC:=(sQ (sG [V 4 3,V 5 0,N 6 5,E 7 4 6] (cX 7 0)) (sQ (bK 1 (sG [V 10 0,V 11 3,oI 12 1 10 11,L 13 12,k1 14 Y4 13,oU 15 14] (cR 15 [C 2 bF]))) (rG [V 8 3,J 9 8,V 3 9])))
def IL:=fT 16 2 (sG [C 2 bF] (sQ (sG [C 3 (pI 0)] (bL 0 AC)) (sR [C 2 bT])))
def CE:=fT 12 2 (sG [B 1 0,C 2 (pI 0)] (sQ (sG [A 4 4 1,k1 5 Ho 4,V 3 5] (sG [V 6 3,P 7 .neq 6 0] (cR 7 [V 8 3,V 2 8]))) (sQ (sG [A 9 4 1,k1 10 AY 9,P 11 .gtr 10 40] (cR 11 [C 2 (pI 3)])) (sR [C 2 (pI 0)]))))
def BU:=(sQ (sG [V 56 3,F 57 3 1,L 58 57,N 59 58,E 60 56 59] (cX 60 0)) (sQ (bK 1 (sG [F 63 3 1,L 64 63,V 65 3,oI 66 4 64 65,A 67 4 66,k1 68 y8 67,V 4 68] (sG [V 69 4,P 70 .neq 69 0] (cR 70 [V 71 4,V 2 71])))) (rG [V 61 3,J 62 61,V 3 62])))
def N4:=fT 72 2 (sG [B 1 0,C 2 (pI 0)] (sQ (sG [F 5 0 1,L 6 5,P 7 .lss 6 1,V 8 7,H 9 8 (pF 0 1),H 10 8 (pL 9),H 11 8 (pC .gtr 10 5),oS 12 8 11] (cR 12 [C 2 (pI 10)])) (sQ (sG [F 13 1 1,L 14 13,k1 15 Y4 14,oU 16 15,V 17 16,H 18 17 (pA 5 1),H 19 17 (p1 Z8 18),H 20 17 (pV 19),G 21 20 (pF 2 1),G 22 20 (pL 21),G 23 20 (p1 Y4 22),G 24 20 (pO 23),H 25 17 (pP 20 24),oS 26 17 25] (cR 26 [C 2 (pI 2)])) (sQ (sG [A 27 5 1,k1 28 Z8 27,oU 29 28,V 30 29,G 31 30 (pF 2 1),G 32 30 (pL 31),G 33 30 (.bin .neq (.t 32) (.c zs)),oY 34 30 33] (cR 34 [C 2 (pI 1)])) (sQ (sG [F 35 3 1,L 36 35,N 37 36,P 38 .lss 37 1,V 39 38,H 40 39 (pF 3 1),H 41 39 (pL 40),H 42 39 (pM 41),H 43 39 (pC .gtr 42 4),oS 44 39 43,V 45 44,H 46 45 (pA 5 1),H 47 45 (p1 Z8 46),H 48 45 (pO 47),H 49 45 (pV 48),G 50 49 (pF 3 1),G 51 49 (pL 50),G 52 49 (pM 51),G 53 49 (pC .gtr 52 1),H 54 45 (pP 49 53),oS 55 45 54] (cR 55 [C 2 (pI 6)])) (sQ (sG [C 3 (pI 0)] (bL 0 BU)) (sR [C 2 (pI 0)])))))))
def V3:=fT 8 2 (sG [C 2 zv] (sQ (sG [V 3 0,O 4 (.nileq false (.t 3))] (cR 4 [C 2 zv])) (sR [O 5 (.bslice 0 zs []),V 6 0,oR 7 1 16 5 6,V 2 7])))
def N6:=(sG [E 9 8 7] (sQ (cX 9 0) (sQ (bK 1 (sG [V 10 8,V 5 10] (sG [V 11 1,V 12 0,V 13 5,oI 14 1 12 13,L 15 14,oQ 16 .eql 11 15] (cR 16 [V 17 5,V 4 17])))) (rG [J 18 8,V 8 18]))))
def CU:=fT 19 4 (sG [C 4 (pI 0)] (sQ (sG [V 6 0,N 7 6,C 8 (pI 0)] (bL 0 N6)) (sR [C 4 (.int .i64 (-1))])))
def KH:=fT 13 4 (sG [C 4 (pI 0)] (sQ (bK 0 (sG [V 6 0,V 7 1,E 8 6 7,V 5 8] (cD 5 (sR [C 4 (.int .i64 (-1))]) (sG [V 10 0,V 11 1,oQ 12 .gtr 10 11,V 9 12] (cR 9 [C 4 (pI 1)]))))) (sR [C 4 (pI 0)])))
def IQ:=(sG [E 10 9 8] (sQ (cX 10 0) (sQ (bK 1 (sG [oI 11 4 7 9,A 12 4 11,oZ 5 z0,W 4 5 12] (rG [V 13 3,A 14 4 5,k1 15 Cs 14,oQ 16 .add 13 15,V 3 16]))) (rG [J 17 9,V 9 17]))))
def NL:=fT 19 2 (sG [B 1 0,C 2 (pI 0)] (sG [C 3 (pI 1)] (sQ (sG [F 6 3 1,L 7 6,N 8 7,C 9 (pI 0)] (bL 0 IQ)) (sR [V 18 3,V 2 18]))))
def Hs:=fT 8 4 (sG [C 4 (pI 0)] (sR [V 5 0,V 6 1,k2 7 S0 5 6,V 4 7]))
def R3:=(sG [E 55 54 53] (sQ (cX 55 1) (sQ (bK 2 (sG [oI 56 3 52 54,A 57 3 56,oZ 4 z4,W 3 4 57] (bK 3 (sG [F 59 0 4,L 60 59,k1 61 J5 60,V 62 61,H 63 62 (pF 1 4),H 64 62 (pL 63),H 65 62 (p1 J5 64),oS 66 62 65,V 58 66] (cD 58 (sR [C 2 (pI 2)]) (sG [F 68 2 4,L 69 68,P 70 .lss 69 2,V 71 70,H 72 71 (pF 2 4),H 73 71 (pL 72),H 74 71 (pC .gtr 73 4),oS 75 71 74,V 67 75] (cR 67 [C 2 (pI 10)]))))))) (rG [J 76 54,V 54 76]))))
def O9:=fT 80 2 (sG [B 1 0,C 2 (pI 0)] (sQ (bK 0 (sG [F 6 0 1,L 7 6,k1 8 J5 7,V 5 8] (cD 5 (sR [C 2 (pI 2)]) (sG [F 10 1 1,L 11 10,N 12 11,P 13 .lss 12 2,V 9 13] (cD 9 (sR [C 2 (pI 8)]) (sG [F 15 1 1,L 16 15,N 17 16,P 18 .gtr 17 4,V 19 18,H 20 19 (pF 2 1),H 21 19 (pL 20),H 22 19 (pM 21),H 23 19 (pC .gtr 22 12),oS 24 19 23,V 25 24,H 26 25 (pF 3 1),H 27 25 (pL 26),H 28 25 (pM 27),H 29 25 (pC .gtr 28 8),oS 30 25 29,V 14 30] (cD 14 (sR [C 2 (pI 3)]) (sG [F 32 4 1,L 33 32,N 34 33,P 35 .eql 34 0,V 31 35] (cD 31 (sR [C 2 (pI 8)]) (sG [F 37 4 1,L 38 37,N 39 38,P 40 .gtr 39 8,V 41 40,H 42 41 (pF 5 1),H 43 41 (pL 42),H 44 41 (pM 43),H 45 41 (pC .gtr 44 8),oS 46 41 45,V 36 46] (cD 36 (sR [C 2 (pI 3)]) (sG [F 48 1 1,L 49 48,O 50 (.call L9 [(.t 49),(.c (.fn J5 []))]),V 47 50] (cR 47 [C 2 (pI 2)]))))))))))))) (sQ (sG [F 51 2 1,L 52 51,N 53 52,C 54 (pI 0)] (bL 1 R3)) (sQ (sG [F 77 3 1,L 78 77,O 79 (.call L9 [(.t 78),(.c (.fn J5 []))])] (cR 79 [C 2 (pI 2)])) (sR [C 2 (pI 0)])))))
def He:=fT 6 2 (sG [C 2 bF] (sR [V 3 0,k1 4 s6 3,oU 5 4,V 2 5]))
def Bb:=fT 12 2 (sG [B 1 0,C 2 (pI 0)] (sQ (sG [A 4 4 1,k1 5 DD 4,V 3 5] (sG [V 6 3,P 7 .neq 6 0] (cR 7 [V 8 3,V 2 8]))) (sQ (sG [A 9 4 1,k1 10 Cs 9,P 11 .gtr 10 40] (cR 11 [C 2 (pI 3)])) (sR [C 2 (pI 0)]))))
def AL:=(sG [E 67 66 65] (sQ (cX 67 1) (sQ (bK 2 (sG [oI 68 4 64 66,A 69 4 68,oZ 5 z0,W 4 5 69] (sG [A 70 4 5,k1 71 o7 70,V 6 71] (sG [V 72 6,P 73 .neq 72 0] (cR 73 [V 74 6,V 2 74]))))) (rG [J 75 66,V 66 75]))))
def O8:=fT 76 2 (sG [B 1 0,C 2 (pI 0)] (sG [F 7 3 1,L 8 7,N 9 8,V 3 9] (sQ (bK 0 (sG [F 11 0 1,L 12 11,P 13 .lss 12 1,V 14 13,H 15 14 (pF 0 1),H 16 14 (pL 15),H 17 14 (pC .gtr 16 5),oS 18 14 17,V 10 18] (cD 10 (sR [C 2 (pI 10)]) (sG [F 20 1 1,L 21 20,k1 22 s6 21,oU 23 22,V 24 23,H 25 24 (pA 5 1),H 26 24 (p1 R5 25),H 27 24 (pV 26),G 28 27 (pF 2 1),G 29 27 (pL 28),G 30 27 (p1 s6 29),G 31 27 (pO 30),H 32 24 (pP 27 31),oS 33 24 32,V 19 33] (cD 19 (sR [C 2 (pI 2)]) (sG [A 35 5 1,k1 36 R5 35,oU 37 36,V 38 37,G 39 38 (pF 2 1),G 40 38 (pL 39),G 41 38 (.bin .neq (.t 40) (.c zs)),oY 42 38 41,V 34 42] (cD 34 (sR [C 2 (pI 1)]) (sG [A 44 5 1,k1 45 R5 44,V 46 45,G 47 46 (pV 3),G 48 46 (pC .lss 47 1),G 49 46 (pV 48),H 50 49 (pV 3),H 51 49 (pC .gtr 50 4),G 52 46 (pR 49 51),oY 53 46 52,V 54 53,H 55 54 (pA 5 1),H 56 54 (p1 R5 55),H 57 54 (pO 56),H 58 54 (pV 57),G 59 58 (pV 3),G 60 58 (pC .neq 59 1),H 61 54 (pP 58 60),oS 62 54 61,V 43 62] (cR 43 [C 2 (pI 6)]))))))))) (sQ (sG [F 63 3 1,L 64 63,N 65 64,C 66 (pI 0)] (bL 1 AL)) (sR [C 2 (pI 0)])))))
def L3:=fT 27 5 (sG [C 5 (pI 0)] (sQ (bK 0 (sG [V 7 0,O 8 (.call V7 [(.t 7),(cS [35])]),V 6 8] (cD 6 (sR [C 5 (pI 2)]) (sG [V 10 1,V 11 10,G 12 11 (pV 0),G 13 11 (pE .eql 12 [101]),G 14 11 (pV 13),H 15 14 (pV 0),H 16 14 (pE .eql 15 [103]),G 17 11 (pR 14 16),oY 18 11 17,V 9 18] (cD 9 (sR [C 5 (pI 1)]) (sG [L 20 2,V 21 0,k2 22 D7 20 21,V 19 22] (cR 19 [C 5 (pI 5)]))))))) (sG [L 23 2,V 24 0,O 25 (pB zs 24),oR 26 1 16 23 25,W 1 2 26] (sR [C 5 (pI 0)]))))
def Av:=fT 9 4 (sG [C 4 bF] (sR [V 5 0,V 6 1,k2 7 V1 5 6,P 8 .geq 7 0,V 4 8]))
def LF:=fT 23 6 (sG [B 3 0,C 6 bF] (sR [F 7 0 3,L 8 7,P 9 .eql 8 3,V 10 9,G 11 10 (pF 1 3),G 12 10 (pL 11),G 13 10 (pV 1),G 14 10 (pD .eql 12 13),oY 15 10 14,V 16 15,G 17 16 (pF 3 3),G 18 16 (pL 17),G 19 16 (pM 18),G 20 16 (pV 2),G 21 16 (pD .eql 19 20),oY 22 16 21,V 6 22]))
def Al:=fT 15 4 (sG [B 2 0,B 3 1,C 4 bF] (sQ (rD [A 5 4 3,O 6 (.call u6 [(.t 5),(cS [112,107]),(cI 1)]),V 7 6,G 8 7 (pA 2 2),G 9 7 (pF 3 3),G 10 7 (pL 9),G 11 7 (pX 4 10 0),G 12 7 (pA 4 11),G 13 7 (p2 V0 8 12),oY 14 7 13,V 4 14]) .ret))
def x6:=fT 15 4 (sG [B 2 0,B 3 1,C 4 bF] (sQ (rD [A 5 4 3,O 6 (.call u6 [(.t 5),(cS [115,107]),(cI 1)]),V 7 6,G 8 7 (pA 2 2),G 9 7 (pF 3 3),G 10 7 (pL 9),G 11 7 (pX 4 10 0),G 12 7 (pA 4 11),G 13 7 (p2 V6 8 12),oY 14 7 13,V 4 14]) .ret))
def EF:=fT 15 4 (sG [B 2 0,B 3 1,C 4 bF] (sR [F 5 0 3,L 6 5,P 7 .eql 6 2,V 8 7,G 9 8 (pF 0 2),G 10 8 (pL 9),G 11 8 (pF 1 3),G 12 8 (pL 11),G 13 8 (p2 D7 10 12),oY 14 8 13,V 4 14]))
def BV:=(sQ (sG [V 28 8,V 29 7,E 30 28 29] (cX 30 0)) (sQ (bK 1 (sQ (rD [A 33 6 2,F 34 3 3,L 35 34,V 36 8,oI 37 4 35 36,A 38 4 37,k2 39 l7 33 38,V 9 39]) (sG [V 40 9,P 41 .neq 40 0] (cR 41 [V 42 9,V 4 42])))) (rG [V 31 8,J 32 31,V 8 32])))
def DK:=fT 43 4 (sG [B 2 0,B 3 1,C 4 (pI 0)] (sQ (sG [F 10 0 3,L 11 10,P 12 .neq 11 3] (cD 12 (sG [A 14 6 2,k1 15 O6 14,V 13 15,X 16 13 0,X 17 13 1,V 5 16,V 6 17] (sQ (sG [V 18 5,F 19 1 3,L 20 19,k2 21 K0 18 20,P 22 .lss 21 0] (cR 22 [C 4 (pI 13)])) (sR [C 4 (pI 0)]))) .skip)) (sG [A 23 6 2,A 24 4 3,k2 25 Er 23 24,V 7 25] (sQ (sG [V 26 7,P 27 .lss 26 0] (cR 27 [C 4 (pI 10)])) (sQ (sG [C 8 (pI 0)] (bL 0 BV)) (sR [C 4 (pI 0)]))))))
def Hc:=fT 11 4 (sG [C 4 (pI 0)] (sQ (sG [V 5 0,V 6 1,E 7 5 6] (cR 7 [C 4 (.int .i64 (-1))])) (sQ (sG [V 8 0,V 9 1,oQ 10 .gtr 8 9] (cR 10 [C 4 (pI 1)])) (sR [C 4 (pI 0)]))))
def Ha:=(sQ (sG [V 5 4,F 6 3 1,L 7 6,N 8 7,E 9 5 8] (cX 9 0)) (sQ (bK 1 (rG [V 12 3,F 13 3 1,L 14 13,V 15 4,oI 16 4 14 15,A 17 4 16,k1 18 AY 17,oQ 19 .add 12 18,V 3 19])) (rG [V 10 4,J 11 10,V 4 11])))
def Lw:=fT 21 2 (sG [B 1 0,C 2 (pI 0)] (sG [C 3 (pI 1)] (sQ (sG [C 4 (pI 0)] (bL 0 Ha)) (sR [V 20 3,V 2 20]))))
def Z5:=fT 8 2 (sG [C 2 zv] (sQ (sG [V 3 0,O 4 (.nileq false (.t 3))] (cR 4 [C 2 zv])) (sR [O 5 (.bslice 0 z4 []),V 6 0,oR 7 3 40 5 6,V 2 7])))
def j5:=fT 8 2 (sG [C 2 zv] (sQ (sG [V 3 0,O 4 (.nileq false (.t 3))] (cR 4 [C 2 zv])) (sR [O 5 (.bslice 0 z1 []),V 6 0,oR 7 7 96 5 6,V 2 7])))
def j4:=fT 8 2 (sG [C 2 zv] (sQ (sG [V 3 0,O 4 (.nileq false (.t 3))] (cR 4 [C 2 zv])) (sR [O 5 (.bslice 0 z6 []),V 6 0,oR 7 5 72 5 6,V 2 7])))
def Ak:=(sG [E 22 21 20] (sQ (cX 22 0) (sQ (bK 1 (sG [V 23 21,oI 24 4 19 21,A 25 4 24,oZ 7 z0,V 6 23,W 4 7 25] (rG [V 26 5,V 27 6,A 28 4 7,V 29 1,k2 30 E6 28 29,oI 31 4 26 27,W 4 31 30]))) (rG [J 32 21,V 21 32]))))
def Du:RFunc:=⟨36,[(.cell 4 true 4)],(sG [B 2 0,oZ 4 z0] (sQ (sG [F 8 0 2,L 9 8,P 10 .eql 9 2] (cD 10 (sG [V 11 1,O 12 (.callv (.t 11) [(.t 2)])] (sR [A 13 4 2,W 4 4 13])) .skip)) (sG [F 14 3 2,L 15 14,N 16 15,O 17 (.mkslice z0 56 (.t 16) (.t 16)),V 5 17] (sQ (sG [F 18 3 2,L 19 18,N 20 19,C 21 (pI 0)] (bL 0 Ak)) (sG [V 33 5,F 34 3 2,W 1 34 33] (sR [A 35 4 2,W 4 4 35]))))))⟩
def j6:=fT 8 2 (sG [C 2 zv] (sQ (sG [V 3 0,O 4 (.nileq false (.t 3))] (cR 4 [C 2 zv])) (sR [O 5 (.bslice 0 z0 []),V 6 0,oR 7 4 56 5 6,V 2 7])))
def T5:=(sQ (sG [V 4 3,V 5 0,O 6 (pN 5),E 7 4 6,V 8 7,G 9 8 (pV 0),G 10 8 (pV 3),G 11 8 (pJ 9 10),G 12 8 (p1 Q4 11),G 13 8 (pC .eql 12 2),G 14 8 (pV 13),H 15 14 (pV 0),H 16 14 (pV 3),H 17 14 (pJ 15 16),H 18 14 (p1 Q4 17),H 19 14 (pC .eql 18 3),G 20 8 (pR 14 19),G 21 8 (pV 20),H 22 21 (pV 0),H 23 21 (pV 3),H 24 21 (pJ 22 23),H 25 21 (pU .eql 24 95),G 26 8 (pR 21 25),G 27 8 (pV 26),H 28 27 (pV 0),H 29 27 (pV 3),H 30 27 (pJ 28 29),H 31 27 (pU .eql 30 35),G 32 8 (pR 27 31),oY 33 8 32] (cX 33 0)) (bK 1 (rG [V 34 3,J 35 34,V 3 35])))
def JP:=fT 39 2 (sG [C 2 zs] (sG [C 3 (pI 0)] (sQ (bL 0 T5) (sR [V 36 0,V 37 3,O 38 (.slc 0 (.t 36) none (some (.t 37)) none),V 2 38]))))
def W0:=(sQ (sG [V 8 5,V 9 0,O 10 (pN 9),E 11 8 10,V 12 11,G 13 12 (pV 0),G 14 12 (pV 5),G 15 12 (pJ 13 14),G 16 12 (p1 Q4 15),G 17 12 (pC .eql 16 3),oY 18 12 17] (cX 18 0)) (bK 1 (sG [V 19 0,V 20 5,O 21 (pJ 19 20),O 22 (pU .sub 21 48),O 23 (.conv .i64 (.t 22)),V 7 23] (sQ (sG [V 24 6,V 25 7,O 26 (.bin .sub (cI 9223372036854775807) (.t 25)),P 27 .quo 26 10,oQ 28 .gtr 24 27] (cR 28 [C 2 zs,C 3 (pI 0),C 4 bF])) (sG [V 29 6,O 30 (.bin .mul (cI 10) (.t 29)),V 31 7,oQ 32 .add 30 31,V 6 32] (rG [V 33 5,J 34 33,V 5 34]))))))
def Hd:RFunc:=⟨39,[(.tmp 2),(.tmp 3),(.tmp 4)],(sG [C 2 zs,C 3 (pI 0),C 4 bF] (sG [C 5 (pI 0),C 6 (pI 0)] (sQ (bL 0 W0) (sR [V 35 0,V 36 5,O 37 (.slc 0 (.t 35) none (some (.t 36)) none),V 38 6,V 2 37,V 3 38,C 4 bT]))))⟩
def K4:=(sQ (sG [V 8 5,V 9 0,O 10 (pN 9),E 11 8 10] (cX 11 0)) (sQ (bK 1 (bK 2 (sG [V 21 0,V 22 5,O 23 (pJ 21 22),O 24 (pU .eql 23 34),V 20 24] (cD 20 (sR [V 25 4,O 26 (.bstr (.t 25)),V 27 5,J 28 27,V 2 26,V 3 28]) (sG [V 30 0,V 31 5,O 32 (pJ 30 31),O 33 (pU .eql 32 92),V 29 33] (cD 29 (sG [V 35 0,V 36 5,J 37 36,O 38 (.slc 0 (.t 35) (some (.t 37)) none none),k1 39 BO 38,V 34 39,X 40 34 0,X 41 34 1,V 6 40,V 7 41] (sQ (sG [V 42 7,P 43 .eql 42 0] (cR 43 [C 2 zs,C 3 (pI 0)])) (sG [V 44 4,V 45 6,O 46 (.bslice 1 (.int .u8 0) [(0,(.t 45))]),oR 47 1 1 44 46,V 4 47] (rG [V 48 5,V 49 7,oQ 50 .add 48 49,V 5 50])))) (sG [V 52 0,V 53 5,O 54 (pJ 52 53),O 55 (pU .lss 54 32),V 56 55,H 57 56 (pV 0),H 58 56 (pV 5),H 59 56 (pJ 57 58),H 60 56 (pU .gtr 59 126),oS 61 56 60,V 51 61] (cD 51 (sR [C 2 zs,C 3 (pI 0)]) (rG [V 14 4,V 15 0,V 16 5,O 17 (pJ 15 16),O 18 (.bslice 1 (.int .u8 0) [(0,(.t 17))]),oR 19 1 1 14 18,V 4 19]))))))))) (rG [V 12 5,J 13 12,V 5 13])))
def GU:=fU 62 2 3 (sG [C 2 zs,C 3 (pI 0)] (sG [C 4 zv] (sQ (sG [C 5 (pI 1)] (bL 0 K4)) (sR [C 2 zs,C 3 (pI 0)]))))
def Ca:=fT 11 2 (sG [B 1 0,C 2 bF] (sR [F 3 0 1,L 4 3,P 5 .eql 4 2,V 6 5,H 7 6 (pF 0 1),H 8 6 (pL 7),H 9 6 (pC .eql 8 3),oS 10 6 9,V 2 10]))
def P4:=(sQ (sG [V 18 3,V 19 0,O 20 (pN 19),E 21 18 20] (cX 21 0)) (sQ (bK 1 (sG [V 24 0,V 25 3,O 26 (pJ 24 25),k1 27 Co 26,oU 28 27,V 29 28,G 30 29 (pV 0),G 31 29 (pV 3),G 32 29 (pJ 30 31),G 33 29 (p1 Fs 32),G 34 29 (pO 33),oY 35 29 34,V 36 35,G 37 36 (pV 0),G 38 36 (pV 3),G 39 36 (pJ 37 38),G 40 36 (pU .neq 39 95),oY 41 36 40,V 42 41,G 43 42 (pV 0),G 44 42 (pV 3),G 45 42 (pJ 43 44),G 46 42 (pU .neq 45 35),oY 47 42 46] (cR 47 [C 2 bF]))) (rG [V 22 3,J 23 22,V 3 23])))
def Z4:=fT 48 2 (sG [C 2 bF] (sQ (sG [V 4 0,O 5 (pN 4),P 6 .eql 5 0,V 7 6,H 8 7 (pV 0),H 9 7 (pN 8),H 10 7 (pC .gtr 9 24),oS 11 7 10,V 12 11,H 13 12 (pV 0),H 14 12 (.idx (.t 13) (cI 0)),H 15 12 (p1 Co 14),H 16 12 (pO 15),oS 17 12 16] (cR 17 [C 2 bF])) (sQ (sG [C 3 (pI 0)] (bL 0 P4)) (sR [C 2 bT]))))
def Hr:=fT 11 2 (sG [B 1 0,C 2 (pI 0)] (sQ (sG [A 4 4 1,k1 5 Fq 4,V 3 5] (sG [V 6 3,P 7 .neq 6 0] (cR 7 [V 8 3,V 2 8]))) (sR [A 9 4 1,k1 10 Bh 9,V 2 10])))
def DN:=fT 17 2 (sG [B 1 0,C 2 (pI 0)] (sG [oZ 3 (pI 0),oZ 4 (pI 0),⟨none,(.st 1 (.t 3) (cI 0)),none⟩,⟨none,(.st 1 (.t 4) (cI 0)),none⟩] (sQ (sG [A 6 4 1,oK 7 X2 [(.t 6),(cI 1),(.t 3),(.t 4)],V 5 7] (sG [V 8 5,P 9 .neq 8 0] (cR 9 [V 10 5,V 2 10]))) (sQ (sG [L 11 3,P 12 .gtr 11 400,V 13 12,H 14 13 (pL 4),H 15 13 (pC .gtr 14 40),oS 16 13 15] (cR 16 [C 2 (pI 3)])) (sR [C 2 (pI 0)])))))
def i9:=fT 9 4 (sG [C 4 bF] (sR [V 5 0,V 6 1,k2 7 K7 5 6,P 8 .geq 7 0,V 4 8]))
def v8:=fT 22 2 (sG [C 2 bF] (sR [V 3 0,O 4 (.bin .neq (.t 3) (.c zs)),V 5 4,G 6 5 (pV 0),G 7 5 (.idx (.t 6) (cI 0)),G 8 5 (p1 Cl 7),oY 9 5 8,V 10 9,G 11 10 (pV 0),G 12 10 (p1 s7 11),G 13 10 (pV 0),G 14 10 (pN 13),G 15 10 (pD .eql 12 14),oY 16 10 15,V 17 16,G 18 17 (pV 0),G 19 17 (pN 18),G 20 17 (pC .leq 19 24),oY 21 17 20,V 2 21]))
def DM:=fT 11 2 (sG [B 1 0,C 2 (pI 0)] (sQ (sG [A 4 4 1,k1 5 Gh 4,V 3 5] (sG [V 6 3,P 7 .neq 6 0] (cR 7 [V 8 3,V 2 8]))) (sR [A 9 4 1,k1 10 Ac 9,V 2 10])))
def Bw:=fT 11 2 (sG [B 1 0,C 2 bF] (sR [F 3 0 1,L 4 3,P 5 .eql 4 2,V 6 5,H 7 6 (pF 0 1),H 8 6 (pL 7),H 9 6 (pC .eql 8 3),oS 10 6 9,V 2 10]))
def E3:=fT 107 4 (sG [B 2 0,B 3 1,C 4 (pI 0)] (sG [F 6 3 3,L 7 6,N 8 7,V 5 8] (sQ (bK 0 (sG [F 10 1 3,L 11 10,O 12 (pE .eql 11 [112,97,105,114]),V 13 12,G 14 13 (pV 5),G 15 13 (pC .eql 14 2),oY 16 13 15,V 17 16,H 18 17 (pF 1 3),H 19 17 (pL 18),H 20 17 (pE .eql 19 [101,110,99]),H 21 17 (pV 20),G 22 21 (pV 5),G 23 21 (pC .eql 22 2),H 24 17 (pP 21 23),oS 25 17 24,V 9 25] (cD 9 (sR [C 4 (pI 2)]) (sG [F 27 1 3,L 28 27,O 29 (pE .eql 28 [104,97,115,104]),V 30 29,G 31 30 (pV 5),G 32 30 (pC .eql 31 1),oY 33 30 32,V 26 33] (cD 26 (sR [C 4 (pI 1)]) (sQ (rD [F 35 1 3,L 36 35,O 37 (pE .eql 36 [97,101,110,99]),V 38 37,G 39 38 (pV 5),G 40 38 (pC .eql 39 2),oY 41 38 40,V 42 41,G 43 42 (pA 6 2),G 44 42 (pF 3 3),G 45 42 (pL 44),G 46 42 (pX 4 45 1),G 47 42 (pA 4 46),G 48 42 (p2 Cq 43 47),oY 49 42 48,V 34 49]) (cD 34 (sR [C 4 (pI 1)]) (sQ (rD [F 51 1 3,L 52 51,O 53 (pE .eql 52 [115,105,103,110]),V 54 53,G 55 54 (pV 5),G 56 54 (pC .eql 55 2),oY 57 54 56,V 58 57,G 59 58 (pA 6 2),G 60 58 (pF 3 3),G 61 58 (pL 60),G 62 58 (pX 4 61 1),G 63 58 (pA 4 62),G 64 58 (p2 CA 59 63),oY 65 58 64,V 50 65]) (cD 50 (sR [C 4 (pI 1)]) (sG [A 67 6 2,A 68 4 3,k2 69 Cq 67 68,V 66 69] (cD 66 (sR [C 4 (pI 0)]) (sQ (rD [F 71 1 3,L 72 71,O 73 (pE .eql 72 [115,104,107]),V 74 73,G 75 74 (pV 5),G 76 74 (pC .eql 75 2),oY 77 74 76,V 78 77,G 79 78 (pA 6 2),G 80 78 (pF 3 3),G 81 78 (pL 80),G 82 78 (pX 4 81 0),G 83 78 (pA 4 82),G 84 78 (p2 DC 79 83),oY 85 78 84,V 86 85,G 87 86 (pA 6 2),G 88 86 (pF 3 3),G 89 86 (pL 88),G 90 86 (pX 4 89 1),G 91 86 (pA 4 90),G 92 86 (p2 DC 87 91),oY 93 86 92,V 94 93,G 95 94 (pF 3 3),G 96 94 (pL 95),G 97 94 (pX 4 96 0),G 98 94 (pF 1 97),G 99 94 (pL 98),G 100 94 (pF 3 3),G 101 94 (pL 100),G 102 94 (pX 4 101 1),G 103 94 (pF 1 102),G 104 94 (pL 103),G 105 94 (pD .neq 99 104),oY 106 94 105,V 70 106]) (cR 70 [C 4 (pI 0)]))))))))))))) (sR [C 4 (.int .i64 (-1))]))))
def S2:=(sQ (sG [V 37 9,V 38 6,O 39 (pN 38),E 40 37 39] (cX 40 2)) (sQ (bK 3 (sQ (sQ (rD [V 43 0,O 44 (.idx (.t 43) (cI 1)),V 45 6,V 46 9,O 47 (pJ 45 46),oQ 48 .eql 44 47]) (cD 48 (rG [V 49 9,V 7 49]) .skip)) (sQ (rD [V 50 0,O 51 (.idx (.t 50) (cI 2)),V 52 6,V 53 9,O 54 (pJ 52 53),oQ 55 .eql 51 54]) (cD 55 (rG [V 56 9,V 8 56]) .skip)))) (rG [V 41 9,J 42 41,V 9 42])))
def o9:=(sQ (sG [V 13 5,V 14 4,O 15 (pN 14),E 16 13 15] (cX 16 0)) (sQ (bK 1 (sQ (rD [V 19 0,O 20 (.idx (.t 19) (cI 0)),V 21 4,V 22 5,O 23 (pJ 21 22),oQ 24 .eql 20 23]) (cR 24 [V 25 4,V 26 5,J 27 26,O 28 (pJ 25 27),V 2 28,C 3 (pI 1)]))) (rG [V 17 5,P 18 .add 17 2,V 5 18])))
def FE:=fU 68 2 3 (sG [C 2 (.int .u8 0),C 3 (pI 0)] (sQ (sG [V 10 0,O 11 (pN 10),P 12 .eql 11 0] (cR 12 [C 2 (.int .u8 0),C 3 (pI 0)])) (sG [C 4 (.str (bs [110,10,116,9,34,34,92,92]))] (sQ (sG [C 5 (pI 0)] (bL 0 o9)) (sG [C 6 (.str (bs [48,49,50,51,52,53,54,55,56,57,97,98,99,100,101,102]))] (sQ (sG [V 29 0,O 30 (.idx (.t 29) (cI 0)),O 31 (pU .neq 30 120),V 32 31,H 33 32 (pV 0),H 34 32 (pN 33),H 35 32 (pC .lss 34 3),oS 36 32 35] (cR 36 [C 2 (.int .u8 0),C 3 (pI 0)])) (sG [C 7 (.int .i64 (-1)),C 8 (.int .i64 (-1))] (sQ (sG [C 9 (pI 0)] (bL 2 S2)) (sQ (sG [V 57 7,P 58 .lss 57 0,V 59 58,H 60 59 (pV 8),H 61 59 (pC .lss 60 0),oS 62 59 61] (cR 62 [C 2 (.int .u8 0),C 3 (pI 0)])) (sR [V 63 7,O 64 (.bin .mul (cI 16) (.t 63)),V 65 8,oQ 66 .add 64 65,O 67 (.conv .u8 (.t 66)),V 2 67,C 3 (pI 3)]))))))))))
def Hb:=fT 17 2 (sG [C 2 bF] (sR [V 3 0,O 4 (pU .geq 3 97),V 5 4,G 6 5 (pV 0),G 7 5 (pU .leq 6 122),oY 8 5 7,V 9 8,H 10 9 (pV 0),H 11 9 (pU .geq 10 65),H 12 9 (pV 11),G 13 12 (pV 0),G 14 12 (pU .leq 13 90),H 15 9 (pP 12 14),oS 16 9 15,V 2 16]))
def IJ:=fT 9 2 (sG [C 2 bF] (sR [V 3 0,O 4 (pU .geq 3 48),V 5 4,G 6 5 (pV 0),G 7 5 (pU .leq 6 57),oY 8 5 7,V 2 8]))
def CO:=fT 17 2 (sG [B 1 0,C 2 (pI 0)] (sQ (sG [A 4 4 1,k1 5 n7 4,V 3 5] (sG [V 6 3,P 7 .neq 6 0] (cR 7 [V 8 3,V 2 8]))) (sQ (sG [A 9 4 1,k1 10 AY 9,P 11 .gtr 10 400,V 12 11,H 13 12 (pA 4 1),H 14 12 (p1 n6 13),H 15 12 (pC .gtr 14 40),oS 16 12 15] (cR 16 [C 2 (pI 3)])) (sR [C 2 (pI 0)]))))
def CR:=(sQ (sG [V 17 3,F 18 3 1,L 19 18,N 20 19,E 21 17 20] (cX 21 0)) (sQ (bK 1 (sG [F 24 3 1,L 25 24,V 26 3,oI 27 4 25 26,A 28 4 27,k1 29 Bh 28,V 4 29] (sG [V 30 4,P 31 .neq 30 0] (cR 31 [V 32 4,V 2 32])))) (rG [V 22 3,J 23 22,V 3 23])))
def Cx:=fT 33 2 (sG [B 1 0,C 2 (pI 0)] (sQ (sG [F 5 0 1,L 6 5,P 7 .eql 6 1,V 8 7,H 9 8 (pF 2 1),H 10 8 (pL 9),H 11 8 (pC .neq 10 0),oS 12 8 11] (cR 12 [C 2 (pI 10)])) (sQ (sG [F 13 1 1,L 14 13,k1 15 Y4 14,oU 16 15] (cR 16 [C 2 (pI 2)])) (sQ (sG [C 3 (pI 0)] (bL 0 CR)) (sR [C 2 (pI 0)])))))
def w7:=(sG [E 60 59 58] (sQ (cX 60 1) (sQ (bK 2 (sG [oI 61 4 57 59,A 62 4 61,oZ 10 z0,W 4 10 62] (sG [A 63 4 10,V 64 1,J 65 64,V 66 2,V 67 3,oK 68 X2 [(.t 63),(.t 65),(.t 66),(.t 67)],V 11 68] (sG [V 69 11,P 70 .neq 69 0] (cR 70 [V 71 11,V 8 71]))))) (rG [J 72 59,V 59 72]))))
def P5:=fT 73 8 (sG [B 4 0,C 8 (pI 0)] (sG [V 12 2,O 13 (pK 12),L 14 13,J 15 14,O 16 (pK 12),W 1 16 15] (sG [V 17 3,V 18 3,O 19 (pK 18),L 20 19,V 21 1,O 22 (.max (.t 20) (.t 21)),O 23 (pK 17),W 1 23 22] (sQ (sG [F 24 0 4,L 25 24] (bK 0 (sQ (sG [P 27 .eql 25 1,V 26 27] (cD 26 .skip (rG [P 28 .eql 25 2,V 26 28]))) (cD 26 (sG [F 29 2 4,L 30 29,P 31 .lss 30 0,V 32 31,H 33 32 (pF 2 4),H 34 32 (pL 33),H 35 32 (pC .gtr 34 5),oS 36 32 35,V 37 36,H 38 37 (pF 3 4),H 39 37 (pL 38),H 40 37 (pM 39),H 41 37 (pC .gtr 40 0),oS 42 37 41] (cR 42 [C 8 (pI 1)])) (sG [P 44 .eql 25 3,V 43 44] (cD 43 (sG [F 45 2 4,L 46 45,P 47 .neq 46 0] (cR 47 [C 8 (pI 1)])) (sR [C 8 (pI 1)]))))))) (sQ (sG [F 48 1 4,L 49 48,k1 50 CN 49,oU 51 50] (cR 51 [C 8 (pI 2)])) (sQ (sG [F 52 3 4,L 53 52,N 54 53,P 55 .gtr 54 8] (cR 55 [C 8 (pI 3)])) (sQ (sG [F 56 3 4,L 57 56,N 58 57,C 59 (pI 0)] (bL 1 w7)) (sR [C 8 (pI 0)]))))))))
def I6:=(sG [E 9 8 7] (sQ (cX 9 0) (sQ (bK 1 (sG [V 10 8,V 5 10] (sG [V 11 1,V 12 0,V 13 5,oI 14 1 12 13,L 15 14,O 16 (.callv (.t 11) [(.t 15)])] (cR 16 [V 17 5,V 4 17])))) (rG [J 18 8,V 8 18]))))
def y6:=fT 19 4 (sG [C 4 (pI 0)] (sQ (sG [V 6 0,N 7 6,C 8 (pI 0)] (bL 0 I6)) (sR [C 4 (.int .i64 (-1))])))
def HZ:=fT 17 2 (sG [C 2 bF] (sR [V 3 0,O 4 (pU .geq 3 97),V 5 4,G 6 5 (pV 0),G 7 5 (pU .leq 6 122),oY 8 5 7,V 9 8,H 10 9 (pV 0),H 11 9 (pU .geq 10 65),H 12 9 (pV 11),G 13 12 (pV 0),G 14 12 (pU .leq 13 90),H 15 9 (pP 12 14),oS 16 9 15,V 2 16]))
def D3:=(sQ (sG [V 4 3,V 5 0,O 6 (pN 5),E 7 4 6,V 8 7,G 9 8 (pV 0),G 10 8 (pV 3),G 11 8 (pJ 9 10),G 12 8 (p1 Cl 11),G 13 8 (pV 12),H 14 13 (pV 0),H 15 13 (pV 3),H 16 13 (pJ 14 15),H 17 13 (p1 Fp 16),G 18 8 (pR 13 17),G 19 8 (pV 18),H 20 19 (pV 0),H 21 19 (pV 3),H 22 19 (pJ 20 21),H 23 19 (pU .eql 22 95),G 24 8 (pR 19 23),G 25 8 (pV 24),H 26 25 (pV 0),H 27 25 (pV 3),H 28 25 (pJ 26 27),H 29 25 (pU .eql 28 35),G 30 8 (pR 25 29),oY 31 8 30] (cX 31 0)) (bK 1 (sQ (sG [V 32 0,V 33 3,O 34 (.slc 0 (.t 32) (some (.t 33)) none none),O 35 (.call BE [(.t 34),(cS [35,35])])] (cD 35 (.exit 0) .skip)) (rG [V 36 3,J 37 36,V 3 37]))))
def EE:=fT 39 2 (sG [C 2 (pI 0)] (sG [C 3 (pI 1)] (sQ (bL 0 D3) (sR [V 38 3,V 2 38]))))
def Bc:=(sG [E 22 21 20] (sQ (cX 22 0) (sQ (bK 1 (sG [oI 23 4 19 21,A 24 4 23,oZ 4 z0,W 4 4 24] (sG [A 25 4 4,k1 26 Ac 25,V 5 26] (sG [V 27 5,P 28 .neq 27 0] (cR 28 [V 29 5,V 2 29]))))) (rG [J 30 21,V 21 30]))))
def Bx:=fT 31 2 (sG [B 1 0,C 2 (pI 0)] (sQ (sG [F 6 0 1,L 7 6,P 8 .eql 7 1,V 9 8,H 10 9 (pF 2 1),H 11 9 (pL 10),H 12 9 (pC .neq 11 0),oS 13 9 12] (cR 13 [C 2 (pI 10)])) (sQ (sG [F 14 1 1,L 15 14,k1 16 s6 15,oU 17 16] (cR 17 [C 2 (pI 2)])) (sQ (sG [F 18 3 1,L 19 18,N 20 19,C 21 (pI 0)] (bL 0 Bc)) (sR [C 2 (pI 0)])))))
def BW:=fT 21 4 (sG [B 2 0,B 3 1,C 4 bF] (sQ (rD [A 5 4 3,O 6 (.call HP [(.t 5),(cS [112,107])]),V 7 6,G 8 7 (pF 3 3),G 9 7 (pL 8),G 10 7 (pM 9),G 11 7 (pC .eql 10 1),oY 12 7 11,V 13 12,G 14 13 (pA 6 2),G 15 13 (pF 3 3),G 16 13 (pL 15),G 17 13 (pX 4 16 0),G 18 13 (pA 4 17),G 19 13 (p2 CA 14 18),oY 20 13 19,V 4 20]) .ret))
def AI:=fT 21 4 (sG [B 2 0,B 3 1,C 4 bF] (sQ (rD [A 5 4 3,O 6 (.call HP [(.t 5),(cS [115,107])]),V 7 6,G 8 7 (pF 3 3),G 9 7 (pL 8),G 10 7 (pM 9),G 11 7 (pC .eql 10 1),oY 12 7 11,V 13 12,G 14 13 (pA 6 2),G 15 13 (pF 3 3),G 16 13 (pL 15),G 17 13 (pX 4 16 0),G 18 13 (pA 4 17),G 19 13 (p2 DC 14 18),oY 20 13 19,V 4 20]) .ret))
def FF:=fT 16 4 (sG [B 2 0,B 3 1,C 4 bF] (sR [F 5 0 3,L 6 5,P 7 .eql 6 2,V 8 7,G 9 8 (pF 1 2),G 10 8 (pL 9),G 11 8 (pF 1 3),G 12 8 (pL 11),G 13 8 (p2 K0 10 12),G 14 8 (pC .geq 13 0),oY 15 8 14,V 4 15]))
def z7:=(sQ (sG [V 11 4,F 12 3 1,L 13 12,N 14 13,E 15 11 14] (cX 15 0)) (sQ (bK 1 (sG [F 18 3 1,L 19 18,V 20 4,oI 21 4 19 20,A 22 4 21,k1 23 n7 22,V 5 23] (sG [V 24 5,P 25 .neq 24 0] (cR 25 [V 26 5,V 2 26])))) (rG [V 16 4,J 17 16,V 4 17])))
def Dk:=fT 27 2 (sG [B 1 0,C 2 (pI 0)] (sQ (sG [A 6 4 1,k1 7 Gg 6,V 3 7] (sG [V 8 3,P 9 .neq 8 0] (cR 9 [V 10 3,V 2 10]))) (sQ (sG [C 4 (pI 0)] (bL 0 z7)) (sR [C 2 (pI 0)]))))
def y9:=(sQ (sG [V 5 4,F 6 3 1,L 7 6,N 8 7,E 9 5 8] (cX 9 0)) (sQ (bK 1 (rG [V 12 3,F 13 3 1,L 14 13,V 15 4,oI 16 4 14 15,A 17 4 16,k1 18 n6 17,O 19 (.max (.t 12) (.t 18)),V 3 19])) (rG [V 10 4,J 11 10,V 4 11])))
def Fy:=fT 22 2 (sG [B 1 0,C 2 (pI 0)] (sG [C 3 (pI 0)] (sQ (sG [C 4 (pI 0)] (bL 0 y9)) (sR [V 20 3,J 21 20,V 2 21]))))
def AM:=(sG [E 40 39 38] (sQ (cX 40 0) (sQ (bK 1 (sG [V 41 39,V 3 41] (sG [V 42 0,V 43 3,O 44 (pJ 42 43),k1 45 GJ 44,oU 46 45] (cR 46 [C 2 bF])))) (rG [J 47 39,V 39 47]))))
def X6:=fT 48 2 (sG [C 2 bF] (sQ (sG [V 4 0,O 5 (.bin .eql (.t 4) (.c zs)),V 6 5,H 7 6 (pV 0),H 8 6 (pN 7),H 9 6 (pC .gtr 8 24),oS 10 6 9,V 11 10,H 12 11 (pV 0),H 13 11 (.idx (.t 12) (cI 0)),H 14 11 (p1 GJ 13),H 15 11 (pO 14),oS 16 11 15,V 17 16,H 18 17 (pV 0),H 19 17 (.idx (.t 18) (cI 0)),H 20 17 (pU .geq 19 48),H 21 17 (pV 20),G 22 21 (pV 0),G 23 21 (.idx (.t 22) (cI 0)),G 24 21 (pU .leq 23 57),H 25 17 (pP 21 24),oS 26 17 25,V 27 26,H 28 27 (pV 0),H 29 27 (.idx (.t 28) (cI 0)),H 30 27 (pU .eql 29 95),oS 31 27 30,V 32 31,H 33 32 (pV 0),H 34 32 (.idx (.t 33) (cI 0)),H 35 32 (pU .eql 34 35),oS 36 32 35] (cR 36 [C 2 bF])) (sQ (sG [V 37 0,O 38 (pN 37),C 39 (pI 0)] (bL 0 AM)) (sR [C 2 bT]))))
def II:=fT 9 2 (sG [C 2 bF] (sR [V 3 0,O 4 (pU .geq 3 48),V 5 4,G 6 5 (pV 0),G 7 5 (pU .leq 6 57),oY 8 5 7,V 2 8]))
def Da:=fT 8 4 (sG [C 4 bF] (sR [V 5 0,V 6 1,k2 7 Z9 5 6,V 4 7]))
def LE:=fT 14 4 (sG [B 2 0,C 4 bF] (sR [F 5 0 2,L 6 5,P 7 .eql 6 3,V 8 7,G 9 8 (pF 1 2),G 10 8 (pL 9),G 11 8 (pV 1),G 12 8 (pD .eql 10 11),oY 13 8 12,V 4 13]))
def J0:=fT 55 2 (sG [B 1 0,C 2 (pI 0)] (sG [F 4 0 1,L 5 4,P 6 .eql 5 1,V 7 6,H 8 7 (pF 0 1),H 9 7 (pL 8),H 10 7 (pC .eql 9 2),oS 11 7 10,V 3 11] (sQ (sG [V 12 3,oU 13 12,V 14 13,G 15 14 (pF 0 1),G 16 14 (pL 15),G 17 14 (pC .neq 16 3),oY 18 14 17,V 19 18,H 20 19 (pF 2 1),H 21 19 (pL 20),H 22 19 (pC .lss 21 0),oS 23 19 22,V 24 23,H 25 24 (pF 2 1),H 26 24 (pL 25),H 27 24 (pC .gtr 26 5),oS 28 24 27,V 29 28,H 30 29 (pV 3),H 31 29 (pO 30),H 32 29 (pV 31),G 33 32 (pF 2 1),G 34 32 (pL 33),G 35 32 (pC .neq 34 0),H 36 29 (pP 32 35),oS 37 29 36,V 38 37,H 39 38 (pV 3),H 40 38 (pV 39),G 41 40 (pF 3 1),G 42 40 (pL 41),G 43 40 (pM 42),G 44 40 (pC .gtr 43 0),H 45 38 (pP 40 44),oS 46 38 45] (cR 46 [C 2 (pI 1)])) (sQ (sG [F 47 1 1,L 48 47,k1 49 s8 48,oU 50 49] (cR 50 [C 2 (pI 2)])) (sQ (sG [F 51 3 1,L 52 51,N 53 52,P 54 .gtr 53 8] (cR 54 [C 2 (pI 3)])) (sR [C 2 (pI 0)]))))))
def KG:=fT 33 2 (sG [C 2 bF] (sR [V 3 0,O 4 (pU .geq 3 97),V 5 4,G 6 5 (pV 0),G 7 5 (pU .leq 6 122),oY 8 5 7,V 9 8,H 10 9 (pV 0),H 11 9 (pU .geq 10 65),H 12 9 (pV 11),G 13 12 (pV 0),G 14 12 (pU .leq 13 90),H 15 9 (pP 12 14),oS 16 9 15,V 17 16,H 18 17 (pV 0),H 19 17 (pU .geq 18 48),H 20 17 (pV 19),G 21 20 (pV 0),G 22 20 (pU .leq 21 57),H 23 17 (pP 20 22),oS 24 17 23,V 25 24,H 26 25 (pV 0),H 27 25 (pU .eql 26 95),oS 28 25 27,V 29 28,H 30 29 (pV 0),H 31 29 (pU .eql 30 35),oS 32 29 31,V 2 32]))
def b8:=fT 18 4 (sG [C 4 bF] (sR [V 5 0,O 6 (pN 5),V 7 1,O 8 (pN 7),oQ 9 .geq 6 8,V 10 9,G 11 10 (pV 0),G 12 10 (pV 1),G 13 10 (pN 12),G 14 10 (.slc 0 (.t 11) none (some (.t 13)) none),G 15 10 (pV 1),G 16 10 (pD .eql 14 15),oY 17 10 16,V 4 17]))
end Go.Abs.Q
