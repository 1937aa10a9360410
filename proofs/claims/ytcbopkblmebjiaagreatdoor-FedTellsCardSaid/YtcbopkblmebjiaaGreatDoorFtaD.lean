import Derived.OwnWalkIn
import Derived.TacticsInMore
import Derived.LoopIn
import Derived.Maps.AppendAt
import Derived.RangeFuncNested
import Derived.Stop.Asserts
import Derived.Test.YtcbopkblmebjiaaGreatDoorFtaC
set_option linter.all false
open Go.Proofs.Tryz
namespace Go.Proofs.YtcbopkblmebjiaaGreatDoor
open Go Go.Abs
def Qb:Nat->Option eX
 |155=>some L2
 |156=>some YU
 |157=>some YV
 |159=>some YW
 |161=>some YX
 |162=>some YY
 |168=>some yo
 |169=>some YZ
 |170=>some QH
 |171=>some Y0
 |172=>some Y1
 |173=>some Y2
 |174=>some Y3
 |175=>some Y4
 |176=>some Y5
 |177=>some Y6
 |178=>some QI
 |179=>some Y7
 |180=>some Y8
 |181=>some QJ
 |193=>some L4
 |195=>some Y9
 |200=>some Za
 |201=>some QK
 |202=>some QL
 |203=>some Zb
 |204=>some QM
 |205=>some Zc
 |206=>some Zd
 |207=>some Ze
 |208=>some L5
 |209=>some Zf
 |210=>some Zg
 |216=>some Zh
 |217=>some Zi
 |219=>some Zj
 |221=>some agO
 |222=>some Zk
 |223=>some QO
 |224=>some QP
 |225=>some QQ
 |226=>some QR
 |227=>some Zl
 |228=>some Zm
 |229=>some Zn
 |230=>some Zo
 |231=>some Zp
 |232=>some Zq
 |240=>some L6
 |246=>some Zt
 |248=>some Zu
 |251=>some Zv
 |253=>some agQ
 |254=>some Zw
 |255=>some Zx
 |256=>some Zy
 |257=>some Zz
 |258=>some agR
 |259=>some ZA
 |261=>some HX
 |278=>some agU
 |_=>none
def Qa:Nat->Option eX
 |77=>some ahi
 |78=>some ahj
 |79=>some QT
 |80=>some Gw
 |81=>some ahk
 |82=>some ahl
 |83=>some N1
 |84=>some abm
 |85=>some abn
 |86=>some HY
 |87=>some abo
 |88=>some ahm
 |89=>some N2
 |90=>some abp
 |91=>some HZ
 |92=>some ahn
 |93=>some Ks
 |94=>some abq
 |97=>some abr
 |98=>some abt
 |99=>some QU
 |100=>some LY
 |101=>some HV
 |102=>some HW
 |103=>some EF
 |104=>some Yv
 |105=>some Qy
 |106=>some Yw
 |108=>some C0
 |109=>some LZ
 |110=>some Yx
 |111=>some Qz
 |112=>some QA
 |113=>some Yy
 |114=>some Yz
 |115=>some QB
 |116=>some YA
 |117=>some QC
 |118=>some YB
 |119=>some YC
 |120=>some YD
 |121=>some YE
 |124=>some YF
 |126=>some EG
 |127=>some YG
 |128=>some L1
 |129=>some YH
 |130=>some YI
 |132=>some QD
 |133=>some YJ
 |134=>some YK
 |135=>some agK
 |136=>some agL
 |137=>some YL
 |138=>some YM
 |139=>some YN
 |140=>some YO
 |141=>some YP
 |142=>some YQ
 |143=>some YR
 |144=>some QE
 |146=>some YT
 |147=>some pY
 |148=>some QF
 |149=>some uF
 |150=>some C1
 |151=>some zH
 |152=>some C2
 |153=>some BD
 |154=>some QG
 |f=>Qb f
def code:Nat->Option eX
 |3=>some fn3
 |4=>some fn4
 |5=>some fn5
 |6=>some fn6
 |7=>some fn7
 |8=>some fn8
 |11=>some aa6
 |12=>some agI
 |13=>some agJ
 |14=>some alV
 |15=>some V1
 |16=>some yi
 |17=>some aa7
 |18=>some NV
 |19=>some agM
 |20=>some agN
 |21=>some QN
 |22=>some aa8
 |23=>some aa9
 |24=>some agP
 |25=>some aba
 |26=>some agS
 |27=>some agT
 |28=>some abb
 |29=>some agV
 |30=>some agW
 |31=>some NW
 |32=>some V2
 |33=>some agX
 |34=>some agY
 |35=>some NX
 |36=>some NY
 |37=>some NZ
 |38=>some agZ
 |39=>some abc
 |40=>some abd
 |41=>some ag0
 |42=>some abe
 |43=>some ag1
 |45=>some Kq
 |46=>some ag2
 |47=>some ag3
 |48=>some ag4
 |49=>some ag5
 |50=>some Kr
 |51=>some abf
 |52=>some ag6
 |53=>some abg
 |54=>some ag7
 |55=>some ag8
 |56=>some ag9
 |57=>some aha
 |60=>some ahb
 |61=>some abh
 |62=>some ahc
 |64=>some abi
 |65=>some ahd
 |66=>some ahe
 |67=>some N0
 |68=>some QS
 |69=>some ahf
 |70=>some ahg
 |71=>some ahh
 |72=>some abj
 |73=>some abk
 |74=>some Gv
 |75=>some Ea
 |76=>some abl
 |f=>Qa f
noncomputable def qP:Nat->Option (List ag->aO->Option (ag×aO))
 |220=>some (wI 3 2 221)
 |58=>some (wI 6 0 59)
 |194=>some (y8)
 |131=>some (IX)
 |199=>some (zW)
 |218=>some (p9 3 32)
 |234=>some (p9 6 80)
 |145=>some (p9 3 32)
 |107=>some (x8 1 16)
 |233=>some (oS 6)
 |252=>some (oS 3)
 |163=>some (oS 3)
 |249=>some (nI 6 80)
 |250=>some (nI 3 32)
 |160=>some (nI 3 32)
 |_=>none
noncomputable def dp:Br:=⟨code,qP⟩
set_option maxRecDepth 100000 in
def xw{f:Nat}{c fn:eX}{func:Func}{A:zi}(h:some c=some fn)(h1:Tryz.prog.funcs[f]?=some func)(h2:pE Tryz.prog A func=some c):∃ A func,Tryz.prog.funcs[f]?=some func/\pE Tryz.prog A func=some fn:=by
 cases h; exact⟨_,_,h1,h2⟩
def hZ{f:Nat}{c fn:eX}{func:Func}(h:some c=some fn)(h1:Tryz.prog.funcs[f]?=some func)(h2:wT [] func c):∃ A func,Tryz.prog.funcs[f]?=some func/\pE Tryz.prog A func=some fn:=xw h h1 h2
def P9(f:Nat)(fn:eX)(h:Qb f=some fn):∃A func,Tryz.prog.funcs[f]?=some func/\pE Tryz.prog A func=some fn:=by
 unfold Qb at h;split at h
 ·exact hZ h func155 fT
 ·exact hZ h func156 fT
 ·exact hZ h func157 fT
 ·exact hZ h func159 fT
 ·exact hZ h func161 fT
 ·exact hZ h func162 fT
 ·exact xw h func168 ais
 ·exact hZ h func169 fT
 ·exact hZ h func170 fT
 ·exact hZ h func171 fT
 ·exact hZ h func172 fT
 ·exact hZ h func173 fT
 ·exact hZ h func174 fT
 ·exact hZ h func175 fT
 ·exact hZ h func176 fT
 ·exact hZ h func177 fT
 ·exact xw h func178 ait
 ·exact hZ h func179 fT
 ·exact hZ h func180 fT
 ·exact xw h func181 aiu
 ·exact hZ h func193 fT
 ·exact hZ h func195 fT
 ·exact hZ h func200 fT
 ·exact hZ h func201 fT
 ·exact xw h func202 aiv
 ·exact hZ h func203 fT
 ·exact hZ h func204 fT
 ·exact hZ h func205 fT
 ·exact hZ h func206 fT
 ·exact hZ h func207 fT
 ·exact xw h func208 aiw
 ·exact hZ h func209 fT
 ·exact hZ h func210 fT
 ·exact hZ h func216 fT
 ·exact hZ h func217 fT
 ·exact hZ h func219 fT
 ·exact hZ h func221 fT
 ·exact hZ h func222 fT
 ·exact xw h func223 aix
 ·exact xw h func224 aiy
 ·exact hZ h func225 fT
 ·exact xw h func226 aiz
 ·exact hZ h func227 fT
 ·exact hZ h func228 fT
 ·exact hZ h func229 fT
 ·exact hZ h func230 fT
 ·exact hZ h func231 fT
 ·exact hZ h func232 fT
 ·exact hZ h func240 fT
 ·exact hZ h func246 fT
 ·exact hZ h func248 fT
 ·exact hZ h func251 fT
 ·exact hZ h func253 fT
 ·exact hZ h func254 fT
 ·exact hZ h func255 fT
 ·exact hZ h func256 fT
 ·exact hZ h func257 fT
 ·exact hZ h func258 fT
 ·exact hZ h func259 fT
 ·exact hZ h func261 fT
 ·exact hZ h func278 fT
 ·cases h
set_option maxRecDepth 100000 in
def P8(f:Nat)(fn:eX)(h:Qa f=some fn):∃A func,Tryz.prog.funcs[f]?=some func/\pE Tryz.prog A func=some fn:=by
 unfold Qa at h;split at h
 ·exact hZ h func77 fT
 ·exact hZ h func78 fT
 ·exact hZ h func79 fT
 ·exact hZ h func80 fT
 ·exact hZ h func81 fT
 ·exact hZ h func82 fT
 ·exact hZ h func83 fT
 ·exact hZ h func84 fT
 ·exact hZ h func85 fT
 ·exact hZ h func86 fT
 ·exact xw h func87 am5
 ·exact hZ h func88 fT
 ·exact hZ h func89 fT
 ·exact hZ h func90 fT
 ·exact xw h func91 am6
 ·exact hZ h func92 fT
 ·exact xw h func93 am7
 ·exact hZ h func94 fT
 ·exact hZ h func97 fT
 ·exact hZ h func98 fT
 ·exact xw h func99 am8
 ·exact hZ h func100 fT
 ·exact hZ h func101 fT
 ·exact hZ h func102 fT
 ·exact hZ h func103 fT
 ·exact hZ h func104 fT
 ·exact xw h func105 aif
 ·exact hZ h func106 fT
 ·exact xw h func108 aih
 ·exact hZ h func109 fT
 ·exact hZ h func110 fT
 ·exact xw h func111 aii
 ·exact xw h func112 aij
 ·exact hZ h func113 fT
 ·exact hZ h func114 fT
 ·exact xw h func115 aik
 ·exact hZ h func116 fT
 ·exact hZ h func117 fT
 ·exact hZ h func118 fT
 ·exact hZ h func119 fT
 ·exact hZ h func120 fT
 ·exact hZ h func121 fT
 ·exact hZ h func124 fT
 ·exact hZ h func126 fT
 ·exact hZ h func127 fT
 ·exact xw h func128 ail
 ·exact hZ h func129 fT
 ·exact hZ h func130 fT
 ·exact hZ h func132 fT
 ·exact hZ h func133 fT
 ·exact hZ h func134 fT
 ·exact hZ h func135 fT
 ·exact hZ h func136 fT
 ·exact hZ h func137 fT
 ·exact hZ h func138 fT
 ·exact hZ h func139 fT
 ·exact hZ h func140 fT
 ·exact hZ h func141 fT
 ·exact hZ h func142 fT
 ·exact hZ h func143 fT
 ·exact hZ h func144 fT
 ·exact hZ h func146 fT
 ·exact hZ h func147 fT
 ·exact xw h func148 aim
 ·exact hZ h func149 fT
 ·exact xw h func150 ain
 ·exact xw h func151 aio
 ·exact xw h func152 aip
 ·exact xw h func153 aiq
 ·exact hZ h func154 fT
 ·exact P9 _ _ h
set_option maxRecDepth 100000 in
def VE(f:Nat)(fn:eX)(h:code f=some fn):∃A func,Tryz.prog.funcs[f]?=some func/\pE Tryz.prog A func=some fn:=by
 unfold code at h;split at h
 ·exact hZ h func3 fT
 ·exact hZ h func4 fT
 ·exact hZ h func5 fT
 ·exact hZ h func6 fT
 ·exact hZ h func7 fT
 ·exact hZ h func8 fT
 ·exact xw h func11 amU
 ·exact hZ h func12 fT
 ·exact hZ h func13 fT
 ·exact hZ h func14 fT
 ·exact hZ h func15 fT
 ·exact hZ h func16 fT
 ·exact xw h func17 amV
 ·exact hZ h func18 fT
 ·exact hZ h func19 fT
 ·exact hZ h func20 fT
 ·exact xw h func21 amW
 ·exact hZ h func22 fT
 ·exact xw h func23 amX
 ·exact hZ h func24 fT
 ·exact hZ h func25 fT
 ·exact hZ h func26 fT
 ·exact hZ h func27 fT
 ·exact xw h func28 amY
 ·exact hZ h func29 fT
 ·exact hZ h func30 fT
 ·exact hZ h func31 fT
 ·exact hZ h func32 fT
 ·exact hZ h func33 fT
 ·exact hZ h func34 fT
 ·exact hZ h func35 fT
 ·exact hZ h func36 fT
 ·exact hZ h func37 fT
 ·exact hZ h func38 fT
 ·exact xw h func39 amZ
 ·exact xw h func40 am0
 ·exact hZ h func41 fT
 ·exact hZ h func42 fT
 ·exact hZ h func43 fT
 ·exact hZ h func45 fT
 ·exact hZ h func46 fT
 ·exact hZ h func47 fT
 ·exact hZ h func48 fT
 ·exact hZ h func49 fT
 ·exact xw h func50 am1
 ·exact hZ h func51 fT
 ·exact hZ h func52 fT
 ·exact hZ h func53 fT
 ·exact hZ h func54 fT
 ·exact hZ h func55 fT
 ·exact hZ h func56 fT
 ·exact hZ h func57 fT
 ·exact hZ h func60 fT
 ·exact hZ h func61 fT
 ·exact hZ h func62 fT
 ·exact hZ h func64 fT
 ·exact hZ h func65 fT
 ·exact hZ h func66 fT
 ·exact xw h func67 am2
 ·exact hZ h func68 fT
 ·exact hZ h func69 fT
 ·exact hZ h func70 fT
 ·exact hZ h func71 fT
 ·exact hZ h func72 fT
 ·exact hZ h func73 fT
 ·exact xw h func74 am3
 ·exact hZ h func75 fT
 ·exact xw h func76 am4
 ·exact P8 _ _ h
def XI(f:Nat)(g:List ag->aO->Option (ag×aO))(h:qP f=some g)(args:List ag)(M:aO)(x:ag×aO)(hx:g args M=some x):k6 Tryz.prog f=true/\eZ Tryz.prog f args M x:=by
 unfold qP at h;split at h
 ·cases h; exact⟨gd,UG hx⟩
 ·cases h; exact⟨gd,XP hx⟩
 ·cases h; exact⟨gd,Kz hx⟩
 ·cases h; exact⟨gd,ahE hx⟩
 ·cases h; exact⟨gd,HI hx⟩
 ·cases h; exact⟨gd,Ny hx⟩
 ·cases h; exact⟨gd,Nz hx⟩
 ·cases h; exact⟨gd,Nx hx⟩
 ·cases h; exact⟨gd,JZ hx⟩
 ·cases h; exact⟨gd,NI hx⟩
 ·cases h; exact⟨gd,NJ hx⟩
 ·cases h; exact⟨gd,NH hx⟩
 ·cases h; exact⟨gd,Od hx⟩
 ·cases h; exact⟨gd,Oe hx⟩
 ·cases h; exact⟨gd,Oc hx⟩
 ·cases h
def UN:ym Tryz.prog dp:=⟨VE,XI⟩
abbrev Bytes:=List UInt8
structure eM where
 name:Bytes
 ar:Int
 ae:Int
 deriving DecidableEq,Inhabited
structure Node where
 ar:Int
 kind:Int
 df:Int
 data:Bytes
 aK:List eM
 up:Int
 deriving DecidableEq,Inhabited
structure Tree where
 aa:List Node
 next:Int
 ae:Int
 deriving DecidableEq,Inhabited
def Node.zero:Node:=⟨0,0,0,[],[],0⟩
def dJ(e:eM):List ag:=[.str e.name,.int .i64 e.ar,.int .i64 e.ae]
def gq(e:eM):ag := .agg (dJ e)
abbrev iU(l:List eM):ag := .slice .sh (l.map gq)
abbrev mc(d:Bytes):ag := .slice .sh (d.map Aj)
def aI(n:Node):List ag:=[.int .i64 n.ar,.int .i64 n.kind,.int .i64 n.df,mc n.data,iU n.aK,.int .i64 n.up]
def bJ(n:Node):ag := .agg (aI n)
abbrev aV(l:List Node):ag := .slice .sh (l.map bJ)
def aY(t:Tree):List ag:=[aV t.aa,.int .i64 t.next,.int .i64 t.ae]
def bD(t:Tree):ag := .agg (aY t)
structure Small(t:Tree):Prop where
 aa:t.aa.length<=100000
 aK:∀n,n∈t.aa->n.aK.length<=100000
 data:∀n,n∈t.aa->n.data.length<=100000
def sE(n:Node):(bJ n).cells=aI n:=rfl
def JW(e:eM):(gq e).cells=dJ e:=rfl
def uh(n:Node):(aI n).length=6:=rfl
def Oq(e:eM):(dJ e).length=3:=rfl
def F3(l:List Node):wid (l.map bJ) 6=True:=by
 simp only[fH,j5];intro x hx;obtain⟨n,_,rfl⟩:=cm.1 hx;rfl
def Jn(l:List eM):wid (l.map gq) 3=True:=by
 simp only[fH,j5];intro x hx;obtain⟨n,_,rfl⟩:=cm.1 hx;rfl
def Pg(l:Bytes):wid (l.map Aj) 1=True:=by
 simp only[fH,j5];intro x hx;obtain⟨n,_,rfl⟩:=cm.1 hx;rfl
structure Step where
 kind:Nat
 a:Nat
 b:Nat
 n:Nat
 m:Nat
 data:Bytes
def EVN:=cn @sE (cn @JW (cn @uh (cn @Oq (cn @F3 (cn @Jn @Pg)))))
def EN:=And.intro EVN EV
section
attribute [local irreducible] fP fm kM gK dH kr aq aL cH bP
def lr{α:Type}{l:List α}{pre r:List α}{n:α}(h:l=pre++n::r):l[pre.length]?=some n:=by rw[h]; simp
def pI{α:Type}{l:List α}{pre r:List α}{n:α}(h:l=pre++n::r):((pre.length:Int)<(l.length:Int))=True:=by rw[h]; simp; omega
def qX{α:Type}{l:List α}{pre:List α}(h:l=pre++[]):((pre.length:Int)<(l.length:Int))=False:=by rw[h]; simp
def UL{α:Type}{pre:List α}{n:α}:((pre.length:Int)+1)=((pre++[n]).length:Int):=dk
def Lu{T:Type}(l:List T)(x:T)(h:(l.length:Int)+1<9223372036854775808:=by omega):IntKind.i64.wrap ((l.length:Int)+1)=((l++[x]).length:Int):=by rw[gb aM aM]; exact UL
def find(aa:List Node)(ar:Int):Option Node:=aa.find? fun n=>n.ar==ar
def gM(aa:List Node)(ar:Int):Node×Int:=match find aa ar with
 |none=>(Node.zero,70)
 |some n=>if n.kind=2 then (n,0) else (Node.zero,73)
def eE(l:List eM)(s:Bytes):Option eM:=l.find? fun e=>e.name==s
def tf(b:UInt8):Bool := !(decide ((b.toNat:Int)<32)||((b.toNat:Int)==47))
def dB(s:Bytes):Bool := !(decide ((s.length:Int)<1)||(decide ((s.length:Int)>32)||(s==[46]||s==[46,46])))&&s.all tf
def eB(aa:List Node)(ar:Int)(s:Bytes):Int×Int :=
 if (gM aa ar).2≠0 then (0,(gM aa ar).2) else if dB s=false then (0,60) else match eE (gM aa ar).1.aK s with
  |none=>(0,70)
  |some e=>(e.ar,0)
theorem cr{aa:List Node}{ar:Int}{n:Node}(h:find aa ar=some n):n∈aa/\n.ar=ar:=by
 unfold find at h;exact⟨List.mem_of_find?_eq_some h,by simpa using List.find?_some h⟩
def tK{t:Tree}(hs:Small t)(ar:Int):(gM t.aa ar).1.aK.length<=100000:=by
 unfold gM;split
 ·simp[Node.zero]
 ·rename_i n hn;split
  ·exact hs.aK n (cr hn).1
  ·simp[Node.zero]
def zT:List ag:=[.slice .c0 [],.int .i64 0,.int .i64 0]
def oB(n:Node):List Node->List Node->Bool->List Node×Bool
 | [],out,done=>(out,done)
 |m::r,out,done =>
  oB n r ((if !done&&decide (m.ar>=n.ar) then out++[n] else out)++(if m.ar=n.ar then [] else [m])) (done||decide (m.ar>=n.ar))
def eS(aa:List Node)(n:Node):List Node:=(oB n aa [] false).1++(if (oB n aa [] false).2=true then [] else [n])
def je(aa:List Node)(ar:Int):List Node:=aa.filter fun n=>n.ar != ar
def fO(l:List eM)(s:Bytes):List eM:=l.filter fun e=>e.name != s
def dU(aa:List Node)(ar:Int)(s:Bytes):List Node:=eS aa { (find aa ar).getD Node.zero with aK:=fO ((find aa ar).getD Node.zero).aK s }
abbrev nc(n:Int):Int:=IntKind.i64.wrap n
def ZC(a b:Bytes):Bool := !(strLt a b||a==b)
def vr(e:eM):List eM->List eM->Bool->List eM×Bool
 | [],out,done=>(out,done)
 |m::r,out,done=>vr e r ((if !done&&ZC m.name e.name then out++[e] else out)++[m]) (done||ZC m.name e.name)
def tu(l:List eM)(e:eM):List eM:=(vr e l [] false).1++(if (vr e l [] false).2=true then [] else [e])
def hU(t:Tree)(ar:Int)(s:Bytes)(of:Int):Tree :=
 ⟨eS t.aa { (find t.aa ar).getD Node.zero with aK:=tu ((find t.aa ar).getD Node.zero).aK ⟨s,of,t.ae⟩ },t.next,nc (t.ae+1)⟩
def Ad(aa:List Node)(ar:Int):Int:=((find aa ar).getD Node.zero).up
def sb(aa:List Node):Nat->Int->Nat->Nat
 |0,_,d=>d
 |m+1,ar,d=>if ar=1 then d else sb aa m (Ad aa ar) (d+1)
def jx(aa:List Node)(ar:Int):Nat:=sb aa 201 ar 0
def ke(aa:List Node)(of:Int):Nat->Int->Bool
 |0,_=>false
 |m+1,ar=>if ar=of then true else if ar=1 then false else ke aa of m (Ad aa ar)
def jr(aa:List Node)(ar of:Int):Bool:=ke aa of (aa.length+1) ar
structure Sz(b:Nat)(t:Tree):Prop where
 aa:t.aa.length<=b
 aK:∀n,n∈t.aa->n.aK.length<=b
 data:∀n,n∈t.aa->n.data.length<=100000
def Sz.small{b:Nat}{t:Tree}(h:Sz b t)(hb:b<=100000):Small t:=⟨bg h.aa hb,fun n hn=>bg (h.aK n hn) hb,h.data⟩
def F4(n:Node):∀(l out:List Node)(d:Bool),(oB n l out d).1.length+(if (oB n l out d).2=true then 0 else 1)<=out.length+l.length+(if d then 0 else 1)
 | [],out,d=>by simp only[oB,aF,dq]; exact ak _
 |m::r,out,d=>by
  rw[oB];refine bg (F4 n r _ _) ?_;cases d<;>by_cases h1:n.ar<=m.ar<;>by_cases h2:m.ar=n.ar<;>simp[h1,h2]<;>omega
def F5(n:Node):∀(l out:List Node)(d:Bool)(x:Node),x∈(oB n l out d).1->x=n\/x∈out\/x∈l
 | [],out,d,x,h=>by simp[oB] at h; exact .inr (.inl h)
 |m::r,out,d,x,h=>by
  rw[oB] at h;rcases F5 n r _ _ x h with h|h|h
  ·exact .inl h
  ·rcases bC.1 h with h|h
   ·split at h
    ·rcases bC.1 h with h|h
     ·exact .inr (.inl h)
     ·exact .inl (by simpa using h)
    ·exact .inr (.inl h)
   ·split at h
    ·cases h
    ·exact .inr (.inr (by simp at h; simp[h]))
  ·exact .inr (.inr (aP _ h))
def F6(aa:List Node)(n:Node):(eS aa n).length<=aa.length+1:=by
 have:=F4 n aa [] false;unfold eS;split at this<;>simp_all
def F7{aa:List Node}{n x:Node}(h:x∈eS aa n):x=n\/x∈aa:=by
 unfold eS at h;rcases bC.1 h with h|h
 ·rcases F5 n aa [] false x h with h|h|h
  ·exact .inl h
  ·cases h
  ·exact .inr h
 ·split at h
  ·cases h
  ·exact .inl (by simpa using h)
def Sz.with{b:Nat}{t:Tree}(h:Sz b t){n:Node}(h1:n.aK.length<=b+1)(h2:n.data.length<=100000)(next ae:Int):Sz (b+1) ⟨eS t.aa n,next,ae⟩ :=
 ⟨bg (F6 _ _) (by have:=h.aa; simp; omega),fun x hx=>by
  rcases F7 hx with rfl|hx
  ·exact h1
  ·exact iP (h.aK x hx),fun x hx=>by
  rcases F7 hx with rfl|hx
  ·exact h2
  ·exact h.data x hx⟩
def Sz.up{b c:Nat}{t:Tree}(h:Sz b t)(hbc:b<=c):Sz c t:=⟨bg h.aa hbc,fun n hn=>bg (h.aK n hn) hbc,h.data⟩
def Sz.find{b:Nat}{t:Tree}(h:Sz b t)(ar:Int):((find t.aa ar).getD Node.zero).aK.length<=b/\((find t.aa ar).getD Node.zero).data.length<=100000:=by
 cases hf:Go.Proofs.YtcbopkblmebjiaaGreatDoor.find t.aa ar with
 |none=>simp[Node.zero]
 |some n=>exact⟨h.aK n (cr hf).1,h.data n (cr hf).1⟩
def AD(l:List eM)(s:Bytes):(fO l s).length<=l.length:=eN _ _
def Sz.left{b:Nat}{t:Tree}(h:Sz b t)(ar:Int)(s:Bytes)(next ae:Int):Sz (b+1) ⟨dU t.aa ar s,next,ae⟩ :=
 h.with (n:={ (Go.Proofs.YtcbopkblmebjiaaGreatDoor.find t.aa ar).getD Node.zero with aK:=fO ((Go.Proofs.YtcbopkblmebjiaaGreatDoor.find t.aa ar).getD Node.zero).aK s }) (bg (AD _ _) (iP (h.find ar).1)) (h.find ar).2 next ae
def Sz.Af{b:Nat}{t:Tree}(h:Sz b t)(ar:Int)(next ae:Int):Sz b ⟨je t.aa ar,next,ae⟩ :=
 ⟨bg (eN _ _) h.aa,fun x hx=>h.aK x ((fj.1 hx).1),fun x hx=>h.data x ((fj.1 hx).1)⟩
def C6(t:Tree)(n:Node):Bool:=decide ((64:Int)<=n.aK.length)||(decide ((12:Int)<=jx t.aa n.ar)||decide ((1099511627776:Int)<=t.ae))
def mU(t:Tree)(ar:Int)(s:Bytes):Int :=
 if (gM t.aa ar).2≠0 then (gM t.aa ar).2 else if dB s=false then 60 else if (eE (gM t.aa ar).1.aK s).isSome=true then 71 else if C6 t (gM t.aa ar).1 then 76 else 0
def nL(t:Tree)(ar:Int)(s:Bytes)(kind:Int):Tree×Int×Int :=
 if kind != 1&&kind != 2 then (t,0,1) else if mU t ar s != 0 then (t,0,mU t ar s) else
 if decide ((200:Int)<=t.aa.length)||decide ((1099511627776:Int)<=t.next) then (t,0,76) else
 (hU ⟨eS t.aa ⟨t.next,kind,1,[],[],if kind==2 then ar else 0⟩,nc (t.next+1),t.ae⟩ ar s t.next,t.next,0)
abbrev bO(aa:List Node)(ar:Int):Node:=(find aa ar).getD Node.zero
def B4(t:Tree)(ar to:Int)(s:Bytes):Tree×Int :=
 if !(find t.aa ar).isSome||((bO t.aa ar).kind==1&&(bO t.aa ar).df==0) then (t,70) else if (bO t.aa ar).kind==2 then (t,72) else
 if mU t to s != 0 then (t,mU t to s) else
 (hU ⟨eS t.aa { bO t.aa ar with df:=nc ((bO t.aa ar).df+1) },t.next,t.ae⟩ to s ar,0)
def gx(aa:List Node)(ar:Int):List Node :=
 if (bO aa ar).kind==2 then je aa ar else eS aa { bO aa ar with df:=nc ((bO aa ar).df-1) }
def wv(t:Tree)(ar:Int)(s:Bytes):Tree×Int×Int :=
 if (eB t.aa ar s).2 != 0 then (t,0,(eB t.aa ar s).2) else if decide ((0:Int)<(bO t.aa (eB t.aa ar s).1).aK.length) then (t,0,74) else
 (⟨gx (dU t.aa ar s) (eB t.aa ar s).1,t.next,t.ae⟩,(eB t.aa ar s).1,0)
def sV(aa:List Node)(kind:Int)(y:Int):Int :=
 if !(find aa y).isSome then 0 else if kind==2&&(bO aa y).kind != 2 then 73 else if kind != 2&&(bO aa y).kind==2 then 72 else if decide ((0:Int)<(bO aa y).aK.length) then 74 else 0
def XJ(t:Tree)(ar:Int)(data:Bytes):Tree×Int :=
 if !(find t.aa ar).isSome then (t,70) else if (bO t.aa ar).kind==2 then (t,72) else if decide ((4096:Int)<data.length) then (t,2) else
 (⟨eS t.aa { bO t.aa ar with data:=data },t.next,t.ae⟩,0)
def pc(t:Tree)(ar:Int):Tree×Int :=
 if !(find t.aa ar).isSome then (t,70) else if (bO t.aa ar).kind==2 then (t,72) else if decide ((0:Int)<(bO t.aa ar).df) then (t,71) else
 (⟨je t.aa ar,t.next,t.ae⟩,0)
def p8:Tree:=⟨[⟨1,2,0,[],[],1⟩],2,1⟩
def sG(aa:List Node)(ar at' d:Int)(n:Node)(most:Int):Int :=
 if n.kind==2&&jr aa n.ar ar then
  (if (if decide ((0:Int)<n.aK.length) then nc (nc (nc (at'+jx aa n.ar)-d)+1) else nc (nc (at'+jx aa n.ar)-d))>most
   then (if decide ((0:Int)<n.aK.length) then nc (nc (nc (at'+jx aa n.ar)-d)+1) else nc (nc (at'+jx aa n.ar)-d)) else most)
 else most
def wc(aa:List Node)(ar at' d:Int):List Node->Int->Int
 | [],most=>most
 |n::r,most=>wc aa ar at' d r (sG aa ar at' d n most)
def BF(aa:List Node)(ar at':Int):Int:=wc aa ar at' (jx aa ar) aa 0
def fC(l:List eM)(s:Bytes):Int:=match eE l s with
 |none=>0
 |some e=>e.ar
def manyN(t:Tree)(nw to:Int)(aK:List eM)(kind y ar:Int):Bool :=
 ((y==0&&to != nw)&&decide ((64:Int)<=aK.length))||(decide ((12:Int)<=jx t.aa to)||((kind==2&&decide ((12:Int)<BF t.aa ar (nc (jx t.aa to+1))))||decide ((1099511627776:Int)<=t.ae)))
def rQ(t:Tree)(nw:Int)(s:Bytes)(to:Int)(nm:Bytes)(ar y:Int):Tree :=
 hU ⟨if (bO t.aa ar).kind==2 then
   eS (if y != 0 then gx (dU (dU t.aa nw s) to nm) y else dU t.aa nw s) { bO t.aa ar with up:=to }
  else if y != 0 then gx (dU (dU t.aa nw s) to nm) y else dU t.aa nw s,t.next,t.ae⟩ to nm ar
def wR(t:Tree)(nw:Int)(s:Bytes)(to:Int)(nm:Bytes):Tree×Int×Int :=
 if (eB t.aa nw s).2 != 0 then (t,0,(eB t.aa nw s).2) else
 if (gM t.aa to).2 != 0 then (t,0,(gM t.aa to).2) else
 if !dB nm then (t,0,60) else
 if fC (gM t.aa to).1.aK nm==(eB t.aa nw s).1 then (t,0,0) else
 if (bO t.aa (eB t.aa nw s).1).kind==2&&jr t.aa to (eB t.aa nw s).1 then (t,0,75) else
 if sV t.aa (bO t.aa (eB t.aa nw s).1).kind (fC (gM t.aa to).1.aK nm) != 0 then (t,0,sV t.aa (bO t.aa (eB t.aa nw s).1).kind (fC (gM t.aa to).1.aK nm)) else
 if manyN t nw to (gM t.aa to).1.aK (bO t.aa (eB t.aa nw s).1).kind (fC (gM t.aa to).1.aK nm) (eB t.aa nw s).1 then (t,0,76) else
 (rQ t nw s to nm (eB t.aa nw s).1 (fC (gM t.aa to).1.aK nm),fC (gM t.aa to).1.aK nm,0)
def Sz.unnamed{b:Nat}{t:Tree}(h:Sz b t)(ar next ae:Int):Sz (b+1) ⟨gx t.aa ar,next,ae⟩:=by
 unfold gx;split
 ·exact(h.Af ar next ae).up aM
 ·exact h.with (n:={ bO t.aa ar with df:=nc ((bO t.aa ar).df-1) }) (iP (h.find ar).1) (h.find ar).2 next ae
structure Step.Ok(s:Step):Prop where
 kind:s.kind<256
 a:s.a<256
 b:s.b<256
 n:s.n<256
 m:s.m<256
 data:s.data.length<=100000
def nameOf(n:Nat):Bytes:=match n % 6 with
 |0=>[97]
 |1=>[98]
 |2=>[99]
 |3=>[100]
 |4=>[101]
 |_=>[46,46]
def wG(t:Tree)(n:Nat):Int:=match t.aa[n % (t.aa.length+1)]? with
 |some m=>m.ar
 |none=>t.next
def Yp(t:Tree)(s:Step):Tree×Int×Int :=
 if ((s.kind % 8:Nat):Int)==0||((s.kind % 8:Nat):Int)==1 then nL t (wG t s.a) (nameOf s.n) (((s.m % 2:Nat):Int)+1) else
 if ((s.kind % 8:Nat):Int)==2 then ((B4 t (wG t s.b) (wG t s.a) (nameOf s.n)).1,0,(B4 t (wG t s.b) (wG t s.a) (nameOf s.n)).2) else
 if ((s.kind % 8:Nat):Int)==3 then wv t (wG t s.a) (nameOf s.n) else
 if ((s.kind % 8:Nat):Int)==4||((s.kind % 8:Nat):Int)==5 then wR t (wG t s.a) (nameOf s.n) (wG t s.b) (nameOf s.m) else
 if ((s.kind % 8:Nat):Int)==6 then ((XJ t (wG t s.a) s.data).1,0,(XJ t (wG t s.a) s.data).2) else
 ((pc t (wG t s.a)).1,0,(pc t (wG t s.a)).2)
def H9(e:eM):∀(l out:List eM)(d:Bool),(vr e l out d).1.length+(if (vr e l out d).2=true then 0 else 1)<=out.length+l.length+(if d then 0 else 1)
 | [],out,d=>by simp only[vr,aF,dq]; exact ak _
 |m::r,out,d=>by
  rw[vr];refine bg (H9 e r _ _) ?_;cases d<;>cases h1:ZC m.name e.name<;>simp<;>omega
def Q5(l:List eM)(e:eM):(tu l e).length<=l.length+1:=by
 have:=H9 e l [] false;unfold tu;split at this<;>simp_all
def Sz.rA{b:Nat}{t:Tree}(h:Sz b t)(ar:Int)(s:Bytes)(of:Int):Sz (b+1) (hU t ar s of) :=
 h.with (n:={ bO t.aa ar with aK:=tu (bO t.aa ar).aK ⟨s,of,t.ae⟩ }) (bg (Q5 _ _) (Nat.succ_le_succ (h.find ar).1)) (h.find ar).2 t.next (nc (t.ae+1))
def Sz.add{b:Nat}{t:Tree}(h:Sz b t)(ar:Int)(s:Bytes)(kind:Int):Sz (b+5) (nL t ar s kind).1:=by
 unfold nL;split
 ·exact h.up aM
 ·split
  ·exact h.up aM
  ·split
   ·exact h.up aM
   ·exact((h.with (n:=⟨t.next,kind,1,[],[],if kind==2 then ar else 0⟩) dk dk (nc (t.next+1)) t.ae).rA ar s t.next).up aM
def Sz.ln{b:Nat}{t:Tree}(h:Sz b t)(ar to:Int)(s:Bytes):Sz (b+5) (B4 t ar to s).1:=by
 unfold B4;split
 ·exact h.up aM
 ·split
  ·exact h.up aM
  ·split
   ·exact h.up aM
   ·exact((h.with (n:={ bO t.aa ar with df:=nc ((bO t.aa ar).df+1) }) (iP (h.find ar).1) (h.find ar).2 t.next t.ae).rA to s ar).up aM
def Sz.un{b:Nat}{t:Tree}(h:Sz b t)(ar:Int)(s:Bytes):Sz (b+5) (wv t ar s).1:=by
 unfold wv;split
 ·exact h.up aM
 ·split
  ·exact h.up aM
  ·exact((h.left ar s t.next t.ae).unnamed _ t.next t.ae).up aM
def Sz.put{b:Nat}{t:Tree}(h:Sz b t)(ar:Int)(data:Bytes)(hd:data.length<=100000):Sz (b+5) (XJ t ar data).1:=by
 unfold XJ;split
 ·exact h.up aM
 ·split
  ·exact h.up aM
  ·split
   ·exact h.up aM
   ·exact(h.with (n:={ bO t.aa ar with data:=data }) (iP (h.find ar).1) hd t.next t.ae).up aM
def Sz.free{b:Nat}{t:Tree}(h:Sz b t)(ar:Int):Sz (b+5) (pc t ar).1:=by
 unfold pc;split
 ·exact h.up aM
 ·split
  ·exact h.up aM
  ·split
   ·exact h.up aM
   ·exact(h.Af ar t.next t.ae).up aM
def Sz.move{b:Nat}{t:Tree}(h:Sz b t)(nw:Int)(s:Bytes)(to:Int)(nm:Bytes)(ar y:Int):Sz (b+5) (rQ t nw s to nm ar y):=by
 unfold rQ;have z1:=h.left nw s t.next t.ae
 have z3:=(z1.left to nm t.next t.ae).unnamed y t.next t.ae
 have z:Sz (b+3) ⟨if y != 0 then gx (dU (dU t.aa nw s) to nm) y else dU t.aa nw s,t.next,t.ae⟩:=by
  split
  ·exact z3
  ·exact z1.up aM
 split
 ·exact((z.with (n:={ bO t.aa ar with up:=to }) (bg (h.find ar).1 aM) (h.find ar).2 t.next t.ae).rA to nm ar).up aM
 ·exact(z.rA to nm ar).up aM
def Sz.mv{b:Nat}{t:Tree}(h:Sz b t)(nw:Int)(s:Bytes)(to:Int)(nm:Bytes):Sz (b+5) (wR t nw s to nm).1:=by
 unfold wR
 repeat' split
 all_goals first
  |exact h.up aM
  |exact h.move nw s to nm _ _
def Sz.done{b:Nat}{t:Tree}(h:Sz b t)(s:Step)(hs:s.Ok):Sz (b+5) (Yp t s).1:=by
 unfold Yp
 repeat' split
 all_goals first
  |exact h.add _ _ _
  |exact h.ln _ _ _
  |exact h.un _ _
  |exact h.mv _ _ _ _
  |exact h.put _ _ hs.data
  |exact h.free _
def Sz.p8:Sz 1 p8:=⟨by simp[Go.Proofs.YtcbopkblmebjiaaGreatDoor.p8],fun n hn=>by simp[Go.Proofs.YtcbopkblmebjiaaGreatDoor.p8] at hn; subst hn; simp,fun n hn=>by simp[Go.Proofs.YtcbopkblmebjiaaGreatDoor.p8] at hn; subst hn; simp⟩
end
end Go.Proofs.YtcbopkblmebjiaaGreatDoor
namespace Go.Abs
open Go
def sY{C:eO}{fn:List sm}{bZ:Nat}{k:List K}{live:List Nat}{body:cD}{α σ ρ:Type}{xs:List α}(hn:xs.length<=1000000)(go:List α->σ->ρ)(E:σ->Int->Env)(M:σ->aO)(R:ρ->Option (ag×aO))
  (hend:∀s,fP C fn bZ (.loop live (M s).length body::k) body (jt (E s xs.length) live) (M s)=R (go [] s))
  (hstep:∀(pre:List α)(x:α)(post:List α)(s:σ),xs=pre++x::post->xs[pre.length]?=some x->((pre.length:Int)<xs.length)=True->IntKind.i64.wrap ((pre.length:Int)+1)=(pre.length:Int)+1->((pre.length:Int)<0)=False->x∈xs ->
   (∀s',fP C fn bZ k (.loop live body) (E s' ((pre.length:Int)+1)) (M s')=R (go post s'))->fP C fn bZ (.loop live (M s).length body::k) body (jt (E s pre.length) live) (M s)=R (go (x::post) s)) :
  ∀s,fP C fn bZ k (.loop live body) (E s 0) (M s)=R (go xs s):=by
 have key:∀(l pre:List α)(s:σ),xs=pre++l->fP C fn bZ k (.loop live body) (E s pre.length) (M s)=R (go l s):=by
  intro l;induction l with
  |nil =>
   intro pre s h;rw[cv,show pre.length=xs.length by rw[h]; simp]
   exact hend s
  |cons x r ih =>
   intro pre s h;rw[cv];have hl:pre.length+1<=1000000:=by rw[h] at hn; simp at hn; omega
   refine hstep pre x r s h (by rw[h]; simp) (by rw[h]; simp; omega) (gb aM aM) dk (by rw[h]; simp) fun s'=>?_
   have:=ih (pre++[x]) s' (by rw[h]; simp)
   simpa using this
 intro s;exact key xs [] s rfl
def qV{C:eO}{fn:List sm}{bZ:Nat}{k:List K}{live:List Nat}{body:cD}{α σ:Type}{xs:List α}(hn:xs.length<=1000000)(I:Nat->σ->Prop)(E:σ->Int->Env)(M:σ->aO)(Q:ag×aO->Prop)
  (hend:∀s,I xs.length s->∃r,Q r/\fP C fn bZ (.loop live (M s).length body::k) body (jt (E s xs.length) live) (M s)=some r)
  (hstep:∀(pre:List α)(x:α)(post:List α)(s:σ),xs=pre++x::post->xs[pre.length]?=some x->((pre.length:Int)<xs.length)=True->IntKind.i64.wrap ((pre.length:Int)+1)=(pre.length:Int)+1->((pre.length:Int)<0)=False->x∈xs->I pre.length s ->
   (∀s',I (pre.length+1) s'->∃r,Q r/\fP C fn bZ k (.loop live body) (E s' ((pre.length:Int)+1)) (M s')=some r)->∃r,Q r/\fP C fn bZ (.loop live (M s).length body::k) body (jt (E s pre.length) live) (M s)=some r) :
  ∀s,I 0 s->∃r,Q r/\fP C fn bZ k (.loop live body) (E s 0) (M s)=some r:=by
 have key:∀(l pre:List α)(s:σ),xs=pre++l->I pre.length s->∃r,Q r/\fP C fn bZ k (.loop live body) (E s pre.length) (M s)=some r:=by
  intro l;induction l with
  |nil =>
   intro pre s h hI;have e:pre.length=xs.length:=by rw[h]; simp
   rw[cv,e];exact hend s (by rw[<-e]; exact hI)
  |cons x r ih =>
   intro pre s h hI;rw[cv];have hl:pre.length+1<=1000000:=by rw[h] at hn; simp at hn; omega
   refine hstep pre x r s h (by rw[h]; simp) (by rw[h]; simp; omega) (gb aM aM) dk (by rw[h]; simp) hI fun s' hI'=>?_
   have:=ih (pre++[x]) s' (by rw[h]; simp) (by simpa using hI')
   simpa using this
 intro s hI;exact key xs [] s rfl hI
def vF{α:Type}{a b:List α}{m:Nat}(h:a.take m=b.take m){x:α}(hx:a[m]?=some x)(hy:b[m]?=some x):a.take (m+1)=b.take (m+1):=by
 rw[eU,eU,h,hx,hy]
def xu{α:Type}{a b:List α}(hl:a.length=b.length)(h:a.take a.length=b.take a.length):a=b:=by
 rw[bT,hl,bT] at h; exact h
def OZ(ds:List Bool)(b:Nat)(d:Bool):jY (ds.map ag.bool) b (putCells (.bool d) 0 [.bool true])=(ds.set b true).map ag.bool:=by
 have:putCells (.bool d) 0 [.bool true] = .bool true:=rfl;rw[this,fJ,jZ]
def gV{C:eO}{fn:List sm}{bZ:Nat}{k:List K}{live:List Nat}{body:cD}{α σ ρ:Type}{xs:List α}(hn:xs.length<=1000000)(I:Nat->σ->Prop)(go:List α->σ->ρ)(E:σ->Int->Env)(M:σ->aO)(R:ρ->Option (ag×aO))
  (hend:∀s,I xs.length s->fP C fn bZ (.loop live (M s).length body::k) body (jt (E s xs.length) live) (M s)=R (go [] s))
  (hstep:∀(pre:List α)(x:α)(post:List α)(s:σ),xs=pre++x::post->xs[pre.length]?=some x->((pre.length:Int)<xs.length)=True->IntKind.i64.wrap ((pre.length:Int)+1)=(pre.length:Int)+1->((pre.length:Int)<0)=False->x∈xs->I pre.length s ->
   (∀s',I (pre.length+1) s'->fP C fn bZ k (.loop live body) (E s' ((pre.length:Int)+1)) (M s')=R (go post s'))->fP C fn bZ (.loop live (M s).length body::k) body (jt (E s pre.length) live) (M s)=R (go (x::post) s)) :
  ∀s,I 0 s->fP C fn bZ k (.loop live body) (E s 0) (M s)=R (go xs s):=by
 have key:∀(l pre:List α)(s:σ),xs=pre++l->I pre.length s->fP C fn bZ k (.loop live body) (E s pre.length) (M s)=R (go l s):=by
  intro l;induction l with
  |nil =>
   intro pre s h hI;have e:pre.length=xs.length:=by rw[h]; simp
   rw[cv,e];exact hend s (by rw[<-e]; exact hI)
  |cons x r ih =>
   intro pre s h hI;rw[cv];have hl:pre.length+1<=1000000:=by rw[h] at hn; simp at hn; omega
   refine hstep pre x r s h (by rw[h]; simp) (by rw[h]; simp; omega) (gb aM aM) dk (by rw[h]; simp) hI fun s' hI'=>?_
   have:=ih (pre++[x]) s' (by rw[h]; simp) (by simpa using hI')
   simpa using this
 intro s hI;exact key xs [] s rfl hI
def LV{C:eO}{fn:List sm}{bZ:Nat}{k:List K}{live:List Nat}{body:cD}{α σ ρ:Type}{xs:List α}(hn:xs.length<=1000000)(I:Nat->σ->Prop)(go:List α->σ->ρ)(E:σ->Int->Env)(M:σ->aO)(R:ρ->Option (ag×aO))
  (hend:∀s,I xs.length s->fP C fn bZ (.mw live body::k) body (jt (E s xs.length) live) (M s)=R (go [] s))
  (hstep:∀(pre:List α)(x:α)(post:List α)(s:σ),xs=pre++x::post->xs[pre.length]?=some x->((pre.length:Int)<xs.length)=True->IntKind.i64.wrap ((pre.length:Int)+1)=(pre.length:Int)+1->((pre.length:Int)<0)=False->x∈xs->I pre.length s ->
   (∀s',I (pre.length+1) s'->fP C fn bZ k (.mw live body) (E s' ((pre.length:Int)+1)) (M s')=R (go post s'))->fP C fn bZ (.mw live body::k) body (jt (E s pre.length) live) (M s)=R (go (x::post) s)) :
  ∀s,I 0 s->fP C fn bZ k (.mw live body) (E s 0) (M s)=R (go xs s):=by
 have key:∀(l pre:List α)(s:σ),xs=pre++l->I pre.length s->fP C fn bZ k (.mw live body) (E s pre.length) (M s)=R (go l s):=by
  intro l;induction l with
  |nil =>
   intro pre s h hI;have e:pre.length=xs.length:=by rw[h]; simp
   rw[EC,e];exact hend s (by rw[<-e]; exact hI)
  |cons x r ih =>
   intro pre s h hI;rw[EC];have hl:pre.length+1<=1000000:=by rw[h] at hn; simp at hn; omega
   refine hstep pre x r s h (by rw[h]; simp) (by rw[h]; simp; omega) (gb aM aM) dk (by rw[h]; simp) hI fun s' hI'=>?_
   have:=ih (pre++[x]) s' (by rw[h]; simp) (by simpa using hI')
   simpa using this
 intro s hI;exact key xs [] s rfl hI
def rE{α:Type}(p:α->Bool):List α->Nat->Int
 | [],_ => -1
 |x::r,i=>if p x then (i:Int) else rE p r (i+1)
structure Low{α:Type}(lt:α->Bool)(l:List α)(b:Nat):Prop where
 le:b<=l.length
 lt:∀h n,l[h]?=some n->(lt n=true↔h<b)
def pZ{α:Type}(eq:α->Bool)(l:List α)(b:Nat):Bool:=match l[b]? with
 |some n=>eq n
 |none=>false
def TP(i j:Nat)(hj:j<=100000)(hi:i<=j):IntKind.i64.wrap ((i:Int)+(j:Int))=((i+j:Nat):Int)/\IntKind.u64.wrap ((i+j:Nat):Int)=((i+j:Nat):Int) /\
  (((i+j:Nat):Int)).fdiv (2 ^ min 1 IntKind.u64.bits)=(((i+j) / 2:Nat):Int)/\IntKind.i64.wrap (((i+j) / 2:Nat):Int)=(((i+j) / 2:Nat):Int)/\IntKind.i64.wrap ((((i+j) / 2:Nat):Int)+1)=(((i+j) / 2+1:Nat):Int):=by
 refine⟨?_,?_,?_,?_,?_⟩
 ·rw[gb aM aM]; rfl
 ·have:IntKind.u64.wrap ((i+j:Nat):Int)=((i+j:Nat):Int) % 18446744073709551616:=by simp[IntKind.wrap,IntKind.bits,IntKind.signed]
  rw[this]; omega
 ·have:(2:Int) ^ min 1 IntKind.u64.bits=2:=pd;rw[this,Int.fdiv_eq_ediv_of_nonneg _ aM]; omega
 ·exact gb aM aM
 ·rw[gb aM aM]; rfl
def aeQ(C:eO)(fv:ag)(M:aO)(vs:List ag)(r:ag):Prop:=(∃g caps,fv = .func g caps/\aL C g (vs++caps) M=some (r,M))\/∃g fs,fv = .rP g fs/\aL C g (fs++vs) M=some (r,M)
def wq{M:aO}{p:Nat}{b:dg}(h:nth M p=some b):jY M p b=M:=by
 rw[eY] at h; rw[fJ];apply dA;intro i
 by_cases e:p=i
 ·subst e; rw[dZ (aJ h),h]
 ·rw[cT e]
def cM{C:eO}{f p:Nat}{vs:List ag}{r:ag}{M:aO}{cs:List ag}(hM:nth M p=some (.cells cs))(h:C f (.ptr 0 0::vs) [.cells cs]=some (r,[.cells cs]))(h1:vs.all ag.flat=true:=by exact rfl)(h2:vs.flatMap ag.ids=[]:=by exact rfl)(h3:r.yn=true:=by exact rfl)(h4:vs.map (ag.rn (jb [p]))=vs:=by exact rfl)(h5:r.B6 (yf [p])=r:=by exact rfl)(h6:cs.all ag.xc=true:=by exact rfl)(h7:cs.flatMap ag.oZ=[]:=by exact rfl)(h8:cs.map (ag.uC (jb [p]))=cs:=by exact rfl)(h10:cs.map (ag.uC (yf [p]))=cs:=by exact rfl):aL C f (.ptr p 0::vs) M=some (r,M):=by
 have:=oN hM h h1 h2 h3 h4 h5 h6 h7 h8 h6 h10;rwa[wq hM] at this
def mS{C:eO}{f:Nat}{args args':List ag}{M B:aO}{ids:List Nat}{r r':ag}{B' M':aO}(h1:args.all ag.flat=true)(h2:reach M (args.flatMap ag.ids)=ids)(h3:kV M (jb ids) ids=some B)(h4:mC M ids=ids)
  (h5:args.map (ag.rn (jb ids))=args') (h:C f args' B=some (r,B')) (h6:B'.length=B.length) (h7:r.yn=true) (h8:B'.all dg.flat=true) (h9:r.B6 (yf ids)=r') (h10:ny ids M ids B'=M'):aL C f args M=some (r',M'):=by
 unfold aL;rw[av h1,h2,h3];simp only[cq];rw[av h4,h5,h];simp only[cq];rw[av ⟨h6,h7,h8⟩,h9,h10]
theorem ES{α:Type}(p:α->Bool):∀(l:List α)(i:Nat),decide (0<=rE p l i)=l.any p
 | [],_=>rfl
 |x::r,i=>by
  rw[rE,pQ]
  by_cases h:p x=true
  ·grind
  ·simp[h];exact ES p r _
def H6{α:Type}(p:α->Bool)(l:List α):decide (0<=rE p l 0)=l.any p:=ES p l 0
def Gl{C:eO}{f p:Nat}{vs:List ag}{r:ag}{M:aO}{cs:List ag}(hM:nth M p=some (.cells cs))(h:C f (vs++[dC 0]) [.cells cs]=some (r,[.cells cs]))(h1:vs.all ag.flat=true)(h2:vs.flatMap ag.ids=[])(h3:r.yn=true)
  (h4:vs.map (ag.rn (jb [p]))=vs) (h5:r.B6 (yf [p])=r) (h6:cs.all ag.xc=true) (h7:cs.flatMap ag.oZ=[]) (h8:cs.map (ag.uC (jb [p]))=cs) (h10:cs.map (ag.uC (yf [p]))=cs) :
  aL C f (vs++[dC p]) M=some (r,M):=by
 have hids:(vs++[ag.ptr p 0]).flatMap ag.ids=[p]:=by simp[ag.ids,ag.oZ,ag.iz,h2]
 have hi:tj M [p]=[]:=by simp_all [tj,dg.ids]
 have e0:mC M [p]=[p]:=by simp[mC,hi,mB]
 have e1:reach M [p]=[p]:=by
  have ea:mB [] [p]=[p]:=rfl;simp only[reach,ea,e0]
 have hfl:(vs++[ag.ptr p 0]).all ag.flat=true:=by rw[List.all_append,h1]; rfl
 simp_all [aL,kV,jb,dg.flat,dg.rn,cq,ag.rn,bH,ag.uC,ag.uZ,ny,wq]
def Q1(sz:Nat):cD := .seq (.region [ob 9 (.bin .lss (.tmp 8) (.tmp 7))] false [0,1,7,8,9]) (.seq (.cond (.tmp 9) .skip (.exit 0)) (.seq (.block 1 (.seq (.region [ob 10 (.mv (.tmp 8)),ob 5 (.mv (.tmp 10))] false [0,1,5,7,8])
 (.seq (.region [ob 11 (.mv (.tmp 1)),ob 12 (.mv (.tmp 0)),ob 13 (.mv (.tmp 5)),ob 14 (.rD sz (.tmp 12) (.tmp 13)),ob 15 (.kl sz (.tmp 14)),ob 16 (.sy (.tmp 11) [.tmp 15])] false [0,1,5,7,8,16]) (.cond (.tmp 16) (.seq (.region [ob 17 (.mv (.tmp 5)),ob 4 (.mv (.tmp 17))] false [4]) .ret) .skip))))
 (.region [ob 18 (.bin .add (.tmp 8) (.kj (.int .i64 1))),ob 8 (.mv (.tmp 18))] false [0,1,7,8])))
def Q2(sz:Nat):eX:=⟨2,[.tmp 4],.seq (.region [ob 4 (.mv (.kj (.int .i64 0)))] false [0,1]) (.seq (.seq (.region [ob 6 (.mv (.tmp 0)),ob 7 (.vu (.tmp 6)),ob 8 (.mv (.kj (.int .i64 0)))] false [0,1,7,8]) (.block 0 (.loop [0,1,7,8] (Q1 sz))))
 (.seq (.region [ob 4 (.mv (.kj (.int .i64 (-1))))] false [4]) .ret))⟩
section
variable {T:Br} {f sz:Nat} {α:Type} {e:α->List ag} {xs:List α} {fv:ag} {M:aO}
attribute [local irreducible] fP fm kM gK dH kr aq aL cH bP
def ahA{p:α->Bool}{N:Nat}(hc:T.code f=some (Q2 sz))(hp:T.qP f=none)(hn:xs.length<=N)(hz:∀x,(e x).length=sz)(hs:∀x,(e x).map ag.shut=e x)(hf:fv.lN M.length M=fv)(hM:M.map (dg.back M.length M)=M)
  (hk:∀x,x∈xs->aeQ (aq T) fv M [.agg (e x)] (.bool (p x))) (hN:N<=900000:=by omega):aq T f [ka (xs.map fun x => .agg (e x)),fv] M=some (aH (rE p xs 0),M):=by
 refine aw ?_ hp hc rfl;have ht:∀x,(e x).take sz=e x:=fun x=>bS (by rw[hz]; exact ak _)
 simp only[Q2,EV,seval];refine gV (xs:=xs) aM (fun m s=>s=m) (fun l (s:Nat)=>rE p l s) (fun _ i=>[(0,ka (xs.map fun x => .agg (e x))),(1,fv),(7,aH xs.length),(8,aH i)]) (fun _=>M) (fun r=>some (aH r,M)) (fun s hs'=>?_) (fun pre x post s h hx cA hw h0 hm hI hi=>?_) 0 rfl
 ·simp only[ij (Q1.eq_1 sz),rE,aX,hM,bT,EV,seval]
 ·have i1:=hi (pre.length+1) rfl;rw[hI,rE];rcases hk x hm with ⟨g,caps,rfl,hq⟩|⟨g,caps,rfl,hq⟩
  all_goals
   simp only[bp,bw,ag.lN,ag.jL,ag.kG] at hq hf;simp only[ij (Q1.eq_1 sz),cA,hx,hw,h0,hz,ht,hs,hq,EV,seval];refine bW (fun hb=>?_) (fun hb=>?_)
   ·simp only[hb,hM,bT,EV,seval]
   ·simp only[hb,hw,hf,hM,bT,af,EV,seval];exact i1
def bsB(sz:Nat):cD := .seq (.seq (.region [ob 15 (.mv (.tmp 9)),ob 16 (.mv (.tmp 10)),ob 17 (.bin .lss (.tmp 15) (.tmp 16))] false [0,1,2,8,9,10,17]) (.cond (.tmp 17) .skip (.exit 0)))
 (.block 1 (.seq (.region [ob 18 (.mv (.tmp 9)),ob 19 (.mv (.tmp 10)),ob 20 (.bin .add (.tmp 18) (.tmp 19)),ob 21 (.conv .u64 (.tmp 20)),ob 22 (.bin .shr (.tmp 21) (.kj (.int .u64 1))),ob 23 (.conv .i64 (.tmp 22)),ob 11 (.mv (.tmp 23))] false [0,1,2,8,9,10,11])
  (.seq (.region [ob 24 (.mv (.tmp 2)),ob 25 (.mv (.tmp 0)),ob 26 (.mv (.tmp 11)),ob 27 (.rD sz (.tmp 25) (.tmp 26)),ob 28 (.kl sz (.tmp 27)),ob 29 (.mv (.tmp 1)),ob 30 (.sy (.tmp 24) [.tmp 28,.tmp 29]),ob 31 (.bin .lss (.tmp 30) (.kj (.int .i64 0)))] false [0,1,2,8,9,10,11,31])
   (.cond (.tmp 31) (.region [ob 32 (.mv (.tmp 11)),ob 33 (.bin .add (.tmp 32) (.kj (.int .i64 1))),ob 9 (.mv (.tmp 33))] false [0,1,2,8,9,10]) (.region [ob 34 (.mv (.tmp 11)),ob 10 (.mv (.tmp 34))] false [0,1,2,8,9,10])))))
def bsE(sz:Nat):cD := .seq (.region [ob 35 (.mv (.tmp 9)),ob 36 (.mv (.tmp 9)),ob 37 (.mv (.tmp 8)),ob 38 (.bin .lss (.tmp 36) (.tmp 37)),ob 39 (.mv (.tmp 38)),og 40 39 true (.mv (.tmp 2)),og 41 39 true (.mv (.tmp 0)),og 42 39 true (.mv (.tmp 9)),og 43 39 true (.rD sz (.tmp 41) (.tmp 42)),
 og 44 39 true (.kl sz (.tmp 43)),og 45 39 true (.mv (.tmp 1)),og 46 39 true (.sy (.tmp 40) [.tmp 44,.tmp 45]),og 47 39 true (.bin .eql (.tmp 46) (.kj (.int .i64 0))),ob 48 (.pick (.tmp 39) (.tmp 47) (.kj (.bool false))),ob 6 (.mv (.tmp 35)),ob 7 (.mv (.tmp 48))] false [6,7]) .ret
def bsF(sz:Nat):eX:=⟨3,[.tmp 6,.tmp 7],.seq (.region [ob 6 (.mv (.kj (.int .i64 0))),ob 7 (.mv (.kj (.bool false)))] false [0,1,2]) (.seq (.region [ob 12 (.mv (.tmp 0)),ob 13 (.vu (.tmp 12)),ob 8 (.mv (.tmp 13))] false [0,1,2,8])
 (.seq (.region [ob 14 (.mv (.tmp 8)),ob 9 (.mv (.kj (.int .i64 0))),ob 10 (.mv (.tmp 14))] false [0,1,2,8,9,10]) (.seq (.block 0 (.loop [0,1,2,8,9,10] (bsB sz))) (bsE sz))))⟩
def ahw{c:α->Int}{key:ag}{b:Nat}(hc:T.code f=some (bsF sz))(hp:T.qP f=none)(hb:Low (fun x=>decide (c x<0)) xs b)(hn:xs.length<=100000)(hz:∀x,(e x).length=sz)(hs:∀x,(e x).map ag.shut=e x)(hf0:(∃g caps,fv = .func g caps)\/∃g fs,fv = .rP g fs)(hf:fv.lN M.length M=fv)
  (hM:M.map (dg.back M.length M)=M) (hk1:key.gj=key) (hk2:key.lN M.length M=key) (hk3:key.jG=false) (hk:∀x,x∈xs->aeQ (aq T) fv M [.agg (e x),key] (aH (c x))) :
  aq T f [ka (xs.map fun x => .agg (e x)),key,fv] M=some (.tuple [aH b,.bool (pZ (fun x=>c x==0) xs b)],M):=by
 refine aw ?_ hp hc rfl;have ht:∀x,(e x).take sz=e x:=fun x=>bS (by rw[hz]; exact ak _)
 have hfp:fv.jG=false:=by rcases hf0 with ⟨g,caps,rfl⟩|⟨g,caps,rfl⟩<;>rfl
 simp only[bsF,hk3,hfp,EV,seval]
 have key:∀(n i j:Nat),j-i<=n->i<=b->b<=j->j<=xs.length->fP (aq T) [.tmp 6,.tmp 7] M.length [.block 0,.seq (bsE sz)] (.loop [0,1,2,8,9,10] (bsB sz)) [(0,ka (xs.map fun x => .agg (e x))),(1,key),(2,fv),(8,aH xs.length),(9,aH i),(10,aH j)] M =
   some (.tuple [aH b,.bool (pZ (fun x=>c x==0) xs b)],M):=by
  have fin:∀j:Nat,j<=b->fP (aq T) [.tmp 6,.tmp 7] M.length [.block 0,.seq (bsE sz)] (.loop [0,1,2,8,9,10] (bsB sz)) [(0,ka (xs.map fun x => .agg (e x))),(1,key),(2,fv),(8,aH xs.length),(9,aH b),(10,aH j)] M =
    some (.tuple [aH b,.bool (pZ (fun x=>c x==0) xs b)],M):=by
   intro j hj;rw[cv];have cA:((b:Int)<(j:Int))=False:=ic;simp only[ij (bsB.eq_1 sz),bsE,cA,hk3,hfp,EV,seval];unfold pZ
   by_cases cA:b<xs.length
   ·have hx:=ai cA;have h1:((b:Int)<(xs.length:Int))=True:=ic;rcases hk _ (aU hx) with ⟨g,caps,rfl,hq⟩|⟨g,caps,rfl,hq⟩
    all_goals
     try simp only[bp,bw] at hq
     simp only[hx,h1,hz,ht,hs,hk1,hk3,hq,hM,bT,EV,seval]
   ·have hx:xs[b]?=none:=gQ aM;have h1:((b:Int)<(xs.length:Int))=False:=ic;simp only[hx,h1,hM,bT,EV,seval]
  intro n;induction n with
  |zero =>
   intro i j h1 h2 h3 h4;obtain rfl:i=b:=aM;exact fin j aM
  |succ n ih =>
   intro i j h1 h2 h3 h4
   by_cases hij:i<j
   case neg =>
    obtain rfl:i=b:=aM;exact fin j aM
   rw[cv]
   ·have cA:((i:Int)<(j:Int))=True:=ic;obtain⟨m1,m2,m3,m4,m5⟩:=TP i j aM aM;have hmid:(i+j) / 2<xs.length:=aM;have hx:=ai hmid;have hl:=hb.lt _ _ hx;rcases hk _ (aU hx) with ⟨g,caps,rfl,hq⟩|⟨g,caps,rfl,hq⟩
    all_goals
     simp only[bp,bw,ag.lN,ag.jL,ag.kG] at hq hf;simp only[ij (bsB.eq_1 sz),cA,m1,m2,m3,m4,hx,hz,ht,hs,hk1,hk2,hk3,hf,hq,EV,seval];refine bW (fun hq=>?_) (fun hq=>?_)
     ·simp only[m5,hk1,hk2,hk3,hf,hM,bT,EV,seval];exact ih ((i+j) / 2+1) j aM (hl.1 (by simpa using hq)) h3 h4
     ·simp only[hk1,hk2,hk3,hf,hM,bT,EV,seval];exact ih i ((i+j) / 2) aM h2 (Nat.not_lt.1 fun h=>by have:=hl.2 h; simp_all) aM
 exact key xs.length 0 xs.length aM aM hb.le aM
def aa3(sz:Nat)(ld:gw->kb)(ne:gw->gw->kb):cD := .seq (.region [ob 14 (.bin .lss (.tmp 13) (.tmp 12))] false [0,1,12,13,14]) (.seq (.cond (.tmp 14) .skip (.exit 0)) (.seq (.block 1 (.seq (.region [ob 15 (.mv (.tmp 13)),ob 5 (.mv (.tmp 15))] false [0,1,5,12,13])
 (.seq (.region [ob 16 (.mv (.tmp 0)),ob 17 (.mv (.tmp 5)),ob 18 (.rD sz (.tmp 16) (.tmp 17)),ob 19 (ld (.tmp 18)),ob 20 (.mv (.tmp 1)),ob 21 (.mv (.tmp 5)),ob 22 (.rD sz (.tmp 20) (.tmp 21)),ob 23 (ld (.tmp 22)),ob 24 (ne (.tmp 19) (.tmp 23))] true [0,1,12,13,24])
  (.cond (.tmp 24) (.seq (.region [ob 4 (.mv (.kj (.bool false)))] false [4]) .ret) .skip))))
 (.region [ob 25 (.bin .add (.tmp 13) (.kj (.int .i64 1))),ob 13 (.mv (.tmp 25))] false [0,1,12,13])))
def agE(sz:Nat)(ld:gw->kb)(ne:gw->gw->kb):eX:=⟨2,[.tmp 4],.seq (.region [ob 4 (.mv (.kj (.bool false)))] false [0,1])
 (.seq (.seq (.region [ob 6 (.mv (.tmp 0)),ob 7 (.vu (.tmp 6)),ob 8 (.mv (.tmp 1)),ob 9 (.vu (.tmp 8)),ob 10 (.bin .neq (.tmp 7) (.tmp 9))] false [0,1,10]) (.cond (.tmp 10) (.seq (.region [ob 4 (.mv (.kj (.bool false)))] false [4]) .ret) .skip))
 (.seq (.seq (.region [ob 11 (.mv (.tmp 0)),ob 12 (.vu (.tmp 11)),ob 13 (.mv (.kj (.int .i64 0)))] false [0,1,12,13]) (.block 0 (.loop [0,1,12,13] (aa3 sz ld ne)))) (.seq (.region [ob 4 (.mv (.kj (.bool true)))] false [4]) .ret)))⟩
def ahz[DecidableEq α]{e:α->ag}{ld:gw->kb}{ne:gw->gw->kb}{a b:List α}(hc:T.code f=some (agE sz ld ne))(hp:T.qP f=none)(ha:a.length<=100000)(hz:∀x,(e x).cells.length=sz)(hpn:∀x,(e x).jG=false)
  (hb:∀x,(e x).lN 0 []=e x)
  (hl:∀(bq:Env)(M:aO)(t:Nat)(x:α),gW bq t = .ju (e x).cells->ei (aq T) bq M (ld (.tmp t))=some (e x,M))
  (hn:∀(bq:Env)(M:aO)(t u:Nat)(x y:α),gW bq t=e x->gW bq u=e y->ei (aq T) bq M (ne (.tmp t) (.tmp u))=some (.bool (!decide (x=y)),M)) :
  aq T f [ka (a.map e),ka (b.map e)] []=some (.bool (decide (a=b)),[]):=by
 refine aw ?_ hp hc rfl;simp only[agE,EV,seval];refine bW (fun hq=>?_) (fun hq=>?_)
 ·have:decide (a=b)=false:=by
   simp at hq ⊢;rintro rfl; exact hq rfl
  simp only[this,EV,seval]
 have fx:a.length=b.length:=by simp at hq; omega
 simp only[EV,seval];refine gV (xs:=a) aM (fun m (_:Unit)=>a.take m=b.take m) (fun _ _=>()) (fun _ i=>[(0,ka (a.map e)),(1,ka (b.map e)),(12,aH a.length),(13,aH i)]) (fun _=>[]) (fun _=>some (.bool (decide (a=b)),[])) (fun _ hI=>?_) (fun pre x post s h hx cA hw h0 hm hI hi=>?_) () rfl
 ·have:a=b:=xu fx hI;simp only[ij (aa3.eq_1 sz ld ne),fZ this,aX,EV,seval]
 ·have hlt2:pre.length<b.length:=by rw[<-fx,h]; simp
  obtain⟨y,hy⟩:∃y,b[pre.length]?=some y:=⟨_,ai hlt2⟩;simp only[ij (aa3.eq_1 sz ld ne),cA,hx,hy,h0,hz,EV,seval];rw[hl _ _ _ x rfl];simp only[hpn,hy,h0,hz,EV,seval];rw[hl _ _ _ y rfl];simp only[hpn,EV,seval];rw[hn _ _ _ _ x y rfl rfl];simp only[EV,seval];refine bW (fun hq=>?_) (fun hq=>?_)
  ·have:decide (a=b)=false:=da fun hab=>by
    rw[hab,hy] at hx; injection hx with hx; simp[hx] at hq
   simp only[this,EV,seval]
  ·have hxy:x=y:=by simpa using hq
   subst hxy;simp only[hw,EV,seval];exact hi () (vF hI hx hy)
def aa2(sz:Nat)(z:List ag):cD := .seq (.region [ob 18 (.bin .lss (.tmp 17) (.tmp 16))] false [1,2,15,16,17,18]) (.seq (.cond (.tmp 18) .skip (.exit 0)) (.seq (.block 1 (.seq
 (.region [ob 19 (.mv (.tmp 17)),ob 20 (.rD sz (.tmp 15) (.tmp 17)),ob 21 (.kl sz (.tmp 20)),ob 8 (.sv z),ob 7 (.mv (.tmp 19)),ox (.store sz (.tmp 8) (.tmp 21))] false [1,2,7,8,15,16,17])
 (.seq (.region [ob 22 (.mv (.tmp 1)),ob 23 (.mv (.tmp 7)),ob 24 (.rD sz (.tmp 22) (.tmp 23)),ob 25 (.kl sz (.tmp 24)),ob 9 (.sv z),ox (.store sz (.tmp 9) (.tmp 25))] false [1,2,8,9,15,16,17])
  (.seq (.region [ob 26 (.mv (.tmp 2)),ob 27 (.kl sz (.tmp 8)),ob 28 (.kl sz (.tmp 9)),ob 29 (.sy (.tmp 26) [.tmp 27,.tmp 28]),ob 30 (.not (.tmp 29))] false [1,2,15,16,17,30]) (.cond (.tmp 30) (.seq (.region [ob 6 (.mv (.kj (.bool false)))] false [6]) .ret) .skip)))))
 (.region [ob 31 (.bin .add (.tmp 17) (.kj (.int .i64 1))),ob 17 (.mv (.tmp 31))] false [1,2,15,16,17])))
def agD(sz:Nat)(z:List ag):eX:=⟨3,[.tmp 6],.seq (.region [ob 6 (.mv (.kj (.bool false)))] false [0,1,2])
 (.seq (.seq (.region [ob 10 (.mv (.tmp 0)),ob 11 (.vu (.tmp 10)),ob 12 (.mv (.tmp 1)),ob 13 (.vu (.tmp 12)),ob 14 (.bin .neq (.tmp 11) (.tmp 13))] false [0,1,2,14]) (.cond (.tmp 14) (.seq (.region [ob 6 (.mv (.kj (.bool false)))] false [6]) .ret) .skip))
 (.seq (.seq (.region [ob 15 (.mv (.tmp 0)),ob 16 (.vu (.tmp 15)),ob 17 (.mv (.kj (.int .i64 0)))] false [1,2,15,16,17]) (.block 0 (.loop [1,2,15,16,17] (aa2 sz z)))) (.seq (.region [ob 6 (.mv (.kj (.bool true)))] false [6]) .ret)))⟩
def ahy[DecidableEq α]{z:List ag}{g:Nat}{a b:List α}(hc:T.code f=some (agD sz z))(hp:T.qP f=none)(ha:a.length<=100000)(hz:∀x,(e x).length=sz)(hz0:z.length=sz)(hs:∀x,(e x).map ag.shut=e x)
  (hcl:∀x,(e x).all ag.j9=true) (hk:∀x y M,x∈a->aL (aq T) g [.agg (e x),.agg (e y)] M=some (.bool (decide (x=y)),M)) :
  aq T f [ka (a.map fun x => .agg (e x)),ka (b.map fun x => .agg (e x)),.func g []] []=some (.bool (decide (a=b)),[]):=by
 refine aw ?_ hp hc rfl;have ht:∀x,(e x).take sz=e x:=fun x=>bS (by rw[hz]; exact ak _)
 have hzd:z.drop sz=[]:=il aM;simp only[agD,EV,seval];refine bW (fun hq=>?_) (fun hq=>?_)
 ·have:decide (a=b)=false:=by
   simp at hq ⊢;rintro rfl; exact hq rfl
  simp only[this,EV,seval]
 have fx:a.length=b.length:=by simp at hq; omega
 simp only[EV,seval];refine gV (xs:=a) aM (fun m (_:Unit)=>a.take m=b.take m) (fun _ _=>()) (fun _ i=>[(1,ka (b.map fun x => .agg (e x))),(2,.func g []),(15,ka (a.map fun x => .agg (e x))),(16,aH a.length),(17,aH i)]) (fun _=>[]) (fun _=>some (.bool (decide (a=b)),[])) (fun _ hI=>?_) (fun pre x post s h hx cA hw h0 hm hI hi=>?_) () rfl
 ·have:a=b:=xu fx hI;simp only[ij (aa2.eq_1 sz z),fZ this,aX,EV,seval]
 ·have hlt2:pre.length<b.length:=by rw[<-fx,h]; simp
  obtain⟨y,hy⟩:∃y,b[pre.length]?=some y:=⟨_,ai hlt2⟩;simp only[ij (aa2.eq_1 sz z),cA,hx,hy,h0,hz,ht,hs,hcl,hz0,hzd,hk x y _ hm,EV,seval];refine bW (fun hq=>?_) (fun hq=>?_)
  ·have:decide (a=b)=false:=da fun hab=>by
    rw[hab,hy] at hx; injection hx with hx; simp[hx] at hq
   simp only[this,EV,seval]
  ·have hxy:x=y:=by simpa using hq
   subst hxy;simp only[hw,EV,seval];exact hi () (vF hI hx hy)
structure Stl(b:dg):Prop where
 back:∀B M,b.back B M=b
 flat:b.flat=true
 rn:∀ρ,b.rn ρ=b
 ids:b.ids=[]
def ET{p:α->Bool}:∀ {l:List α} {i:Nat},rE p l i = -1->l.filter (fun x => !p x)=l
 | [],_,_=>rfl
 |x::l,i,h=>by
  rw[rE] at h;split at h
  ·omega
  ·rename_i hx;rw[lW (by simpa using hx),ET h]
def EU{p:α->Bool}:∀ {l:List α} {i:Nat},rE p l i ≠ -1->∃A x U,l=A++x::U/\rE p l i=((i+A.length:Nat):Int)/\l.filter (fun x => !p x)=A++U.filter fun x => !p x
 | [],_,h=>absurd rfl h
 |x::l,i,h=>by
  rw[rE] at h ⊢;split
  ·rename_i hx; exact⟨[],x,l,rfl,rfl,by rw[List.filter_cons_of_neg (by simpa using hx)]; rfl⟩
  ·rename_i hx;rw[aj hx] at h;obtain⟨A,y,U,h1,h2,h3⟩:=EU h;exact⟨x::A,y,U,by rw[h1]; rfl,by rw[h2]; simp; omega,by rw[lW (by simpa using hx),h3]; rfl⟩
def dlB(sz:Nat)(z:List ag):cD := .seq (.seq (.region [ob 16 (.mv (.tmp 6)),ob 17 (.mv (.tmp 0)),ob 18 (.vu (.tmp 17)),ob 19 (.bin .lss (.tmp 16) (.tmp 18))] false [0,1,5,6,19]) (.cond (.tmp 19) .skip (.exit 0)))
 (.seq (.block 1 (.seq (.region [ob 22 (.mv (.tmp 0)),ob 23 (.mv (.tmp 6)),ob 24 (.rD sz (.tmp 22) (.tmp 23)),ob 25 (.kl sz (.tmp 24)),ob 7 (.sv z),ox (.store sz (.tmp 7) (.tmp 25))] false [0,1,5,6,7])
  (.seq (.region [ob 26 (.mv (.tmp 1)),ob 27 (.kl sz (.tmp 7)),ob 28 (.sy (.tmp 26) [.tmp 27]),ob 29 (.not (.tmp 28))] false [0,1,5,6,7,29])
   (.cond (.tmp 29) (.seq (.region [ob 30 (.mv (.tmp 0)),ob 31 (.mv (.tmp 5)),ob 32 (.kl sz (.tmp 7)),ob 33 (.rD sz (.tmp 30) (.tmp 31)),ox (.store sz (.tmp 33) (.tmp 32))] false [0,1,5,6]) (.region [ob 34 (.mv (.tmp 5)),ob 35 (.bin .add (.tmp 34) (.kj (.int .i64 1))),ob 5 (.mv (.tmp 35))] false [0,1,5,6])) .skip))))
 (.region [ob 20 (.mv (.tmp 6)),ob 21 (.bin .add (.tmp 20) (.kj (.int .i64 1))),ob 6 (.mv (.tmp 21))] false [0,1,5,6]))
def dlF(sz:Nat)(z zc:List ag)(gi:Nat):eX:=⟨2,[.tmp 4],.seq (.region [ob 4 (.mv (.kj (.slice .c0 [])))] false [0,1])
 (.seq (.region [ob 8 (.mv (.tmp 0)),ob 9 (.mv (.tmp 1)),ob 10 (.call gi [.tmp 8,.tmp 9]),ob 5 (.mv (.tmp 10))] false [0,1,5])
 (.seq (.seq (.region [ob 11 (.mv (.tmp 5)),ob 12 (.bin .eql (.tmp 11) (.kj (.int .i64 (-1))))] false [0,1,5,12]) (.cond (.tmp 12) (.seq (.region [ob 13 (.mv (.tmp 0)),ob 4 (.mv (.tmp 13))] false [4]) .ret) .skip))
 (.seq (.seq (.region [ob 14 (.mv (.tmp 5)),ob 15 (.bin .add (.tmp 14) (.kj (.int .i64 1))),ob 6 (.mv (.tmp 15))] false [0,1,5,6]) (.block 0 (.loop [0,1,5,6] (dlB sz z))))
 (.seq (.region [ob 36 (.mv (.tmp 0)),ob 37 (.mv (.tmp 5)),ob 38 (.uz sz (.tmp 36) (some (.tmp 37)) none none),ox (.w5 sz zc (.tmp 38))] false [0,5])
 (.seq (.region [ob 39 (.mv (.tmp 0)),ob 40 (.mv (.tmp 5)),ob 41 (.uz sz (.tmp 39) none (some (.tmp 40)) none),ob 4 (.mv (.tmp 41))] false [4]) .ret)))))⟩
def abv{p:α->Bool}{X:dg}{g:Nat}(hc:T.code f=some (Q2 sz))(hp:T.qP f=none)(hn:xs.length<=100000)(hz:∀x,(e x).length=sz)(hs:∀x,(e x).map ag.shut=e x)(hX:Stl X)
  (hk:∀x b M,aL (aq T) g [.agg (e x),dC 1] (b::X::M)=some (.bool (p x),b::X::M)) :
  aq T f [.cY 0 0 sz 0 xs.length,.func g [dC 1]] [.arr sz 0 (xs.map fun x => .agg (e x)),X]=some (aH (rE p xs 0),[.arr sz 0 (xs.map fun x => .agg (e x)),X]):=by
 refine aw ?_ hp hc rfl;have ht:∀x,(e x).take sz=e x:=fun x=>bS (by rw[hz]; exact ak _)
 simp only[Q2,cd,EV,seval];refine gV (xs:=xs) aM (fun m s=>s=m) (fun l (s:Nat)=>rE p l s) (fun _ i=>[(0,.cY 0 0 sz 0 xs.length),(1,.func g [dC 1]),(7,aH xs.length),(8,aH i)]) (fun _=>[.arr sz 0 (xs.map fun x => .agg (e x)),X]) (fun r=>some (aH r,[.arr sz 0 (xs.map fun x => .agg (e x)),X])) (fun s hs'=>?_) (fun pre x post s h hx cA hw h0 hm hI hi=>?_) 0 rfl
 ·simp only[ij (Q1.eq_1 sz),rE,aX,hX.back,EV,seval]
 ·have i1:=hi (pre.length+1) rfl;rw[hI,rE];have hl2:((pre.length:Int)<((xs.length-0:Nat):Int))=True:=cA;simp only[ij (Q1.eq_1 sz),cA,hl2,hx,hw,h0,hz,ht,hs,hk,hX.back,EV,seval];refine bW (fun hb=>?_) (fun hb=>?_)
  ·simp only[hb,hX.back,EV,seval]
  ·simp only[hb,hw,hX.back,af,EV,seval];exact i1
def aaQ{C:eO}{X:dg}(hX:Stl X){g n:Nat}{row:List ag}{r:Int}(h:C f [.cY 0 0 sz 0 n,.func g [dC 1]] [.arr sz 0 row,X]=some (aH r,[.arr sz 0 row,X])) :
  aL C f [.cY 0 0 sz 0 n,.func g [dC 1]] [.arr sz 0 row,X]=some (aH r,[.arr sz 0 row,X]):=by
 have a1:(dg.arr sz 0 row).ids=[]:=rfl;have a2:(dg.arr sz 0 row).flat=true:=rfl;have a3:∀ρ,(dg.arr sz 0 row).rn ρ = .arr sz 0 row:=fun _=>rfl
 have e1:tj [.arr sz 0 row,X] [0,1]=[]:=by simp[tj,nth,a1,hX.ids]
 have e2:mC [.arr sz 0 row,X] [0,1]=[0,1]:=by simp[mC,e1,mB]
 have e3:reach [.arr sz 0 row,X] [0,1]=[0,1]:=by
  have ea:mB [] [0,1]=[0,1]:=rfl;simp only[reach,ea,e2]
 have e4:[ag.cY 0 0 sz 0 n,.func g [dC 1]].flatMap ag.ids=[0,1]:=rfl;have e5:kV [.arr sz 0 row,X] (jb [0,1]) [0,1]=some [.arr sz 0 row,X]:=by simp[kV,nth,hX.flat,hX.rn,a2,a3]
 have e6:[ag.cY 0 0 sz 0 n,.func g [dC 1]].map (ag.rn (jb [0,1]))=[.cY 0 0 sz 0 n,.func g [dC 1]]:=rfl;unfold aL;rw[av (show[ag.cY 0 0 sz 0 n,.func g [dC 1]].all ag.flat=true from rfl),e4,e3,e5,cq,av e2,e6,h,cq,av ⟨rfl,rfl,by simp[a2,hX.flat]⟩]
 simp[ny,jY,hX.rn,a3,ag.B6,ag.rn,ag.uC,ag.uZ]
def aaZ{p:α->Bool}{X:dg}{g N:Nat}{z:List ag}{k:List K}{R:List α->List α->Option (ag×aO)}(hN:N<=100000)(hz:∀x,(e x).length=sz)(hz0:z.length=sz)(hs:∀x,(e x).map ag.shut=e x)(hpl:∀x,(e x).all ag.plainCell=true)(hcl:∀x,(e x).all ag.j9=true)(hX:Stl X)
  (hk:∀x b M,aL (aq T) g [.agg (e x),dC 1] (b::X::M)=some (.bool (p x),b::X::M))
  (hx:∀(A G:List α) v q,A.length+G.length=N->G≠[]->kr (aq T) [.tmp 4] 2 k ⟨.exit 0,[(0,.cY 0 0 sz 0 N),(1,.func g [dC 1]),(5,aH A.length),(6,v),(19,q)],[.arr sz 0 ((A++G).map fun x => .agg (e x)),X]⟩=R A G) :
  ∀(U A G:List α),A.length+G.length+U.length=N->G≠[]->∃G',A.length+(U.filter fun x => !p x).length+G'.length=N/\fP (aq T) [.tmp 4] 2 k (.loop [0,1,5,6] (dlB sz z)) [(0,.cY 0 0 sz 0 N),(1,.func g [dC 1]),(5,aH A.length),(6,aH ((A.length+G.length:Nat):Int))] [.arr sz 0 ((A++G++U).map fun x => .agg (e x)),X] =
   R (A++U.filter fun x => !p x) G':=by
 have ht:∀x,(e x).take sz=e x:=fun x=>bS (by rw[hz]; exact ak _)
 have hzd:z.drop sz=[]:=il aM;intro U;induction U with
 |nil =>
  intro A G hl hg;have cA:(((A.length+G.length:Nat):Int)<((N-0:Nat):Int))=False:=by simp only[fH,oM]; simp at hl ⊢; omega
  refine⟨G,by simpa using hl,?_⟩
  rw[cv];simp only[ij (dlB.eq_1 sz z),cA,cu,List.filter_nil,EV,seval];exact hx A G _ _ (by simpa using hl) hg
 |cons x U ih =>
  intro A G hl hg;simp only[aD] at hl;have cA:(((A.length+G.length:Nat):Int)<((N-0:Nat):Int))=True:=x7;have hnn:((0:Int)<=((A.length+G.length:Nat):Int))=True:=x7
  have hat:(A++G++x::U)[A.length+G.length]?=some x:=by
   rw[bA dk]; simp
  have hw:IntKind.i64.wrap (((A.length+G.length:Nat):Int)+1)=((A.length+G.length+1:Nat):Int):=by rw[gb aM aM]; omega
  have hw1:IntKind.i64.wrap ((A.length:Int)+1)=((A.length+1:Nat):Int):=by rw[gb aM aM]; omega
  obtain⟨g0,G0,hG⟩:=fz hg;have hga:(A++G++x::U)[A.length]?=some g0:=by rw[hG]; simp
  have hset:(A++G++x::U).set A.length x=(A++[x])++(G0++[x])++U:=by rw[hG]; simp
  have hlt2:((A.length:Int)<((N-0:Nat):Int))=True:=x7
  have hput:jY ((A++G++x::U).map fun x=>ag.agg (e x)) A.length (putCells (.agg (e g0)) 0 (e x))=((A++[x])++(G0++[x])++U).map fun x=>ag.agg (e x):=by
   have:putCells (.agg (e g0)) 0 (e x) = .agg (e x):=by simp[putCells,mq,hz,il]
   rw[this,fJ,<-hset,jZ]
  rw[cv];cases hb:p x
  ·obtain⟨G',h0,h1⟩:=ih (A++[x]) (G0++[x]) (by rw[hG] at hl; simp at hl ⊢; omega) dk
   have hl1:(((A++[x]).length+(G0++[x]).length:Nat):Int)=((A.length+G.length+1:Nat):Int):=by rw[hG]; simp; omega
   have hl3:((A++[x]).length:Int)=((A.length+1:Nat):Int):=dk;have hf:(x::U).filter (fun x => !p x)=x::U.filter fun x => !p x:=lW (by simpa using hb)
   rw[hl1,hl3] at h1;refine⟨G',by rw[hf]; simp at h0 ⊢; omega,?_⟩
   rw[hf,show A++x::U.filter (fun x => !p x)=A++[x]++U.filter fun x => !p x by simp,<-h1]
   simp only[ij (dlB.eq_1 sz z),cA,hnn,hat,hz,hz0,hzd,ht,hs,hcl,hk,hb,hlt2,hga,hput,hpl,hw,hw1,hX.back,EV,seval]
   done
  ·obtain⟨G',h0,h1⟩:=ih A (G++[x]) ic dk;have hl2:((A.length+(G++[x]).length:Nat):Int)=((A.length+G.length+1:Nat):Int):=ic;have hf:(x::U).filter (fun x => !p x)=U.filter fun x => !p x:=List.filter_cons_of_neg (by simpa using hb)
   rw[hl2,show A++(G++[x])++U=A++G++x::U by simp] at h1
   refine⟨G',by rw[hf]; exact h0,?_⟩
   rw[hf,<-h1];simp only[ij (dlB.eq_1 sz z),cA,hnn,hat,hz,hz0,hzd,ht,hs,hcl,hk,hb,hw,hX.back,EV,seval]
   done
def Gr(sz m:Nat):ag:=if m=0 then .slice .sh [] else .cY 0 0 sz 0 m
def ahx{p:α->Bool}{X:dg}{g gi:Nat}{z zc:List ag}{zx:α}(hc:T.code f=some (dlF sz z zc gi))(hp:T.qP f=none)(hci:T.code gi=some (Q2 sz))(hpi:T.qP gi=none)(hzx:e zx=zc)(hn:xs.length<=100000)(hz:∀x,(e x).length=sz)(hz0:z.length=sz)(h1:1<sz)(hs:∀x,(e x).map ag.shut=e x)
  (hpl:∀x,(e x).all ag.plainCell=true) (hcl:∀x,(e x).all ag.j9=true) (hX:Stl X) (hk:∀x b M,aL (aq T) g [.agg (e x),dC 1] (b::X::M)=some (.bool (p x),b::X::M)) (h0:xs≠[]) :
  aq T f [.cY 0 0 sz 0 xs.length,.func g [dC 1]] [.arr sz 0 (xs.map fun x => .agg (e x)),X] =
   some (Gr sz (xs.filter fun x => !p x).length,[.arr sz 0 (((xs.filter fun x => !p x)++List.replicate (xs.length-(xs.filter fun x => !p x).length) zx).map fun x => .agg (e x)),X]):=by
 have qi:=aaQ hX (abv hci hpi hn hz hs hX hk);refine aw ?_ hp hc rfl
 by_cases hi:rE p xs 0 = -1
 ·have hl:xs.length≠0:=fun hh=>h0 (cf.1 hh)
  have hb:(rE p xs 0 == -1)=true:=by simpa using hi
  rw[ET hi];simp only[dlF,qi,hb,hX.back,EV,seval];simp[Gr,hl]
 ·obtain⟨A,x,U,q1,q2,q3⟩:=EU hi;have hb:(rE p xs 0 == -1)=false:=by simpa using hi
  simp only[aN] at q2;have fx:xs.length=A.length+(U.length+1):=by rw[q1]; simp
  have hw:IntKind.i64.wrap ((A.length:Int)+1)=((A.length+[x].length:Nat):Int):=by rw[gb aM aM]; simp
  have e1:A++[x]++U=xs:=by rw[q1]; simp
  rw[q2] at hb qi;rw[q3];simp only[dlF,qi,hb,hw,hX.back,EV,seval]
  have hx:∀(A' G:List α) v q,A'.length+G.length=xs.length->G≠[]->kr (aq T) [.tmp 4] 2 [.block 0,.seq (.seq (.region [ob 36 (.mv (.tmp 0)),ob 37 (.mv (.tmp 5)),ob 38 (.uz sz (.tmp 36) (some (.tmp 37)) none none),ox (.w5 sz zc (.tmp 38))] false [0,5]) (.seq (.region [ob 39 (.mv (.tmp 0)),ob 40 (.mv (.tmp 5)),ob 41 (.uz sz (.tmp 39) none (some (.tmp 40)) none),ob 4 (.mv (.tmp 41))] false [4]) .ret))] ⟨.exit 0,[(0,.cY 0 0 sz 0 xs.length),(1,.func g [dC 1]),(5,aH A'.length),(6,v),(19,q)],[.arr sz 0 ((A'++G).map fun x => .agg (e x)),X]⟩ =
    some (Gr sz A'.length,[.arr sz 0 ((A'++List.replicate (xs.length-A'.length) zx).map fun x => .agg (e x)),X]):=by
   intro A' G v q hl hg;have hgl:G.length≠0:=fun hh=>hg (cf.1 hh)
   have b1:(((A'.length:Nat):Int)<=(xs.length:Int))=True:=x7;have b2:(((A'.length:Nat):Int)==(xs.length:Int))=false:=ic;have hN:(A'++G).length=xs.length:=ic;have hd:xs.length-A'.length=G.length:=aM;have hz0:Int.toNat ((0:Nat):Int)=0:=rfl;have hb0:((0:Int)<=((A'.length:Nat):Int))=True:=dk;have hzl:zc.length=sz:=by rw[<-hzx]; exact hz zx
   have hzp:zc.all ag.plainCell=true:=by rw[<-hzx]; exact hpl zx
   have hcl2:((A'++G).map fun x=>ag.agg (e x)).take A'.length++(List.replicate G.length (ag.agg zc)++((A'++G).map fun x=>ag.agg (e x)).drop xs.length)=(A'++List.replicate G.length zx).map fun x=>ag.agg (e x):=by
    rw[<-hN,il dk];simp[gI,List.map_replicate,hzx]
   by_cases hA:A'.length=0
   ·have b3:((0:Int)==((A'.length:Nat):Int))=true:=by simp[hA]
    simp only[ir,cd,cJ,b1,b2,hd,hcl2,b3,hz0,hb0,hzl,hzp,hX.back,EV,seval];simp[Gr,hA]
   ·have b3:((0:Int)==((A'.length:Nat):Int))=false:=ic;simp only[ir,cd,cJ,b1,b2,hd,hcl2,b3,hz0,hb0,hzl,hzp,hX.back,EV,seval];simp[Gr,hA]
  obtain⟨G',g1,g2⟩:=aaZ (R:=fun A' G=>some (Gr sz A'.length,[.arr sz 0 ((A'++List.replicate (xs.length-A'.length) zx).map fun x => .agg (e x)),X])) hn hz hz0 hs hpl hcl hX hk hx U A [x] ic dk
  rw[e1] at g2;simp only[ob,ox,aR,aD,aF,aN] at g2;exact g2
end
end Go.Abs
namespace Go.Proofs.YtcbopkblmebjiaaGreatDoor
section
open Go Go.Abs
attribute [local irreducible] fP fm kM gK dH kr aq aL cH bP
def tkN(n:Node):List.take 6 (aI n)=aI n:=rfl
def shN(n:Node):List.map ag.shut (aI n)=aI n:=rfl
def tkE(n:eM):List.take 3 (dJ n)=dJ n:=rfl
def shE(n:eM):List.map ag.shut (dJ n)=dJ n:=rfl
def akI(a:Int):aq dp 124 [aH a] []=some (.bool false,[]):=by
 refine aw ?_;simp only[YF,ajx,an,EN,seval]
def al7 a:=cP (akI a)
def HH(a b:Int):Int:=if decide (a<b) then -1 else if decide (b<a) then 1 else 0
def c60(a b:Int):aq dp 60 [aH a,aH b] []=some (aH (HH a b),[]):=by
 refine aw ?_;simp only[ahb,E60,al7,EN,seval]
 repeat' ((first|apply bW|apply c8|apply fq)<;>intro hb<;>simp only[hb,EN,E60,seval])
 all_goals (simp_all only[HH,vK,↓reduceIte,reduceCtorEq,an]; done)
def k60 a b:=cP (c60 a b)
def VD(a b:Int):(HH a b<0)=(a<b):=by
 unfold HH
 by_cases h1:a<b
 ·simp[h1]
 ·by_cases h2:b<a<;>simp[h1,h2]
def VC(a b:Int):(HH a b==0)=(a==b):=by
 unfold HH
 by_cases h1:a<b
 ·have:¬a=b:=aM;simp[h1,this]
 ·by_cases h2:b<a
  ·have:¬a=b:=aM;simp[h1,h2,this]
  ·have:a=b:=aM;simp[this]
def alJ(n:Node)(ar:Int):aq dp 259 [.agg (aI n),aH ar] []=some (aH (HH n.ar ar),[]):=by
 refine aw ?_;simp only[ZA,aj2,bJ,aI,k60,EN,seval]
def amF n ar:=cP (alJ n ar)
structure Vj(aa:List Node)(ar:Int)(b:Nat):Prop where
 le:b<=aa.length
 lt:∀h n,aa[h]?=some n->(n.ar<ar↔h<b)
def Ec(aa:List Node)(ar:Int)(b:Nat):Bool:=match aa[b]? with
 |some n=>n.ar==ar
 |none=>false
def alI(aa:List Node)(ar:Int)(b:Nat)(hb:Vj aa ar b)(hn:aa.length<=100000):aq dp 258 [aV aa,aH ar,.func 259 []] []=some (.tuple [aH b,.bool (Ec aa ar b)],[]):=by
 have h:=ahw (f:=258) (sz:=6) (T:=dp) (c:=fun n:Node=>HH n.ar ar) (e:=aI) (fv := .func 259 []) (key := aH ar) (M:=[]) gd rfl ⟨hb.le,fun h n hn=>by simp only[VD,bt]; exact hb.lt h n hn⟩ hn (fun _=>rfl) (fun _=>rfl) (.inl ⟨_,_,rfl⟩) rfl rfl rfl rfl rfl fun _ _ => .inl ⟨_,_,rfl,amF _ _ _⟩
 simp only[VC] at h;rw[show Ec aa ar b=pZ (fun x=>x.ar==ar) aa b by unfold Ec pZ; cases aa[b]?<;>rfl]
 exact h
def amE aa ar b hb hn:=cP (alI aa ar b hb hn)
def ng(aa:List Node):Prop:=aa.Pairwise fun a b=>a.ar<b.ar
def lx(aa:List Node)(ar:Int):Nat:=(aa.takeWhile fun n=>decide (n.ar<ar)).length
def uK{aa:List Node}(h:ng aa)(ar:Int):Vj aa ar (lx aa ar):=by
 unfold lx;induction aa with
 |nil=>exact⟨dk,fun h n hn=>by simp at hn⟩
 |cons a r ih =>
  obtain⟨h1,h2⟩:=bR.1 h;obtain⟨i1,i2⟩:=ih h2
  by_cases ha:a.ar<ar
  ·rw[fu,av (by simpa using ha)]
   refine⟨by simpa using i1,fun k n hn=>?_⟩
   cases k with
   |zero=>simp at hn; subst hn; simp[ha]
   |succ k=>rw[i2 k n (by simpa using hn)]; simp
  ·rw[fu,aj (by simpa using ha)]
   refine⟨dk,fun k n hn=>?_⟩
   simp only[aF,kx,oM];cases k with
   |zero=>simp at hn; subst hn; exact ha
   |succ k =>
    have:=h1 n (aU (by simpa using hn))
    omega
def rp{aa:List Node}(h:ng aa)(ar:Int):(Ec aa ar (lx aa ar)=true/\∃n,aa[lx aa ar]?=some n/\find aa ar=some n/\n.ar=ar)\/(Ec aa ar (lx aa ar)=false/\find aa ar=none):=by
 obtain⟨l1,l2⟩:=uK h ar;cases hf:find aa ar with
 |some n =>
  left;obtain⟨hm,he⟩:=cr hf;obtain⟨k,hk⟩:=bX hm;have hkb:¬k<lx aa ar:=fun hc=>by have:=(l2 k n hk).2 hc; omega
  have hb:lx aa ar<aa.length:=by have:=(au.1 hk).1; omega
  have hx:=ai hb;have hnl:¬aa[lx aa ar].ar<ar:=fun hc=>ja _ ((l2 _ _ hx).1 hc)
  have hke:k=lx aa ar:=by
   rcases bK (lx aa ar) k with cA|hge
   ·have hkl:=(au.1 hk).1;have h3:=cB.1 h _ _ hb hkl cA;have h4:aa[k]=n:=by rw[ai hkl] at hk; injection hk
    rw[h4] at h3;omega
   ·omega
  subst hke;exact⟨by unfold Ec; rw[hk]; simp[he],n,hk,rfl,he⟩
 |none =>
  right;refine⟨?_,rfl⟩;unfold Ec;split
  ·rename_i n hn;have:=eJ.1 hf n (aU hn);simpa using this
  ·rfl
def alz(aa:List Node)(next ae ar:Int)(h:ng aa)(hn:aa.length<=100000):aq dp 232 [dC 0,aH ar] [cL [aV aa,aH next,aH ae]] =
  some (.tuple [aH (lx aa ar),.bool (Ec aa ar (lx aa ar))],[cL [aV aa,aH next,aH ae]]):=by
 refine aw ?_;have hk:=amE aa ar _ (uK h ar) hn;simp only[Zq,ajW,hk,EN,seval]
def Rj aa next ae ar h hn p M hM:=cM (p:=p) (M:=M) hM (alz aa next ae ar h hn)
def alb(aa:List Node)(next ae ar:Int)(h:ng aa)(hn:aa.length<=100000):aq dp 177 [dC 0,aH ar] [cL [aV aa,aH next,aH ae]] =
  some (.tuple [bJ (bO aa ar),.bool (find aa ar).isSome],[cL [aV aa,aH next,aH ae]]):=by
 refine aw ?_;have hk:=fun M=>Rj aa next ae ar h hn 0 (cL [aV aa,aH next,aH ae]::M) rfl
 simp only[Y6,aac,hk,EN,seval];rcases rp h ar with ⟨h1,n,h2,h3,h4⟩|⟨h1,h2⟩
 ·simp only[aac,h1,h2,h3,bO,aI,EN,seval];rfl
 ·simp only[aac,h1,h2,bO,EN,seval];rfl
def GD aa next ae ar h hn p M hM:=cM (p:=p) (M:=M) hM (alb aa next ae ar h hn)
def aln(aa:List Node)(next ae ar:Int)(h:ng aa)(hn:aa.length<=100000):aq dp 216 [dC 0,aH ar] [cL [aV aa,aH next,aH ae]] =
  some (.tuple [bJ (gM aa ar).1,aH (gM aa ar).2],[cL [aV aa,aH next,aH ae]]):=by
 refine aw ?_;have hk:=fun M=>GD aa next ae ar h hn 0 (cL [aV aa,aH next,aH ae]::M) rfl
 simp only[Zh,Vc,hk,bJ,aI,EN,seval];unfold gM;cases hf:find aa ar with
 |none=>simp only[Vc,bO,hf,Option.isSome,EN,seval]; first|done|rfl
 |some n =>
  simp only[Vc,bO,hf,Option.isSome,bQ,EN,seval]
  repeat' ((first|apply bW|apply c8|apply fq)<;>intro hb<;>simp only[hb,EN,Vc,seval])
  all_goals (clear hk; simp_all [Node.zero])
def Wk aa next ae ar h hn p M hM:=cM (p:=p) (M:=M) hM (aln aa next ae ar h hn)
end
section
open Go
-- What is decoded in the midst of a text: a byte below 128,or a rune from 128 on out of such bytes.
set_option maxRecDepth 100000 in
def LQ{s pre r:List UInt8}{n:UInt8}(h:s=pre++n::r) :
  (n.toNat<128/\Utf8.decode ⟨s.toArray⟩ pre.length=(n.toNat,1)) \/
  ∃c m r',n::r=m++r'/\m≠[]/\(∀b,b∈m->128<=b.toNat)/\128<=c/\c<2147483648/\Utf8.decode ⟨s.toArray⟩ pre.length=(c,m.length):=by
 have hg:∀k,(⟨s.toArray⟩:ByteArray).get! (pre.length+k)=(n::r).getD k 0:=fun k=>by
  subst h
  show((pre++n::r).toArray)[pre.length+k]! = _
  simp only[List.getElem!_toArray,List.getElem!_eq_getElem?_getD,db];rw[bA aM,iM];rfl
 have hsz:(⟨s.toArray⟩:ByteArray).size=pre.length+(n::r).length:=by
  show s.toArray.size=_
  subst h; simp
 by_cases hn:n.toNat<128
 ·refine .inl ⟨hn,?_⟩;have h0:=hg 0;simp only[dq,List.getD_cons_zero] at h0;simp[Utf8.decode,h0,hn]
 ·refine .inr ?_;have hn':128<=n.toNat:=aM;have h0:=hg 0;have h1:=hg 1;have h2:=hg 2;have h3:=hg 3;simp only[dq,List.getD_cons_zero,List.getD_cons_succ] at h0 h1 h2 h3
  have one:∀c,128<=c->c<2147483648->Utf8.decode ⟨s.toArray⟩ pre.length=(c,1)->∃c m r',n::r=m++r'/\m≠[]/\(∀b,b∈m->128<=b.toNat)/\128<=c/\c<2147483648/\Utf8.decode ⟨s.toArray⟩ pre.length=(c,m.length) :=
   fun c hc hc2 hd=>⟨c,[n],r,rfl,dk,by simpa using hn',hc,hc2,hd⟩
  have big:∀k,k<r.length->128<=(r.getD k 0).toNat->∃b,r[k]?=some b/\128<=b.toNat:=fun k hk hb=>by
   refine⟨r[k],ai hk,?_⟩;simpa[db,ai hk] using hb
  have cA:¬n.toNat<0x80:=aM;have hN:n.toNat<256:=n.toNat_lt;unfold Utf8.decode at one ⊢;simp only[dq,h0,h1,h2,h3,hsz,aD,cA,aC] at one ⊢
  by_cases hA:(n.toNat / 32==6&&(decide (pre.length+1<pre.length+(r.length+1))&&(r.getD 0 0).toNat / 64==2))=true
  ·simp only[hA,aE] at one ⊢;simp only[bm,eG,bt] at hA;obtain⟨hA1,hA2,hA3⟩:=hA
   by_cases hc:n.toNat % 32*64+(r.getD 0 0).toNat % 64>=0x80
   ·simp only[hc,aE] at one ⊢;obtain⟨b0,g0,g1⟩:=big 0 aM aM
    match r,g0 with
    |_::r',g0 =>
     cases g0;exact⟨_,[n,_],r',rfl,dk,by simp[hn',g1],hc,aM,rfl⟩
   ·simp only[hc,aC] at one ⊢;exact one _ pd pd rfl
  ·simp only[hA,aC] at one ⊢
   by_cases hB:(n.toNat / 16==14&&(decide (pre.length+1<pre.length+(r.length+1))&&(r.getD 0 0).toNat / 64==2)&&(decide (pre.length+2<pre.length+(r.length+1))&&(r.getD 1 0).toNat / 64==2))=true
   ·simp only[hB,aE] at one ⊢;simp only[bm,eG,bt] at hB;obtain⟨⟨hB1,hB2,hB3⟩,hB4,hB5⟩:=hB
    by_cases hc:((n.toNat % 16*4096+(r.getD 0 0).toNat % 64*64+(r.getD 1 0).toNat % 64>=0x800:Bool)&&Utf8.valid ((n.toNat % 16*4096+(r.getD 0 0).toNat % 64*64+(r.getD 1 0).toNat % 64:Nat):Int))=true
    ·simp only[hc,aE] at one ⊢;simp only[bm,bt] at hc;obtain⟨b0,g0,g1⟩:=big 0 aM aM;obtain⟨b1,k0,k1⟩:=big 1 aM aM
     match r,g0,k0 with
     |_::_::r',g0,k0 =>
      cases g0;cases k0;exact⟨_,[n,_,_],r',rfl,dk,by simp[hn',g1,k1],aM,aM,rfl⟩
    ·simp only[hc,aC] at one ⊢;exact one _ pd pd rfl
   ·simp only[hB,aC] at one ⊢
    by_cases hC:(n.toNat / 8==30&&(decide (pre.length+1<pre.length+(r.length+1))&&(r.getD 0 0).toNat / 64==2)&&(decide (pre.length+2<pre.length+(r.length+1))&&(r.getD 1 0).toNat / 64==2)&&(decide (pre.length+3<pre.length+(r.length+1))&&(r.getD 2 0).toNat / 64==2))=true
    ·simp only[hC,aE] at one ⊢;simp only[bm,eG,bt] at hC;obtain⟨⟨⟨hB1,hB2,hB3⟩,hB4,hB5⟩,hB6,hB7⟩:=hC
     by_cases hc:((n.toNat % 8*262144+(r.getD 0 0).toNat % 64*4096+(r.getD 1 0).toNat % 64*64+(r.getD 2 0).toNat % 64>=0x10000:Bool)&&Utf8.valid ((n.toNat % 8*262144+(r.getD 0 0).toNat % 64*4096+(r.getD 1 0).toNat % 64*64+(r.getD 2 0).toNat % 64:Nat):Int))=true
     ·simp only[hc,aE] at one ⊢;simp only[bm,bt] at hc;obtain⟨b0,g0,g1⟩:=big 0 aM aM;obtain⟨b1,k0,k1⟩:=big 1 aM aM;obtain⟨b2,l0,l1⟩:=big 2 aM aM
      match r,g0,k0,l0 with
      |_::_::_::r',g0,k0,l0 =>
       cases g0;cases k0;cases l0;exact⟨_,[n,_,_,_],r',rfl,dk,by simp[hn',g1,k1,l1],aM,aM,rfl⟩
     ·simp only[hc,aC] at one ⊢;exact one _ pd pd rfl
    ·simp only[hC,aC] at one ⊢;exact one _ pd pd rfl
end
section
open Go Go.Abs
section
attribute [local irreducible] fP fm kM gK dH kr aq aL cH bP
def oV(_:Bytes):Prop:=True
def all_true{m:Bytes}(h:∀b,b∈m->128<=b.toNat):m.all tf=true:=by
 rw[bF];intro b hb;have:=h b hb;have h1:¬((b.toNat:Int)<32):=aM;have h2:¬((b.toNat:Int)=47):=aM;simp[tf,h1,h2]
def W0{s:Bytes}(hs:s.length<=100000)(ha:oV s){k:List K}{R:Bool->Option (ag×aO)}
  (hx:∀e p,kr (aq dp) [.tmp 2] 0 k ⟨.exit 0,e,[.nW s p]⟩=R true) (hr:∀p,kr (aq dp) [.tmp 2] 0 k ⟨.ret,[(2,.bool false)],[.nW s p]⟩=R false) :
  ∀(q:Nat)(l pre:Bytes),l.length<=q->s=pre++l->fP (aq dp) [.tmp 2] 0 k (.loop [21] Mo) [(21,.jI 0)] [.nW s pre.length]=R (l.all tf):=by
 intro q;induction q with
 |zero =>
  intro l pre hq h;have h0:l=[]:=cK aM;subst h0;rw[cv];have cA:(pre.length<s.length)=False:=by rw[h]; simp
  simp only[vO,cA,EN,seval];exact hx _ _
 |succ q ih =>
  intro l pre hq h;cases l with
  |nil =>
   rw[cv];have cA:(pre.length<s.length)=False:=by rw[h]; simp
   simp only[vO,cA,EN,seval];exact hx _ _
  |cons n r =>
   rw[cv];have cA:(pre.length<s.length)=True:=by rw[h]; simp
   rcases LQ h with ⟨hn,hd⟩|⟨c,m,r',hm,hne,hb,hc,hc2,hd⟩
   ·have hi:=ih r (pre++[n]) (by simp at hq; omega) (by rw[h]; simp)
    simp only[aR,aD,aF,aN] at hi;simp only[vO,cA,hd,EN,seval]
    repeat' ((first|apply bW|apply c8|apply fq)<;>intro hb<;>simp only[hb,vO,hd,EV,seval])
    all_goals first
     |(refine(hr _).trans ?_; congr 1; symm; clear hi ih hx hr hd h; simp_all [tf]; done)
     |(refine hi.trans ?_; congr 1; symm; clear hi ih hx hr hd h; simp_all [tf]; done)
   ·have hml:0<m.length:=iY.2 hne;have hl2:(n::r).length=m.length+r'.length:=by rw[hm]; simp
    have hi:=ih r' (pre++m) (by simp at hq hl2; omega) (by rw[h,hm]; simp)
    simp only[aR] at hi;have h32:decide ((c:Int)<32)=false:=ic;have h47:((c:Int)==47)=false:=by rw[ck]; omega
    rw[hm,List.all_append,all_true hb,b9];simp only[vO,cA,hd,h32,h47,EN,seval];exact hi
def akJ(s:Bytes)(hs:s.length<=100000)(ha:oV s):aq dp 126 [.str s] []=some (.bool (dB s),[]):=by
 refine aw ?_;simp only[EG,vO,EN,seval];have hl:=fun k hx hr=>W0 (k:=k) (R:=fun b=>some (ag.bool b,[])) hs ha hx hr s.length s [] (ak _) rfl
 have he:(s==[])=decide ((s.length:Int)<1):=by cases s<;>simp; omega
 rw[he]
 repeat' ((first|apply bW|apply c8|apply fq)<;>intro hb<;>simp only[hb,EN,vO,seval])
 all_goals first
  |(clear hl he; simp_all [dB]; done)
  |(refine(hl _ (fun e p=>by simp only[vO,EN,seval]) (fun p=>by simp only[vO,EN,seval])).trans ?_; clear hl he; simp_all [dB]; done)
def Rc s hs ha:=cP (akJ s hs ha)
def amq(a b:Bytes)(M:aO):aL (aq dp) 199 [.str a,.str b] M=some (aH (Lib.compareBytes a b),M) :=
 cO (gN (g:=zW) rfl rfl) M
def c138(a b:Bytes):aq dp 138 [.str a,.str b] []=some (aH (Lib.compareBytes a b),[]):=by
 refine aw ?_;simp only[YM,ajC,amq,EN,seval]
def abG a b:=cP (c138 a b)
def xL:∀(a b:Bytes),(Lib.compareBytes a b<0)=(strLt a b=true)
 | [],[]=>by simp[Lib.compareBytes,strLt]
 | [],_::_=>by simp[Lib.compareBytes,strLt]
 |_::_,[]=>by simp[Lib.compareBytes,strLt]
 |a::x,b::y=>by
  rw[Lib.compareBytes,strLt]
  by_cases h1:a<b
  ·simp[h1]
  ·by_cases h2:b<a
   ·have h3:¬a=b:=by rintro rfl; exact oL _ h2
    simp[h1,h2,h3]
   ·have h3:a=b:=by rw[<-iT]; simp only[kK] at h1 h2; omega
    subst h3;simp[h1,xL x y]
def Gq:∀(a b:Bytes),(Lib.compareBytes a b==0)=(a==b)
 | [],[]=>by simp[Lib.compareBytes]
 | [],_::_=>by simp[Lib.compareBytes]
 |_::_,[]=>by simp[Lib.compareBytes]
 |a::x,b::y=>by
  rw[Lib.compareBytes]
  by_cases h1:a<b
  ·have h3:¬a=b:=by rintro rfl; exact oL _ h1
   simp[h1,h3]
  ·by_cases h2:b<a
   ·have h3:¬a=b:=by rintro rfl; exact oL _ h2
    simp[h1,h2,h3]
   ·have h3:a=b:=by rw[<-iT]; simp only[kK] at h1 h2; omega
    subst h3;simp only[h1,aC,Gq x y];simp
def alE(e:eM)(s:Bytes):aq dp 254 [.agg (dJ e),.str s] []=some (aH (Lib.compareBytes e.name s),[]):=by
 refine aw ?_;simp only[Zw,aj0,gq,dJ,abG,EN,seval]
def amA e s:=cP (alE e s)
structure Nd(aK:List eM)(s:Bytes)(b:Nat):Prop where
 le:b<=aK.length
 lt:∀h n,aK[h]?=some n->(strLt n.name s=true↔h<b)
def zL(aK:List eM)(s:Bytes)(b:Nat):Bool:=match aK[b]? with
 |some n=>n.name==s
 |none=>false
def alD(aK:List eM)(s:Bytes)(b:Nat)(hb:Nd aK s b)(hn:aK.length<=100000):aq dp 253 [iU aK,.str s,.func 254 []] []=some (.tuple [aH b,.bool (zL aK s b)],[]):=by
 have h:=ahw (f:=253) (sz:=3) (T:=dp) (c:=fun n:eM=>Lib.compareBytes n.name s) (e:=dJ) (fv := .func 254 []) (key := .str s) (M:=[]) gd rfl ⟨hb.le,fun h n hn=>by simp only[xL,bt]; exact hb.lt h n hn⟩ hn (fun _=>rfl) (fun _=>rfl) (.inl ⟨_,_,rfl⟩) rfl rfl rfl rfl rfl fun _ _ => .inl ⟨_,_,rfl,amA _ _ _⟩
 simp only[Gq] at h;rw[show zL aK s b=pZ (fun x=>x.name==s) aK b by unfold zL pZ; cases aK[b]?<;>rfl]
 exact h
def amz aK s b hb hn:=cP (alD aK s b hb hn)
def nJ(l:List eM):Prop:=l.Pairwise fun a b=>strLt a.name b.name=true
def lQ(l:List eM)(s:Bytes):Nat:=(l.takeWhile fun n=>strLt n.name s).length
def alv(n:Node)(s:Bytes)(b:Nat)(hb:Nd n.aK s b)(hn:n.aK.length<=100000):aq dp 228 [bJ n,.str s] []=some (.tuple [aH b,.bool (zL n.aK s b)],[]):=by
 refine aw ?_;have hk:=amz n.aK s b hb hn;simp only[Zm,ajT,bJ,aI,hk,EN,seval]
def Ri(a b c:Int)(d:Bytes)(e:List eM)(u:Int)(s:Bytes)(i:Nat)(hb:Nd e s i)(hn:e.length<=100000)(M:aO):aL (aq dp) 228 [.agg [aH a,aH b,aH c,mc d,iU e,aH u],.str s] M=some (.tuple [aH i,.bool (zL e s i)],M) :=
 cO (alv ⟨a,b,c,d,e,u⟩ s i hb hn) M
end
section
open Go.RowKit Go.Shelf
def Eh{α:Type}(b0:Nat)(F:Fence)(n:Nat)(P:Program)(g:Nat)(lb:Array Value)(encs:α->Array Value)(Kp:World->World->Prop)(S Sp:List α->Prop)(N:Nat)(w:World):Prop :=
 ∀(l:Nat)(J Jx:List α->World->Prop)(W:World),Below w.heap.size w W->AbidesFrom W.heap.size J->AbidesFrom W.heap.size Jx->(∀s A v,J s A->J s (A.setCell ⟨b0,0,none⟩ v)) ->
  (∀pre x W1,J pre W1->pre.length<N->YieldAt F (n-1) P l (encs x) W1 fun e W' =>
   (e = .returned (.bool true)/\J (pre++[x]) W'/\Kp W1 W')\/(e = .returned (.bool false)/\Jx (pre++[x]) W')) ->
  J [] W ->
  CallsIn F n P g (#[.func (.yield l) #[] #[]]++lb) W fun e W'=>(∃v,e = .returned v)/\((∃xs,S xs/\J xs W')\/(∃pre,Sp pre/\Jx pre W'))
def yl{F:Fence}{n:Nat}{P:Program}{b0:Nat}{α:Type}{g:Operand}{ps:Array Tmp}{assign body:Code}{Q:Exit->Act->World->Prop}{a:Act}{w:World}(hb0w:b0<w.heap.size)
  (hro:F.round=none) (h1:1<=n) {gf:Nat} {lb:Array Value} (hg:a.eval g = .func (.func gf) #[] lb) (hFg:F.fn gf) (eg:∀args w,(callFunc gf args).run P w = .ok (.enter gf args) w)
  {encs:α->Array Value} {Kp:World->World->Prop} {S Sp:List α->Prop} {N:Nat} {w0:World} (hseq:Eh b0 F (n-1) P gf lb encs Kp S Sp N w0)
  (hKt:∀ {A B C:World},Kp A B->Kp B C->Kp A C) (hKb:∀(W:World)(l:Nat)(o o':Obj),w.heap.size<=l->W.heap[l]?=some o->o.isCells=false->o.isWalk=false->Kp W (W.putObj l o')) (hb0:Below w0.heap.size w0 w) (hps:∀x,(encs x).size=ps.size)
  (I:List α->World->Prop) (Ix:Code->List α->World->Prop) (hI:OwnFrom w.heap.size I) (hIx:∀c,OwnFrom w.heap.size (Ix c)) (hIc:∀s A v,I s A->I s (A.setCell ⟨b0,0,none⟩ v)) (h0:I [] w) (a₁:α->Act)
  (hassign:∀(l:Nat)(x:α)(W:World)(K:Act->World->Prop),K (a₁ x) W ->
   assign.wpIn (F.inRound l) (n-1-1) P (Exit.then K (fun _ _ _=>False)) { tmps:=(ps.zip (encs x)).foldl (fun t (p,v)=>t.setIfInBounds p v) a.tmps,defers:=[] } W)
  (hbody:∀(l:Nat)(pre:List α)(x:α)(W:World),I pre W->pre.length<N->body.wpIn (F.inRound l) (n-1-1) P (ownPostK Kp I Ix (pre++[x]) W) (a₁ x) W)
  (hdone:∀(D:Nat)(xs:List α)(W:World),w.heap.size<=D->S xs->I xs W->W.heap[D]?=some (.deferred (some []))->Q .normal { a with defers:={ target := .collected D,args := #[] }::a.defers } W)
  (hstop:∀(D:Nat)(c:Code)(pre:List α)(W:World),w.heap.size<=D->Sp pre->Ix c pre W->W.heap[D]?=some (.deferred (some []))->c.wpIn F n P Q { a with defers:={ target := .collected D,args := #[] }::a.defers } W) :
  (Code.rangeFunc g ps assign body).wpIn F n P Q a w:=by
 refine wpIn_rangeFunc ?_;intro fn hfn;rw[hro];obtain⟨rec,hrec⟩:∃rec:LoopState->Option Code->Loop,rec=fun st pe=>{ state:=st,pending:=pe,fn,tmps:=a.tmps,params:=ps,assign,body,defers:=w.heap.size }:=⟨_,rfl⟩
 obtain⟨W1,hW1⟩:∃W1,(w.alloc (.deferred (some []))).alloc (.loop (rec .ready none))=W1:=⟨_,rfl⟩
 have hL1:W1.heap[w.heap.size+1]?=some (.loop (rec .ready none)):=by
  rw[<-hW1]; have:=World.alloc_heap_new (w.alloc (.deferred (some []))) (.loop (rec .ready none)); rwa[World.size_alloc] at this
 have hK1:W1.heap[w.heap.size]?=some (.deferred (some [])):=by
  rw[<-hW1]; exact(Below.heap_alloc _ _ _ dk).trans (World.alloc_heap_new w _)
 have hI1:I [] W1:=by rw[<-hW1]; exact hI.alloc _ (hI.alloc _ h0)
 have hb1:Below w0.heap.size w0 W1:=by
  rw[<-hW1]; exact hb0.trans ((((Below.refl _ w).alloc (ak _) _).alloc dk _).mono hb0.size)
 refine⟨w.heap.size+1,[{ target := .collected w.heap.size,args := #[] }],W1,{ target := .fn (.func gf) lb,args := #[.func (.yield (w.heap.size+1)) #[] #[]] },W1,gf,
  #[.func (.yield (w.heap.size+1)) #[] #[]]++lb,W1,?_,?_,?_,?_,fun _=>h1,?_⟩
 ·rw[<-hW1,hrec]; exact run_enterLoop_outer _ _ _ _ _
 ·simp only[resolve,hg];simp[go_sem]
 ·intro f' hf'; simp[Target.leads] at hf'; subst hf'; exact hFg
 ·simp[invoke,go_sem,eg]
 ·have hnw:∀ {A B:World} {row:Option Nat},(∀r,row=some r->W1.heap.size<=r/\∃o:Obj,A.heap[r]?=some o/\o.isWalk=true)->(∀r,row=some r->w.heap.size<=r/\∃o:Obj,A.heap[r]?=some o/\o.isCells=false) :=
   fun hr r e=>by obtain⟨hB,o,ho,hw⟩:=hr r e; exact⟨by rw[<-hW1] at hB; simp at hB; omega,o,ho,Obj.not_cells_of_walk hw⟩
  refine(hseq (w.heap.size+1)
   (fun pre W=>I pre W/\W.heap[w.heap.size+1]?=some (.loop (rec .ready none))/\W.heap[w.heap.size]?=some (.deferred (some [])))
   (fun pre W=>∃c,Ix c pre W/\W.heap[w.heap.size+1]?=some (.loop (rec .done (some c)))/\W.heap[w.heap.size]?=some (.deferred (some [])))
   W1 hb1
   (fun s A B row hs hg' hr=>⟨hI s A B row hs.1 hg' (hnw (B:=B) hr),(grownBy_keeps hg' (fun r e=>(hr r e).2) hs.2.1 rfl).trans hs.2.1,(grownBy_keeps hg' (fun r e=>(hr r e).2) hs.2.2 rfl).trans hs.2.2⟩)
   (fun s A B row hs hg' hr=>by
    obtain⟨c,hc,hl,hk⟩:=hs;exact⟨c,hIx c s A B row hc hg' (hnw (B:=B) hr),(grownBy_keeps hg' (fun r e=>(hr r e).2) hl rfl).trans hl,(grownBy_keeps hg' (fun r e=>(hr r e).2) hk rfl).trans hk⟩)
   (fun s A v hs=>⟨hIc s A v hs.1,(Below.heap_setCell _ _ _ _ (by show _≠b0; omega)).trans hs.2.1,(Below.heap_setCell _ _ _ _ (by show _≠b0; omega)).trans hs.2.2⟩)
   ?_ ⟨hI1,hL1,hK1⟩).mono ?_
  ·rintro pre x W ⟨hi,hl,hk⟩ fx;have cA:w.heap.size+1<W.heap.size:=(fy.1 hl).1;have hy:=run_yield (P:=P) (args:=encs x) hl (by rw[hrec]; exact hps x)
   rw[hrec] at hy;refine⟨fn,_,assign,body,hy,roundIn_of_wpIn hfn (hassign _ x W _ ⟨_,run_beginRound hl (by rw[hrec]),?_⟩)⟩
   have hl2:(W.putObj (w.heap.size+1) (.loop { rec .ready none with state := .busy })).heap[w.heap.size+1]?=some (.loop { rec .ready none with state := .busy }):=World.putObj_heap_same cA
   have hk2:(W.putObj (w.heap.size+1) (.loop { rec .ready none with state := .busy })).heap[w.heap.size]?=some (.deferred (some [])):=(World.putObj_heap_other aM).trans hk
   have hw2:Kp W (W.putObj (w.heap.size+1) (.loop { rec .ready none with state := .busy })):=hKb _ _ _ _ aM hl rfl rfl
   refine wpIn_mono (hbody _ pre x _ (hI.putObj _ hi aM hl rfl) fx) ?_
   have fin:∀(jump:Option Code)(W3:World),KeepsOthers (W.putObj (w.heap.size+1) (.loop { rec .ready none with state := .busy })) W3 ->
     (Instr.endRound (w.heap.size+1) jump).run P W3 = .ok (.bool jump.isNone) (W3.putObj (w.heap.size+1) (.loop (rec (if jump.isNone then .ready else .done) jump))) /\
     W3.heap[w.heap.size+1]?=some (.loop { rec .ready none with state := .busy }) /\
     (W3.putObj (w.heap.size+1) (.loop (rec (if jump.isNone then .ready else .done) jump))).heap[w.heap.size+1]?=some (.loop (rec (if jump.isNone then .ready else .done) jump)) /\
     (W3.putObj (w.heap.size+1) (.loop (rec (if jump.isNone then .ready else .done) jump))).heap[w.heap.size]?=some (.deferred (some [])):=fun jump W3 hk3=>by
    have hl3:=hk3.same _ _ hl2 rfl;have:=run_endRound (P:=P) jump hl3;rw[hrec] at this ⊢;exact⟨this,by rw[hrec] at hl3; exact hl3,World.putObj_heap_same (fy.1 hl3).1,(World.putObj_heap_other aM).trans (hk3.same _ _ hk2 rfl)⟩
   rintro e a3 W3 hp;cases e with
   |normal =>
    obtain⟨hk3,hkp3,hi3⟩:=hp;obtain⟨hr,hl3,hl4,hk4⟩:=fin none W3 hk3;exact⟨_,_,hr,.inl ⟨rfl,⟨hI.putObj _ hi3 aM hl3 rfl,hl4,hk4⟩,hKt (hKt hw2 hkp3) (hKb _ _ _ _ aM hl3 rfl rfl)⟩⟩
   |ret =>
    obtain⟨hk3,hi3⟩:=hp;obtain⟨hr,hl3,hl4,hk4⟩:=fin (some .ret) W3 hk3;exact⟨_,_,hr,.inr ⟨rfl,.ret,(hIx _).putObj _ hi3 aM hl3 rfl,hl4,hk4⟩⟩
   |exit id =>
    obtain⟨hk3,hi3⟩:=hp;obtain⟨hr,hl3,hl4,hk4⟩:=fin (some (.exit id)) W3 hk3;exact⟨_,_,hr,.inr ⟨rfl,.exit id,(hIx _).putObj _ hi3 aM hl3 rfl,hl4,hk4⟩⟩
   |goto t =>
    obtain⟨hk3,hi3⟩:=hp;obtain⟨hr,hl3,hl4,hk4⟩:=fin (some (.goto t)) W3 hk3;exact⟨_,_,hr,.inr ⟨rfl,.goto t,(hIx _).putObj _ hi3 aM hl3 rfl,hl4,hk4⟩⟩
   |panic ch=>exact hp.elim
   |outgrown=>exact hp.elim
  ·rintro e W2 ⟨⟨v,rfl⟩,(⟨xs,hS,hi,hl,hk⟩|⟨pre,hSp,c,hi,hl,hk⟩)⟩
   ·exact⟨none,_,by have:=run_endLoop (P:=P) hl (by rw[hrec]; simp); rw[hrec] at this; exact this,hdone _ xs _ (ak _) hS (hI.putObj _ hi aM hl rfl) ((World.putObj_heap_other aM).trans hk)⟩
   ·exact⟨some c,_,by have:=run_endLoop (P:=P) hl (by rw[hrec]; simp); rw[hrec] at this; exact this,hstop _ c pre _ (ak _) hSp ((hIx c).putObj _ hi aM hl rfl) ((World.putObj_heap_other aM).trans hk)⟩
def Mj:J:=⟨fun _=>none,fun _ _=>False⟩
def Ut(w:World):Rel Mj [] w where
 inj:=fun _ _ _ h=>by cases h
 lt:=fun _ _ h=>by cases h
 fix:=fun _ _ h=>by cases h
 tick:=fun _ _ _ _ h=>by cases h
 arr:=fun _ _ _ _ h=>by cases h
 u9:=fun _ _ h=>by cases h
 Ah:=fun _ _ h=>h.elim
@[reducible] def G0:jw:={ g:=fun _=>none }
def adF:@pE G0 Tryz.prog (Ei [] f126) f126=some EG:=gd
def adG:@pE G0 Tryz.prog (Ei [] f193) f193=some L4:=gd
def adH:@pE G0 Tryz.prog (Ei [] f240) f240=some L6:=gd
def adI:@pE G0 Tryz.prog (Ei [] f261) f261=some HX:=gd
def GQ{α:Type}{x:α}{P:Prop}(h:(none:Option α)=some x):P:=by cases h
def ahB(w:World):@sS G0 Mj [] w:=@sS.mk G0 _ _ _ (fun b vs k v h=>GQ (show(none:Option (List Value))=some vs from h)) (fun b vs h=>GQ (show(none:Option (List Value))=some vs from h)) (fun b p h=>GQ (show(none:Option (Value->Prop))=some p from h))
def Ym:Nat->Option eX
 |126=>some EG
 |193=>some L4
 |240=>some L6
 |261=>some HX
 |_=>none
noncomputable def DU:Br:=⟨Ym,fun _=>none⟩
def XT:@ym G0 Tryz.prog DU:=by
 refine @ym.mk G0 _ _ (fun f fn h=>?_) (fun f g h=>by cases h)
 simp only[DU] at h;unfold Ym at h;split at h
 ·cases h; exact⟨_,_,func126,adF⟩
 ·cases h; exact⟨_,_,func193,adG⟩
 ·cases h; exact⟨_,_,func240,adH⟩
 ·cases h; exact⟨_,_,func261,adI⟩
 ·cases h
def ad2:@pC G0 Tryz.prog (aq DU):=@uE G0 _ gd _ XT
section
attribute [local irreducible] fP fm kM gK dH kr aq aL cH bP
def Ty{s:Bytes}(hs:s.length<=100000)(ha:oV s){k:List K}{R:Bool->Option (ag×aO)}
  (hx:∀e p,kr (aq DU) [.tmp 2] 0 k ⟨.exit 0,e,[.nW s p]⟩=R true) (hr:∀p,kr (aq DU) [.tmp 2] 0 k ⟨.ret,[(2,.bool false)],[.nW s p]⟩=R false) :
  ∀(q:Nat)(l pre:Bytes),l.length<=q->s=pre++l->fP (aq DU) [.tmp 2] 0 k (.loop [21] Mo) [(21,.jI 0)] [.nW s pre.length]=R (l.all tf):=by
 intro q;induction q with
 |zero =>
  intro l pre hq h;have h0:l=[]:=cK aM;subst h0;rw[cv];have cA:(pre.length<s.length)=False:=by rw[h]; simp
  simp only[vO,cA,EN,seval];exact hx _ _
 |succ q ih =>
  intro l pre hq h;cases l with
  |nil =>
   rw[cv];have cA:(pre.length<s.length)=False:=by rw[h]; simp
   simp only[vO,cA,EN,seval];exact hx _ _
  |cons n r =>
   rw[cv];have cA:(pre.length<s.length)=True:=by rw[h]; simp
   rcases LQ h with ⟨hn,hd⟩|⟨c,m,r',hm,hne,hb,hc,hc2,hd⟩
   ·have hi:=ih r (pre++[n]) (by simp at hq; omega) (by rw[h]; simp)
    simp only[aR,aD,aF,aN] at hi;simp only[vO,cA,hd,EN,seval]
    repeat' ((first|apply bW|apply c8|apply fq)<;>intro hb<;>simp only[hb,vO,hd,EV,seval])
    all_goals first
     |(refine(hr _).trans ?_; congr 1; symm; clear hi ih hx hr hd h; simp_all [tf]; done)
     |(refine hi.trans ?_; congr 1; symm; clear hi ih hx hr hd h; simp_all [tf]; done)
   ·have hml:0<m.length:=iY.2 hne;have hl2:(n::r).length=m.length+r'.length:=by rw[hm]; simp
    have hi:=ih r' (pre++m) (by simp at hq hl2; omega) (by rw[h,hm]; simp)
    simp only[aR] at hi;have h32:decide ((c:Int)<32)=false:=ic;have h47:((c:Int)==47)=false:=by rw[ck]; omega
    rw[hm,List.all_append,all_true hb,b9];simp only[vO,cA,hd,h32,h47,EN,seval];exact hi
def agr(s:Bytes)(hs:s.length<=100000)(ha:oV s):aq DU 126 [.str s] []=some (.bool (dB s),[]):=by
 refine aw ?_;simp only[EG,vO,EN,seval];have hl:=fun k hx hr=>Ty (k:=k) (R:=fun b=>some (ag.bool b,[])) hs ha hx hr s.length s [] (ak _) rfl
 have he:(s==[])=decide ((s.length:Int)<1):=by cases s<;>simp; omega
 rw[he]
 repeat' ((first|apply bW|apply c8|apply fq)<;>intro hb<;>simp only[hb,EN,vO,seval])
 all_goals first
  |(clear hl he; simp_all [dB]; done)
  |(refine(hl _ (fun e p=>by simp only[vO,EN,seval]) (fun p=>by simp only[vO,EN,seval])).trans ?_; clear hl he; simp_all [dB]; done)
end
def DG{f:Nat}{args:List ag}{r:ag}(h:aq DU f args []=some (r,[]))(hp:r.jG=false)(w:World)(vs:Array Value)(hl:args.length=vs.size)(hv:∀(i:Nat)(c:ag)(v:Value),args[i]?=some c->vs[i]?=some v->gn Mj [] w c v) :
  Calls Tryz.prog f vs w fun e w'=>∃v j',e = .returned v/\w.grownBy w' none/\gn j' [] w' r v:=by
 refine((ad2 f args [] _ h).2 Mj w vs (Ut w) (ahB w) hl hv).mono ?_;intro e w' hce;obtain⟨v,rfl,j',_,hx,hr⟩:=hce.ret hp;exact⟨v,j',rfl,⟨hx.os,hx.tape,hx.output,hx.size,fun k hk _=>(hx.uL k hk fun i hi=>by cases hi).1⟩,hr⟩
def Ux(s:Bytes)(hs:s.length<=100000)(ha:oV s)(w:World):Calls Tryz.prog 126 #[.string (bs s)] w fun e w'=>e = .returned (.bool (dB s))/\w.grownBy w' none:=by
 refine(DG (agr s hs ha) rfl w #[.string (bs s)] rfl ?_).mono ?_
 ·intro i c v h1 h2
  match i with
  |0=>cases h1; cases h2; exact .plain (.str _)
  |i+1=>cases h1
 ·rintro e w' ⟨v,j',rfl,hg,hr⟩;rw[hr.js];exact⟨rfl,hg⟩
set_option maxHeartbeats 1000000 in
set_option maxRecDepth 100000 in
def Q4(a:ByteArray)(c:Int)(w:World) :
  Calls Tryz.prog 241 #[.string a,.int .u8 c] w fun e w'=>e = .returned (.int .i64 (Lib.indexByte a.data.toList c.toNat.toUInt8))/\w'=w:=by
 go_enter func241,ntmps241
 go_wp2
 rw[run_callFunc_extern func262 gd gd gd (e:=Extern.BytealgIndexByte.indexByte) gd,Lib.run_indexByteString];simp only[Result.andThen];rw[Oper.upon_value]
 go_wp2
 go_ret
 exact⟨rfl,rfl⟩
set_option maxHeartbeats 1000000 in
set_option maxRecDepth 100000 in
def Q3(a:ByteArray)(c:Int)(w:World) :
  Calls Tryz.prog 194 #[.string a,.int .u8 c] w fun e w'=>e = .returned (.int .i64 (Lib.indexByte a.data.toList c.toNat.toUInt8))/\w'=w:=by
 go_enter func194,ntmps194
 go_wp2_with (go_at_call 241; refine(Q4 _ _ _).mono ?_; rintro e w' ⟨rfl,rfl⟩)
 go_ret
 exact⟨rfl,rfl⟩
section ev
attribute [local irreducible] fP fm kM gK dH kr aq aL cH bP
def ry:Bytes->Bytes×Bool
 |b::r=>if b=47 then (r,true) else (b::r,false)
 | []=>([],false)
def N7:Bytes->Bool
 |b::_=>b==47
 | []=>false
def alK(s:Bytes):aq DU 261 [.str s,.str [47]] []=some (.bool (N7 s),[]):=by
 refine aw ?_;cases s with
 |nil =>
  have h0:decide (((1:Nat):Int)<=((0:Nat):Int))=false:=pd;simp only[HX,Vf,h0,EN,seval];simp only[N7,Vf,h0,EN,seval]
 |cons b r =>
  have h1:(1:Int)<=(r.length:Int)+1:=aM;simp only[HX,Vf,EN,seval];simp[N7,h1,ir,Vf,EN,seval]
  try (cases hb:(b==47)<;>simp_all)
def ah2 s:=cP (alK s)
def alA(s:Bytes):aq DU 240 [.str s,.str [47]] []=some (.tuple [.str (ry s).1,.bool (ry s).2],[]):=by
 refine aw ?_;simp only[L6,Ve,ah2,EN,seval];cases s with
 |nil=>simp only[N7,Ve,ah2,EN,seval]; rfl
 |cons b r =>
  by_cases hb:b=47
  ·have h1:(1:Int)<=(r.length:Int)+1:=aM;have h2:(0:Int)<=(r.length:Int)+1:=aM;simp[N7,hb,Ve,ry,ir,h1,h2,EN,seval]
  ·have hb':(b==47)=false:=by simpa using hb
   simp only[N7,hb',Ve,EN,seval];simp[ry,hb]
def amy s:=cP (alA s)
def c193(s:Bytes):aq DU 193 [.str s,.str [47]] []=some (.tuple [.str (ry s).1,.bool (ry s).2],[]):=by
 refine aw ?_;simp only[L4,ajN,amy,EN,seval]
end ev
def aaY(s:Bytes)(w:World):Calls Tryz.prog 193 #[.string (bs s),.string ⟨#[47]⟩] w fun e w'=>e = .returned (.tuple #[.string (bs (ry s).1),.bool (ry s).2])/\w.grownBy w' none:=by
 refine(DG (c193 s) rfl w #[.string (bs s),.string ⟨#[47]⟩] rfl ?_).mono ?_
 ·intro i c v h1 h2
  match i with
  |0=>cases h1; cases h2; exact .plain (.str _)
  |1=>cases h1; cases h2; exact .plain (.str [47])
  |i+2=>cases h1
 ·rintro e w' ⟨v,j',rfl,hg,hr⟩;obtain⟨vs,rfl,hl,hv⟩:=hr.tP;obtain⟨l⟩:=vs
  match l,hl with
  | [u1,u2],_ =>
   rw[(hv 0 _ u1 rfl rfl).kg,(hv 1 _ u2 rfl rfl).js];exact⟨rfl,hg⟩
def D6(s:Bytes):Nat:=if Lib.indexByte s 47<0 then s.length else (Lib.indexByte s 47).toNat
def rI(s:Bytes):Bytes×Bool:=((ry s).1.take (D6 (ry s).1),(ry s).2)
def rh(s:Bytes):Bytes:=(ry s).1.drop (D6 (ry s).1)
def tz:Nat->Bytes->List (Bytes×Bool)
 |0,_=>[]
 |n+1,s=>match s with
  | []=>[]
  |b::r=>rI (b::r)::tz n (rh (b::r))
def index_le(l:Bytes)(c:UInt8):Lib.indexByte l c<=l.length:=by
 induction l with
 |nil=>simp[Lib.indexByte]
 |cons b r ih =>
  simp only[Lib.indexByte];split
  ·simp; omega
  ·split
   ·simp; omega
   ·simp; omega
def Qd(s:Bytes):(ry s).1.length<=s.length:=by
 cases s with
 |nil=>simp[ry]
 |cons b r=>simp only[ry]; split<;>simp
def zZ{s:Bytes}(h:s≠[]):(rh s).length<s.length:=by
 cases s with
 |nil=>exact absurd rfl h
 |cons b r =>
  unfold rh;rw[jg]
  by_cases hb:b=47
  ·have:ry (b::r)=(r,true):=by simp[ry,hb]
   rw[this]; simp; omega
  ·have e:ry (b::r)=(b::r,false):=by simp[ry,hb]
   rw[e]
   have:0<D6 (b::r):=by
    unfold D6;have hb':(b==47)=false:=by simpa using hb
    have hg:=Lib.indexByte_ge r 47;split
    ·simp
    ·rename_i hn;simp only[Lib.indexByte,hb',af,aC] at hn ⊢;split
     ·rename_i he; simp[he] at hn
     ·rename_i he;have:Lib.indexByte r 47 ≠ -1:=by simpa using he
      omega
   simp only[aD];omega
def GX:∀(n m:Nat)(s:Bytes),s.length<=n->s.length<=m->tz n s=tz m s:=by
 intro n;induction n with
 |zero =>
  intro m s h _;have:s=[]:=by cases s with|nil=>rfl|cons b r=>simp at h
  subst this;cases m<;>rfl
 |succ n ih =>
  intro m s h h';cases s with
  |nil=>cases m<;>rfl
  |cons b r =>
   cases m with
   |zero=>simp at h'
   |succ m =>
    have:=zZ (s:=b::r) dk;simp only[tz];rw[ih m _ aM aM]
def kN(s:Bytes):List (Bytes×Bool):=tz s.length s
def tC{s:Bytes}(h:s≠[]):kN s=rI s::kN (rh s):=by
 cases s with
 |nil=>exact absurd rfl h
 |cons b r =>
  have:=zZ (s:=b::r) dk;unfold kN;rw[show(b::r).length=r.length+1 from rfl,tz]
  rw[GX r.length (rh (b::r)).length _ (by simp at this; omega) aM]
def Bs{s:Bytes}(h:oV s):oV (rI s).1:=trivial
def CA{s:Bytes}(h:oV s):oV (rh s):=trivial
def OQ(s:Bytes):(rI s).1.length<=s.length:=by
 have:=Qd s;unfold rI;rw[fL];omega
abbrev PA:={ x:Bytes×Bool // oV x.1/\x.1.length<=100000 }
abbrev VM(x:PA):Array Value := #[.string (bs x.1.1),.bool x.1.2]
def Gm(b0:Nat)(w:World):Nat:=match w.cell? ⟨b0,0,none⟩ with
 |some (.string s)=>s.size
 |_=>0
section
attribute [local go_sem] Oper.semAt_some
set_option maxHeartbeats 1000000 in
def OT(n:Nat)(s:Bytes)(w:World) :
  CallsIn Fence.wide n Tryz.prog 125 #[.string (bs s)] w fun e w'=>e = .returned (.func (.func 192) #[] #[.pointer (some ⟨w.heap.size,0,none⟩)])/\w'=w.alloc (.cells #[.string (bs s)] 9):=by
 refine callsIn_of_wp func125 rfl trivial ?_ rfl;simp only[ntmps125,dI,aD,aF,Nat.reduceAdd,Nat.reduceSub,jz,jA,kS,jQ,bw,bp]
 gi_wp2
 go_ret
 exact⟨rfl,rfl⟩
def LH(c:Bytes)(n:Nat):bs (c.drop n)=(bs c).extract n (bs c).size:=by
 rw[yI,show(bs c).size=c.length from rfl,bT]
def vU{b0:Nat}{w:World}{s:Bytes}(h:Boxed w b0 9 (.string (bs s))):Gm b0 w=s.length:=by
 unfold Gm;rw[h.cell];rfl
set_option maxRecDepth 100000 in
set_option maxHeartbeats 1000000 in
def Wb(n:Nat)(hn:3<=n)(l b0 N:Nat)(s0:Bytes)(ha:oV s0)(hs:s0.length<=100000)(hN:(kN s0).length<=N)(J Jx:List PA->World->Prop)(W:World)(hJ:AbidesFrom W.heap.size J)(hJc:∀s A v,J s A->J s (A.setCell ⟨b0,0,none⟩ v))
  (hY:∀pre x W1,J pre W1->pre.length<N->YieldAt Fence.wide (n-1) Tryz.prog l (VM x) W1 fun e W' =>
   (e = .returned (.bool true)/\J (pre++[x]) W'/\W'.heap[b0]?=W1.heap[b0]?)\/(e = .returned (.bool false)/\Jx (pre++[x]) W'))
  (hB:Boxed W b0 9 (.string (bs s0))) (h0:J [] W) :
  CallsIn Fence.wide n Tryz.prog 192 #[.func (.yield l) #[] #[],.pointer (some ⟨b0,0,none⟩)] W fun e W'=>(∃v,e = .returned v) /\
   ((∃xs:List PA,xs.map (·.1)=kN s0/\J xs W')\/(∃pre:List PA,pre.map (·.1) <+: kN s0/\Jx pre W')):=by
 refine callsIn_of_wp func192 rfl trivial ?_ rfl;simp only[ntmps192,dI,aD,aF,Nat.reduceAdd,Nat.reduceSub,jz,jA,kS,jQ,bw,bp]
 gi_wp2
 gi_loopw [3] (fun _ wr=>∃(pre:List PA) (rest:Bytes),Boxed wr b0 9 (.string (bs rest))/\oV rest/\rest.length<=100000/\kN s0=pre.map (·.1)++kN rest/\J pre wr)
  (fun _ wr=>Gm b0 wr)
 case atStart =>
  exact⟨[],s0,hB,ha,hs,rfl,h0⟩
 case round =>
  obtain⟨pre,rest,hb,hra,hrl,hp,hJs⟩:=hrel;have hf:=hb.frozen;cases rest with
  |nil =>
   have hc:wr.cell? ⟨b0,0,none⟩=some (.string ⟨#[]⟩):=hb.cell
   gi_wp2
   go_end0
   exact⟨⟨_,rfl⟩,.inl ⟨pre,by rw[hp]; simp[kN,tz],hJs⟩⟩
  |cons x rest =>
   have hc:=hb.cell;have hne:(!(bs (x::rest)).toList.isEmpty)=true:=by simp[bs]
   gi_wp2
   refine⟨trivial,fun h=>(by cases h),(callsIn_wide.2 (aaY _ _)).mono ?_⟩
   rintro e w1 ⟨rfl,hg⟩;have hb1:Boxed w1 b0 9 (.string (bs (x::rest))):=hb.kept hg dk;have hJ1:J pre w1:=hJ pre wr w1 none hJs hg (fun r e=>by cases e)
   have hbr:=hb;clear hb hc hf hJs;have hc1:=hb1.cell;have hf1:=hb1.frozen
   gi_wp2
   refine⟨trivial,fun h=>(by cases h),(callsIn_wide.2 (Q3 _ _ _)).mono ?_⟩
   rintro e w2 ⟨rfl,rfl⟩
   have fx:pre.length<N:=by
    have:=congrArg List.length hp;rw[tC (s:=x::rest) dk] at this;simp at this;omega
   have hpl:=OQ (x::rest);have hrest:=zZ (s:=x::rest) dk;obtain⟨fn,tmps,assign,body,hy,hR⟩:=hY pre ⟨rI (x::rest),Bs hra,aM⟩ w2 hJ1 fx
   have hpn:kN s0=(pre++[⟨rI (x::rest),Bs hra,aM⟩]:List PA).map (·.1)++kN (rh (x::rest)):=by
    rw[hp,tC dk]; simp
   obtain⟨c,hc⟩:∃c,(ry (x::rest)).1=c:=⟨_,rfl⟩;have hix:=index_le c 47
   by_cases hi:Lib.indexByte c 47<0
   ·have he:rI (x::rest)=(c,(ry (x::rest)).2):=by simp[rI,hc,D6,hi]
    have hre:rh (x::rest)=[]:=by simp[rh,hc,D6,hi]
    simp only[VM,he] at hy;rw[hc];have hi':Lib.indexByte (bs c).data.toList 47<0:=hi
    gi_wp2
    refine⟨fun h=>(by cases h),hR.mono ?_⟩
    rintro e W3 (⟨rfl,hJ3,hk3⟩|⟨rfl,hJx3⟩)
    ·have hb3:Boxed W3 b0 9 (.string (bs (x::rest))):=hk3.trans hb1;have hc3:=hb3.cell;have hf3:=hb3.frozen
     gi_wp2
     go_roundw
     case rel =>
      exact⟨_,rh (x::rest),(by rw[hre]; exact(hb3.set _)),CA hra,aM,hpn,hJc _ _ _ hJ3⟩
     case measure =>
      rw[vU (s:=rh (x::rest)) (by rw[hre]; exact(hb3.set _)),vU hbr]
      exact hrest
    ·gi_wp2
     refine bodyPost_ret (results_none rfl _ _ _) rfl ?_;exact⟨⟨_,rfl⟩,.inr ⟨_,⟨kN (rh (x::rest)),hpn.symm⟩,hJx3⟩⟩
   ·have hi0:0<=Lib.indexByte c 47:=aM;have he:rI (x::rest)=(c.take (Lib.indexByte c 47).toNat,(ry (x::rest)).2):=by simp[rI,hc,D6,hi]
    have hre:rh (x::rest)=c.drop (Lib.indexByte c 47).toNat:=by simp[rh,hc,D6,hi]
    simp only[VM,he] at hy;rw[show bs (c.take (Lib.indexByte c 47).toNat)=(bs c).extract 0 (Lib.indexByte (bs c).data.toList 47).toNat by rw[yI]; rfl] at hy
    rw[hc];have hi':¬Lib.indexByte (bs c).data.toList 47<0:=hi;have hi2:Lib.indexByte (bs c).data.toList 47<=(bs c).size:=hix
    gi_wp2
    refine⟨fun h=>(by cases h),hR.mono ?_⟩
    rintro e W3 (⟨rfl,hJ3,hk3⟩|⟨rfl,hJx3⟩)
    ·have hb3:Boxed W3 b0 9 (.string (bs (x::rest))):=hk3.trans hb1;have hc3:=hb3.cell;have hf3:=hb3.frozen
     gi_wp2
     go_roundw
     case rel =>
      exact⟨_,rh (x::rest),(by rw[hre,LH]; exact(hb3.set _)),CA hra,aM,hpn,hJc _ _ _ hJ3⟩
     case measure =>
      rw[vU (s:=rh (x::rest)) (by rw[hre,LH]; exact(hb3.set _)),vU hbr]
      exact hrest
    ·gi_wp2
     refine bodyPost_ret (results_none rfl _ _ _) rfl ?_;exact⟨⟨_,rfl⟩,.inr ⟨_,⟨kN (rh (x::rest)),hpn.symm⟩,hJx3⟩⟩
def Ap(x:Bytes×Bool)(n:Nat):Bool := !x.2 || !dB x.1||n==12
def nZ:List (Bytes×Bool)->Nat->Option (List Bytes)
 | [],_=>some []
 |x::r,n=>if Ap x n then none else (nZ r (n+1)).map (x.1 :: ·)
def Bi:∀(a b:List (Bytes×Bool)) (n:Nat),nZ (a++b) n=(nZ a n).bind fun l=>(nZ b (n+a.length)).map (l ++ ·):=by
 intro a;induction a with
 |nil=>intro b n; simp[nZ]
 |cons x r ih =>
  intro b n;simp only[bp,nZ];split
  ·rfl
  ·rw[ih,show n+1+r.length=n+(x::r).length by simp; omega]
   cases nZ r (n+1) with
   |none=>rfl
   |some l=>simp; rfl
def bI(s:Bytes):List Bytes×Int:=if s=[47] then ([],0) else match nZ (kN s) 0 with
 |none=>([],60)
 |some []=>([],60)
 |some l=>(l,0)
def Ma(pre:List PA):Prop:=nZ (pre.map (·.1)) 0=some (pre.map (·.1.1))/\pre.length<=12
def Ku{pre:List PA}{x:PA}(h:Ma pre)(hb:Ap x.1 pre.length=false):Ma (pre++[x]):=by
 refine⟨?_,?_⟩
 ·rw[bH,Bi,h.1];simp[nZ,hb]
 ·have:pre.length≠12:=by intro e; rw[e] at hb; simp[Ap] at hb
  have:=h.2;simp; omega
def Aq{pre:List PA}{x:PA}(h:Ma pre)(hb:Ap x.1 pre.length=true):nZ ((pre++[x]).map (·.1)) 0=none:=by
 rw[bH,Bi,h.1];simp[nZ,hb]
def O4{a l:List (Bytes×Bool)}(h:a <+: l)(hn:nZ a 0=none):nZ l 0=none:=by
 obtain⟨b,rfl⟩:=h;rw[Bi,hn]; rfl
def ahD:(Tryz.prog.info? 9).map (fun i=>(i.zero,i.size,i.bytes))=some (some (.string ⟨#[]⟩),1,16):=gd
abbrev Gu(b:Bytes):Value := .string (bs b)
def appended{W w1:World}{n₀ B:Nat}{v v':Value}{k m:Nat}{xs ys:List Value}{tmp:Obj}
  (hv:Boxed W B 35 v) (hrow:W.ownsRow n₀ 9 1 v k xs) (hown':w1.ownsRow n₀ 9 1 v' m ys) (hgrow:(W.alloc tmp).grownBy w1 v.ownBlock) :
  Boxed w1 B 35 v/\Boxed (w1.setCell ⟨B,0,none⟩ v') B 35 v'/\(w1.setCell ⟨B,0,none⟩ v').ownsRow n₀ 9 1 v' m ys/\KeepsOthers W (w1.setCell ⟨B,0,none⟩ v') /\
  (w1.setCell ⟨B,0,none⟩ v').os=W.os/\(w1.setCell ⟨B,0,none⟩ v').tape=W.tape/\(w1.setCell ⟨B,0,none⟩ v').output=W.output/\W.heap.size<=(w1.setCell ⟨B,0,none⟩ v').heap.size /\
  ∀q,q<n₀->q<W.heap.size->q≠B->(w1.setCell ⟨B,0,none⟩ v').heap[q]?=W.heap[q]?:=by
 have hv1:Boxed w1 B 35 v:=(hv.alloc tmp).kept hgrow (hv.not_row pd hrow);have hs:=grownBy_setCell' w1 B v';refine⟨hv1,hv1.set v',hown'.kept hs (.inr (hv1.not_row pd hown').symm),?_,?_,?_,?_,?_,?_⟩
 ·refine((KeepsOthers.alloc W tmp).trans (KeepsOthers.of_grownBy hgrow fun j o ej hj=>?_)).trans (KeepsOthers.setCell _ _ _)
  rcases(hrow.alloc tmp).2 with ⟨rfl,_⟩|⟨g,cap,cur,rfl,_,hgb,_⟩
  ·simp[Value.ownBlock] at ej
  ·obtain rfl:g=j:=by simpa[Value.ownBlock] using ej
   rw[hgb] at hj; cases hj; rfl
 ·exact hs.os.trans hgrow.os
 ·exact hs.tape.trans hgrow.tape
 ·exact hs.output.trans hgrow.output
 ·have h1:=hgrow.size;have h2:=hs.size;simp at h1;omega
 ·intro q hq hqw hqB;have cA:q<(W.alloc tmp).heap.size:=ic;rw[hs.block q (bz cA hgrow.size) (fun e=>hqB (by cases e; rfl)),hgrow.block q cA ?_]
  ·exact Below.heap_alloc _ _ _ hqw
  ·intro e;rcases hrow.2 with ⟨rfl,_⟩|⟨g,cap,cur,rfl,hb,_,_⟩
   ·simp[Value.ownBlock] at e
   ·obtain rfl:q=g:=by simpa[Value.ownBlock] using e
    omega
structure D3(w:World)(pre:List PA)(W:World):Prop where
 Gx:Ma pre
 r0:Boxed W w.heap.size 35 (.slice none 0 0)
 r1:Boxed W (w.heap.size+1) 34 (.int .i64 0)
 row:∃v,Boxed W (w.heap.size+2) 35 v/\W.ownsRow (w.heap.size+4) 9 1 v pre.length (pre.map fun x=>Gu x.1.1)
 below:Below w.heap.size w W
 sz:w.heap.size+4<=W.heap.size
structure Gf(w:World)(c:Code)(pre:List PA)(W:World):Prop where
 ret:c = .ret
 bad:nZ (pre.map (·.1)) 0=none
 r0:Boxed W w.heap.size 35 (.slice none 0 0)
 r1:Boxed W (w.heap.size+1) 34 (.int .i64 60)
 below:Below w.heap.size w W
def tX{W W':World}{row:Option Nat}{B k:Nat}{t:TypeId}{v:Value}(h:Boxed W B t v)(hg:W.grownBy W' row)(hr:∀r,row=some r->k<=r/\∃o:Obj,W.heap[r]?=some o/\o.isCells=false):Boxed W' B t v :=
 h.kept hg fun e=>by obtain⟨_,o,ho,hc⟩:=hr B e.symm; rw[show W.heap[B]?=_ from h] at ho; cases ho; cases hc
def D3.own{w:World}:OwnFrom (w.heap.size+4) (D3 w):=fun s A B row hs hg hr=>by
 obtain⟨v,hv,hrow⟩:=hs.row;exact⟨hs.Gx,tX hs.r0 hg hr,tX hs.r1 hg hr,⟨v,tX hv hg hr,((holdsRow_own (β:=Unit) (w.heap.size+4) (w.heap.size+2) 35 9 1 (fun _=>s.length) (fun _=>s.map fun x=>Gu x.1.1) (fun _ u=>u=v)) () A B row ⟨v,hv,hrow,rfl⟩ hg (fun r e=>(hr r e).2)).elim fun u hu=>hu.2.2▸hu.2.1⟩,ownFrom_below (β:=Unit) (ak _) aM () A B row hs.below hg hr,bg hs.sz hg.size⟩
def Gf.own{w:World}(c:Code):OwnFrom (w.heap.size+4) (Gf w c):=fun s A B row hs hg hr =>
 ⟨hs.ret,hs.bad,tX hs.r0 hg hr,tX hs.r1 hg hr,ownFrom_below (β:=Unit) (ak _) aM () A B row hs.below hg hr⟩
def D3.cell{w:World}(s:List PA)(A:World)(u:Value)(hs:D3 w s A):D3 w s (A.setCell ⟨w.heap.size+3,0,none⟩ u):=by
 obtain⟨v,hv,hrow⟩:=hs.row;have hg:=grownBy_setCell' A (w.heap.size+3) u;refine⟨hs.Gx,hs.r0.other aM _,hs.r1.other aM _,⟨v,hv.other aM _,hrow.kept hg ?_⟩,hs.below.setCell (p:=⟨w.heap.size+3,0,none⟩) dk _,bg hs.sz hg.size⟩;rcases hrow.2 with ⟨rfl,_⟩|⟨g,cap,cur,rfl,hb,_,_⟩
 ·exact .inl rfl
 ·refine .inr fun e=>?_
  have:g=w.heap.size+3:=by simpa[Value.ownBlock] using e
  omega
def Gf.made{w W:World}{pre:List PA}(h0:Boxed W w.heap.size 35 (.slice none 0 0))(h1:Boxed W (w.heap.size+1) 34 (.int .i64 0))(hb:Below w.heap.size w W)(hbad:nZ (pre.map (·.1)) 0=none) :
  KeepsOthers W ((W.setCell ⟨w.heap.size,0,none⟩ (.slice none 0 0)).setCell ⟨w.heap.size+1,0,none⟩ (.int .i64 60))/\Gf w .ret pre ((W.setCell ⟨w.heap.size,0,none⟩ (.slice none 0 0)).setCell ⟨w.heap.size+1,0,none⟩ (.int .i64 60)):=by
 refine⟨(KeepsOthers.setCell _ _ _).trans (KeepsOthers.setCell _ _ _),rfl,hbad,(h0.set _).other aM _,?_,(hb.setCell (p:=⟨w.heap.size,0,none⟩) (ak _) _).setCell (p:=⟨w.heap.size+1,0,none⟩) dk _⟩;exact(h1.other aM _).set _
def Bf{W:World}{n₀ k:Nat}{v:Value}{xs:List Value}(h:W.ownsRow n₀ 9 1 v k xs):∃p cap,v = .slice p k cap:=by
 rcases h.2 with ⟨rfl,rfl⟩|⟨g,cap,cur,rfl,_⟩
 ·exact⟨_,_,rfl⟩
 ·exact⟨_,_,rfl⟩
def XN{W:World}{n₀ n₁ k D:Nat}{v:Value}{xs:List Value}{x:Option (List Deferred)}{o:Obj}(h:W.ownsRow n₀ 9 1 v k xs)(hn:n₁<=n₀)(hD:W.heap[D]?=some (.deferred x)):(W.putObj D o).ownsRow n₁ 9 1 v k xs:=by
 refine⟨h.1,?_⟩;rcases h.2 with h0|⟨g,cap,cur,e,hb,hg,hr⟩
 ·exact .inl h0
 ·refine .inr ⟨g,cap,cur,e,aM,?_,hr⟩;exact(World.putObj_heap_other (fun e=>by subst e; rw[hD] at hg; cases hg)).trans hg
def I4{W:World}{n₀ k B:Nat}{v:Value}{xs:List Value}(h:W.ownsRow n₀ 9 1 v k xs)(hB:B<n₀)(u:Value):(W.setCell ⟨B,0,none⟩ u).ownsRow n₀ 9 1 v k xs:=by
 refine⟨h.1,?_⟩;rcases h.2 with h0|⟨g,cap,cur,e,hb,hg,hr⟩
 ·exact .inl h0
 ·exact .inr ⟨g,cap,cur,e,hb,(Below.heap_setCell _ _ _ _ (by show _≠B; omega)).trans hg,hr⟩
def tI{W:World}{B D:Nat}{t:TypeId}{v:Value}{x:Option (List Deferred)}{o:Obj}(h:Boxed W B t v)(hD:W.heap[D]?=some (.deferred x)):Boxed (W.putObj D o) B t v :=
 (World.putObj_heap_other (fun e=>by subst e; rw[show W.heap[B]?=_ from h] at hD; cases hD)).trans h
def Av{w W:World}{D:Nat}{o:Obj}(h:Below w.heap.size w W)(hD:w.heap.size<=D):Below w.heap.size w (W.putObj D o) :=
 ⟨h.os,h.tape,h.output,by simpa[World.putObj] using h.size,fun k hk=>(World.putObj_heap_other aM).trans (h.block k hk)⟩
def xX{W:World}{B D:Nat}{o:Obj}{u:Value}(h:W.heap[D]?=some o)(hB:D≠B):(W.setCell ⟨B,0,none⟩ u).heap[D]?=some o:=(Below.heap_setCell _ _ _ _ (by show _≠B; omega)).trans h
def results63{W:World}{b:Nat}{v u:Value}{tmps:Array Value}(h2:tmps[2]?=some (.pointer (some ⟨b,0,none⟩)))(h3:tmps[3]?=some (.pointer (some ⟨b+1,0,none⟩)))(hv:Boxed W b 35 v)(hu:Boxed W (b+1) 34 u):(results f63 tmps).run Tryz.prog W = .ok (.tuple #[v,u]) W:=by
 have c0:=hv.cell;have c1:=hu.cell;simp[results,f63,go_sem,c0,c1,h2,h3]
def xh{F:Fence}{n:Nat}{P:Program}{fn:Func}{tmps:Array Value}{R:Ending->World->Prop}{D:Nat}{W W':World}{v:Value}(hD:(Instr.takeDeferred D).run P W = .ok [] W')(hv:(results fn tmps).run P W' = .ok v W')(hR:R (.returned v) W') :
  LeavesInM F n P fn tmps R [{ target := .collected D,args := #[] }] .returning W :=
 ⟨dk,.inl ⟨D,W',rfl,hD,⟨v,hv,hR⟩⟩⟩
set_option maxRecDepth 100000 in
set_option maxHeartbeats 2000000 in
def UJ(n:Nat)(hn:6<=n)(s:Bytes)(ha:oV s)(hs:s.length<=100000)(w:World) :
  CallsIn Fence.wide n Tryz.prog 63 #[.string (bs s)] w fun e W'=>∃v,e = .returned (.tuple #[v,.int .i64 (bI s).2])/\W'.ownsRow w.heap.size 9 1 v (bI s).1.length ((bI s).1.map Gu)/\Below w.heap.size w W':=by
 have h1:1<=n:=aM;obtain⟨i0,hi,hz0,hz1,hz2⟩:=info_parts ahD;refine callsIn_of_wp_marks func63 rfl trivial ?_ rfl;simp only[ntmps63,dI,aD,aF,Nat.reduceAdd,Nat.reduceSub,jz,jA,kS,jQ,bw,bp];have b0:=Boxed.new w 35 (.slice none 0 0);have b1:=Boxed.new (w.alloc (.cells #[.slice none 0 0] 35)) 34 (.int .i64 0);have b2:=Boxed.new ((w.alloc (.cells #[.slice none 0 0] 35)).alloc (.cells #[.int .i64 0] 34)) 35 (.slice none 0 0);have b3:=Boxed.new (((w.alloc (.cells #[.slice none 0 0] 35)).alloc (.cells #[.int .i64 0] 34)).alloc (.cells #[.slice none 0 0] 35)) 9 (.string (bs s));simp only[World.size_alloc] at b1 b2 b3;have hB2:Below w.heap.size w ((w.alloc (.cells #[.slice none 0 0] 35)).alloc (.cells #[.int .i64 0] 34)):=((Below.refl _ w).alloc (ak _) _).alloc dk _;have hB4:=(hB2.alloc ic (.cells #[.slice none 0 0] 35)).alloc ic (.cells #[.string (bs s)] 9)
 by_cases hs47:s=[47]
 ·subst hs47;have ht:((bs [47]).toList==[47])=true:=by rw[vf]; rfl
  gi_wp2
  have c0:=(b0.alloc (.cells #[.int .i64 0] 34)).cell;have c1:=b1.cell;refine⟨.tuple #[.slice none 0 0,.int .i64 0],?_,_,rfl,World.ownsRow_nil _ _ _ _,hB2⟩;simp[results,f63,go_sem,c0,c1]
 have ht:((bs s).toList==[47])=false:=by rw[vf]; simpa using hs47
 gi_wp2
 refine⟨trivial,(OT _ s _).mono ?_⟩;rintro e w' ⟨rfl,rfl⟩
 gi_wp2
 obtain⟨W4,hW4⟩:∃W4,(((w.alloc (.cells #[.slice none 0 0] 35)).alloc (.cells #[.int .i64 0] 34)).alloc (.cells #[.slice none 0 0] 35)).alloc (.cells #[.string (bs s)] 9)=W4:=⟨_,rfl⟩;have hsz:W4.heap.size=w.heap.size+4:=by rw[<-hW4]; simp
 have e0:Boxed W4 w.heap.size 35 (.slice none 0 0):=by rw[<-hW4]; exact((b0.alloc _).alloc _).alloc _
 have e1:Boxed W4 (w.heap.size+1) 34 (.int .i64 0):=by rw[<-hW4]; exact(b1.alloc _).alloc _
 have e2:Boxed W4 (w.heap.size+2) 35 (.slice none 0 0):=by rw[<-hW4]; exact b2.alloc _
 rw[hW4] at b3 hB4 ⊢
 have hseq:Eh (w.heap.size+3) Fence.wide (n-1) Tryz.prog 192 #[.pointer (some ⟨w.heap.size+3,0,none⟩)] VM (fun A B=>B.heap[w.heap.size+3]?=A.heap[w.heap.size+3]?) (fun xs=>xs.map (·.1)=kN s) (fun pre=>pre.map (·.1) <+: kN s) (kN s).length W4 :=
  fun l J Jx W hW hJ hJx hJc hY h0=>Wb (n-1) aM l _ _ s ha hs (ak _) J Jx W hJ hJc hY ((hW.block _ aM).trans b3) h0
 refine yl (b0:=w.heap.size+3) aM rfl h1 (gf:=192) (lb := #[.pointer (some ⟨w.heap.size+3,0,none⟩)]) rfl trivial (enters_of func192 gd rfl) hseq
  (fun h k=>k.trans h) (fun W l o o' hl _ _ _=>World.putObj_heap_other aM) (Below.refl _ _) (fun _=>rfl)
  (D3 w) (Gf w) (by rw[hsz]; exact D3.own) (fun c=>by rw[hsz]; exact Gf.own c) D3.cell
  ⟨⟨rfl,dk⟩,e0,e1,⟨_,e2,World.ownsRow_nil _ _ _ _⟩,hB4,aM⟩
  (fun x=>{ tmps := #[.string (bs s),undef,.pointer (some ⟨w.heap.size,0,none⟩),.pointer (some ⟨w.heap.size+1,0,none⟩),.pointer (some ⟨w.heap.size+1+1,0,none⟩),.string (bs x.1.1),.bool x.1.2,.string (bs s),.bool false,.string (bs s),.func (.func 192) #[] #[.pointer (some ⟨w.heap.size+1+1+1,0,none⟩)],.string (bs x.1.1),.bool x.1.2,
   undef,undef,undef,undef,undef,undef,undef,undef,undef,undef,undef,undef,undef,undef,undef,undef,undef,undef,undef,undef],defers:=[] }) ?assign ?body ?done ?stop
 case assign =>
  intro l x W K hK
  gi_wp2
  exact hK
 case body =>
  rintro l pre ⟨⟨nm,ok⟩,hxa,hxl⟩ W hInv cA;obtain⟨v,hv,hrow⟩:=hInv.row;have hc0:=hInv.r0.cell;have hf0:=hInv.r0.frozen;have hc1:=hInv.r1.cell;have hf1:=hInv.r1.frozen;cases ok with
  |false =>
   gi_wp2
   refine⟨trivial,?_⟩
   gi_wp2
   exact Gf.made hInv.r0 hInv.r1 hInv.below (Aq hInv.Gx (by simp[Ap]))
  |true =>
   gi_wp2
   refine⟨trivial,fun h=>(by cases h),(CallsIn.inRound l (callsIn_wide.2 (Ux nm hxl hxa W))).mono ?_⟩
   rintro e W5 ⟨rfl,hg5⟩;have hInv5:D3 w pre W5:=D3.own pre W W5 none hInv hg5 (fun r e=>by cases e)
   have hK5:KeepsOthers W W5:=KeepsOthers.of_grownBy hg5 (fun j o e=>by cases e)
   clear hc0 hf0 hc1 hf1 hrow hv v;obtain⟨v,hv,hrow⟩:=hInv5.row;have hc0:=hInv5.r0.cell;have hf0:=hInv5.r0.frozen;have hc1:=hInv5.r1.cell;have hf1:=hInv5.r1.frozen;have hc2:W5.cell? ⟨w.heap.size+1+1,0,none⟩=some v:=hv.cell;have hf2:W5.frozen? ⟨w.heap.size+1+1,0,none⟩=false:=hv.frozen;cases hnm:dB nm with
   |false =>
    gi_wp2
    have:=Gf.made hInv5.r0 hInv5.r1 hInv5.below (Aq (x:=⟨(nm,true),hxa,hxl⟩) hInv5.Gx (by simp[Ap,hnm]))
    exact⟨hK5.trans this.1,this.2⟩
   |true =>
    obtain⟨p,cap,rfl⟩:=Bf hrow
    by_cases hl:pre.length=12
    ·have hl':((pre.length:Int)==12)=true:=by simp[hl]
     gi_wp2
     have:=Gf.made hInv5.r0 hInv5.r1 hInv5.below (Aq (x:=⟨(nm,true),hxa,hxl⟩) hInv5.Gx (by simp[Ap,hnm,hl]))
     exact⟨hK5.trans this.1,this.2⟩
    ·have hl':((pre.length:Int)==12)=false:=ic
     gi_wp2_with (gi_at_builtin; generalize hX:wpListIn _ _ _ _ _ _ _ _=X)
     subst hX;refine wpListIn_append_own _ rfl _ _ 35 rfl (w.heap.size+4) 9 i0 (.string ⟨#[]⟩) 1 16 underlying35 hi hz0 hz1 hz2 rfl pd _ _ _ rfl (hrow.alloc _) ⟨W5.heap.size,0,none⟩ 1 1 [Gu nm] rfl rfl (cell_one_new _ _ _) (by simp[Value.oneCell']) (by have:=hInv5.Gx.2; simp[maxLen]; omega) (by have:=hInv5.Gx.2; omega) (by have:=hv.lt; simp; omega) ?_
     intro v' w1 hown' hgrow hiff;obtain⟨q0,q1,q2,q3,q4,q5,q6,q7,q8⟩:=appended hv hrow hown' hgrow;have hc2':w1.cell? ⟨w.heap.size+1+1,0,none⟩=some (.slice p pre.length cap):=q0.cell;have hf2':w1.frozen? ⟨w.heap.size+1+1,0,none⟩=false:=q0.frozen;obtain⟨p',cap',rfl⟩:=Bf hown'
     gi_wp2
     refine⟨hK5.trans q3,(q8 _ aM (by have:=hInv5.sz; omega) aM).trans (hg5.block _ (by have:=hInv.sz; omega) dk),?_⟩
     refine⟨Ku hInv5.Gx (by simp[Ap,hnm,hl]),(q8 _ aM hInv5.r0.lt aM).trans hInv5.r0,(q8 _ aM hInv5.r1.lt aM).trans hInv5.r1,⟨_,q1,by simpa using q2⟩,?_,bg hInv5.sz q7⟩
     exact hInv5.below.trans ⟨q4,q5,q6,q7,fun q hq=>q8 q aM (by have:=hInv5.below.size; omega) aM⟩
 case done =>
  rintro D ys W hD hys hInv hK;obtain⟨v,hv,hrow⟩:=hInv.row;have hc0:=hInv.r0.cell;have hf0:=hInv.r0.frozen;have hc1:=hInv.r1.cell;have hf1:=hInv.r1.frozen;have hc2:W.cell? ⟨w.heap.size+1+1,0,none⟩=some v:=hv.cell;have hf2:W.frozen? ⟨w.heap.size+1+1,0,none⟩=false:=hv.frozen;obtain⟨p,cap,rfl⟩:=Bf hrow
  by_cases hl:ys.length=0
  ·have hl':((ys.length:Int)==0)=true:=by simp[hl]
   have hy:ys=[]:=cf.1 hl
   have hsp:bI s=([],60):=by
    rw[hy] at hys;simp[bI,hs47,<-hys,nZ]
   gi_wp2
   have hm:=xX (u := .int .i64 60) (xX (u := .slice none 0 0) hK (B:=w.heap.size) aM) (B:=w.heap.size+1) aM;have k0:Boxed ((W.setCell ⟨w.heap.size,0,none⟩ (.slice none 0 0)).setCell ⟨w.heap.size+1,0,none⟩ (.int .i64 60)) w.heap.size 35 (.slice none 0 0):=(hInv.r0.set _).other aM _;have k1:Boxed ((W.setCell ⟨w.heap.size,0,none⟩ (.slice none 0 0)).setCell ⟨w.heap.size+1,0,none⟩ (.int .i64 60)) (w.heap.size+1) 34 (.int .i64 60):=(hInv.r1.other aM _).set _;refine xh (run_takeDeferred hm) (results63 rfl rfl (tI k0 hm) (tI k1 hm)) ⟨_,rfl,World.ownsRow_nil _ _ _ _,Av ((hInv.below.setCell (p:=⟨w.heap.size,0,none⟩) (ak _) _).setCell (p:=⟨w.heap.size+1,0,none⟩) dk _) aM⟩
  ·have hl':((ys.length:Int)==0)=false:=by rw[ck]; omega
   have hsp:bI s=(ys.map (·.1.1),0):=by
    have h0:=hInv.Gx.1;rw[hys] at h0;cases ys with
    |nil=>simp at hl
    |cons y ys=>simp[bI,hs47,h0]
   gi_wp2
   have hm:=xX (u := .int .i64 0) (xX (u := .slice p ys.length cap) hK (B:=w.heap.size) aM) (B:=w.heap.size+1) aM;have k0:Boxed ((W.setCell ⟨w.heap.size,0,none⟩ (.slice p ys.length cap)).setCell ⟨w.heap.size+1,0,none⟩ (.int .i64 0)) w.heap.size 35 (.slice p ys.length cap):=(hInv.r0.set _).other aM _;have k1:Boxed ((W.setCell ⟨w.heap.size,0,none⟩ (.slice p ys.length cap)).setCell ⟨w.heap.size+1,0,none⟩ (.int .i64 0)) (w.heap.size+1) 34 (.int .i64 0):=(hInv.r1.other aM _).set _;refine xh (run_takeDeferred hm) (results63 rfl rfl (tI k0 hm) (tI k1 hm)) ⟨_,rfl,?_,Av ((hInv.below.setCell (p:=⟨w.heap.size,0,none⟩) (ak _) _).setCell (p:=⟨w.heap.size+1,0,none⟩) dk _) aM⟩;have:=XN (I4 (I4 hrow (by omega:w.heap.size<_) (.slice p ys.length cap)) (by omega:w.heap.size+1<_) (.int .i64 0)) (by omega:w.heap.size<=_) hm (o := .deferred none)
   simpa[Function.comp_def] using this
 case stop =>
  rintro D c pre W hD hpre hOut hK;obtain rfl:=hOut.ret;have hsp:bI s=([],60):=by simp[bI,hs47,O4 hpre hOut.bad]
  gi_wp2
  refine xh (run_takeDeferred hK) (results63 rfl rfl (tI hOut.r0 hK) (tI hOut.r1 hK)) ⟨_,rfl,World.ownsRow_nil _ _ _ _,Av hOut.below aM⟩
def XR(s:Bytes)(ha:oV s)(hs:s.length<=100000)(w:World) :
  Calls Tryz.prog 63 #[.string (bs s)] w fun e W'=>∃v,e = .returned (.tuple #[v,.int .i64 (bI s).2])/\W'.ownsRow w.heap.size 9 1 v (bI s).1.length ((bI s).1.map Gu)/\Below w.heap.size w W' :=
 callsIn_wide.1 (UJ 6 aM s ha hs w)
end
end
instance (s:Bytes):Decidable (oV s):=inferInstanceAs (Decidable True)
def DC:List ag->aO->Option (ag×aO)
 | [.str s],M=>if oV s/\s.length<=100000 then some (.tuple [.slice .sh ((bI s).1.map .str),.int .i64 (bI s).2],M) else none
 |_,_=>none
def UK{args:List ag}{M:aO}{x:ag×aO}(h:DC args M=some x):eZ Tryz.prog 63 args M x:=by
 unfold DC at h;split at h
 ·rename_i s;split at h
  ·rename_i hs;cases h;refine nK.call ?_;intro j w vs hr hG hl hv;obtain⟨u,rfl⟩:=Ck hl;have h1:=(hv 0 _ u rfl rfl).kg;subst h1;refine(XR s hs.1 hs.2 w).mono ?_;rintro e w' ⟨v,rfl,⟨fx,hown⟩,hb⟩;refine⟨_,j,rfl,hr.grow hb.size hb.os hb.tape hb.output hb.block,Ext.grow hb.size hb.os hb.tape hb.output hb.block,.tuple rfl ?_⟩;intro i c v' hi hv'
   match i with
   |0 =>
    cases hi; cases hv';refine .plain ?_;rcases hown with ⟨rfl,h0⟩|⟨g,cap,cur,rfl,hg,hg',hn1,_,hcs,htk⟩
    ·rw[cf.1 h0];exact fK.nil _ _ _
    ·refine .slice _ _ _ _ g 0 1 (fun k=>Gu ((bI s).1.getD k [])) dk (by simpa using hn1) (fun _=>rfl) ?_ ?_ ?_
     ·intro x hx;obtain⟨b,_,rfl⟩:=cm.1 hx;rfl
     ·intro i x k c hx hc;rw[bb] at hx;obtain⟨b,hb',rfl⟩:=aW.1 hx
      match k with
      |0 =>
       have hi:i<(bI s).1.length:=(au.1 hb').1;refine⟨?_,?_,?_,?_⟩
       ·have h1:cur.toList[i]?=some (Gu b):=by
         have:(cur.toList.take ((bI s).1.length*1))[i]?=some (Gu b):=by rw[htk,bb,hb']; rfl
         rwa[bM aM] at this
        have h2:cur[i]?=some (Gu b):=by simpa using h1
        have h3:(bI s).1.getD i []=b:=by simp[List.getD,hb']
        simp only[Nat.mul_one,dq,aN];rw[h3];simp[World.cell?,hg',h2]
       ·exact lt_of_block hg'
       ·intro id hid hji;have:=hr.lt id g hid hji; omega
       ·intro hx; have:=hr.Ah g _ hx; omega
      |k+1=>cases hc
     ·intro i x k c hx hc;rw[bb] at hx;obtain⟨b,hb',rfl⟩:=aW.1 hx
      match k with
      |0 =>
       cases hc;have h3:(bI s).1.getD i []=b:=by simp[List.getD,hb']
       simp only[Nat.mul_one,dq];rw[h3];exact .str _
      |k+1=>cases hc
   |1=>cases hi; cases hv'; exact .plain (.int _ _)
   |i+2=>cases hi
  ·cases h
 ·cases h
section
attribute [local irreducible] fP fm kM gK dH kr aq aL cH bP
def gZ:∀a:Bytes,strLt a a=false
 | []=>rfl
 |a::x=>by simp[strLt,gZ x,oL]
def mZ:∀ {a b c:Bytes},strLt a b=true->strLt b c=true->strLt a c=true
 | [],b,[],_,h2=>by cases b<;>simp[strLt] at h2
 | [],_,_::_,_,_=>rfl
 |_::_,[],_,h1,_=>by simp[strLt] at h1
 |_::_,_::_,[],_,h2=>by simp[strLt] at h2
 |a::x,b::y,c::z,h1,h2=>by
  simp only[strLt,cV,bm,bt,eG] at h1 h2 ⊢;simp only[kK] at h1 h2 ⊢;rcases h1 with h1|⟨h1,h1'⟩
  ·rcases h2 with h2|⟨h2,_⟩
   ·left; omega
   ·left; rw[<-h2]; exact h1
  ·rcases h2 with h2|⟨h2,h2'⟩
   ·left; rw[h1]; exact h2
   ·right; exact⟨h1.trans h2,mZ h1' h2'⟩
def sf{l:List eM}(h:nJ l)(s:Bytes):Nd l s (lQ l s):=by
 unfold lQ;induction l with
 |nil=>exact⟨dk,fun h n hn=>by simp at hn⟩
 |cons a r ih =>
  obtain⟨h1,h2⟩:=bR.1 h;obtain⟨i1,i2⟩:=ih h2
  by_cases ha:strLt a.name s=true
  ·rw[fu,av ha];refine⟨by simpa using i1,fun k n hn=>?_⟩
   cases k with
   |zero=>simp at hn; subst hn; simp[ha]
   |succ k=>rw[i2 k n (by simpa using hn)]; simp
  ·rw[fu,aj ha];refine⟨dk,fun k n hn=>?_⟩
   simp only[aF,kx,oM];cases k with
   |zero=>simp at hn; subst hn; exact ha
   |succ k=>exact fun hc=>ha (mZ (h1 n (aU (by simpa using hn))) hc)
def eH{l:List eM}{s:Bytes}{e:eM}(h:eE l s=some e):e∈l/\e.name=s:=by
 unfold eE at h;exact⟨List.mem_of_find?_eq_some h,by simpa using List.find?_some h⟩
def wW{l:List eM}(h:nJ l)(s:Bytes):(zL l s (lQ l s)=true/\∃n,l[lQ l s]?=some n/\eE l s=some n/\n.name=s)\/(zL l s (lQ l s)=false/\eE l s=none):=by
 obtain⟨l1,l2⟩:=sf h s;cases hf:eE l s with
 |some n =>
  left;obtain⟨hm,he⟩:=eH hf;obtain⟨k,hk⟩:=bX hm;have hkb:¬k<lQ l s:=fun hc=>by have:=(l2 k n hk).2 hc; rw[he,gZ] at this; cases this
  have hb:lQ l s<l.length:=by have:=(au.1 hk).1; omega
  have hx:=ai hb;have hnl:¬strLt l[lQ l s].name s=true:=fun hc=>ja _ ((l2 _ _ hx).1 hc)
  have hke:k=lQ l s:=by
   rcases bK (lQ l s) k with cA|hge
   ·have hkl:=(au.1 hk).1;have h3:=cB.1 h _ _ hb hkl cA;have h4:l[k]=n:=by rw[ai hkl] at hk; injection hk
    rw[h4,he] at h3;exact absurd h3 hnl
   ·omega
  subst hke;exact⟨by unfold zL; rw[hk]; simp[he],n,hk,rfl,he⟩
 |none =>
  right;refine⟨?_,rfl⟩;unfold zL;split
  ·rename_i n hn;have:=eJ.1 hf n (aU hn);simpa using this
  ·rfl
structure wQ(t:Tree):Prop where
 iW:ng t.aa
 aK:∀n,n∈t.aa->nJ n.aK
def wQ.dir{t:Tree}(h:wQ t)(ar:Int):nJ (gM t.aa ar).1.aK:=by
 unfold gM;split
 ·exact List.Pairwise.nil
 ·rename_i n hn;split
  ·exact h.aK n (cr hn).1
  ·exact List.Pairwise.nil
def ak9(t:Tree)(ar:Int)(s:Bytes)(ht:Small t)(hr:wQ t)(hs:s.length<=100000)(ha:oV s):aq dp 175 [bD t,aH ar,.str s] []=some (.tuple [aH (eB t.aa ar s).1,aH (eB t.aa ar s).2],[]):=by
 obtain⟨aa,next,ae⟩:=t
 have hn:aa.length<=100000:=ht.aa;have hd:(gM aa ar).1.aK.length<=100000:=tK ht ar;have hE:nJ (gM aa ar).1.aK:=hr.dir ar;have hk:=fun b M=>Wk aa next ae ar hr.iW hn 1 (b :: cL [aV aa,aH next,aH ae]::M) rfl
 refine aw ?_;simp only[Y4,Jy,bD,aY,hk,bJ,aI,EN,seval];unfold eB;refine bW (fun hb=>?_) (fun hb=>?_)
 ·simp only[Jy,EN,seval];clear hk;simp_all
 ·simp only[Jy,Rc,hs,ha,EN,seval];refine bW (fun hb'=>?_) (fun hb'=>?_)
  ·simp only[Jy,EN,seval];clear hk;simp_all
  ·have hk2:=fun a b c d u M=>Ri a b c d (gM aa ar).1.aK u s _ (sf hE s) hd M
   simp only[Jy,hk2,EN,seval];rcases wW hE s with ⟨h1,e,h2,h3,_⟩|⟨h1,h2⟩
   ·simp only[Jy,h1,h2,dJ,EN,seval];clear hk hk2;simp_all
   ·simp only[Jy,h1,EN,seval];clear hk hk2;simp_all
def Wj(aa:List Node)(next ae ar:Int)(s:Bytes)(ht:Small ⟨aa,next,ae⟩)(hr:wQ ⟨aa,next,ae⟩)(hs:s.length<=100000)(ha:oV s)(M:aO):aL (aq dp) 175 [.agg [aV aa,aH next,aH ae],aH ar,.str s] M =
  some (.tuple [aH (eB aa ar s).1,aH (eB aa ar s).2],M):=cO (ak9 ⟨aa,next,ae⟩ ar s ht hr hs ha) M
def akv(t:Tree)(ar:Int)(ht:Small t)(hr:wQ t):aq dp 106 [bD t,aH ar] []=some (.tuple [bJ (bO t.aa ar),.bool (find t.aa ar).isSome],[]):=by
 obtain⟨aa,next,ae⟩:=t
 have hn:aa.length<=100000:=ht.aa;have hk:=fun b c M=>GD aa next ae ar hr.iW hn 2 (b::c :: cL [aV aa,aH next,aH ae]::M) rfl
 refine aw ?_;simp only[Yw,ajv,bD,aY,hk,bJ,aI,EN,seval]
abbrev mr(n:Int):ag := .int .i64 n
def xz(l:List Int):wid (l.map mr) 1=True:=by
 simp only[fH,j5];intro x hx;obtain⟨n,_,rfl⟩:=cm.1 hx;rfl
def pP(aa:List Node):Nat->Int->List Int->List Int
 |0,_,out=>out
 |m+1,ar,out=>if ar != 1 then (if !(find aa ar).isSome||(bO aa ar).kind != 2 then out else pP aa m (bO aa ar).up (out++[(bO aa ar).up])) else out
def o4(aa:List Node)(ar:Int):List Int:=pP aa aa.length ar [ar]
def W9{aa:List Node}{next ae:Int}(h:ng aa)(hn:aa.length<=100000){k:List K}{R:List Int->Option (ag×aO)}
  (hx:∀(out:List Int) v q,kr (aq dp) [.tmp 4] 1 k ⟨.exit 0,[(0,dC 0),(1,v),(5,.slice (.own 1) (out.map mr)),(22,q)],[cL [aV aa,aH next,aH ae],.tick 1 out.length]⟩=R out)
  (hr:∀(out:List Int) b,kr (aq dp) [.tmp 4] 1 k ⟨.ret,[(4,.slice (.own 1) (out.map mr))],[cL [aV aa,aH next,aH ae],.tick 1 out.length,b]⟩=R out) :
  ∀(m:Nat)(ar:Int)(out:List Int),out.length+m=aa.length+1->fP (aq dp) [.tmp 4] 1 k (.loop [0,1,5] WL) [(0,dC 0),(1,aH ar),(5,.slice (.own 1) (out.map mr))] [cL [aV aa,aH next,aH ae],.tick 1 out.length]=R (pP aa m ar out):=by
 intro m;induction m with
 |zero =>
  intro ar out ho;rw[cv];have hd':((out.length:Int)<=(aa.length:Int))=False:=ic;simp only[BV,EN,seval]
  repeat' ((first|apply bW|apply c8|apply fq)<;>intro hb<;>simp only[hb,EN,BV,hd',seval])
  all_goals exact hx _ _ _
 |succ m ih =>
  intro ar out ho;rw[cv];have hd':((out.length:Int)<=(aa.length:Int))=True:=ic;have r1:dY (out.length+1) 8=True:=xt;have hk:=fun M=>GD aa next ae ar h hn 0 (cL [aV aa,aH next,aH ae]::M) rfl
  have hi:=ih (bO aa ar).up (out++[(bO aa ar).up]) ic;simp only[bH,a8,bE,aR,aD,aF,aN] at hi;rw[pP];simp only[BV,EN,seval];refine c8 (fun hb=>?_) (fun hb=>?_)
  ·simp only[BV,hb,hd',hk,bJ,aI,EN,seval];refine c8 (fun hb1=>?_) (fun hb1=>?_)
   ·simp only[BV,hb1,EN,seval];refine bW (fun hb2=>?_) (fun hb2=>?_)
    ·simp only[BV,hb2,hb1,dz,dE,EN,seval];exact hr _ _
    ·simp only[BV,hb2,hb1,r1,xz,fE,af,EN,seval];exact hi
   ·simp only[BV,hb1,dL,EN,seval];exact hr _ _
  ·simp only[BV,hb,af,EN,seval];exact hx _ _ _
def ali(aa:List Node)(next ae ar:Int)(h:ng aa)(hn:aa.length<=100000):aq dp 202 [dC 0,aH ar] [cL [aV aa,aH next,aH ae]] =
  some (ka ((o4 aa ar).map mr),[cL [aV aa,aH next,aH ae]]):=by
 refine aw ?_;simp only[QL,BV,EN,seval];exact W9 (R:=fun out=>some (ka (out.map mr),[cL [aV aa,aH next,aH ae]])) h hn (fun out v q=>by simp only[BV,EN,seval]) (fun out b=>by simp only[BV,EN,seval]) aa.length ar [ar] ic
def Rh aa next ae ar h hn p M hM:=cM (p:=p) (M:=M) hM (ali aa next ae ar h hn)
def vG(aa:List Node):∀(m:Nat)(ar:Int)(out:List Int),out.length<=(pP aa m ar out).length/\(pP aa m ar out).length<=out.length+m
 |0,_,out=>⟨ak _,ak _⟩
 |m+1,ar,out=>by
  rw[pP];split
  ·split
   ·exact⟨ak _,aM⟩
   ·have:=vG aa m (bO aa ar).up (out++[(bO aa ar).up]);simp at this;omega
  ·exact⟨ak _,aM⟩
def sQ(aa:List Node)(ar:Int):1<=(o4 aa ar).length/\(o4 aa ar).length<=aa.length+1:=by
 have:=vG aa aa.length ar [ar];simp at this;unfold o4;omega
def alB(aa:List Node)(next ae ar:Int)(h:ng aa)(hn:aa.length<=100000):aq dp 248 [dC 0,aH ar] [cL [aV aa,aH next,aH ae]] =
  some (aH (((o4 aa ar).length-1:Nat):Int),[cL [aV aa,aH next,aH ae]]):=by
 refine aw ?_;have hk:=fun M=>Rh aa next ae ar h hn 0 (cL [aV aa,aH next,aH ae]::M) rfl
 have hl:=sQ aa ar;have hw:IntKind.i64.wrap (((o4 aa ar).length:Int)-1)=(((o4 aa ar).length-1:Nat):Int):=by rw[gb aM aM]; omega
 simp only[Zu,ajY,hk,hw,EN,seval]
def ah0 aa next ae ar h hn p M hM:=cM (p:=p) (M:=M) hM (alB aa next ae ar h hn)
def Bp(n:Node)(rest:List Node):∀(pre out:List Node),(∀m,m∈pre->m.ar<n.ar)->oB n (pre++rest) out false=oB n rest (out++pre) false
 | [],out,_=>dk
 |m::r,out,h=>by
  have hm:=h m (aG ..);have h1:¬n.ar<=m.ar:=aM;have h2:¬m.ar=n.ar:=aM;rw[bp,oB];simp only[ge_iff_le,h1,h2,decide_false,di,fE,af,aC];rw[Bp n rest r _ fun x hx=>h x (aP _ hx)]
  simp
def zg(n:Node):∀(rest out:List Node),(∀m,m∈rest->n.ar<m.ar)->oB n rest out true=(out++rest,true)
 | [],out,_=>by simp[oB]
 |m::r,out,h=>by
  have hm:=h m (aG ..);have h2:¬m.ar=n.ar:=aM;rw[oB];simp only[cG,cp,h2,dL,af,aC];rw[zg n r _ fun x hx=>h x (aP _ hx)]
  simp
def vE{aa:List Node}{ar:Int}{b:Nat}(h:Vj aa ar b):∀m,m∈aa.take b->m.ar<ar:=fun m hm=>by
 obtain⟨k,hk⟩:=bX hm;rw[gk] at hk;split at hk
 ·rename_i cA; exact(h.lt k m hk).2 cA
 ·cases hk
def Ez{aa:List Node}{ar:Int}{b:Nat}(h:Vj aa ar b):∀m,m∈aa.drop b->ar<=m.ar:=fun m hm=>by
 obtain⟨k,hk⟩:=bX hm;rw[cZ] at hk;have:=h.lt _ m hk;have hn:¬b+k<b:=aM;have:=fun hc=>hn (this.1 hc)
 omega
def yd{aa:List Node}(h:ng aa){n:Node}(hf:find aa n.ar=none):eS aa n=aa.take (lx aa n.ar)++n::aa.drop (lx aa n.ar):=by
 have hl:=uK h n.ar
 have hd:∀m,m∈aa.drop (lx aa n.ar)->n.ar<m.ar:=fun m hm=>by
  have h1:=Ez hl m hm;have h2:=eJ.1 hf m (dQ hm);have:¬m.ar=n.ar:=by simpa using h2
  omega
 unfold eS;rw[show oB n aa [] false=oB n (aa.take (lx aa n.ar)++aa.drop (lx aa n.ar)) [] false by rw[c9]]
 rw[Bp n _ _ _ (vE hl)];generalize aa.drop (lx aa n.ar)=rest at hd;cases rest with
 |nil=>simp[oB]
 |cons m r =>
  have hm:=hd m (aG ..);have h1:n.ar<=m.ar:=aM;have h2:¬m.ar=n.ar:=aM;rw[oB];simp only[ge_iff_le,h1,h2,decide_true,dG,fW,dz,aE,aC];rw[zg n r _ fun x hx=>hd x (aP _ hx)]
  simp
def tQ{aa:List Node}(h:ng aa){n o:Node}(ho:aa[lx aa n.ar]?=some o)(he:o.ar=n.ar):eS aa n=aa.set (lx aa n.ar) n:=by
 have hl:=uK h n.ar;have cA:=(au.1 ho).1
 have hdr:aa.drop (lx aa n.ar)=o::aa.drop (lx aa n.ar+1):=by
  rw[cN cA];rw[ai cA] at ho; injection ho with ho; rw[ho]
 have hd:∀m,m∈aa.drop (lx aa n.ar+1)->n.ar<m.ar:=fun m hm=>by
  obtain⟨k,hk⟩:=bX hm;rw[cZ] at hk;have hkl:=(au.1 hk).1;have h3:=cB.1 h _ _ cA hkl aM;have h4:aa[lx aa n.ar+1+k]=m:=by rw[ai hkl] at hk; injection hk
  have h5:aa[lx aa n.ar]=o:=by rw[ai cA] at ho; injection ho
  rw[h4,h5] at h3;omega
 unfold eS;rw[show oB n aa [] false=oB n (aa.take (lx aa n.ar)++aa.drop (lx aa n.ar)) [] false by rw[c9]]
 rw[Bp n _ _ _ (vE hl),hdr,oB];simp only[ge_iff_le,he,cJ,decide_true,dG,fW,dz,aE,cu];rw[zg n _ _ hd,List.set_eq_take_append_cons_drop,av cA];simp
def p85{aa:List Node}(h0:aa≠[])(hn:aa.length<=100000)(M:aO):aq dp 234 [aV aa] M=some (.cY M.length 0 6 0 aa.length,M++[.arr 6 0 (aa.map bJ)]):=by
 refine gN (g:=p9 6 80) rfl ?_;obtain⟨a,r,rfl⟩:=fz h0;have hw:wid ((a::r).map bJ) 6:=by have:=F3 (a::r); simpa using this
 have hr:dY ((a::r).map bJ).length 80:=by have:=si (a:=(a::r).length) (b:=80) aM aM; simpa using this
 unfold p9;simp only[a8] at hw hr ⊢;rw[gm ⟨hw,hr⟩];simp
def p86{aa:List Node}{b:Nat}(hb:b<=aa.length)(hn:aa.length<=100000)(n:Node)(c0 c1:dg) :
  aq dp 249 [.cY 2 0 6 0 aa.length,aH b,ka [.agg (aI n)]] [c0,c1,.arr 6 0 (aa.map bJ)]=some (.cY 2 1 6 0 (aa.length+1),[c0,c1,.arr 6 1 ((aa.take b++n::aa.drop b).map bJ)]):=by
 refine gN (g:=nI 6 80) rfl ?_;have hr:dY ((aa.map bJ).length+1) 80:=by have:=si (a:=aa.length+1) (b:=80) aM aM; simpa using this
 unfold nI;simp only[nth];rw[gm ⟨trivial,trivial,trivial,dk,aM,by simpa using hb,rfl,hr⟩]
 simp[jY,bJ]
def UD(aa:List Node)(b:Nat)(o n:Node)(h:aa[b]?=some o):(jY (aa.map bJ) b (putCells (bJ o) 0 (aI n)))=(aa.set b n).map bJ:=by
 have:putCells (bJ o) 0 (aI n)=bJ n:=rfl;rw[this,fJ,jZ]
def alq(aa:List Node)(next ae:Int)(n:Node)(h:ng aa)(h0:aa≠[])(hn:aa.length<=100000):aq dp 223 [dC 0,bJ n] [cL [aV aa,aH next,aH ae]] =
  some (.tuple [],[cL [aV (eS aa n),aH next,aH ae]]):=by
 refine aw ?_;have hk:=fun M=>Rj aa next ae n.ar h hn 0 (cL [aV aa,aH next,aH ae]::M) rfl
 have hp:=fun M=>p85 h0 hn M
 have hle:=(uK h n.ar).le;simp only[QO,aae,bJ,aI,hk,hp,EN,seval];rcases rp h n.ar with ⟨h1,o,h2,h3,h4⟩|⟨h1,h2⟩
 ·have cA:((lx aa n.ar:Int)<(aa.length:Int))=True:=by have:=(au.1 h2).1; simp; omega
  simp only[aae,h1,h2,cA,cd,eu,dX,EN,seval];have e:=UD aa _ o n h2;simp only[aI] at e;rw[e,tQ h h2 h4,bS dk]
 ·have hi:=fun c0 c1=>p86 hle hn n c0 c1
  simp only[aI] at hi;simp only[aae,h1,hi,eu,dX,EN,seval];rw[yd h h2,bS ic]
def Oi(aa:List Node)(next ae a b c:Int)(d:Bytes)(e:List eM)(u:Int)(h:ng aa)(h0:aa≠[])(hn:aa.length<=100000)(p:Nat)(M:aO)(hM:nth M p=some (cL [aV aa,aH next,aH ae])) :
  aL (aq dp) 223 [dC p,.agg [aH a,aH b,aH c,mc d,iU e,aH u]] M=some (.tuple [],jY M p (cL [aV (eS aa ⟨a,b,c,d,e,u⟩),aH next,aH ae])) :=
 oN hM (alq aa next ae ⟨a,b,c,d,e,u⟩ h h0 hn) rfl rfl rfl rfl rfl rfl rfl rfl rfl rfl
def FZ:(∀M cs,ag.sZ M (.agg cs) = .agg (cs.map (ag.pG M)))/\(∀M i o,ag.sZ M (.ptr i o) = .ptr i o)/\(∀M k n,ag.sZ M (.int k n) = .int k n)/\(∀M s,ag.sZ M (.str s) = .str s) /\
  (∀M k n,ag.pG M (.int k n) = .int k n)/\(∀M s,ag.pG M (.str s) = .str s)/\(∀M tk xs,ag.pG M (.slice tk xs) = .slice tk xs)/\(∀M b,ag.pG M (.bool b) = .bool b) /\
  (∀M id ver sz lo hi,ag.pG M (.cY id ver sz lo hi)=match nth M id with
   |some (.arr _ v xs)=>if v=ver then ka ((xs.take hi).drop lo) else .any
   |_ => .any)/\(∀i a b c d,ag.oZ (.cY i a b c d)=[i]):=by
 refine⟨?_,?_,?_,?_,?_,?_,?_,?_,?_,?_⟩<;>intros<;>rfl
def Ag{aa:List Node}(h:ng aa){ar:Int}{o:Node}(ho:aa[lx aa ar]?=some o)(he:o.ar=ar):je aa ar=aa.take (lx aa ar)++aa.drop (lx aa ar+1):=by
 have hl:=uK h ar;have cA:=(au.1 ho).1
 have hd:∀m,m∈aa.drop (lx aa ar+1)->ar<m.ar:=fun m hm=>by
  obtain⟨k,hk⟩:=bX hm;rw[cZ] at hk;have hkl:=(au.1 hk).1;have h3:=cB.1 h _ _ cA hkl aM;have h4:aa[lx aa ar+1+k]=m:=by rw[ai hkl] at hk; injection hk
  have h5:aa[lx aa ar]=o:=by rw[ai cA] at ho; injection ho
  rw[h4,h5] at h3;omega
 have hdr:aa.drop (lx aa ar)=o::aa.drop (lx aa ar+1):=by
  rw[cN cA];rw[ai cA] at ho; injection ho with ho; rw[ho]
 unfold je;rw[show aa.filter (fun n=>n.ar != ar)=(aa.take (lx aa ar)++aa.drop (lx aa ar)).filter (fun n=>n.ar != ar) by rw[c9]]
 rw[List.filter_append,hdr,eR];simp only[he,an,af,aC];rw[gG.2 fun m hm=>by have:=vE hl m hm; simp; omega,gG.2 fun m hm=>by have:=hd m hm; simp; omega]
def yA{aa:List Node}{ar:Int}(hf:find aa ar=none):je aa ar=aa :=
 gG.2 fun m hm=>by simpa using eJ.1 hf m hm
def ana{aa:List Node}{b:Nat}(hb:b<aa.length)(hn:aa.length<=100000)(c0:dg) :
  aq dp 233 [.cY 1 0 6 0 aa.length,aH b,aH ((b+1:Nat):Int)] [c0,.arr 6 0 (aa.map bJ)]=some (.cY 1 1 6 0 (aa.length-1),[c0,.arr 6 1 ((aa.take b++aa.drop (b+1)).map bJ)]):=by
 refine gN (g:=oS 6) rfl ?_;unfold oS;simp only[nth];rw[gm ⟨trivial,trivial,trivial,dk,aM,by simpa using hb,aM,ic⟩]
 simp[jY]
def alc(aa:List Node)(next ae ar:Int)(h:ng aa)(hn:aa.length<=100000):aq dp 178 [dC 0,aH ar] [cL [aV aa,aH next,aH ae]] =
  some (.tuple [],[cL [aV (je aa ar),aH next,aH ae]]):=by
 refine aw ?_;have hk:=fun M=>Rj aa next ae ar h hn 0 (cL [aV aa,aH next,aH ae]::M) rfl
 simp only[QI,aad,hk,EN,seval];rcases rp h ar with ⟨h1,o,h2,h3,h4⟩|⟨h1,h2⟩
 ·have cA:=(au.1 h2).1;have h0:aa≠[]:=by rintro rfl; simp at h2
  have hp:=fun M=>p85 h0 hn M
  have hd:=fun c0=>ana cA hn c0
  have hw:IntKind.i64.wrap ((lx aa ar:Int)+1)=((lx aa ar+1:Nat):Int):=by rw[gb aM aM]; rfl
  simp only[aad,h1,hp,hd,hw,eu,dX,EN,seval];rw[Ag h h2 h4,bS ic]
 ·simp only[aad,h1,EN,seval];rw[yA h2]
def ahN(aa:List Node)(next ae ar:Int)(h:ng aa)(hn:aa.length<=100000)(p:Nat)(M:aO)(hM:nth M p=some (cL [aV aa,aH next,aH ae])) :
  aL (aq dp) 178 [dC p,aH ar] M=some (.tuple [],jY M p (cL [aV (je aa ar),aH next,aH ae])) :=
 oN hM (alc aa next ae ar h hn) rfl rfl rfl rfl rfl rfl rfl rfl rfl rfl
def pN{a b:Bytes}(h:strLt a b=true):strLt b a=false:=by
 cases hb:strLt b a with
 |false=>rfl
 |true=>have:=mZ h hb; rw[gZ] at this; cases this
def oA:∀(a b:Bytes),strLt a b=true\/a=b\/strLt b a=true
 | [],[] => .inr (.inl rfl)
 | [],_::_ => .inl rfl
 |_::_,[] => .inr (.inr rfl)
 |a::x,b::y=>by
  simp only[strLt,cV,bm,bt,eG,List.cons.injEq,kK];rcases oA x y with h|h|h
  ·rcases iQ a.toNat b.toNat with h1|h1|h1
   ·exact .inl (.inl h1)
   ·exact .inl (.inr ⟨iT.1 h1,h⟩)
   ·exact .inr (.inr (.inl h1))
  ·rcases iQ a.toNat b.toNat with h1|h1|h1
   ·exact .inl (.inl h1)
   ·exact .inr (.inl ⟨iT.1 h1,h⟩)
   ·exact .inr (.inr (.inl h1))
  ·rcases iQ a.toNat b.toNat with h1|h1|h1
   ·exact .inl (.inl h1)
   ·exact .inr (.inr (.inr ⟨(iT.1 h1).symm,h⟩))
   ·exact .inr (.inr (.inl h1))
def N4{a b:Bytes}(h:strLt a b=true):ZC a b=false:=by simp[ZC,h]
def N3{a b:Bytes}(h:strLt b a=true):ZC a b=true:=by
 have h1:=pN h;have h2:¬a=b:=by rintro rfl; rw[gZ] at h; cases h
 simp[ZC,h1,h2]
def Ia(e:eM)(rest:List eM):∀(pre out:List eM),(∀m,m∈pre->strLt m.name e.name=true)->vr e (pre++rest) out false=vr e rest (out++pre) false
 | [],out,_=>dk
 |m::r,out,h=>by
  rw[bp,vr,N4 (h m (aG ..))];simp only[di,fE,af,aC];rw[Ia e rest r _ fun x hx=>h x (aP _ hx)]
  simp
def EZ(e:eM):∀(rest out:List eM),vr e rest out true=(out++rest,true)
 | [],out=>by simp[vr]
 |m::r,out=>by
  rw[vr];simp only[cG,cp,dL,af,aC];rw[EZ e r];simp
def Bo{l:List eM}{s:Bytes}{b:Nat}(h:Nd l s b):∀m,m∈l.take b->strLt m.name s=true:=fun m hm=>by
 obtain⟨k,hk⟩:=bX hm;rw[gk] at hk;split at hk
 ·rename_i cA; exact(h.lt k m hk).2 cA
 ·cases hk
def CQ{l:List eM}{s:Bytes}{b:Nat}(h:Nd l s b):∀m,m∈l.drop b->strLt m.name s=false:=fun m hm=>by
 obtain⟨k,hk⟩:=bX hm;rw[cZ] at hk;have:=h.lt _ m hk;have hn:¬b+k<b:=aM;cases hc:strLt m.name s with
 |false=>rfl
 |true=>exact absurd (this.1 hc) hn
def vq{l:List eM}(h:nJ l){e:eM}(hf:eE l e.name=none):tu l e=l.take (lQ l e.name)++e::l.drop (lQ l e.name):=by
 have hl:=sf h e.name
 have hd:∀m,m∈l.drop (lQ l e.name)->strLt e.name m.name=true:=fun m hm=>by
  have h1:=CQ hl m hm;have h2:=eJ.1 hf m (dQ hm);have h3:¬m.name=e.name:=by simpa using h2
  rcases oA m.name e.name with h4|h4|h4
  ·rw[h1] at h4; cases h4
  ·exact absurd h4 h3
  ·exact h4
 unfold tu;rw[show vr e l [] false=vr e (l.take (lQ l e.name)++l.drop (lQ l e.name)) [] false by rw[c9]]
 rw[Ia e _ _ _ (Bo hl)];generalize l.drop (lQ l e.name)=rest at hd;cases rest with
 |nil=>simp[vr]
 |cons m r =>
  rw[vr,N3 (hd m (aG ..))];simp only[dG,fW,dz,aE];rw[EZ];simp
def Ey{l:List eM}(h:nJ l){s:Bytes}{o:eM}(ho:l[lQ l s]?=some o)(he:o.name=s):fO l s=l.take (lQ l s)++l.drop (lQ l s+1):=by
 have hl:=sf h s;have cA:=(au.1 ho).1
 have hdr:l.drop (lQ l s)=o::l.drop (lQ l s+1):=by
  rw[cN cA];rw[ai cA] at ho; injection ho with ho; rw[ho]
 have hd:∀m,m∈l.drop (lQ l s+1)->strLt s m.name=true:=fun m hm=>by
  obtain⟨k,hk⟩:=bX hm;rw[cZ] at hk;have hkl:=(au.1 hk).1;have h3:=cB.1 h _ _ cA hkl aM;have h4:l[lQ l s+1+k]=m:=by rw[ai hkl] at hk; injection hk
  have h5:l[lQ l s]=o:=by rw[ai cA] at ho; injection ho
  rw[h4,h5,he] at h3;exact h3
 have ne:∀ {a b:Bytes},strLt a b=true->¬a=b:=fun {a b} h=>by rintro rfl; rw[gZ] at h; cases h
 unfold fO;rw[show l.filter (fun n=>n.name != s)=(l.take (lQ l s)++l.drop (lQ l s)).filter (fun n=>n.name != s) by rw[c9]]
 rw[List.filter_append,hdr,eR];simp only[he,an,af,aC];rw[gG.2 fun m hm=>by simpa using ne (Bo hl m hm),gG.2 fun m hm=>by simpa using fun hc=>ne (hd m hm) hc.symm]
def CR{l:List eM}{s:Bytes}(hf:eE l s=none):fO l s=l :=
 gG.2 fun m hm=>by simpa using eJ.1 hf m hm
def p58{l:List eM}(h0:l≠[])(hn:l.length<=100000)(M:aO):aq dp 218 [iU l] M=some (.cY M.length 0 3 0 l.length,M++[.arr 3 0 (l.map gq)]):=by
 refine gN (g:=p9 3 32) rfl ?_;obtain⟨a,r,rfl⟩:=fz h0;have hw:wid ((a::r).map gq) 3:=by have:=Jn (a::r); simpa using this
 have hr:dY ((a::r).map gq).length 32:=by have:=si (a:=(a::r).length) (b:=32) aM aM; simpa using this
 unfold p9;simp only[a8] at hw hr ⊢;rw[gm ⟨hw,hr⟩];simp
def aiD(M:aO):aq dp 218 [ka []] M=some (.slice .c0 [],M):=gN (g:=p9 3 32) rfl rfl
def p87{l:List eM}{b:Nat}(hb:b<=l.length)(hn:l.length<=100000)(e:eM)(c0 c1:dg) :
  aq dp 250 [.cY 2 0 3 0 l.length,aH b,ka [.agg (dJ e)]] [c0,c1,.arr 3 0 (l.map gq)]=some (.cY 2 1 3 0 (l.length+1),[c0,c1,.arr 3 1 ((l.take b++e::l.drop b).map gq)]):=by
 refine gN (g:=nI 3 32) rfl ?_;have hr:dY ((l.map gq).length+1) 32:=by have:=si (a:=l.length+1) (b:=32) aM aM; simpa using this
 unfold nI;simp only[nth];rw[gm ⟨trivial,trivial,trivial,dk,aM,by simpa using hb,rfl,hr⟩]
 simp[jY,gq]
def anc(e:eM)(M:aO):aq dp 250 [.slice .c0 [],aH 0,ka [.agg (dJ e)]] M=some (.cY M.length 0 3 0 1,M++[.arr 3 0 [.agg (dJ e)]]):=by
 refine gN (g:=nI 3 32) rfl ?_
 show cH ((0:Int)=0/\(ag.agg (dJ e)).cells.length=3) _=_
 exact gm ⟨rfl,rfl⟩
def p84{l:List eM}{b:Nat}(hb:b<l.length)(hn:l.length<=100000)(c0 c1:dg) :
  aq dp 252 [.cY 2 0 3 0 l.length,aH b,aH ((b+1:Nat):Int)] [c0,c1,.arr 3 0 (l.map gq)]=some (.cY 2 1 3 0 (l.length-1),[c0,c1,.arr 3 1 ((l.take b++l.drop (b+1)).map gq)]):=by
 refine gN (g:=oS 3) rfl ?_;unfold oS;simp only[nth];rw[gm ⟨trivial,trivial,trivial,dk,aM,by simpa using hb,aM,ic⟩]
 simp[jY]
def Lr{aa:List Node}(h:ng aa){n:Node}(hf:find aa n.ar=some n):eS aa n=aa:=by
 rcases rp h n.ar with ⟨_,o,h2,h3,h4⟩|⟨_,h2⟩
 ·rw[hf] at h3; cases h3;rw[tQ h h2 rfl];apply dA;intro i
  by_cases e:lx aa n.ar=i
  ·subst e; rw[eF (au.1 h2).1,h2]
  ·rw[fF e]
 ·rw[hf] at h2; cases h2
def alr(aa:List Node)(next ae dir:Int)(s:Bytes)(ar:Int)(h:ng aa)(hn:aa.length<=100000){n:Node}(hf:find aa dir=some n)(hE:nJ n.aK)(hl:n.aK.length<=99999)(hs:eE n.aK s=none) :
  aq dp 224 [dC 0,aH dir,.str s,aH ar] [cL [aV aa,aH next,aH ae]]=some (.tuple [],[cL (aY (hU ⟨aa,next,ae⟩ dir s ar))]):=by
 refine aw ?_;have h0:aa≠[]:=by rintro rfl; simp[find] at hf
 have hnn:bO aa dir=n:=by simp[bO,hf]
 have hk:=fun M=>GD aa next ae dir h hn 0 (cL [aV aa,aH next,aH ae]::M) rfl
 have hk2:=fun a b c d u M=>Ri a b c d n.aK u s _ (sf hE s) aM M
 have hle:=(sf hE s).le
 have hres:hU ⟨aa,next,ae⟩ dir s ar=⟨eS aa { n with aK:=n.aK.take (lQ n.aK s)++⟨s,ar,ae⟩::n.aK.drop (lQ n.aK s) },next,nc (ae+1)⟩:=by
  have:=vq hE (e:=⟨s,ar,ae⟩) hs;simp only[hU,hf,bQ,this]
 rw[hres,aY];have hp:=fun a b c d e u M=>Oi aa next (nc (ae+1)) a b c d e u h h0 hn 0 (cL [aV aa,aH next,aH (nc (ae+1))]::M) rfl
 simp only[QP,PE,hk,hnn,bJ,aI,hk2,EN,seval]
 by_cases hne:n.aK=[]
 ·have hlow:lQ n.aK s=0:=by rw[hne]; rfl
  have hi:=fun M=>anc ⟨s,ar,ae⟩ M
  simp only[dJ] at hi;have hlow0:lQ [] s=0:=rfl;have hc0:((0:Nat):Int)=0:=rfl;simp only[PE,hne,hlow0,hc0,iU,aiD,hi,FZ,vm,EN,seval];rw[show(ka [ag.agg [.str s,aH ar,aH ae]]:ag)=iU [⟨s,ar,ae⟩] from rfl]
  simp only[PE,hp,EN,seval]
 ·have hc:=fun M=>p58 hne (show n.aK.length<=100000 by omega) M
  have hi:=fun c0 c1=>p87 hle (show n.aK.length<=100000 by omega) ⟨s,ar,ae⟩ c0 c1
  simp only[dJ] at hi;simp only[PE,hc,hi,FZ,vm,EN,seval];have ht:List.take (n.aK.length+1) (List.map gq (List.take (lQ n.aK s) n.aK++⟨s,ar,ae⟩::List.drop (lQ n.aK s) n.aK))=List.map gq (List.take (lQ n.aK s) n.aK++⟨s,ar,ae⟩::List.drop (lQ n.aK s) n.aK):=bS ic;rw[ht];simp only[PE,hp,EN,seval]
def Wl(aa:List Node)(next ae dir:Int)(s:Bytes)(ar:Int)(h:ng aa)(hn:aa.length<=100000){n:Node}(hf:find aa dir=some n)(hE:nJ n.aK)(hl:n.aK.length<=99999)(hs:eE n.aK s=none)(p:Nat)(M:aO)(hM:nth M p=some (cL [aV aa,aH next,aH ae])) :
  aL (aq dp) 224 [dC p,aH dir,.str s,aH ar] M=some (.tuple [],jY M p (cL (aY (hU ⟨aa,next,ae⟩ dir s ar)))) :=
 oN hM (alr aa next ae dir s ar h hn hf hE hl hs) rfl rfl rfl rfl rfl rfl rfl rfl rfl rfl
def als(aa:List Node)(next ae dir:Int)(s:Bytes)(h:ng aa)(hn:aa.length<=100000){n:Node}(hf:find aa dir=some n)(hE:nJ n.aK)(hl:n.aK.length<=99999) :
  aq dp 226 [dC 0,aH dir,.str s] [cL [aV aa,aH next,aH ae]]=some (.tuple [],[cL [aV (dU aa dir s),aH next,aH ae]]):=by
 refine aw ?_;have h0:aa≠[]:=by rintro rfl; simp[find] at hf
 have hnn:bO aa dir=n:=by simp[bO,hf]
 have hino:n.ar=dir:=(cr hf).2;have hk:=fun M=>GD aa next ae dir h hn 0 (cL [aV aa,aH next,aH ae]::M) rfl
 have hk2:=fun a b c d u M=>Ri a b c d n.aK u s _ (sf hE s) aM M
 have hp:=fun a b c d e u M=>Oi aa next ae a b c d e u h h0 hn 0 (cL [aV aa,aH next,aH ae]::M) rfl
 have hres:dU aa dir s=eS aa { n with aK:=fO n.aK s }:=by simp only[dU,hf,bQ]
 rw[hres];simp only[QR,Vd,hk,hnn,bJ,aI,hk2,EN,seval];rcases wW hE s with ⟨h1,o,h2,h3,h4⟩|⟨h1,h2⟩
 ·have cA:=(au.1 h2).1;have hne:n.aK≠[]:=by intro hc; rw[hc] at h2; simp at h2
  have hc:=fun M=>p58 hne (show n.aK.length<=100000 by omega) M
  have hd:=fun c0 c1=>p84 cA (show n.aK.length<=100000 by omega) c0 c1
  have hw:IntKind.i64.wrap ((lQ n.aK s:Int)+1)=((lQ n.aK s+1:Nat):Int):=by rw[gb aM aM]; rfl
  simp only[Vd,h1,hc,hd,hw,FZ,vm,EN,seval];have ht:List.take (n.aK.length-1) (List.map gq (List.take (lQ n.aK s) n.aK++List.drop (lQ n.aK s+1) n.aK))=List.map gq (List.take (lQ n.aK s) n.aK++List.drop (lQ n.aK s+1) n.aK):=bS ic;rw[ht];simp only[Vd,hp,EN,seval];rw[Ey hE h2 h4]
 ·simp only[Vd,h1,EN,seval];rw[CR h2];have:eS aa n=aa:=Lr h (by rw[hino]; exact hf)
  rw[show({ n with aK:=n.aK }:Node)=n from rfl,this]
def abL(aa:List Node)(next ae dir:Int)(s:Bytes)(h:ng aa)(hn:aa.length<=100000){n:Node}(hf:find aa dir=some n)(hE:nJ n.aK)(hl:n.aK.length<=99999)(p:Nat)(M:aO)(hM:nth M p=some (cL [aV aa,aH next,aH ae])) :
  aL (aq dp) 226 [dC p,aH dir,.str s] M=some (.tuple [],jY M p (cL [aV (dU aa dir s),aH next,aH ae])) :=
 oN hM (als aa next ae dir s h hn hf hE hl) rfl rfl rfl rfl rfl rfl rfl rfl rfl rfl
def kq(aa:List Node)(n:Node):List Node:=if n.kind==2 then je aa n.ar else eS aa { n with df:=nc (n.df-1) }
def alu(aa:List Node)(next ae:Int)(n:Node)(h:ng aa)(h0:aa≠[])(hn:aa.length<=100000) :
  aq dp 227 [dC 0,bJ n] [cL [aV aa,aH next,aH ae]]=some (.tuple [],[cL [aV (kq aa n),aH next,aH ae]]):=by
 refine aw ?_;have hp:=fun a b c d e u M=>Oi aa next ae a b c d e u h h0 hn 0 (cL [aV aa,aH next,aH ae]::M) rfl
 have hd:=fun M=>ahN aa next ae n.ar h hn 0 (cL [aV aa,aH next,aH ae]::M) rfl
 simp only[Zl,aaf,bJ,aI,EN,seval];unfold kq;refine bW (fun hb=>?_) (fun hb=>?_)
 ·simp only[aaf,hb,hd,EN,seval]
 ·simp only[aaf,hb,hp,af,EN,seval]
def ahW(aa:List Node)(next ae a b c:Int)(d:Bytes)(e:List eM)(u:Int)(h:ng aa)(h0:aa≠[])(hn:aa.length<=100000)(p:Nat)(M:aO)(hM:nth M p=some (cL [aV aa,aH next,aH ae])) :
  aL (aq dp) 227 [dC p,.agg [aH a,aH b,aH c,mc d,iU e,aH u]] M=some (.tuple [],jY M p (cL [aV (kq aa ⟨a,b,c,d,e,u⟩),aH next,aH ae])) :=
 oN hM (alu aa next ae ⟨a,b,c,d,e,u⟩ h h0 hn) rfl rfl rfl rfl rfl rfl rfl rfl rfl rfl
def sj(aa:List Node)(ar:Int):Nat:=(o4 aa ar).length-1
def o8(t:Tree)(dir:Int)(s:Bytes):Int :=
 if (gM t.aa dir).2 != 0 then (gM t.aa dir).2 else if !dB s then 60 else if (eE (gM t.aa dir).1.aK s).isSome=true then 71 else
 if decide ((64:Int)<=(gM t.aa dir).1.aK.length)||(decide ((12:Int)<=sj t.aa dir)||decide ((1099511627776:Int)<=t.ae)) then 76 else 0
def alp(aa:List Node)(next ae dir:Int)(s:Bytes)(ht:Small ⟨aa,next,ae⟩)(hr:wQ ⟨aa,next,ae⟩)(hs:s.length<=100000)(ha:oV s) :
  aq dp 222 [dC 0,aH dir,.str s] [cL [aV aa,aH next,aH ae]]=some (aH (o8 ⟨aa,next,ae⟩ dir s),[cL [aV aa,aH next,aH ae]]):=by
 have hn:aa.length<=100000:=ht.aa;have hd:(gM aa dir).1.aK.length<=100000:=tK ht dir;have hE:nJ (gM aa dir).1.aK:=hr.dir dir;have hk:=fun M=>Wk aa next ae dir hr.iW hn 0 (cL [aV aa,aH next,aH ae]::M) rfl
 have hk2:=fun a b c d u M=>Ri a b c d (gM aa dir).1.aK u s _ (sf hE s) hd M
 have hk3:∀M,aL (aq dp) 248 [dC 0,aH dir] (cL [aV aa,aH next,aH ae]::M)=some (aH (sj aa dir),cL [aV aa,aH next,aH ae]::M):=fun M=>ah0 aa next ae dir hr.iW hn 0 (cL [aV aa,aH next,aH ae]::M) rfl
 refine aw ?_;simp only[Zk,Hf,hk,bJ,aI,EN,seval];refine bW (fun hb=>?_) (fun hb=>?_)
 ·simp only[Hf,hb,EN,seval];clear hk hk2 hk3;simp_all only[o8,vK,↓reduceIte,reduceCtorEq,an]
 simp only[Hf,hb,Rc,hs,ha,EN,seval];refine bW (fun hb1=>?_) (fun hb1=>?_)
 ·simp only[Hf,hb1,EN,seval];clear hk hk2 hk3;simp_all only[o8,vK,↓reduceIte,reduceCtorEq,an]
 simp only[Hf,hb1,hk2,EN,seval];rcases wW hE s with ⟨h1,o,h2,h3,h4⟩|⟨h1,h2⟩
 ·simp only[Hf,h1,EN,seval];clear hk hk2 hk3;simp_all only[o8,dD,vK,↓reduceIte,reduceCtorEq,an]
 ·simp only[Hf,h1,EN,seval]
  repeat' ((first|apply bW|apply c8|apply fq)<;>intro hb<;>simp only[hb,EN,Hf,hk3,seval])
  all_goals (clear hk hk2 hk3; simp_all only[o8,jl,vK,↓reduceIte,reduceCtorEq,an]; done)
def ahV aa next ae dir s ht hr hs ha p M hM:=cM (p:=p) (M:=M) hM (alp aa next ae dir s ht hr hs ha)
def zQ(x y:Node):Int:=if x.kind==2&&y.kind != 2 then 73 else if x.kind != 2&&y.kind==2 then 72 else if decide ((0:Int)<y.aK.length) then 74 else 0
def alx(x y:Node):aq dp 230 [bJ x,bJ y] []=some (aH (zQ x y),[]):=by
 refine aw ?_;simp only[Zo,aeF,bJ,aI,EN,seval]
 repeat' ((first|apply bW|apply c8|apply fq)<;>intro hb<;>simp only[hb,EN,aeF,seval])
 all_goals (simp_all only[zQ,vK,↓reduceIte,reduceCtorEq,an]; done)
def akt(t:Tree)(ar:Int)(ht:Small t)(hr:wQ t):aq dp 104 [bD t,aH ar] []=some (.tuple [bD (pc t ar).1,aH (pc t ar).2],[]):=by
 obtain⟨aa,next,ae⟩:=t
 have hn:aa.length<=100000:=ht.aa;refine aw ?_;have hk:=fun b c M=>GD aa next ae ar hr.iW hn 2 (b::c :: cL [aV aa,aH next,aH ae]::M) rfl
 have hd:=fun b c M=>ahN aa next ae ar hr.iW hn 2 (b::c :: cL [aV aa,aH next,aH ae]::M) rfl
 simp only[Yv,aev,bD,aY,hk,bJ,aI,EN,seval]
 repeat' ((first|apply bW|apply c8|apply fq)<;>intro hb<;>simp only[hb,EN,aev,hd,seval])
 all_goals (clear hk hd; simp_all only[pc,bD,aY,vK,↓reduceIte,reduceCtorEq,an]; done)
end
def JO{aa:List Node}(h:ng aa){a b:Node}(ha:a∈aa)(hb:b∈aa)(he:a.ar=b.ar):a=b:=by
 obtain⟨i,hi⟩:=bX ha;obtain⟨k,hk⟩:=bX hb;have hil:=(au.1 hi).1;have hkl:=(au.1 hk).1;have e1:aa[i]=a:=by rw[ai hil] at hi; injection hi
 have e2:aa[k]=b:=by rw[ai hkl] at hk; injection hk
 rcases iQ i k with cA|heq|hgt
 ·have:=cB.1 h _ _ hil hkl cA;rw[e1,e2] at this; omega
 ·subst heq; rw[<-e1,<-e2]
 ·have:=cB.1 h _ _ hkl hil hgt;rw[e1,e2] at this; omega
def fp{aa:List Node}(h:ng aa){i:Int}{m:Node}:find aa i=some m↔m∈aa/\m.ar=i:=by
 refine⟨cr,fun⟨h1,h2⟩=>?_⟩
 cases hf:find aa i with
 |none =>
  have:=eJ.1 hf m h1;simp[h2] at this
 |some k =>
  obtain⟨k1,k2⟩:=cr hf;rw[JO h h1 k1 aM]
def qw{aa:List Node}{i:Int}:find aa i=none↔∀m,m∈aa->m.ar≠i:=by
 unfold find;rw[eJ];simp
def yb{aa:List Node}{b:Nat}{o n:Node}(ho:aa[b]?=some o):aa=aa.take b++o::aa.drop (b+1)/\aa.set b n=aa.take b++n::aa.drop (b+1):=by
 have cA:=(au.1 ho).1;constructor
 ·rw[ai cA] at ho; injection ho with ho
  conv=>lhs; rw[<-c9 b aa]
  rw[cN cA,ho]
 ·rw[List.set_eq_take_append_cons_drop,av cA]
def vw{aa:List Node}(h:ng aa){n m:Node}:m∈eS aa n↔m=n\/(m∈aa/\m.ar≠n.ar):=by
 rcases rp h n.ar with ⟨_,o,h2,h3,h4⟩|⟨_,h2⟩
 ·rw[tQ h h2 h4];obtain⟨s1,s2⟩:=yb (n:=n) h2;have hon:o∈aa:=(cr h3).1;constructor
  ·intro hm;rw[s2] at hm;rcases bC.1 hm with hm|hm
   ·have hmn:=cR hm;have:=vE (uK h n.ar) m hm;exact .inr ⟨hmn,aM⟩
   ·rcases ba.1 hm with rfl|hm
    ·exact .inl rfl
    ·refine .inr ⟨dQ hm,fun he=>?_⟩
     have hp:=h;unfold ng at hp;rw[s1,cC] at hp;have:=(bR.1 hp.2.1).1 m hm;omega
  ·rintro(rfl|⟨hm,hne⟩)
   ·rw[s2]; simp
   ·rw[s1] at hm;rw[s2];rcases bC.1 hm with hm|hm
    ·exact fG _ hm
    ·rcases ba.1 hm with rfl|hm
     ·exact absurd h4 hne
     ·exact iu _ (aP _ hm)
 ·rw[yd h h2];rw[qw] at h2;constructor
  ·intro hm;rcases bC.1 hm with hm|hm
   ·have:=cR hm;exact .inr ⟨this,h2 m this⟩
   ·rcases ba.1 hm with rfl|hm
    ·exact .inl rfl
    ·have:=dQ hm;exact .inr ⟨this,h2 m this⟩
  ·rintro(rfl|⟨hm,_⟩)
   ·simp
   ·rw[<-c9 (lx aa n.ar) aa] at hm;rcases bC.1 hm with hm|hm
    ·exact fG _ hm
    ·exact iu _ (aP _ hm)
def oe{aa:List Node}(h:ng aa)(n:Node):ng (eS aa n):=by
 have hl:=uK h n.ar;rcases rp h n.ar with ⟨_,o,h2,h3,h4⟩|⟨_,h2⟩
 ·rw[tQ h h2 h4];obtain⟨s1,s2⟩:=yb (n:=n) h2;have hp:=h;unfold ng at hp ⊢;rw[s1,cC] at hp;obtain⟨p1,p2,p3⟩:=hp;obtain⟨p4,p5⟩:=bR.1 p2;rw[s2,cC];refine⟨p1,bR.2 ⟨fun m hm=>by have:=p4 m hm; omega,p5⟩,fun a ha c hc=>?_⟩
  rcases ba.1 hc with rfl|hc
  ·exact vE hl a ha
  ·exact p3 a ha c (aP _ hc)
 ·rw[yd h h2];have hp:=h;unfold ng at hp ⊢;rw[<-c9 (lx aa n.ar) aa,cC] at hp;obtain⟨p1,p2,p3⟩:=hp;rw[qw] at h2;rw[cC];refine⟨p1,bR.2 ⟨fun m hm=>?_,p2⟩,fun a ha c hc=>?_⟩
  ·have k1:=Ez hl m hm;have k2:=h2 m (dQ hm);omega
  ·rcases ba.1 hc with rfl|hc
   ·exact vE hl a ha
   ·exact p3 a ha c hc
def hV{aa:List Node}(h:ng aa)(n:Node)(i:Int):find (eS aa n) i=if i=n.ar then some n else find aa i:=by
 split
 ·rename_i he;exact(fp (oe h n)).2 ⟨(vw h).2 (.inl rfl),he.symm⟩
 ·rename_i hne;cases hf:find aa i with
  |none =>
   rw[qw] at hf ⊢;intro m hm;rcases(vw h).1 hm with rfl|⟨hm,_⟩
   ·exact fun he=>hne he.symm
   ·exact hf m hm
  |some m =>
   obtain⟨h1,h2⟩:=cr hf;exact(fp (oe h n)).2 ⟨(vw h).2 (.inr ⟨h1,aM⟩),h2⟩
def tG{aa:List Node}(h:ng aa)(i:Int):ng (je aa i):=nM _ h
def sd{aa:List Node}(h:ng aa)(k i:Int):find (je aa k) i=if i=k then none else find aa i:=by
 split
 ·rename_i he;rw[qw];intro m hm;have:=(fj.1 hm).2;simp at this;omega
 ·rename_i hne;cases hf:find aa i with
  |none =>
   rw[qw] at hf ⊢;exact fun m hm=>hf m (fj.1 hm).1
  |some m =>
   obtain⟨h1,h2⟩:=cr hf;exact(fp (tG h k)).2 ⟨fj.2 ⟨h1,ic⟩,h2⟩
def H7{l:List eM}(h:nJ l){e:eM}(hf:eE l e.name=none):nJ (tu l e):=by
 rw[vq h hf];have hl:=sf h e.name;have hp:=h;unfold nJ at hp ⊢;rw[<-c9 (lQ l e.name) l,cC] at hp;obtain⟨p1,p2,p3⟩:=hp;rw[cC];refine⟨p1,bR.2 ⟨fun m hm=>?_,p2⟩,fun a ha c hc=>?_⟩
 ·have k1:=CQ hl m hm;have k2:¬m.name=e.name:=by simpa using eJ.1 hf m (dQ hm)
  rcases oA m.name e.name with h4|h4|h4
  ·rw[k1] at h4; cases h4
  ·exact absurd h4 k2
  ·exact h4
 ·rcases ba.1 hc with rfl|hc
  ·exact Bo hl a ha
  ·exact p3 a ha c hc
def vk{l:List eM}(h:nJ l)(s:Bytes):nJ (fO l s):=nM _ h
def wQ.with{t:Tree}(h:wQ t){n:Node}(hn:nJ n.aK)(next ae:Int):wQ ⟨eS t.aa n,next,ae⟩ :=
 ⟨oe h.iW n,fun m hm=>by
  rcases(vw h.iW).1 hm with rfl|⟨hm,_⟩
  ·exact hn
  ·exact h.aK m hm⟩
def wQ.Af{t:Tree}(h:wQ t)(i next ae:Int):wQ ⟨je t.aa i,next,ae⟩ :=
 ⟨tG h.iW i,fun m hm=>h.aK m (fj.1 hm).1⟩
def wQ.node{t:Tree}(h:wQ t)(i:Int):nJ (bO t.aa i).aK:=by
 cases hf:find t.aa i with
 |none=>simp[bO,hf,Node.zero]; exact List.Pairwise.nil
 |some n=>simp[bO,hf]; exact h.aK n (cr hf).1
def wQ.left{t:Tree}(h:wQ t)(i:Int)(s:Bytes)(next ae:Int):wQ ⟨dU t.aa i s,next,ae⟩ :=
 h.with (n:={ bO t.aa i with aK:=fO (bO t.aa i).aK s }) (vk (h.node i) s) next ae
def wQ.rA{t:Tree}(h:wQ t)(i:Int)(s:Bytes)(of:Int)(hf:eE (bO t.aa i).aK s=none):wQ (hU t i s of) :=
 h.with (n:={ bO t.aa i with aK:=tu (bO t.aa i).aK ⟨s,of,t.ae⟩ }) (H7 (h.node i) hf) t.next (nc (t.ae+1))
section
attribute [local irreducible] fP fm kM gK dH kr aq aL cH bP
def yL{aa:List Node}{dir:Int}(h:(gM aa dir).2=0):∃d,find aa dir=some d/\d.kind=2/\gM aa dir=(d,0):=by
 unfold gM at h ⊢;split at h
 ·cases h
 ·rename_i d hd;split at h
  ·rename_i hk; exact⟨d,hd,hk,by simp[hd,hk]⟩
  ·cases h
def TM{t:Tree}{dir:Int}{s:Bytes}(h:(o8 t dir s != 0)=false):∃d,find t.aa dir=some d/\d.kind=2/\dB s=true/\eE d.aK s=none/\d.aK.length<64/\sj t.aa dir<12/\t.ae<1099511627776:=by
 have h:o8 t dir s=0:=by simpa using h
 unfold o8 at h;split at h
 ·rename_i hc;rw[h] at hc; cases hc
 ·rename_i hc;obtain⟨d,h1,h2,h3⟩:=yL (by simpa using hc)
  rw[h3] at h;split at h
  ·cases h
  ·rename_i hk;split at h
   ·cases h
   ·rename_i hf;split at h
    ·cases h
    ·rename_i hm;simp at hk hf hm;exact⟨d,h1,h2,hk,hf,aM,aM,aM⟩
def JL(t:Tree)(ar:Int)(s:Bytes)(kind:Int):Tree×Int×Int :=
 if kind != 1&&kind != 2 then (t,0,1) else if o8 t ar s != 0 then (t,0,o8 t ar s) else
 if decide ((200:Int)<=t.aa.length)||decide ((1099511627776:Int)<=t.next) then (t,0,76) else
 (hU ⟨eS t.aa ⟨t.next,kind,1,[],[],if kind==2 then ar else 0⟩,nc (t.next+1),t.ae⟩ ar s t.next,t.next,0)
def ak6(t:Tree)(dir:Int)(s:Bytes)(kind:Int)(hz:Sz 1000 t)(hr:wQ t)(hs:s.length<=100000)(ha:oV s)(iC:∀m,m∈t.aa->m.ar<t.next) :
  aq dp 171 [bD t,aH dir,.str s,aH kind] []=some (.tuple [bD (JL t dir s kind).1,aH (JL t dir s kind).2.1,aH (JL t dir s kind).2.2],[]):=by
 obtain⟨aa,next,ae⟩:=t
 have ht:Small ⟨aa,next,ae⟩:=hz.small aM
 have hn:aa.length<=100000:=ht.aa;have hk:=fun b c M=>ahV aa next ae dir s ht hr hs ha 2 (b::c :: cL [aV aa,aH next,aH ae]::M) rfl
 have last:(o8 ⟨aa,next,ae⟩ dir s != 0)=false->∀u,aa≠[]/\∀b c M,aL (aq dp) 224 [dC 2,aH dir,.str s,aH next] (b::c :: cL [aV (eS aa ⟨next,kind,1,[],[],u⟩),aH (nc (next+1)),aH ae]::M) =
   some (.tuple [],b::c :: cL (aY (hU ⟨eS aa ⟨next,kind,1,[],[],u⟩,nc (next+1),ae⟩ dir s next))::M):=fun hm u=>by
  obtain⟨d,d1,d2,d3,d4,d5,d6,d7⟩:=TM hm;have dm:=cr d1;have cA:=iC d dm.1;simp only at cA;refine⟨by rintro rfl; simp[find] at d1,fun b c M=>?_⟩
  have hz1:Sz 1001 ⟨eS aa ⟨next,kind,1,[],[],u⟩,nc (next+1),ae⟩:=hz.with (n:=⟨next,kind,1,[],[],u⟩) dk dk (nc (next+1)) ae
  have hf:find (eS aa ⟨next,kind,1,[],[],u⟩) dir=some d:=by rw[hV hr.iW,aj ic]; exact d1
  exact Wl (eS aa ⟨next,kind,1,[],[],u⟩) (nc (next+1)) ae dir s next (oe hr.iW _) (hz1.small aM).aa hf (hr.aK d dm.1) aM d4 2 (b::c :: cL [aV (eS aa ⟨next,kind,1,[],[],u⟩),aH (nc (next+1)),aH ae]::M) rfl
 refine aw ?_;simp only[Y0,aaa,bD,aY,hk,EN,seval]
 repeat' ((first|apply bW|apply c8|apply fq)<;>intro hb<;>simp only[hb,EN,aaa,hk,seval])
 all_goals try (clear hk last; simp_all only[JL,bD,aY,vK,↓reduceIte,reduceCtorEq,an]; done)
 all_goals
  have hm:(o8 ⟨aa,next,ae⟩ dir s != 0)=false:=by assumption
  have h0:=(last hm 0).1
  have hp:∀u b c M,aL (aq dp) 223 [dC 2,.agg [aH next,aH kind,aH 1,ka [],ka [],aH u]] (b::c :: cL [aV aa,aH (nc (next+1)),aH ae]::M) =
    some (.tuple [],b::c :: cL [aV (eS aa ⟨next,kind,1,[],[],u⟩),aH (nc (next+1)),aH ae]::M):=fun u b c M=>Oi aa (nc (next+1)) ae next kind 1 [] [] u hr.iW h0 hn 2 (b::c :: cL [aV aa,aH (nc (next+1)),aH ae]::M) rfl
  have hl:=fun u=>(last hm u).2
  simp only[aaa,hp,hl,aY,EN,seval];clear hk last hp hl;simp_all only[JL,bD,aY,vK,↓reduceIte,reduceCtorEq,an]
def lnW(t:Tree)(ar to:Int)(s:Bytes):Tree×Int :=
 if !(find t.aa ar).isSome||((bO t.aa ar).kind==1&&(bO t.aa ar).df==0) then (t,70) else if (bO t.aa ar).kind==2 then (t,72) else
 if o8 t to s != 0 then (t,o8 t to s) else
 (hU ⟨eS t.aa { bO t.aa ar with df:=nc ((bO t.aa ar).df+1) },t.next,t.ae⟩ to s ar,0)
def ak7(t:Tree)(ar dir:Int)(s:Bytes)(hz:Sz 1000 t)(hr:wQ t)(hs:s.length<=100000)(ha:oV s) :
  aq dp 172 [bD t,aH ar,aH dir,.str s] []=some (.tuple [bD (lnW t ar dir s).1,aH (lnW t ar dir s).2],[]):=by
 obtain⟨aa,next,ae⟩:=t
 have ht:Small ⟨aa,next,ae⟩:=hz.small aM
 have hn:aa.length<=100000:=ht.aa;have hg:=fun b c M=>GD aa next ae ar hr.iW hn 2 (b::c :: cL [aV aa,aH next,aH ae]::M) rfl
 have hk:=fun b c M=>ahV aa next ae dir s ht hr hs ha 2 (b::c :: cL [aV aa,aH next,aH ae]::M) rfl
 have last:(o8 ⟨aa,next,ae⟩ dir s != 0)=false->(find aa ar).isSome=true->((bO aa ar).kind==2)=false->∀l,aa≠[]/\∀b c M,aL (aq dp) 224 [dC 2,aH dir,.str s,aH ar] (b::c :: cL [aV (eS aa { bO aa ar with df:=l }),aH next,aH ae]::M) =
   some (.tuple [],b::c :: cL (aY (hU ⟨eS aa { bO aa ar with df:=l },next,ae⟩ dir s ar))::M):=fun hm hi hkd l=>by
  obtain⟨d,d1,d2,d3,d4,d5,d6,d7⟩:=TM hm;have dm:=cr d1;refine⟨by rintro rfl; simp[find] at d1,fun b c M=>?_⟩
  have hfd:=hz.find ar;have hz1:Sz 1001 ⟨eS aa { bO aa ar with df:=l },next,ae⟩:=hz.with (n:={ bO aa ar with df:=l }) (iP hfd.1) hfd.2 next ae
  obtain⟨n,hfn⟩:=gU.1 hi;have hnn:bO aa ar=n:=by simp[bO,hfn]
  have hne:¬dir=(bO aa ar).ar:=fun he=>by
   rw[hnn] at he hkd;have h1:=(cr hfn).2;rw[he,h1,hfn] at d1;injection d1 with d1
   subst d1;simp[d2] at hkd
  have hf:find (eS aa { bO aa ar with df:=l }) dir=some d:=by rw[hV hr.iW,aj hne]; exact d1
  exact Wl (eS aa { bO aa ar with df:=l }) next ae dir s ar (oe hr.iW _) (hz1.small aM).aa hf (hr.aK d dm.1) aM d4 2 (b::c :: cL [aV (eS aa { bO aa ar with df:=l }),aH next,aH ae]::M) rfl
 refine aw ?_;simp only[Y1,aab,bD,aY,hg,bJ,aI,EN,seval]
 repeat' ((first|apply bW|apply c8|apply fq)<;>intro hb<;>simp only[hb,EN,aab,hk,seval])
 all_goals try (clear hk hg last; simp_all only[lnW,bD,aY,vK,↓reduceIte,reduceCtorEq,an]; done)
 all_goals
  have hm:(o8 ⟨aa,next,ae⟩ dir s != 0)=false:=by assumption
  have h2:((bO aa ar).kind==2)=false:=by assumption
  have h3:(!(find aa ar).isSome)=false:=by assumption
  have h3:(find aa ar).isSome=true:=by simpa using h3
  have h0:=(last hm h3 h2 0).1;have hp:=fun a b c d e u x y M=>Oi aa next ae a b c d e u hr.iW h0 hn 2 (x::y :: cL [aV aa,aH next,aH ae]::M) rfl
  have hl:=fun l=>(last hm h3 h2 l).2
  simp only[aab,hp,hl,aY,EN,seval];clear hk hg last hp hl;simp_all only[lnW,bD,aY,vK,↓reduceIte,reduceCtorEq,an]
def look_ok{aa:List Node}{dir:Int}{s:Bytes}(h:((eB aa dir s).2 != 0)=false):∃d e,find aa dir=some d/\d.kind=2/\dB s=true/\eE d.aK s=some e/\eB aa dir s=(e.ar,0):=by
 have h:(eB aa dir s).2=0:=by simpa using h
 have h':=h;unfold eB at h;split at h
 ·rename_i hc; exact absurd h hc
 ·rename_i hc;obtain⟨d,h1,h2,h3⟩:=yL (by simpa using hc)
  rw[h3] at h;split at h
  ·cases h
  ·rename_i hk;split at h
   ·cases h
   ·rename_i e he;have hk:dB s=true:=by simpa using hk
    refine⟨d,e,h1,h2,hk,he,?_⟩;unfold eB;rw[h3];simp[hk,he]
def Z5(t:Tree)(dir:Int)(s:Bytes):Tree×Int×Int :=
 if (eB t.aa dir s).2 != 0 then (t,0,(eB t.aa dir s).2) else if decide ((0:Int)<(bO t.aa (eB t.aa dir s).1).aK.length) then (t,0,74) else
 (⟨kq (dU t.aa dir s) (bO t.aa (eB t.aa dir s).1),t.next,t.ae⟩,(eB t.aa dir s).1,0)
def Ip{aa:List Node}(h:ng aa){dir:Int}{s:Bytes}{d:Node}(hf:find aa dir=some d):dU aa dir s≠[]:=by
 intro hc
 have:({ d with aK:=fO d.aK s }:Node)∈dU aa dir s:=by
  unfold dU;rw[hf];exact(vw h).2 (.inl rfl)
 rw[hc] at this;cases this
def ak8(t:Tree)(dir:Int)(s:Bytes)(hz:Sz 1000 t)(hr:wQ t)(hs:s.length<=100000)(ha:oV s) :
  aq dp 174 [bD t,aH dir,.str s] []=some (.tuple [bD (Z5 t dir s).1,aH (Z5 t dir s).2.1,aH (Z5 t dir s).2.2],[]):=by
 obtain⟨aa,next,ae⟩:=t
 have ht:Small ⟨aa,next,ae⟩:=hz.small aM
 have hn:aa.length<=100000:=ht.aa;have hg:=fun b c M=>GD aa next ae (eB aa dir s).1 hr.iW hn 2 (b::c :: cL [aV aa,aH next,aH ae]::M) rfl
 have hl:=fun M=>Wj aa next ae dir s ht hr hs ha M
 refine aw ?_;simp only[Y3,PC,bD,aY,hl,EN,seval];refine bW (fun hb=>?_) (fun hb=>?_)
 ·simp only[PC,hb,EN,seval];clear hg hl;simp_all only[Z5,bD,aY,vK,↓reduceIte,reduceCtorEq,an]
 obtain⟨d,e,d1,d2,d3,d4,d5⟩:=look_ok hb;have dm:=cr d1;have hde:d.aK.length<=1000:=hz.aK d dm.1;have hsz:Sz 1001 ⟨dU aa dir s,next,ae⟩:=hz.left dir s next ae
 have hv:=fun x y M=>abL aa next ae dir s hr.iW hn d1 (hr.aK d dm.1) aM 2 (x::y :: cL [aV aa,aH next,aH ae]::M) rfl
 have hu:=fun a b c d' e' u x y M=>ahW (dU aa dir s) next ae a b c d' e' u (hr.left dir s next ae).iW (Ip hr.iW d1) (hsz.small aM).aa 2 (x::y :: cL [aV (dU aa dir s),aH next,aH ae]::M) rfl
 simp only[PC,hb,hg,bJ,aI,EN,seval];refine bW (fun hb1=>?_) (fun hb1=>?_)
 ·simp only[PC,hb1,EN,seval];clear hg hl hv hu;simp_all only[Z5,bD,aY,vK,↓reduceIte,reduceCtorEq,an]
 ·simp only[PC,hb1,hv,hu,EN,seval];clear hg hl hv hu d5;simp_all only[Z5,bD,aY,vK,↓reduceIte,reduceCtorEq,an]
def Kx(x:Int):List Int->Nat->Int
 | [],_ => -1
 |n::r,i=>if x==n then i else Kx x r (i+1)
def Mf(x:Int):∀(l:List Int)(i:Nat),decide ((0:Int)<=Kx x l i)=l.contains x
 | [],i=>by simp[Kx]
 |n::r,i=>by
  unfold Kx
  by_cases h:x=n
  ·simp[h]
  ·simp only[eG,h,aC,Mf x r (i+1),List.contains_cons];simp[h]
def Xd{l0:List Int}{x:Int}(hl:l0.length<=100000){k:List K}{R:Int->Option (ag×aO)}
  (hx:∀e,kr (aq dp) [.tmp 4] 0 k ⟨.exit 0,e,[]⟩=R (-1)) (hr:∀(i:Nat),kr (aq dp) [.tmp 4] 0 k ⟨.ret,[(4,aH i)],[]⟩=R i) :
  ∀(l pre:List Int),l0=pre++l->fP (aq dp) [.tmp 4] 0 k (.loop [0,1,7,8] WN) [(0,ka (l0.map mr)),(1,aH x),(7,aH l0.length),(8,aH pre.length)] []=R (Kx x l pre.length):=by
 intro l;induction l with
 |nil =>
  intro pre h;rw[cv];simp only[JB,qX h,EN,seval];exact hx _
 |cons n r ih =>
  intro pre h;rw[cv];have fx:pre.length+1<=100000:=by rw[h] at hl; simp at hl; omega
  have hw:=Lu pre n;have hi:=ih (pre++[n]) (by rw[h]; simp)
  simp only[aR,aD,aF,aN] at hi;rw[Kx];simp only[JB,pI h,lr h,EN,seval];refine bW (fun hb=>?_) (fun hb=>?_)
  ·simp only[JB,hb,EN,seval];exact hr _
  ·simp only[JB,hb,hw,af,EN,seval];exact hi
def alF(l:List Int)(x:Int)(hl:l.length<=100000):aq dp 255 [ka (l.map mr),aH x] []=some (aH (Kx x l 0),[]):=by
 refine aw ?_;simp only[Zx,JB,EN,seval];exact Xd (R:=fun z=>some (aH z,[])) hl (fun e=>by simp only[JB,EN,seval]) (fun i=>by simp only[JB,EN,seval]) l [] rfl
def amB l x hl:=cP (alF l x hl)
def alw(l:List Int)(x:Int)(hl:l.length<=100000):aq dp 229 [ka (l.map mr),aH x] []=some (.bool (l.contains x),[]):=by
 refine aw ?_;simp only[Zn,ajU,amB,hl,Mf,EN,seval]
def ahX l x hl:=cP (alw l x hl)
def uT(aa:List Node)(at' own ar:Int)(n:Node):Bool :=
 n.kind==2&&((o4 aa n.ar).contains ar&&(decide ((12:Int)<nc (nc (nc (at'+(o4 aa n.ar).length)-1)-own))||(nc (nc (nc (at'+(o4 aa n.ar).length)-1)-own)==12&&decide ((0:Int)<n.aK.length))))
abbrev ti(aa:List Node)(next ae at' own ar:Int):aO:=[.cells [.ptr 4 0],.cells [.int .i64 at'],.cells [.int .i64 own],.cells [.int .i64 ar],.cells [aV aa,.int .i64 next,.int .i64 ae]]
def alH(aa:List Node)(next ae at' own ar:Int)(n:Node)(h:ng aa)(hn:aa.length<=99999) :
  aq dp 257 [bJ n,dC 0,dC 1,dC 2,dC 3] (ti aa next ae at' own ar)=some (.bool (uT aa at' own ar n),ti aa next ae at' own ar):=by
 refine aw ?_;have hk:=fun a b c d M=>Rh aa next ae n.ar h aM 4 (a::b::c::d :: cL [aV aa,aH next,aH ae]::M) rfl
 have hl:=sQ aa n.ar;have hc:=fun M=>ahX (o4 aa n.ar) ar aM M
 simp only[Zz,aeH,ti,bJ,aI,EN,seval]
 repeat' ((first|apply bW|apply c8|apply fq)<;>intro hb<;>simp only[hb,EN,aeH,hk,hc,seval])
 all_goals (clear hk hc; simp_all only[uT,nc,bne,gF,Bool.not_eq_false',vK,↓reduceIte,reduceCtorEq,an]; done)
end
def ZO(aa:List Node)(next ae at' own ar:Int):kV (ti aa next ae at' own ar) (jb [0,1,2,3,4]) [0,1,2,3,4]=some (ti aa next ae at' own ar):=rfl
def aiE(aa:List Node)(next ae at' own ar:Int):kV [cL [aV aa,aH next,aH ae],cL [dC 0],cL [aH ar],cL [aH at'],cL [aH own]] (jb [1,3,4,2,0]) [1,3,4,2,0]=some (ti aa next ae at' own ar):=rfl
section
attribute [local irreducible] fP fm kM gK dH kr aq aL cH bP
def amD(aa:List Node)(next ae at' own ar:Int)(n:Node)(h:ng aa)(hn:aa.length<=99999) :
  aL (aq dp) 257 [.agg (aI n),dC 0,dC 1,dC 2,dC 3] (ti aa next ae at' own ar)=some (.bool (uT aa at' own ar n),ti aa next ae at' own ar) :=
 mS (ids:=[0,1,2,3,4]) rfl rfl (ZO ..) rfl rfl (alH aa next ae at' own ar n h hn) rfl rfl rfl rfl rfl
def alM(aa:List Node)(next ae at' own ar:Int)(h:ng aa)(hn:aa.length<=99999):aq dp 278 [aV aa,.func 257 [dC 0,dC 1,dC 2,dC 3]] (ti aa next ae at' own ar) =
  some (aH (rE (uT aa at' own ar) aa 0),ti aa next ae at' own ar) :=
 ahA (N:=100000) (sz:=6) (e:=aI) gd rfl aM (fun _=>rfl) (fun _=>rfl) rfl rfl fun x _ => .inl ⟨_,_,rfl,amD aa next ae at' own ar x h hn⟩
def amG(aa:List Node)(next ae at' own ar:Int)(h:ng aa)(hn:aa.length<=99999):aL (aq dp) 278 [aV aa,.func 257 [dC 0,dC 1,dC 2,dC 3]] (ti aa next ae at' own ar) =
  some (aH (rE (uT aa at' own ar) aa 0),ti aa next ae at' own ar) :=
 mS (ids:=[0,1,2,3,4]) rfl rfl (ZO ..) rfl rfl (alM aa next ae at' own ar h hn) rfl rfl rfl rfl rfl
def alG(aa:List Node)(next ae at' own ar:Int)(h:ng aa)(hn:aa.length<=99999):aq dp 256 [aV aa,.func 257 [dC 0,dC 1,dC 2,dC 3]] (ti aa next ae at' own ar) =
  some (.bool (aa.any (uT aa at' own ar)),ti aa next ae at' own ar):=by
 refine aw ?_;have hk:=amG aa next ae at' own ar h hn
 simp only[ti] at hk;simp only[Zy,aj1,ti,hk,H6,EN,seval]
def amC(aa:List Node)(next ae at' own ar:Int)(h:ng aa)(hn:aa.length<=99999) :
  aL (aq dp) 256 [aV aa,.func 257 [dC 1,dC 3,dC 4,dC 2]] [cL [aV aa,aH next,aH ae],cL [dC 0],cL [aH ar],cL [aH at'],cL [aH own]] =
  some (.bool (aa.any (uT aa at' own ar)),[cL [aV aa,aH next,aH ae],cL [dC 0],cL [aH ar],cL [aH at'],cL [aH own]]) :=
 mS (ids:=[1,3,4,2,0]) rfl rfl (aiE ..) rfl rfl (alG aa next ae at' own ar h hn) rfl rfl rfl rfl rfl
def HL(aa:List Node)(ar at':Int):Bool:=aa.any (uT aa at' (sj aa ar) ar)
def aly(aa:List Node)(next ae ar at':Int)(h:ng aa)(hn:aa.length<=99999):aq dp 231 [dC 0,aH ar,aH at'] [cL [aV aa,aH next,aH ae]] =
  some (.bool (HL aa ar at'),[cL [aV aa,aH next,aH ae]]):=by
 refine aw ?_;have hk:∀M,aL (aq dp) 248 [dC 0,aH ar] (cL [aV aa,aH next,aH ae]::M)=some (aH (sj aa ar),cL [aV aa,aH next,aH ae]::M):=fun M=>ah0 aa next ae ar h aM 0 (cL [aV aa,aH next,aH ae]::M) rfl
 have hd:=amC aa next ae at' (sj aa ar) ar h hn
 unfold HL;simp only[Zp,ajV,hk,hd,EN,seval]
def amx aa next ae ar at' h hn p M hM:=cM (p:=p) (M:=M) hM (aly aa next ae ar at' h hn)
def xb(l:List eM)(s:Bytes):eE (fO l s) s=none:=by
 unfold eE fO;rw[eJ];intro e he;have:=(fj.1 he).2;simpa using this
def rX{l:List eM}{s r:Bytes}(h:eE l r=none):eE (fO l s) r=none:=by
 unfold eE fO at *;rw[eJ] at *;exact fun e he=>h e (fj.1 he).1
def jh{aa:List Node}(h:ng aa){dir:Int}{s:Bytes}{d:Node}(hf:find aa dir=some d)(i:Int):find (dU aa dir s) i=if i=dir then some { d with aK:=fO d.aK s } else find aa i:=by
 have hd:=(cr hf).2;unfold dU;rw[hf];simp only[bQ];rw[hV h,show({ d with aK:=fO d.aK s }:Node).ar=dir from hd]
def G6{aa:List Node}(h:ng aa)(n:Node):ng (kq aa n):=by
 unfold kq;split
 ·exact tG h _
 ·exact oe h _
def D9{aa:List Node}(h:ng aa)(n:Node){i:Int}(hi:i≠n.ar):find (kq aa n) i=find aa i:=by
 unfold kq;split
 ·rw[sd h,aj hi]
 ·rw[hV h,aj hi]
def Sz.kq{b:Nat}{t:Tree}(h:Sz b t){n:Node}(h1:n.aK.length<=b+1)(h2:n.data.length<=100000)(next ae:Int):Sz (b+1) ⟨kq t.aa n,next,ae⟩:=by
 unfold Go.Proofs.YtcbopkblmebjiaaGreatDoor.kq;split
 ·exact(h.Af _ next ae).up aM
 ·exact h.with (n:={ n with df:=nc (n.df-1) }) h1 h2 next ae
def yt(t:Tree)(dir:Int)(s:Bytes)(to:Int)(nm:Bytes)(ar:Int)(x y:Node)(there:Bool):Tree :=
 hU ⟨if x.kind==2 then eS (if there then kq (dU (dU t.aa dir s) to nm) y else dU t.aa dir s) { x with up:=to }
  else if there then kq (dU (dU t.aa dir s) to nm) y else dU t.aa dir s,t.next,t.ae⟩ to nm ar
set_option maxHeartbeats 1000000 in
def ad6(aa:List Node)(next ae dir:Int)(s:Bytes)(to:Int)(nm:Bytes)(ar:Int)(x y:Node)(there:Bool)(v5 v140:ag)(B0 Bd:dg)(yr:List ag)(hyr:there=true->aH y.ar::yr=aI y)(hz:Sz 1000 ⟨aa,next,ae⟩)(hr:wQ ⟨aa,next,ae⟩){dd dt:Node}(hdir:find aa dir=some dd)(hto:find aa to=some dt)
  (hth:there=false->eE dt.aK nm=none) (hx:(x.kind==2)=true->x.ar≠to) (hy:there=true->y.ar≠to) (hx1:x.aK.length<=1000) (hx2:x.data.length<=100000) (hy1:y.aK.length<=1000) (hy2:y.data.length<=100000) :
  fP (aq dp) [.fI 10 3,.tmp 11,.tmp 12] 0 [] MO [(1,aH dir),(2,.str s),(3,aH to),(4,.str nm),(5,v5),(10,dC 1),(13,aH ar),(15,dC 2),(17,dC 4),(19,dC 5),(21,.bool there),(140,v140)]
   [B0,.cells zT,cL [aV aa,aH next,aH ae],Bd,cL (aI x),cL (aH y.ar::yr)]=some (.tuple [bD (yt ⟨aa,next,ae⟩ dir s to nm ar x y there),aH y.ar,aH 0],[]):=by
 have hasc:ng aa:=hr.iW;have n1:=hz.left dir s next ae
 have a1:ng (dU aa dir s):=(hr.left dir s next ae).iW
 have e1:nJ dd.aK:=hr.aK dd (cr hdir).1;have e2:nJ dt.aK:=hr.aK dt (cr hto).1;have l1:dd.aK.length<=1000:=hz.aK dd (cr hdir).1;have l2:dt.aK.length<=1000:=hz.aK dt (cr hto).1
 obtain⟨d1,f1,g1,m1,q1⟩:∃d1,find (dU aa dir s) to=some d1/\nJ d1.aK/\d1.aK.length<=1000/\(eE dt.aK nm=none->eE d1.aK nm=none):=by
  rw[jh hasc hdir];split
  ·rename_i he;subst he;rw[hdir] at hto; cases hto;exact⟨_,rfl,vk e1 s,bg (AD _ _) l1,rX⟩
  ·exact⟨dt,hto,e2,l2,id⟩
 have hv1:=fun a b M=>abL aa next ae dir s hasc (hz.small aM).aa hdir e1 aM 2 (a::b :: cL [aV aa,aH next,aH ae]::M) rfl
 have fin:∀(n3:List Node)(d3:Node),ng n3->Sz 1003 ⟨n3,next,ae⟩->find n3 to=some d3->nJ d3.aK->d3.aK.length<=1000->eE d3.aK nm=none ->
   (∀a b M,aL (aq dp) 224 [dC 2,aH to,.str nm,aH ar] (a::b :: cL [aV n3,aH next,aH ae]::M)=some (.tuple [],a::b :: cL (aY (hU ⟨n3,next,ae⟩ to nm ar))::M)) /\
   ((x.kind==2)=true->(∀a b M,aL (aq dp) 223 [dC 2,.agg [aH x.ar,aH x.kind,aH x.df,mc x.data,iU x.aK,aH to]] (a::b :: cL [aV n3,aH next,aH ae]::M) =
     some (.tuple [],a::b :: cL [aV (eS n3 { x with up:=to }),aH next,aH ae]::M)) /\
    ∀a b M,aL (aq dp) 224 [dC 2,aH to,.str nm,aH ar] (a::b :: cL [aV (eS n3 { x with up:=to }),aH next,aH ae]::M)=some (.tuple [],a::b :: cL (aY (hU ⟨eS n3 { x with up:=to },next,ae⟩ to nm ar))::M)):=by
  intro n3 d3 b1 b2 b3 b4 b5 b6;have h0:n3≠[]:=by rintro rfl; simp[find] at b3
  refine⟨fun a b M=>Wl n3 next ae to nm ar b1 (b2.small aM).aa b3 b4 aM b6 2 (a::b :: cL [aV n3,aH next,aH ae]::M) rfl,fun hk=>⟨fun a b M=>Oi n3 next ae x.ar x.kind x.df x.data x.aK to b1 h0 (b2.small aM).aa 2 (a::b :: cL [aV n3,aH next,aH ae]::M) rfl,fun a b M=>?_⟩⟩
  have b7:Sz 1004 ⟨eS n3 { x with up:=to },next,ae⟩:=b2.with (n:={ x with up:=to }) (bg hx1 aM) hx2 next ae
  have b8:find (eS n3 { x with up:=to }) to=some d3:=by rw[hV b1,aj (fun he=>hx hk he.symm)]; exact b3
  exact Wl (eS n3 { x with up:=to }) next ae to nm ar (oe b1 _) (b7.small aM).aa b8 b4 aM b6 2 (a::b :: cL [aV (eS n3 { x with up:=to }),aH next,aH ae]::M) rfl
 cases hth':there with
 |false =>
  obtain⟨w1,w2⟩:=fin (dU aa dir s) d1 a1 (n1.up aM) f1 g1 m1 (q1 (hth hth'));cases hkx:(x.kind==2) with
  |false =>
   simp only[yD,hv1,zT,aI,hkx,w1,aY,EN,seval];simp only[yt,hkx,bD,aY,vK,↓reduceIte,reduceCtorEq,an]
  |true =>
   obtain⟨w3,w4⟩:=w2 hkx;simp only[yD,hv1,zT,aI,hkx,w3,w4,aY,EN,seval];simp only[yt,hkx,bD,aY,vK,↓reduceIte,reduceCtorEq,an]
 |true =>
  have hyr':yr=[aH y.kind,aH y.df,mc y.data,iU y.aK,aH y.up]:=by have:=hyr hth'; simpa[aI] using this
  subst hyr';have a2:ng (dU (dU aa dir s) to nm):=(wQ.left (t:=⟨dU aa dir s,next,ae⟩) (hr.left dir s next ae) to nm next ae).iW
  have n2:=n1.left to nm next ae
  have f2:find (dU (dU aa dir s) to nm) to=some { d1 with aK:=fO d1.aK nm }:=by rw[jh a1 f1,av rfl]
  have hv2:=fun a b M=>abL (dU aa dir s) next ae to nm a1 (n1.small aM).aa f1 g1 aM 2 (a::b :: cL [aV (dU aa dir s),aH next,aH ae]::M) rfl
  have hu:=fun a b M=>ahW (dU (dU aa dir s) to nm) next ae y.ar y.kind y.df y.data y.aK y.up a2 (Ip a1 f1) (n2.small aM).aa 2 (a::b :: cL [aV (dU (dU aa dir s) to nm),aH next,aH ae]::M) rfl
  have f3:find (kq (dU (dU aa dir s) to nm) y) to=some { d1 with aK:=fO d1.aK nm }:=by rw[D9 a2 y (fun he=>hy hth' he.symm)]; exact f2
  obtain⟨w1,w2⟩:=fin (kq (dU (dU aa dir s) to nm) y) { d1 with aK:=fO d1.aK nm } (G6 a2 y) (n2.kq (bg hy1 aM) hy2 next ae) f3 (vk g1 nm) (bg (AD _ _) m1) (xb _ _)
  cases hkx:(x.kind==2) with
  |false =>
   simp only[yD,hv1,hv2,hu,zT,aI,hkx,w1,aY,EN,seval];simp only[yt,hkx,bD,aY,vK,↓reduceIte,reduceCtorEq,an]
  |true =>
   obtain⟨w3,w4⟩:=w2 hkx;simp only[yD,hv1,hv2,hu,zT,aI,hkx,w3,w4,aY,EN,seval];simp only[yt,hkx,bD,aY,vK,↓reduceIte,reduceCtorEq,an]
def lR(aa:List Node)(l:List eM)(s:Bytes):Node:=match eE l s with
 |none=>Node.zero
 |some e=>bO aa e.ar
def Dp(t:Tree)(dir to:Int)(aK:List eM)(there:Bool)(kind ar:Int):Bool :=
 ((!there&&to != dir)&&decide ((64:Int)<=aK.length))||(decide ((12:Int)<(o4 t.aa to).length)||((kind==2&&HL t.aa ar (o4 t.aa to).length)||decide ((1099511627776:Int)<=t.ae)))
def Mx(t:Tree)(dir:Int)(s:Bytes)(to:Int)(nm:Bytes):Tree×Int×Int :=
 if (eB t.aa dir s).2 != 0 then (t,0,(eB t.aa dir s).2) else
 if (gM t.aa to).2 != 0 then (t,0,(gM t.aa to).2) else
 if !dB nm then (t,0,60) else
 if (lR t.aa (gM t.aa to).1.aK nm).ar==(eB t.aa dir s).1 then (t,0,0) else
 if (bO t.aa (eB t.aa dir s).1).kind==2&&(o4 t.aa to).contains (eB t.aa dir s).1 then (t,0,75) else
 if (eE (gM t.aa to).1.aK nm).isSome&&zQ (bO t.aa (eB t.aa dir s).1) (lR t.aa (gM t.aa to).1.aK nm) != 0 then (t,0,zQ (bO t.aa (eB t.aa dir s).1) (lR t.aa (gM t.aa to).1.aK nm)) else
 if Dp t dir to (gM t.aa to).1.aK (eE (gM t.aa to).1.aK nm).isSome (bO t.aa (eB t.aa dir s).1).kind (eB t.aa dir s).1 then (t,0,76) else
 (yt t dir s to nm (eB t.aa dir s).1 (bO t.aa (eB t.aa dir s).1) (lR t.aa (gM t.aa to).1.aK nm) (eE (gM t.aa to).1.aK nm).isSome,(lR t.aa (gM t.aa to).1.aK nm).ar,0)
def ahY(a b c:Int)(d:Bytes)(e:List eM)(u:Int)(a' b' c':Int)(d':Bytes)(e':List eM)(u':Int)(M:aO):aL (aq dp) 230 [.agg [aH a,aH b,aH c,mc d,iU e,aH u],.agg [aH a',aH b',aH c',mc d',iU e',aH u']] M=some (aH (zQ ⟨a,b,c,d,e,u⟩ ⟨a',b',c',d',e',u'⟩),M) :=
 cO (alx ⟨a,b,c,d,e,u⟩ ⟨a',b',c',d',e',u'⟩) M
def UW(aa:List Node)(to:Int):(o4 aa to).contains to=true:=by
 have key:∀(m:Nat)(ar:Int)(out:List Int),out.contains to=true->(pP aa m ar out).contains to=true:=by
  intro m;induction m with
  |zero=>intro ar out h; exact h
  |succ m ih =>
   intro ar out h;rw[pP];split
   ·split
    ·exact h
    ·exact ih _ _ (by simp at h ⊢; exact .inl h)
   ·exact h
 exact key _ _ _ dk
def TU{aa:List Node}{i:Int}(h:(bO aa i).kind=2):(bO aa i).ar=i:=by
 cases hf:find aa i with
 |none=>simp[bO,hf,Node.zero] at h
 |some n=>simp[bO,hf]; exact(cr hf).2
set_option maxHeartbeats 4000000 in
def ala(t:Tree)(dir:Int)(s:Bytes)(to:Int)(nm:Bytes)(hz:Sz 1000 t)(hr:wQ t)(hs:s.length<=100000)(ha:oV s)(hs':nm.length<=100000)(ha':oV nm)
  (Md:∀e,eE (gM t.aa to).1.aK nm=some e->(bO t.aa e.ar).ar≠to) :
  aq dp 176 [bD t,aH dir,.str s,aH to,.str nm] []=some (.tuple [bD (Mx t dir s to nm).1,aH (Mx t dir s to nm).2.1,aH (Mx t dir s to nm).2.2],[]):=by
 obtain⟨Q,hQ⟩:∃Q,MO=Q:=⟨_,rfl⟩;obtain⟨aa,next,ae⟩:=t
 have ht:Small ⟨aa,next,ae⟩:=hz.small aM
 have hn:aa.length<=100000:=ht.aa;have hasc:ng aa:=hr.iW;have hl:=fun M=>Wj aa next ae dir s ht hr hs ha M
 have hg:=fun i b c M=>GD aa next ae i hasc hn 2 (b::c :: cL [aV aa,aH next,aH ae]::M) rfl
 have hd:=fun b c M=>Wk aa next ae to hasc hn 2 (b::c :: cL [aV aa,aH next,aH ae]::M) rfl
 have hup:=fun b c M=>Rh aa next ae to hasc hn 2 (b::c :: cL [aV aa,aH next,aH ae]::M) rfl
 have hul:=sQ aa to;have hn1:aa.length<=1000:=hz.aa;have hc:=fun x M=>ahX (o4 aa to) x aM M
 have hdp:=fun i a b c M=>amx aa next ae i a hasc aM 2 (b::c :: cL [aV aa,aH next,aH ae]::M) rfl
 have hE:nJ (gM aa to).1.aK:=hr.dir to;have hde:(gM aa to).1.aK.length<=100000:=tK ht to;have hen:=fun a b c d u M=>Ri a b c d (gM aa to).1.aK u nm _ (sf hE nm) hde M
 refine aw ?_;simp only[Y5,yD,hQ,bD,aY,hl,EN,seval];refine bW (fun hb0=>?_) (fun hb0=>?_)
 ·simp only[yD,hQ,hb0,EN,seval];clear hl hg hd hup hc hdp hen Md;simp_all only[Mx,bD,aY,vK,↓reduceIte,reduceCtorEq,an]
 simp only[yD,hQ,hb0,hd,bJ,aI,EN,seval];refine bW (fun hb1=>?_) (fun hb1=>?_)
 ·simp only[yD,hQ,hb1,EN,seval];clear hl hg hd hup hc hdp hen Md;simp_all only[Mx,bD,aY,vK,↓reduceIte,reduceCtorEq,an]
 simp only[yD,hQ,hb1,Rc,hs',ha',EN,seval];refine bW (fun hb2=>?_) (fun hb2=>?_)
 ·simp only[yD,hQ,hb2,EN,seval];clear hl hg hd hup hc hdp hen Md;simp_all only[Mx,bD,aY,vK,↓reduceIte,reduceCtorEq,an]
 simp only[yD,hQ,hb2,hg,hen,bJ,aI,EN,seval];obtain⟨dd,de,e1,e2,e3,e4,e5⟩:=look_ok hb0;obtain⟨dt,g1,g2,g3⟩:=yL (show(gM aa to).2=0 by simpa using hb1)
 have hx0:=hz.find (eB aa dir s).1;have tail:=fun there y yr hyr hth hy hy1 hy2 v5 v140 B0 Bd hxx=>ad6 aa next ae dir s to nm (eB aa dir s).1 (bO aa (eB aa dir s).1) y there v5 v140 B0 Bd yr hyr hz hr e1 g1 hth hxx hy hx0.1 hx0.2 hy1 hy2
 have hxne:((bO aa (eB aa dir s).1).kind==2)=true->(o4 aa to).contains (eB aa dir s).1=false->(bO aa (eB aa dir s).1).ar≠to:=fun h1 h2 h3=>by
  rw[TU (by simpa using h1)] at h3
  rw[h3,UW] at h2; cases h2
 have hdte:dt.aK=(gM aa to).1.aK:=by rw[g3]
 rcases wW hE nm with ⟨h1,o,h2,h3,h4⟩|⟨h1,h2⟩
 ·have hnu:lR aa (gM aa to).1.aK nm=bO aa o.ar:=by simp[lR,h3]
  have hy0:=hz.find o.ar;have tl:=tail true (bO aa o.ar) _ (fun _=>rfl) dk (fun _=>Md o h3) hy0.1 hy0.2
  simp only[aI,zT] at tl;simp only[yD,hQ,h1,h2,hg,bJ,aI,dJ,EN,seval]
  repeat' ((first|apply bW|apply c8|apply fq)<;>intro hb<;>simp only[hb,EN,yD,hQ,hup,hc,hdp,ahY,seval])
  all_goals try (clear hl hg hd hup hc hdp hen Md tail tl hxne e5 g3; simp_all only[Mx,Dp,bD,aY,dD,vK,↓reduceIte,reduceCtorEq,an]; done)
  all_goals
   subst hQ;refine(tl _ _ _ _ (fun hk=>by first|exact hxne hk (by assumption)|(exfalso; simp_all; done))).trans ?_
   have hmv:Mx ⟨aa,next,ae⟩ dir s to nm=(yt ⟨aa,next,ae⟩ dir s to nm (eB aa dir s).1 (bO aa (eB aa dir s).1) (bO aa o.ar) true,(bO aa o.ar).ar,0):=by
    clear hl hg hd hup hc hdp hen Md tail tl hxne e5 g3;simp_all only[Mx,Dp,dD,vK,↓reduceIte,reduceCtorEq,an]
   rw[hmv];rfl
 ·have hnu:lR aa (gM aa to).1.aK nm=Node.zero:=by simp[lR,h2]
  have tl:=tail false Node.zero [aH 0,aH 0,.slice .c0 [],.slice .c0 [],aH 0] dk (fun _=>by rw[hdte]; exact h2) dk (by simp[Node.zero]) (by simp[Node.zero])
  have hz0:Node.zero.ar=0:=rfl;simp only[aI,zT,hz0] at tl;simp only[yD,hQ,h1,EN,seval]
  repeat' ((first|apply bW|apply c8|apply fq)<;>intro hb<;>simp only[hb,EN,yD,hQ,hup,hc,hdp,ahY,seval])
  all_goals try (clear hl hg hd hup hc hdp hen Md tail tl hxne e5 g3; simp_all only[Mx,Dp,bD,aY,jl,vK,↓reduceIte,reduceCtorEq,an]; done)
  all_goals
   subst hQ;refine(tl _ _ _ _ (fun hk=>by first|exact hxne hk (by assumption)|(exfalso; simp_all; done))).trans ?_
   have hmv:Mx ⟨aa,next,ae⟩ dir s to nm=(yt ⟨aa,next,ae⟩ dir s to nm (eB aa dir s).1 (bO aa (eB aa dir s).1) Node.zero false,0,0):=by
    clear hl hg hd hup hc hdp hen Md tail tl hxne e5 g3;simp_all only[Mx,Dp,jl,vK,↓reduceIte,reduceCtorEq,an]
   rw[hmv];rfl
end
def jW(l:List eM)(i:Int):Nat:=l.countP fun e=>e.ar==i
def mJ(ns:List Node)(i:Int):Nat:=(ns.map fun n=>jW n.aK i).sum
def tZ(i:Int):jW [] i=0:=rfl
def zz(a b:List eM)(i:Int):jW (a++b) i=jW a i+jW b i:=List.countP_append
def rb(e:eM)(l:List eM)(i:Int):jW (e::l) i=jW l i+(if e.ar=i then 1 else 0):=by simp[jW,List.countP_cons]
def xM(a b:List Node)(i:Int):mJ (a++b) i=mJ a i+mJ b i:=by simp[mJ]
def nR(n:Node)(l:List Node)(i:Int):mJ (n::l) i=jW n.aK i+mJ l i:=by simp[mJ]
def vh{ns:List Node}(h:ng ns)(n:Node)(i:Int):mJ (eS ns n) i+jW (bO ns n.ar).aK i=mJ ns i+jW n.aK i:=by
 rcases rp h n.ar with ⟨_,o,h2,h3,h4⟩|⟨_,h2⟩
 ·rw[tQ h h2 h4];obtain⟨s1,s2⟩:=yb (n:=n) h2
  have e1:mJ ns i=mJ (ns.take (lx ns n.ar)) i+(jW o.aK i+mJ (ns.drop (lx ns n.ar+1)) i):=by
   rw[<-nR,<-xM,<-s1]
  rw[s2,xM,nR,e1];simp only[bO,h3,bQ];omega
 ·rw[yd h h2]
  have e1:mJ ns i=mJ (ns.take (lx ns n.ar)) i+mJ (ns.drop (lx ns n.ar)) i:=by
   rw[<-xM,c9]
  rw[xM,nR,e1];simp only[bO,h2,nG,Node.zero,tZ];omega
def zA{ns:List Node}(h:ng ns)(k i:Int):mJ (je ns k) i+jW (bO ns k).aK i=mJ ns i:=by
 rcases rp h k with ⟨_,o,h2,h3,h4⟩|⟨_,h2⟩
 ·rw[Ag h h2 h4];obtain⟨s1,_⟩:=yb (n:=o) h2
  have e1:mJ ns i=mJ (ns.take (lx ns k)) i+(jW o.aK i+mJ (ns.drop (lx ns k+1)) i):=by
   rw[<-nR,<-xM,<-s1]
  rw[xM,e1];simp only[bO,h3,bQ];omega
 ·rw[yA h2];simp only[bO,h2,nG,Node.zero,tZ];omega
def ua{l:List eM}{i:Int}:0<jW l i↔∃e,e∈l/\e.ar=i:=by simp[jW,oE]
theorem pS{i:Int}:∀ {ns:List Node},0<mJ ns i↔∃n e,n∈ns/\e∈n.aK/\e.ar=i
 | []=>by simp[mJ]
 |n::ns=>by
  rw[nR];constructor
  ·intro h;rcases eL (jW n.aK i) with h0|h0
   ·obtain⟨m,e,h1,h2,h3⟩:=(pS (i:=i) (ns:=ns)).1 aM;exact⟨m,e,aP _ h1,h2,h3⟩
   ·obtain⟨e,h1,h2⟩:=ua.1 h0;exact⟨n,e,aG,h1,h2⟩
  ·rintro⟨m,e,h1,h2,h3⟩;rcases ba.1 h1 with rfl|h1
   ·have:=ua.2 ⟨e,h2,h3⟩; omega
   ·have:=(pS (i:=i) (ns:=ns)).2 ⟨m,e,h1,h2,h3⟩; omega
def xk{l:List eM}(h:nJ l){e:eM}(hf:eE l e.name=none){x:eM}:x∈tu l e↔x=e\/x∈l:=by
 rw[vq h hf];have:x∈l↔x∈l.take (lQ l e.name)\/x∈l.drop (lQ l e.name):=by rw[<-bC,c9]
 rw[this,bC,ba];constructor
 ·rintro(h|h|h)
  ·exact .inr (.inl h)
  ·exact .inl h
  ·exact .inr (.inr h)
 ·rintro(h|h|h)
  ·exact .inr (.inl h)
  ·exact .inl h
  ·exact .inr (.inr h)
def ND{l:List eM}(h:nJ l){e:eM}(hf:eE l e.name=none)(i:Int):jW (tu l e) i=jW l i+(if e.ar=i then 1 else 0):=by
 rw[vq h hf,zz,rb];have:jW l i=jW (l.take (lQ l e.name)) i+jW (l.drop (lQ l e.name)) i:=by rw[<-zz,c9]
 omega
def AZ{l:List eM}{s:Bytes}{x:eM}:x∈fO l s↔x∈l/\x.name≠s:=by simp[fO,fj]
def Ld{l:List eM}{b:Nat}{o:eM}(ho:l[b]?=some o):l=l.take b++o::l.drop (b+1):=by
 have cA:=(au.1 ho).1;rw[ai cA] at ho; injection ho with ho
 conv=>lhs; rw[<-c9 b l]
 rw[cN cA,ho]
def J2{l:List eM}(h:nJ l){s:Bytes}{o:eM}(hf:eE l s=some o)(i:Int):jW (fO l s) i+(if o.ar=i then 1 else 0)=jW l i:=by
 rcases wW h s with ⟨_,o',h2,h3,h4⟩|⟨_,h2⟩
 ·rw[hf] at h3; cases h3;rw[Ey h h2 h4]
  have e1:jW l i=jW (l.take (lQ l s)) i+(jW (l.drop (lQ l s+1)) i+(if o.ar=i then 1 else 0)):=by
   rw[<-rb,<-zz,<-Ld h2]
  rw[zz,e1];omega
 ·rw[hf] at h2; cases h2
def xV{ns:List Node}(h:ng ns){n o:Node}(hf:find ns n.ar=some o):(eS ns n).length=ns.length:=by
 rcases rp h n.ar with ⟨_,o,h2,h3,h4⟩|⟨_,h2⟩
 ·rw[tQ h h2 h4,eD]
 ·rw[hf] at h2; cases h2
def Nm(s:Bytes):Prop:=dB s=true
structure cF(t:Tree)(cz:Int->Nat)(x:Int):Prop where
 jK:wQ t
 root:∃r,find t.aa 1=some r/\r.kind=2/\r.up=1
 num:∀i n,find t.aa i=some n->1<=i/\i<t.next
 kind:∀i n,find t.aa i=some n->n.kind=1\/n.kind=2
 file:∀i n,find t.aa i=some n->n.kind=1->n.aK=[]/\n.up=0/\n.data.length<=4096
 dir:∀i n,find t.aa i=some n->n.kind=2->n.data=[]
 sX:∀i n e,find t.aa i=some n->e∈n.aK->1<=e.ae/\e.ae<t.ae/\e.ar≠1/\Nm e.name/\∃m,find t.aa e.ar=some m/\(m.kind=2->m.up=i)
 wL:∀i n,find t.aa i=some n->(n.aK.Pairwise fun a b=>a.ae≠b.ae)/\n.aK.length<=64
 df:∀i n,find t.aa i=some n->n.df=(mJ t.aa i:Int)+(if i=x then 1 else 0)
 one:∀i n,find t.aa i=some n->n.kind=2->i≠1->n.df=1
 zC:cz 1=0
 sW:∀i n,find t.aa i=some n->n.kind=2->i≠1->cz i=cz n.up+1/\∃p,find t.aa n.up=some p/\p.kind=2
 deep:∀i n,find t.aa i=some n->n.kind=2->cz i<=12/\(cz i=12->n.aK=[])
 aa:t.aa.length<=200
 next:t.next<=1099511627776
 ae:1<=t.ae/\t.ae<=1099511627776
def cF.ar{t:Tree}{cz:Int->Nat}{x:Int}(_:cF t cz x){i:Int}{n:Node}(hf:find t.aa i=some n):n.ar=i:=(cr hf).2
theorem cF.gD{t t':Tree}{cz:Int->Nat}{x x' d:Int}{n n':Node}(h:cF t cz x)(hs:wQ t')(hd:find t.aa d=some n)
  (hf:∀i,find t'.aa i=if i=d then some n' else find t.aa i) (hk:n'.kind=n.kind) (hu:n'.up=n.up)
  (hfile:n.kind=1->n'.aK=[]/\n'.data.length<=4096) (hdir:n.kind=2->n'.data=[])
  (hent:∀e,e∈n'.aK->1<=e.ae/\e.ae<t'.ae/\e.ar≠1/\Nm e.name/\∃m,find t.aa e.ar=some m/\(m.kind=2->m.up=d))
  (hcook:(n'.aK.Pairwise fun a b=>a.ae≠b.ae)/\n'.aK.length<=64)
  (hc:∀i,1<=i->(mJ t'.aa i:Int)+(if i=x' then 1 else 0)=mJ t.aa i+(if i=x then 1 else 0)+(if i=d then n'.df-n.df else 0))
  (h1:n.kind=2->n'.df=n.df) (hdeep:cz d=12->n'.aK=[]) (hn:t'.aa.length<=200) (hnx:t'.next=t.next) (hck:t.ae<=t'.ae) (hck':t'.ae<=1099511627776):cF t' cz x':=by
 have tv:∀j m,find t.aa j=some m->∃m',find t'.aa j=some m'/\m'.kind=m.kind/\m'.up=m.up:=by
  grind
 have back:∀j m',find t'.aa j=some m'->(j=d/\m'=n')\/(j≠d/\find t.aa j=some m'):=by
  grind
 refine⟨hs,?_,?_,?_,?_,?_,?_,?_,?_,?_,h.zC,?_,?_,hn,by rw[hnx]; exact h.next,⟨by have:=h.ae.1; omega,hck'⟩⟩
 ·obtain⟨r,h1,h2,h3⟩:=h.root
  grind
 ·intro i m hm;rw[hnx];rcases back i m hm with ⟨rfl,rfl⟩|⟨_,hm⟩
  ·exact h.num _ _ hd
  ·exact h.num _ _ hm
 ·intro i m hm;rcases back i m hm with ⟨rfl,rfl⟩|⟨_,hm⟩
  ·rw[hk]; exact h.kind _ _ hd
  ·exact h.kind _ _ hm
 ·intro i m hm hk1;rcases back i m hm with ⟨rfl,rfl⟩|⟨_,hm⟩
  ·rw[hk] at hk1;exact⟨(hfile hk1).1,by rw[hu]; exact(h.file _ _ hd hk1).2.1,(hfile hk1).2⟩
  ·exact h.file _ _ hm hk1
 ·intro i m hm hk1;rcases back i m hm with ⟨rfl,rfl⟩|⟨_,hm⟩
  ·rw[hk] at hk1;exact hdir hk1
  ·exact h.dir _ _ hm hk1
 ·intro i m e hm he
  have key:∀m,find t.aa e.ar=some m/\(m.kind=2->m.up=i)->∃m,find t'.aa e.ar=some m/\(m.kind=2->m.up=i):=by
   grind
  rcases back i m hm with ⟨rfl,rfl⟩|⟨_,hm⟩
  ·obtain⟨a1,a2,a3,a4,k,a5⟩:=hent e he;exact⟨a1,a2,a3,a4,key k a5⟩
  ·obtain⟨a1,a2,a3,a4,k,a5⟩:=h.sX _ _ e hm he;exact⟨a1,aM,a3,a4,key k a5⟩
 ·intro i m hm;rcases back i m hm with ⟨rfl,rfl⟩|⟨_,hm⟩
  ·exact hcook
  ·exact h.wL _ _ hm
 ·intro i m hm;rcases back i m hm with ⟨rfl,rfl⟩|⟨hne,hm⟩
  ·have:=hc i (h.num _ _ hd).1;have:=h.df _ _ hd;simp only[↓reduceIte] at *;omega
  ·have:=hc i (h.num _ _ hm).1;have:=h.df _ _ hm;omega
 ·intro i m hm hk1 hi;rcases back i m hm with ⟨rfl,rfl⟩|⟨_,hm⟩
  ·rw[hk] at hk1;rw[h1 hk1]; exact h.one _ _ hd hk1 hi
  ·exact h.one _ _ hm hk1 hi
 ·intro i m hm hk1 hi;rcases back i m hm with ⟨rfl,rfl⟩|⟨_,hm⟩
  ·rw[hk] at hk1;obtain⟨a,p,b,c⟩:=h.sW _ _ hd hk1 hi
   grind
  ·obtain⟨a,p,b,c⟩:=h.sW _ _ hm hk1 hi;obtain⟨p',k1,k2,_⟩:=tv _ _ b;exact⟨a,p',k1,aM⟩
 ·intro i m hm hk1;rcases back i m hm with ⟨rfl,rfl⟩|⟨_,hm⟩
  ·rw[hk] at hk1;exact⟨(h.deep _ _ hd hk1).1,hdeep⟩
  ·exact h.deep _ _ hm hk1
theorem cF.left{t:Tree}{cz:Int->Nat}{d:Int}{n:Node}{s:Bytes}{e:eM}(h:cF t cz 0)(hd:find t.aa d=some n)(he:eE n.aK s=some e):cF ⟨dU t.aa d s,t.next,t.ae⟩ cz e.ar:=by
 have hE:nJ n.aK:=h.jK.aK n (cr hd).1;have hi:n.ar=d:=h.ar hd;have hem:=eH he;have hw:dU t.aa d s=eS t.aa { n with aK:=fO n.aK s }:=by grind [dU]
 have hc:∀i,mJ (dU t.aa d s) i+(if e.ar=i then 1 else 0)=mJ t.aa i:=by
  intro i;have h1:=vh h.jK.iW { n with aK:=fO n.aK s } i
  have h2:=J2 hE he i;rw[hw]
  grind
 refine h.gD (h.jK.left d s t.next t.ae) hd (jh h.jK.iW hd) rfl rfl ?_ ?_ ?_ ?_ ?_ (fun _=>rfl) ?_ ?_ rfl (cJ _) h.ae.2
 ·intro hk;obtain⟨h1,_,h3⟩:=h.file _ _ hd hk
  grind
 ·exact h.dir _ _ hd
 ·intro x hx;exact h.sX _ _ x hd (AZ.1 hx).1
 ·exact⟨nM _ (h.wL _ _ hd).1,bg (eN _ _) (h.wL _ _ hd).2⟩
 ·grind
 ·intro h12;have:=(h.deep _ _ hd ?_).2 h12
  ·grind
  ·rcases h.kind _ _ hd with hk|hk
   ·have:=(h.file _ _ hd hk).1;rw[this] at hem; grind
   omega
 ·rw[hw,xV h.jK.iW (o:=n) kW];exact h.aa
theorem cF.rA{t:Tree}{cz:Int->Nat}{x d:Int}{n m:Node}{s:Bytes}(h:cF t cz x)(hd:find t.aa d=some n)(hk:n.kind=2)(he:eE n.aK s=none)(h64:n.aK.length<64)(hnm:Nm s)
  (hx:find t.aa x=some m) (hx1:x≠1) (hup:m.kind=2->m.up=d) (hdp:cz d<12) (hck:t.ae<1099511627776):cF (hU t d s x) cz 0:=by
 have hE:nJ n.aK:=h.jK.aK n (cr hd).1;have hi:n.ar=d:=h.ar hd;have hcw:nc (t.ae+1)=t.ae+1:=gb (by have:=h.ae; omega) aM
 have hw:hU t d s x=⟨eS t.aa { n with aK:=tu n.aK ⟨s,x,t.ae⟩ },t.next,t.ae+1⟩:=by grind [hU]
 have hfn:eE n.aK (eM.mk s x t.ae).name=none:=he
 have hc:∀i,mJ (hU t d s x).aa i=mJ t.aa i+(if x=i then 1 else 0):=by
  intro i;have h1:=vh h.jK.iW { n with aK:=tu n.aK ⟨s,x,t.ae⟩ } i
  have h2:=ND hE hfn i;rw[hw]
  grind
 have hff:∀i,find (hU t d s x).aa i=if i=d then some { n with aK:=tu n.aK ⟨s,x,t.ae⟩ } else find t.aa i:=by
  intro i;rw[hw];have:=hV h.jK.iW { n with aK:=tu n.aK ⟨s,x,t.ae⟩ } i
  rw[this]
  grind
 refine h.gD (h.jK.rA d s x kW) hd hff rfl rfl ?_ ?_ ?_ ?_ ?_ (fun _=>rfl) ?_ ?_ ?_ ?_ ?_
 ·omega
 ·exact h.dir _ _ hd
 ·intro e hem;rw[hw];rcases(xk hE hfn).1 hem with rfl|hem
  ·exact⟨h.ae.1,kW,hx1,hnm,m,hx,hup⟩
  ·obtain⟨a1,a2,a3,a4,a5⟩:=h.sX _ _ e hd hem
   grind
 ·refine⟨?_,by simp only[vq hE hfn,aR,aD,fL,jg]; omega⟩
  rw[vq hE hfn];have hp:=(h.wL _ _ hd).1;rw[<-c9 (lQ n.aK s) n.aK,cC] at hp;obtain⟨p1,p2,p3⟩:=hp;rw[cC];refine⟨p1,bR.2 ⟨fun a ha=>?_,p2⟩,fun a ha c hc=>?_⟩
  ·have:=(h.sX _ _ a hd (dQ ha)).2.1
   grind
  ·rcases ba.1 hc with rfl|hc
   ·have:=(h.sX _ _ a hd (cR ha)).2.1
    grind
   grind
 ·grind
 ·omega
 ·rw[hw];simp only;rw[xV h.jK.iW (o:=n) kW];exact h.aa
 ·rw[hw]
 ·rw[hw]; grind
 grind
theorem cF.Yt{t:Tree}{cz:Int->Nat}{x x' d:Int}{n n':Node}(h:cF t cz x)(hd:find t.aa d=some n)(hk:n.kind=1)(hi':n'.ar=d)(hk':n'.kind=1)(hu:n'.up=n.up)(he:n'.aK=n.aK)(hda:n'.data.length<=4096)
  (hx:∀i:Int,1<=i->(if i=x' then 1 else 0:Int)=(if i=x then 1 else 0)+(if i=d then n'.df-n.df else 0)):cF ⟨eS t.aa n',t.next,t.ae⟩ cz x':=by
 have hE:nJ n'.aK:=by rw[he]; exact h.jK.aK n (cr hd).1
 have hff:∀i,find (eS t.aa n') i=if i=d then some n' else find t.aa i:=by
  intro i;rw[hV h.jK.iW n' i,hi']
 obtain⟨f1,f2,f3⟩:=h.file _ _ hd hk;refine h.gD (h.jK.with hE t.next t.ae) hd hff aM hu ?_ ?_ ?_ ?_ ?_ ?_ ?_ ?_ rfl (cJ _) h.ae.2
 ·grind
 ·omega
 ·grind
 ·rw[he,f1]; simp
 ·intro i h0;have h1:=vh h.jK.iW n' i
  grind
 ·omega
 ·grind
 ·simp only;rw[xV h.jK.iW (o:=n) kW];exact h.aa
theorem cF.named{t:Tree}{cz:Int->Nat}{x:Int}(h:cF t cz x){i:Int}{n:Node}(hi:find t.aa i=some n)(hk:n.kind=2)(h1:i≠1)(hx:i≠x):∃p e,find t.aa n.up=some p/\p.kind=2/\e∈p.aK/\e.ar=i:=by
 have a:=h.df _ _ hi;have b:=h.one _ _ hi hk h1;obtain⟨m,e,e1,e2,e3⟩:=pS.1 (show 0<mJ t.aa i by omega)
 have hm  := (fp h.jK.iW).2 ⟨e1,rfl⟩;obtain⟨_,_,_,_,k,k1,k2⟩:=h.sX _ _ e hm e2;rw[e3,hi] at k1; cases k1;obtain⟨_,p,p1,p2⟩:=h.sW _ _ hi hk h1;rw[k2 hk] at p1 ⊢
 grind
theorem cF.drop{t:Tree}{cz:Int->Nat}{x k:Int}{n:Node}(h:cF t cz x)(hx:x=k\/x=0)(hk:find t.aa k=some n)(he:n.aK=[])(h1:k≠1)(hc:mJ t.aa k=0):cF ⟨je t.aa k,t.next,t.ae⟩ cz 0:=by
 have hff:∀i m,find (je t.aa k) i=some m↔i≠k/\find t.aa i=some m:=by
  intro i m;rw[sd h.jK.iW];split<;>simp_all
 have hcn:∀i,mJ (je t.aa k) i=mJ t.aa i:=by
  intro i;have:=zA h.jK.iW k i;simp_all [bO,bQ,tZ]
 have hno:∀i m e,find t.aa i=some m->e∈m.aK->e.ar≠k:=by
  grind [pS,cr]
 refine⟨h.jK.Af k t.next t.ae,?_,?_,?_,?_,?_,?_,?_,?_,?_,h.zC,?_,?_,?_,h.next,h.ae⟩
 ·obtain⟨r,r1,r2⟩:=h.root
  grind
 ·intro i m hm; exact h.num _ _ ((hff _ _).1 hm).2
 ·intro i m hm; exact h.kind _ _ ((hff _ _).1 hm).2
 ·intro i m hm; exact h.file _ _ ((hff _ _).1 hm).2
 ·intro i m hm; exact h.dir _ _ ((hff _ _).1 hm).2
 ·intro i m e hm hem;have hm':=((hff _ _).1 hm).2;obtain⟨a1,a2,a3,a4,q,a5,a6⟩:=h.sX _ _ e hm' hem
  grind
 ·intro i m hm; exact h.wL _ _ ((hff _ _).1 hm).2
 ·intro i m hm;obtain⟨m1,m2⟩:=(hff _ _).1 hm;have:=h.df _ _ m2;have h0:=(h.num _ _ m2).1;rw[aj (show i≠0 by omega)]
  grind
 ·intro i m hm; exact h.one _ _ ((hff _ _).1 hm).2
 ·intro i m hm hk2 hi1;obtain⟨m1,m2⟩:=(hff _ _).1 hm;obtain⟨a,p,b,c⟩:=h.sW _ _ m2 hk2 hi1;refine⟨a,p,(hff _ _).2 ⟨fun hh=>?_,b⟩,c⟩
  have h0:=(h.num _ _ m2).1;obtain⟨q,e,q1,_,q3,_⟩:=h.named m2 hk2 hi1 (by rcases hx with rfl|rfl<;>omega)
  rw[hh,hk] at q1; grind
 ·intro i m hm; exact h.deep _ _ ((hff _ _).1 hm).2
 ·exact bg (eN _ _) h.aa
theorem cF.aiW{t:Tree}{cz dep':Int->Nat}{x to:Int}{n p:Node}(h:cF t cz x)(hx:find t.aa x=some n)(hk:n.kind=2)(hx1:x≠1)(hp:find t.aa to=some p)(hpk:p.kind=2)
  (h1:dep' 1=0) (hds:∀i m,find t.aa i=some m->m.kind=2->i≠1->i≠x->dep' i=dep' m.up+1) (hdx:dep' x=dep' to+1)
  (hdeep:∀i m,find t.aa i=some m->m.kind=2->dep' i<=12/\(dep' i=12->m.aK=[])):cF ⟨eS t.aa { n with up:=to },t.next,t.ae⟩ dep' x:=by
 have hi:n.ar=x:=h.ar hx
 have hff:∀i,find (eS t.aa { n with up:=to }) i=if i=x then some { n with up:=to } else find t.aa i:=by
  intro i;rw[hV h.jK.iW { n with up:=to } i]
  simp only[hi]
 have tv:∀j m,find t.aa j=some m->∃m',find (eS t.aa { n with up:=to }) j=some m'/\m'.kind=m.kind/\(j≠x->m'.up=m.up):=by
  grind
 have back:∀j m',find (eS t.aa { n with up:=to }) j=some m'->(j=x/\m'={ n with up:=to })\/(j≠x/\find t.aa j=some m'):=by
  grind
 have hcn:∀i,mJ (eS t.aa { n with up:=to }) i=mJ t.aa i:=by
  intro i;have:=vh h.jK.iW { n with up:=to } i
  grind
 have hc0:mJ t.aa x=0:=by
  have a:=h.df _ n hx;have b:=h.one _ n hx hk hx1;simp only[↓reduceIte] at a;omega
 have hno:∀i m e,find t.aa i=some m->e∈m.aK->e.ar≠x:=by
  intro i m e hm hem hh;have:=pS.2 ⟨m,e,(cr hm).1,hem,hh⟩;omega
 have hent:∀i m e,find t.aa i=some m->e∈m.aK->1<=e.ae/\e.ae<t.ae/\e.ar≠1/\Nm e.name/\∃m,find (eS t.aa { n with up:=to }) e.ar=some m/\(m.kind=2->m.up=i):=by
  intro i m e hm hem;obtain⟨a1,a2,a3,a4,q,a5,a6⟩:=h.sX _ _ e hm hem
  grind
 refine⟨h.jK.with (n:={ n with up:=to }) (h.jK.aK n (cr hx).1) t.next t.ae,?_,?_,?_,?_,?_,?_,?_,?_,?_,h1,?_,?_,?_,h.next,h.ae⟩
 ·obtain⟨r,r1,r2,r3⟩:=h.root
  grind
 ·intro i m hm;rcases back i m hm with ⟨rfl,rfl⟩|⟨_,hm⟩
  ·exact h.num _ n hx
  ·exact h.num _ _ hm
 ·intro i m hm;rcases back i m hm with ⟨rfl,rfl⟩|⟨_,hm⟩
  ·exact h.kind _ n hx
  ·exact h.kind _ _ hm
 ·intro i m hm hk1;rcases back i m hm with ⟨rfl,rfl⟩|⟨_,hm⟩
  ·simp only at hk1; omega
  ·exact h.file _ _ hm hk1
 ·intro i m hm hk1;rcases back i m hm with ⟨rfl,rfl⟩|⟨_,hm⟩
  ·exact h.dir _ n hx hk
  ·exact h.dir _ _ hm hk1
 ·intro i m e hm hem;rcases back i m hm with ⟨rfl,rfl⟩|⟨_,hm⟩
  ·exact hent _ n e hx hem
  ·exact hent _ _ e hm hem
 ·intro i m hm;rcases back i m hm with ⟨rfl,rfl⟩|⟨_,hm⟩
  ·exact h.wL _ n hx
  ·exact h.wL _ _ hm
 ·intro i m hm;simp only[hcn];rcases back i m hm with ⟨rfl,rfl⟩|⟨_,hm⟩
  ·exact h.df _ n hx
  ·exact h.df _ _ hm
 ·intro i m hm hk1 hi1;rcases back i m hm with ⟨rfl,rfl⟩|⟨_,hm⟩
  ·exact h.one _ n hx hk hi1
  ·exact h.one _ _ hm hk1 hi1
 ·intro i m hm hk1 hi1;rcases back i m hm with ⟨rfl,rfl⟩|⟨hne,hm⟩
  ·obtain⟨p',k1,k2,_⟩:=tv _ _ hp;exact⟨hdx,p',k1,aM⟩
  ·obtain⟨_,q,b,c⟩:=h.sW _ _ hm hk1 hi1;obtain⟨q',k1,k2,_⟩:=tv _ _ b;exact⟨hds _ _ hm hk1 hi1 hne,q',k1,aM⟩
 ·intro i m hm hk1;rcases back i m hm with ⟨rfl,rfl⟩|⟨_,hm⟩
  ·exact hdeep _ n hx hk
  ·exact hdeep _ _ hm hk1
 ·simp only;rw[xV h.jK.iW (o:=n) (by simp only[hi]; exact hx)]
  exact h.aa
def cF.made{t:Tree}{cz:Int->Nat}{d kind:Int}{p:Node}(h:cF t cz 0)(hp:find t.aa d=some p)(hpk:p.kind=2)(hk:kind=1\/kind=2)(hdp:cz d<12)(hl:t.aa.length<200)(hn:t.next<1099511627776) :
  cF ⟨eS t.aa ⟨t.next,kind,1,[],[],if kind==2 then d else 0⟩,t.next+1,t.ae⟩ (fun i=>if i=t.next then cz d+1 else cz i) t.next:=by
 have iC:find t.aa t.next=none:=by
  cases hz:find t.aa t.next with
  |none=>rfl
  |some m=>have:=h.num _ _ hz; omega
 have hnx:2<=t.next:=by
  obtain⟨r,r1,_⟩:=h.root;have:=(h.num _ _ r1).2; omega
 generalize hn':Node.mk t.next kind 1 [] [] (if kind==2 then d else 0)=n'
 have i1:n'.ar=t.next:=by rw[<-hn']
 have i2:n'.kind=kind:=by rw[<-hn']
 have i3:n'.df=1:=by rw[<-hn']
 have i4:n'.data=[]:=by rw[<-hn']
 have i5:n'.aK=[]:=by rw[<-hn']
 have i6:n'.up=if kind==2 then d else 0:=by rw[<-hn']
 have hff:∀i,find (eS t.aa n') i=if i=t.next then some n' else find t.aa i:=by
  intro i;rw[hV h.jK.iW n' i,i1]
 have tv:∀j m,find t.aa j=some m->find (eS t.aa n') j=some m/\j≠t.next:=by
  intro j m hm;have:=(h.num _ _ hm).2;rw[hff,aj aM];exact⟨hm,aM⟩
 have back:∀j m',find (eS t.aa n') j=some m'->(j=t.next/\m'=n')\/(j≠t.next/\find t.aa j=some m'):=by
  intro j m' hm;rw[hff] at hm;split at hm
  ·rename_i he; injection hm with hm; exact .inl ⟨he,hm.symm⟩
  ·rename_i he; exact .inr ⟨he,hm⟩
 have hcn:∀i,mJ (eS t.aa n') i=mJ t.aa i:=by
  intro i;have:=vh h.jK.iW n' i;simp only[bO,i1,iC,nG,Node.zero,i5,tZ] at this;omega
 have hc0:mJ t.aa t.next=0:=by
  rcases eL (mJ t.aa t.next) with h0|h0
  ·exact h0
  ·obtain⟨m,e,e1,e2,e3⟩:=pS.1 h0;obtain⟨_,_,_,_,k,k1,_⟩:=h.sX _ _ e ((fp h.jK.iW).2 ⟨e1,rfl⟩) e2;rw[e3,iC] at k1; cases k1
 refine⟨h.jK.with (n:=n') (by rw[i5]; exact List.Pairwise.nil) _ _,?_,?_,?_,?_,?_,?_,?_,?_,?_,?_,?_,?_,?_,?_,h.ae⟩
 ·obtain⟨r,r1,r2⟩:=h.root;exact⟨r,(tv _ _ r1).1,r2⟩
 ·intro i m hm;simp only;rcases back i m hm with ⟨rfl,rfl⟩|⟨_,hm⟩
  ·omega
  ·have:=h.num _ _ hm; omega
 ·intro i m hm;rcases back i m hm with ⟨rfl,rfl⟩|⟨_,hm⟩
  ·rw[i2]; exact hk
  ·exact h.kind _ _ hm
 ·intro i m hm hk1;rcases back i m hm with ⟨rfl,rfl⟩|⟨_,hm⟩
  ·rw[i2] at hk1;exact⟨i5,by rw[i6,hk1]; rfl,by rw[i4]; simp⟩
  ·exact h.file _ _ hm hk1
 ·intro i m hm hk1;rcases back i m hm with ⟨rfl,rfl⟩|⟨_,hm⟩
  ·exact i4
  ·exact h.dir _ _ hm hk1
 ·intro i m e hm hem;rcases back i m hm with ⟨rfl,rfl⟩|⟨_,hm⟩
  ·rw[i5] at hem; cases hem
  ·obtain⟨a1,a2,a3,a4,q,a5,a6⟩:=h.sX _ _ e hm hem;exact⟨a1,a2,a3,a4,q,(tv _ _ a5).1,a6⟩
 ·intro i m hm;rcases back i m hm with ⟨rfl,rfl⟩|⟨_,hm⟩
  ·rw[i5]; exact⟨List.Pairwise.nil,dk⟩
  ·exact h.wL _ _ hm
 ·intro i m hm;simp only[hcn];rcases back i m hm with ⟨rfl,rfl⟩|⟨hne,hm⟩
  ·rw[hc0,i3]; simp
  ·rw[aj hne];have:=h.df _ _ hm;rw[aj (by have:=(h.num _ _ hm).1; omega)] at this
   exact this
 ·intro i m hm hk1 hi1;rcases back i m hm with ⟨rfl,rfl⟩|⟨_,hm⟩
  ·exact i3
  ·exact h.one _ _ hm hk1 hi1
 ·show(if (1:Int)=t.next then cz d+1 else cz 1)=0
  rw[aj aM]; exact h.zC
 ·intro i m hm hk1 hi1
  show(if i=t.next then cz d+1 else cz i)=(if m.up=t.next then cz d+1 else cz m.up)+1/\_
  rcases back i m hm with ⟨rfl,rfl⟩|⟨hne,hm⟩
  ·rw[i2] at hk1;have hu:m.up=d:=by rw[i6,hk1]; rfl
   rw[hu,av rfl,aj (tv _ _ hp).2];exact⟨rfl,p,(tv _ _ hp).1,hpk⟩
  ·obtain⟨a,q,b,c⟩:=h.sW _ _ hm hk1 hi1;rw[aj hne,aj (tv _ _ b).2];exact⟨a,q,(tv _ _ b).1,c⟩
 ·intro i m hm hk1
  show(if i=t.next then cz d+1 else cz i)<=12/\((if i=t.next then cz d+1 else cz i)=12->_)
  rcases back i m hm with ⟨rfl,rfl⟩|⟨hne,hm⟩
  ·rw[av rfl]; exact⟨aM,fun _=>i5⟩
  ·rw[aj hne]; exact h.deep _ _ hm hk1
 ·have:=F6 t.aa n';simp only; omega
 ·simp only; omega
def cover:∀(k:Nat)(l:List Nat),(∀j,j<k->j∈l)->k<=l.length
 |0,_,_=>ct _
 |k+1,l,h=>by
  have hk:=h k aM;have:=cover k (l.erase k) (fun j hj=>(List.mem_erase_of_ne aM).2 (h j aM))
  rw[List.length_erase_of_mem hk] at this;have:=List.length_pos_of_mem hk;omega
def cF.ai1{t:Tree}{cz:Int->Nat}{x:Int}(h:cF t cz x):∀(m:Nat)(i:Int)(n:Node),find t.aa i=some n->n.kind=2->cz i=m->∀k,k<=m->∃j p,find t.aa j=some p/\cz j=k:=by
 intro m;induction m with
 |zero=>intro i n hi _ hm k hk; exact⟨i,n,hi,aM⟩
 |succ m ih =>
  intro i n hi hk2 hm k hk;rcases Nat.eq_or_lt_of_le hk with rfl|cA
  ·exact⟨i,n,hi,hm⟩
  ·have h1:i≠1:=fun hh=>by subst hh; have:=h.zC; omega
   obtain⟨a,p,b,c⟩:=h.sW _ _ hi hk2 h1;exact ih _ p b c aM k aM
def cF.w8{t:Tree}{cz:Int->Nat}{x:Int}(h:cF t cz x){i:Int}{n:Node}(hi:find t.aa i=some n)(hk:n.kind=2):cz i<t.aa.length:=by
 have:=cover (cz i+1) (t.aa.map fun n=>cz n.ar) (fun j hj=>by
  obtain⟨a,p,h1,h2⟩:=h.ai1 _ _ _ hi hk rfl j aM;rw[cm];exact⟨p,(cr h1).1,by rw[(cr h1).2,h2]⟩)
 rw[az] at this;omega
def cF.J8{t:Tree}{cz:Int->Nat}{x:Int}(h:cF t cz x):∀(m:Nat)(i:Int)(d:Nat)(n:Node),find t.aa i=some n->n.kind=2->cz i<=m->sb t.aa m i d=d+cz i:=by
 intro m;induction m with
 |zero=>intro i d n _ _ hd; simp only[sb]; omega
 |succ m ih =>
  intro i d n hi hk hd;simp only[sb];split
  ·rename_i h1; subst h1; have:=h.zC; omega
  ·rename_i h1;obtain⟨a,p,b,c⟩:=h.sW _ _ hi hk h1;have hu:Ad t.aa i=n.up:=by simp[Ad,hi]
   rw[hu,ih _ _ p b c aM];omega
def cF.pT{t:Tree}{cz:Int->Nat}{x:Int}(h:cF t cz x){i:Int}{n:Node}(hi:find t.aa i=some n)(hk:n.kind=2):jx t.aa i=cz i:=by
 have:=h.J8 201 i 0 n hi hk (by have:=(h.deep _ _ hi hk).1; omega)
 simp only[jx,this]; omega
def cF.vG{t:Tree}{cz:Int->Nat}{x:Int}(h:cF t cz x):∀(m:Nat)(i:Int)(out:List Int)(n:Node),find t.aa i=some n->n.kind=2->cz i<=m->(pP t.aa m i out).length=out.length+cz i:=by
 intro m;induction m with
 |zero=>intro i out n _ _ hd; simp only[pP]; omega
 |succ m ih =>
  intro i out n hi hk hd;simp only[pP]
  by_cases h1:i=1
  ·subst h1; have:=h.zC; simp; omega
  ·obtain⟨a,p,b,c⟩:=h.sW _ _ hi hk h1;simp only[jN,ne_eq,h1,mP,↓reduceIte,bO,hi,dD,cG,bQ,hk,an,dK,af];rw[ih _ _ p b c aM];simp only[aR,aD,aF];omega
def cF.sQ{t:Tree}{cz:Int->Nat}{x:Int}(h:cF t cz x){i:Int}{n:Node}(hi:find t.aa i=some n)(hk:n.kind=2):(o4 t.aa i).length=cz i+1:=by
 have:=h.vG t.aa.length i [i] n hi hk (by have:=h.w8 hi hk; omega)
 simp only[o4,this,aD,aF]; omega
def cF.UT{t:Tree}{cz:Int->Nat}{x:Int}(_:cF t cz x){i:Int}{n:Node}(hi:find t.aa i=some n):Ad t.aa i=n.up:=by simp[Ad,hi]
def cF.CI{t:Tree}{cz:Int->Nat}{x:Int}(h:cF t cz x)(of:Int):∀(m:Nat)(i:Int)(n:Node),find t.aa i=some n->n.kind=2->cz i<m->ke t.aa of m i=ke t.aa of (cz i+1) i:=by
 intro m;induction m with
 |zero=>intro i n _ _ hd; omega
 |succ m ih =>
  intro i n hi hk hd
  by_cases h1:i=1
  ·subst h1; simp only[ke]; split<;>rfl
  ·obtain⟨a,p,b,c⟩:=h.sW _ _ hi hk h1;simp only[ke,h1,↓reduceIte,h.UT hi];rw[ih _ p b c aM,a]
def cF.yG{t:Tree}(i:Int):jr t.aa i i=true:=by simp[jr,ke]
def cF.CJ{t:Tree}{of:Int}(h1:of≠1):jr t.aa 1 of=false:=by
 simp only[jr,ke];rw[aj (fun hh=>h1 hh.symm)]
 rfl
def cF.HA{t:Tree}{cz:Int->Nat}{x:Int}(h:cF t cz x){of i:Int}{n:Node}(hi:find t.aa i=some n)(hk:n.kind=2)(h1:i≠1)(ho:i≠of):jr t.aa i of=jr t.aa n.up of:=by
 obtain⟨a,p,b,c⟩:=h.sW _ _ hi hk h1;have d1:=h.w8 b c;have d2:=h.w8 hi hk;simp only[jr];rw[h.CI of _ _ p b c aM];rw[h.CI of _ _ n hi hk aM]
 conv=>lhs; rw[ke]
 simp only[ho,h1,↓reduceIte,h.UT hi];rw[a]
def cF.Au{t:Tree}{cz:Int->Nat}{x:Int}(h:cF t cz x){of:Int}:∀(m:Nat)(i:Int)(n:Node),find t.aa i=some n->n.kind=2->cz i=m->jr t.aa i of=true->cz of<=cz i:=by
 intro m;induction m with
 |zero =>
  intro i n hi hk hm hb
  by_cases h1:i=1
  ·by_cases h2:of=1
   ·subst h1; subst h2; exact ak _
   ·subst h1; rw[cF.CJ h2] at hb; cases hb
  ·obtain⟨a,_⟩:=h.sW _ _ hi hk h1;omega
 |succ m ih =>
  intro i n hi hk hm hb;have h1:i≠1:=fun hh=>by subst hh; have:=h.zC; omega
  obtain⟨a,p,b,c⟩:=h.sW _ _ hi hk h1
  by_cases ho:i=of
  ·subst ho; exact ak _
  ·rw[h.HA hi hk h1 ho] at hb;have:=ih _ p b c aM hb;omega
def uq{α:Type}[DecidableEq α]:∀(l k:List α),l.Nodup->(∀x,x∈l->x∈k)->l.length<=k.length
 | [],_,_,_=>ct _
 |a::l,k,h,hs=>by
  have ha:=hs a aG;obtain⟨h1,h2⟩:=iK.1 h;have:=uq l (k.erase a) h2 (fun x hx=>(List.mem_erase_of_ne (by rintro rfl; exact h1 hx)).2 (hs x (aP _ hx)))
  rw[List.length_erase_of_mem ha] at this;have:=List.length_pos_of_mem ha;simp only[aD];omega
def cF.NS{t:Tree}{cz:Int->Nat}{x:Int}(h:cF t cz x){i:Int}{n:Node}(hi:find t.aa i=some n):n.aK.length<=64:=(h.wL _ _ hi).2
def J3(i:Int):∀(ns:List Node),(∀n,n∈ns->n.aK.length<=64)->mJ ns i<=64*ns.length
 | [],_=>ct _
 |n::ns,h=>by
  have h1:=J3 i ns (fun m hm=>h m (aP _ hm))
  have h2:jW n.aK i<=n.aK.length:=kH;have h3:=h n aG;rw[nR,aD];omega
def cF.J4{t:Tree}{cz:Int->Nat}{x:Int}(h:cF t cz x)(i:Int):mJ t.aa i<=12800:=by
 have:=J3 i t.aa (fun n hn=>h.NS ((fp h.jK.iW).2 ⟨hn,rfl⟩))
 have:=h.aa;omega
def cF.vX{t:Tree}{cz:Int->Nat}{x:Int}(h:cF t cz x){i:Int}{n:Node}(hi:find t.aa i=some n){e:eM}(he:e∈n.aK):e.ar≠i:=by
 intro hh;obtain⟨_,_,h1,_,m,hm,hu⟩:=h.sX _ _ e hi he;rw[hh,hi] at hm; cases hm
 have hk:n.kind=2:=by
  rcases h.kind _ _ hi with hk|hk
  ·rw[(h.file _ _ hi hk).1] at he; cases he
  ·exact hk
 have:=(h.sW _ _ hi hk aM).1;rw[hu hk] at this;omega
def CU{t:Tree}{ar:Int}{s:Bytes}(h:(mU t ar s != 0)=false):∃d,find t.aa ar=some d/\d.kind=2/\dB s=true/\eE d.aK s=none/\d.aK.length<64/\jx t.aa ar<12/\t.ae<1099511627776:=by
 have h0:mU t ar s=0:=by simpa using h
 unfold mU at h0;split at h0
 ·rename_i h1; exact absurd h0 h1
 ·rename_i h1;obtain⟨d,d1,d2,d3⟩:=yL (show(gM t.aa ar).2=0 by omega)
  rw[d3] at h0;split at h0
  ·cases h0
  ·rename_i h2;split at h0
   ·cases h0
   ·rename_i h3;split at h0
    ·cases h0
    ·rename_i h4;simp only[C6,(cr d1).2,cV,bt,kB] at h4;refine⟨d,d1,d2,by simpa using h2,by simpa using h3,aM,aM,aM⟩
def cF.cw{t:Tree}{cz:Int->Nat}{x:Int}(h:cF t cz x)(hn:t.next<1099511627776):nc (t.next+1)=t.next+1:=gb (by
 obtain⟨r,r1,_⟩:=h.root;have:=h.num _ _ r1; omega) aM
def Cx{t:Tree}{cz:Int->Nat}(h:cF t cz 0)(ar:Int)(s:Bytes)(kind:Int)(hs:dB s=true->Nm s):∃dep',cF (nL t ar s kind).1 dep' 0:=by
 unfold nL;split
 ·exact⟨cz,h⟩
 ·rename_i hk;split
  ·exact⟨cz,h⟩
  ·rename_i he;split
   ·exact⟨cz,h⟩
   ·rename_i hb;obtain⟨d,d1,d2,d3,d4,d5,d6,d7⟩:=CU (by simpa using he)
    simp only[cV,bt,kB] at hb;have hn:t.next<1099511627776:=aM
    rw[h.pT d1 d2] at d6
    have hk':kind=1\/kind=2:=by
     simp only[bm,jN,ne_eq,not_and,kP] at hk
     by_cases h1:kind=1
     ·exact .inl h1
     ·exact .inr (hk h1)
    have hm:=h.made d1 d2 hk' d6 aM hn;rw[h.cw hn];have cA:=(h.num _ _ d1).2;have hne:ar≠t.next:=aM
    refine⟨_,hm.rA (d:=ar) (n:=d) (m:=⟨t.next,kind,1,[],[],if kind==2 then ar else 0⟩) ?_ d2 d4 (by simpa using d5) (hs d3) ?_ ?_ ?_ ?_ d7⟩
    ·simp only; rw[hV h.jK.iW]; simp only[hne,↓reduceIte]; exact d1
    ·simp only; rw[hV h.jK.iW]; simp only[↓reduceIte]
    ·have:=(h.num _ _ d1).1; omega
    ·intro h2;simp only at h2;simp[h2]
    ·simp only[hne,↓reduceIte]; exact d6
def Mr{t:Tree}{cz:Int->Nat}(h:cF t cz 0)(ar to:Int)(s:Bytes)(hs:dB s=true->Nm s):cF (B4 t ar to s).1 cz 0:=by
 unfold B4;split
 ·exact h
 ·rename_i hf;split
  ·exact h
  ·rename_i hk;split
   ·exact h
   ·rename_i he;obtain⟨d,d1,d2,d3,d4,d5,d6,d7⟩:=CU (by simpa using he)
    rw[h.pT d1 d2] at d6;cases hi:find t.aa ar with
    |none=>simp[hi] at hf
    |some n =>
     simp only[bO,hi,bQ] at hk ⊢
     have hk1:n.kind=1:=by
      rcases h.kind _ _ hi with h1|h1
      ·exact h1
      ·simp[h1] at hk
     have hlk:=h.df _ _ hi;rw[aj (by have:=(h.num _ _ hi).1; omega)] at hlk
     have hcl:=h.J4 ar;have hw:nc (n.df+1)=n.df+1:=gb aM aM;rw[hw];obtain⟨f1,f2,f3⟩:=h.file _ _ hi hk1
     have hg:=h.Yt (n':={ n with df:=n.df+1 }) (x':=ar) hi hk1 (cr hi).2 hk1 rfl rfl f3 (fun i h0=>by
      simp only;rw[aj (show i≠0 by omega)]
      split<;>omega)
     have hne:to≠ar:=fun hh=>by subst hh; rw[hi] at d1; cases d1; omega
     refine hg.rA (d:=to) (n:=d) (m:={ n with df:=n.df+1 }) ?_ d2 d4 (by simpa using d5) (hs d3) ?_ ?_ ?_ d6 d7
     ·simp only; rw[hV h.jK.iW]; simp only[h.ar hi,hne,↓reduceIte]; exact d1
     ·simp only; rw[hV h.jK.iW]; simp only[h.ar hi,↓reduceIte]
     ·intro hh; subst hh;obtain⟨r,r1,r2,_⟩:=h.root;rw[hi] at r1; cases r1; omega
     ·intro h2; simp only at h2; omega
def cF.unnamed{t:Tree}{cz:Int->Nat}{k:Int}{n:Node}(h:cF t cz k)(hk:find t.aa k=some n)(he:n.aK=[])(h1:k≠1):cF ⟨gx t.aa k,t.next,t.ae⟩ cz 0:=by
 unfold gx;simp only[bO,hk,bQ];have hl:=h.df _ _ hk;simp only[↓reduceIte] at hl;split
 ·rename_i h2;have:=h.one _ _ hk (by simpa using h2) h1
  exact h.drop (.inl rfl) hk he h1 aM
 ·rename_i h2
  have hk1:n.kind=1:=by
   rcases h.kind _ _ hk with h1|h1
   ·exact h1
   ·simp[h1] at h2
  have hcl:=h.J4 k;have hw:nc (n.df-1)=n.df-1:=gb aM aM;rw[hw];obtain⟨f1,f2,f3⟩:=h.file _ _ hk hk1
  exact h.Yt (n':={ n with df:=n.df-1 }) (x':=0) hk hk1 (cr hk).2 hk1 rfl rfl f3 (fun i h0=>by
   simp only;rw[aj (show i≠0 by omega)]
   split<;>omega)
def cF.un{t:Tree}{cz:Int->Nat}(h:cF t cz 0){d:Int}{n m:Node}{s:Bytes}{e:eM}(hd:find t.aa d=some n)(he:eE n.aK s=some e)(hm:find t.aa e.ar=some m)(hm0:m.aK=[]):cF ⟨gx (dU t.aa d s) e.ar,t.next,t.ae⟩ cz 0:=by
 have hem:=(eH he).1;have hl:=h.left hd he;refine hl.unnamed (n:=m) ?_ hm0 (h.sX _ _ e hd hem).2.2.1;simp only;rw[jh h.jK.iW hd,aj (h.vX hd hem)];exact hm
def G5{t:Tree}{cz:Int->Nat}(h:cF t cz 0)(ar:Int)(s:Bytes):cF (wv t ar s).1 cz 0:=by
 unfold wv;split
 ·exact h
 ·rename_i hl;obtain⟨d,e,d1,d2,d3,d4,d5⟩:=look_ok (by simpa using hl)
  rw[d5];split
  ·exact h
  ·rename_i h0;obtain⟨_,_,_,_,m,hm,_⟩:=h.sX _ _ e d1 (eH d4).1;simp only[bO,hm,bQ,bt] at h0;exact h.un d1 d4 hm (cf.1 aM)
def EM{t:Tree}{cz:Int->Nat}(h:cF t cz 0)(ar:Int):cF (pc t ar).1 cz 0:=by
 unfold pc;split
 ·exact h
 ·rename_i hf;split
  ·exact h
  ·rename_i hk;split
   ·exact h
   ·rename_i hd;cases hi:find t.aa ar with
    |none=>simp[hi] at hf
    |some n =>
     simp only[bO,hi,bQ] at hk hd
     have hk1:n.kind=1:=by
      rcases h.kind _ _ hi with h1|h1
      ·exact h1
      ·simp[h1] at hk
     simp only[bt] at hd;have hl:=h.df _ _ hi;rw[aj (by have:=(h.num _ _ hi).1; omega)] at hl
     refine h.drop (.inr rfl) hi (h.file _ _ hi hk1).1 ?_ aM;intro hh; subst hh;obtain⟨r,r1,r2,_⟩:=h.root;rw[hi] at r1; cases r1; omega
def Cb:∀ {a b:List Node},ng a->ng b->(∀m,m∈a↔m∈b)->a=b
 | [],[],_,_,_=>rfl
 | [],y::b,_,_,h=>by have:=(h y).2 aG; cases this
 |x::a,[],_,_,h=>by have:=(h x).1 aG; cases this
 |x::a,y::b,ha,hb,h=>by
  obtain⟨a1,a2⟩:=bR.1 ha;obtain⟨b1,b2⟩:=bR.1 hb
  have hxy:x=y:=by
   rcases ba.1 ((h x).1 aG) with h1|h1
   ·exact h1
   ·rcases ba.1 ((h y).2 aG) with h2|h2
    ·exact h2.symm
    ·have:=b1 x h1; have:=a1 y h2; omega
  subst hxy;rw[Cb a2 b2 (fun m=>?_)]
  constructor
  ·intro hm;rcases ba.1 ((h m).1 (aP _ hm)) with h1|h1
   ·subst h1; have:=a1 m hm; omega
   ·exact h1
  ·intro hm;rcases ba.1 ((h m).2 (aP _ hm)) with h1|h1
   ·subst h1; have:=b1 m hm; omega
   ·exact h1
def Qu{a b:List Node}(ha:ng a)(hb:ng b)(h:∀i,find a i=find b i):a=b :=
 Cb ha hb fun m=>by
  constructor
  ·intro hm;have:=(fp ha).2 ⟨hm,rfl⟩;rw[h] at this;exact(cr this).1
  ·intro hm;have:=(fp hb).2 ⟨hm,rfl⟩;rw[<-h] at this;exact(cr this).1
def wx{aa:List Node}(h:ng aa)(k:Int):ng (gx aa k):=by
 unfold gx;split
 ·exact tG h _
 ·exact oe h _
def lP{aa:List Node}(h:ng aa)(k:Int)(s:Bytes):ng (dU aa k s):=oe h _
def yp(n:Node):Option Node:=if n.kind==2 then none else some { n with df:=nc (n.df-1) }
def qx{aa:List Node}(h:ng aa){k:Int}{n:Node}(hk:find aa k=some n)(i:Int):find (gx aa k) i=if i=k then yp n else find aa i:=by
 unfold gx yp;simp only[bO,hk,bQ];split
 ·rw[sd h]
 ·rw[hV h];simp only[(cr hk).2]
def Kb(l:List eM)(a b:Bytes):fO (fO l a) b=fO (fO l b) a:=by
 simp only[fO,List.filter_filter];congr 1;funext e;rw[Bool.and_comm]
def US{aa:List Node}(h:ng aa){f to y:Int}{s nm:Bytes}{dF dT m:Node}(hF:find aa f=some dF)(hT:find aa to=some dT)(hy:find aa y=some m)(h1:y≠f)(h2:y≠to) :
  gx (dU (dU aa f s) to nm) y=dU (gx (dU aa to nm) y) f s:=by
 have a1:=lP h f s;have a2:=lP h to nm;have a3:=lP a1 to nm;have a4:=wx a2 y;have f1:=jh h hF (s:=s);have f2:=jh h hT (s:=nm);have hy1:find (dU aa to nm) y=some m:=by rw[f2,aj h2]; exact hy
 have f4:=qx a2 hy1;obtain⟨dT',hT'⟩:∃dT',find (dU aa f s) to=some dT':=by rw[f1]; split<;>simp_all
 have f3:=jh a1 hT' (s:=nm);have hy3:find (dU (dU aa f s) to nm) y=some m:=by rw[f3,aj h2,f1,aj h1]; exact hy
 have f5:=qx a3 hy3;obtain⟨dF',hF'⟩:∃dF',find (gx (dU aa to nm) y) f=some dF':=by rw[f4,aj (fun hh=>h1 hh.symm),f2]; split<;>simp_all
 have f6:=jh a4 hF' (s:=s);refine Qu (wx a3 y) (lP a4 f s) (fun i=>?_)
 rw[f5,f6,f4,f3];rw[f1] at hT';rw[f4,aj (fun hh=>h1 hh.symm),f2] at hF'
 by_cases i1:i=y
 ·subst i1; simp[h1]
 ·simp only[i1,↓reduceIte]
  by_cases i2:i=to
  ·subst i2;simp only[↓reduceIte]
   by_cases i3:i=f
   ·subst i3;simp only[↓reduceIte] at hT' hF' ⊢;injection hT' with hT'; injection hF' with hF'
    rw[<-hT',<-hF'];rw[hF] at hT; cases hT;simp only[Kb]
   ·simp only[i3,↓reduceIte] at hT' ⊢;rw[f2]; simp only[↓reduceIte];rw[hT] at hT'; injection hT' with hT'; rw[hT']
  ·simp only[i2,↓reduceIte];rw[f1,f2]
   by_cases i3:i=f
   ·subst i3;simp only[↓reduceIte,i2] at hF' ⊢;rw[hF] at hF'; injection hF' with hF'; rw[hF']
   ·simp only[i3,i2,↓reduceIte]
def HM{l:List eM}{s:Bytes}{e:eM}(h:eE l s=some e):(fO l s).length<l.length:=by
 obtain⟨h1,h2⟩:=eH h;refine Nat.lt_of_le_of_ne (eN _ _) fun hh=>?_
 have:=List.length_filter_eq_length_iff.1 hh e h1;simp[h2] at this
def cF.ZG{t:Tree}{cz dep':Int->Nat}{f to:Int}{s nm:Bytes}{dF dT m:Node}{e:eM}(h:cF t cz 0)(hF:find t.aa f=some dF)(he:eE dF.aK s=some e)(hT:find t.aa to=some dT)(hTk:dT.kind=2)(hfree:eE dT.aK nm=none)(hroom:to≠f->dT.aK.length<64)(hnm:Nm nm)
  (hm:find t.aa e.ar=some m) (hne:e.ar≠to) (hd12:dep' to<12) (hck:t.ae<1099511627776)
  (hcase:(m.kind=1/\dep'=cz)\/(m.kind=2/\dep' 1=0/\(∀i n,find t.aa i=some n->n.kind=2->i≠1->i≠e.ar->dep' i=dep' n.up+1)/\dep' e.ar=dep' to+1 /\
   ∀i n,find t.aa i=some n->n.kind=2->dep' i<=12/\(dep' i=12->n.aK=[]))):cF (rQ t f s to nm e.ar 0) dep' 0:=by
 have hem:=(eH he).1;have hnf:e.ar≠f:=h.vX hF hem;have h1:e.ar≠1:=(h.sX _ _ e hF hem).2.2.1;have hl:=h.left hF he;have fl:=jh h.jK.iW hF (s:=s);have hmx:find (dU t.aa f s) e.ar=some m:=by rw[fl,aj hnf]; exact hm
 obtain⟨d1,g1,g2,g3,g4⟩:∃d1,find (dU t.aa f s) to=some d1/\d1.kind=2/\eE d1.aK nm=none/\d1.aK.length<64:=by
  rw[fl];split
  ·rename_i hh;subst hh;rw[hF] at hT; cases hT;exact⟨_,rfl,hTk,rX hfree,bz (HM he) (h.NS hF)⟩
  ·rename_i hh;exact⟨dT,hT,hTk,hfree,hroom hh⟩
 have hnode:bO t.aa e.ar=m:=by simp[bO,hm]
 unfold rQ;simp only[hnode,an,af,↓reduceIte];rcases hcase with ⟨hk,rfl⟩|⟨hk,c1,c2,c3,c4⟩
 ·rw[aj (by simp[hk])]
  exact hl.rA g1 g2 g3 g4 hnm hmx h1 (fun h2=>aM) hd12 hck
 ·rw[av (by simp[hk])]
  have hs:=hl.aiW (dep':=dep') hmx hk h1 g1 g2 c1 (fun i n hi hk2 hi1 hie=>by
    simp only[fl] at hi;split at hi
    ·rename_i hh; subst hh;cases hi;exact c2 i dF hF hk2 hi1 hie
    ·exact c2 _ _ hi hk2 hi1 hie) c3 (fun i n hi hk2=>by
    simp only[fl] at hi;split at hi
    ·rename_i hh; subst hh;cases hi;obtain⟨q1,q2⟩:=c4 i dF hF hk2;exact⟨q1,fun h12=>by simp[q2 h12,fO]⟩
    ·exact c4 _ _ hi hk2)
  have hmi:m.ar=e.ar:=(cr hm).2;have fw:=hV (lP h.jK.iW f s) { m with up:=to }
  refine hs.rA (n:=d1) (m:={ m with up:=to }) ?_ g2 g3 g4 hnm ?_ h1 (fun _=>rfl) hd12 hck
  ·simp only;rw[fw];rw[aj (show ¬to=m.ar from fun hh=>hne aM)]
   exact g1
  ·simp only;rw[fw];simp only[hmi,↓reduceIte]
def uV(aa:List Node)(at' d:Int)(n:Node):Int :=
 if decide ((0:Int)<n.aK.length) then nc (nc (nc (at'+jx aa n.ar)-d)+1) else nc (nc (at'+jx aa n.ar)-d)
def H4(aa:List Node)(ar at' d:Int)(n:Node)(most:Int):most<=sG aa ar at' d n most/\((n.kind==2&&jr aa n.ar ar)=true->uV aa at' d n<=sG aa ar at' d n most):=by
 have e:sG aa ar at' d n most=if n.kind==2&&jr aa n.ar ar then (if uV aa at' d n>most then uV aa at' d n else most) else most:=rfl
 rw[e];split
 ·split
  ·exact⟨aM,fun _=>cJ _⟩
  ·exact⟨cJ _,fun _=>aM⟩
 ·rename_i h; exact⟨cJ _,fun hh=>absurd hh h⟩
def AO(aa:List Node)(ar at' d:Int):∀(l:List Node)(most:Int),most<=wc aa ar at' d l most/\∀n,n∈l->(n.kind==2&&jr aa n.ar ar)=true->uV aa at' d n<=wc aa ar at' d l most
 | [],most=>⟨cJ _,fun n hn=>by cases hn⟩
 |m::l,most=>by
  obtain⟨h1,h2⟩:=AO aa ar at' d l (sG aa ar at' d m most);obtain⟨h3,h4⟩:=H4 aa ar at' d m most;rw[wc];refine⟨aM,fun n hn hb=>?_⟩
  rcases ba.1 hn with rfl|hn
  ·have:=h4 hb; omega
  ·exact h2 n hn hb
def rL(aa:List Node)(cz:Int->Nat)(x to:Int):Int->Nat:=fun i=>if jr aa i x then cz i+(cz to+1)-cz x else cz i
def cF.EP{t:Tree}{cz:Int->Nat}(h:cF t cz 0){x to i:Int}{m n:Node}(hx:find t.aa x=some m)(hk:m.kind=2)(hd:cz to<12)(hi:find t.aa i=some n)(hk2:n.kind=2)(hb:jr t.aa i x=true) :
  uV t.aa (((cz to+1:Nat):Int)) (cz x) n=((rL t.aa cz x to i+(if 0<n.aK.length then 1 else 0):Nat):Int):=by
 have d1:=(h.deep _ _ hi hk2).1;have d2:=(h.deep _ _ hx hk).1;have d3:=h.Au _ i n hi hk2 rfl hb;have hdn:jx t.aa n.ar=cz i:=by rw[h.ar hi]; exact h.pT hi hk2
 have w1:nc ((((cz to+1:Nat):Int))+(cz i:Nat))=(((cz to+1:Nat):Int))+(cz i:Nat):=gb aM aM;have w2:nc ((((cz to+1:Nat):Int))+(cz i:Nat)-(cz x:Nat))=(((cz to+1:Nat):Int))+(cz i:Nat)-(cz x:Nat):=gb aM aM;have w3:nc ((((cz to+1:Nat):Int))+(cz i:Nat)-(cz x:Nat)+1)=(((cz to+1:Nat):Int))+(cz i:Nat)-(cz x:Nat)+1:=gb aM aM;unfold uV rL;rw[av hb,hdn,w1,w2,w3]
 by_cases hl:0<n.aK.length
 ·rw[av (by simpa using hl),av hl]; omega
 ·rw[aj (by simpa using hl),aj hl]; omega
def cF.adY{t:Tree}{cz:Int->Nat}(h:cF t cz 0){x to:Int}{m dT:Node}(hx:find t.aa x=some m)(hk:m.kind=2)(hx1:x≠1)(hT:find t.aa to=some dT)(hTk:dT.kind=2)(hnb:jr t.aa to x=false)(hd:cz to<12)
  (hh:BF t.aa x (((cz to+1:Nat):Int))<=12) :
  rL t.aa cz x to 1=0/\(∀i n,find t.aa i=some n->n.kind=2->i≠1->i≠x->rL t.aa cz x to i=rL t.aa cz x to n.up+1)/\rL t.aa cz x to x=rL t.aa cz x to to+1 /\
   (∀i n,find t.aa i=some n->n.kind=2->rL t.aa cz x to i<=12/\(rL t.aa cz x to i=12->n.aK=[]))/\rL t.aa cz x to to=cz to:=by
 have hto:rL t.aa cz x to to=cz to:=by unfold rL; rw[aj (by simp[hnb])]
 refine⟨?_,?_,?_,?_,hto⟩
 ·unfold rL;rw[aj (by simp[cF.CJ hx1])]
  exact h.zC
 ·intro i n hi hk2 hi1 hix;obtain⟨a,p,b,c⟩:=h.sW _ _ hi hk2 hi1;have hb:=h.HA hi hk2 hi1 hix;unfold rL;rw[hb];split
  ·rename_i hb2;have:=h.Au _ _ p b c rfl hb2;omega
  ·exact a
 ·rw[hto];unfold rL;rw[av (cF.yG x)];omega
 ·intro i n hi hk2
  by_cases hb:jr t.aa i x=true
  ·have h1:=(AO t.aa x (((cz to+1:Nat):Int)) (jx t.aa x) t.aa 0).2 n (cr hi).1 (by rw[hk2,h.ar hi,hb]; rfl)
   rw[h.pT hx hk,h.EP hx hk hd hi hk2 hb] at h1;unfold BF at hh;rw[h.pT hx hk] at hh;have h2:=Int.le_trans h1 hh;split at h2
   ·rename_i hl;exact⟨aM,fun h12=>aM⟩
   ·rename_i hl;exact⟨aM,fun _=>cf.1 aM⟩
  ·have:rL t.aa cz x to i=cz i:=by unfold rL; rw[aj hb]
   rw[this];exact h.deep _ _ hi hk2
def pF{l:List eM}{s r:Bytes}(h:r≠s):eE (fO l s) r=eE l r:=by
 unfold eE fO;rw[List.find?_filter];congr 1;funext e
 by_cases he:e.name=r
 ·have hn:e.name≠s:=he▸h;simp[he,h]
 ·simp[he]
structure Hi(t:Tree)(cz:Int->Nat)(f:Int)(s:Bytes)(to:Int)(nm:Bytes)(dF dT m:Node)(e:eM):Prop where
 hF:find t.aa f=some dF
 kF:dF.kind=2
 he:eE dF.aK s=some e
 hT:find t.aa to=some dT
 kT:dT.kind=2
 hn:dB nm=true
 hm:find t.aa e.ar=some m
 ne:e.ar≠to
 nf:e.ar≠f
 loop:m.kind=2->jr t.aa to e.ar=false
 deep:cz to<12
 high:m.kind=2->BF t.aa e.ar (((cz to+1:Nat):Int))<=12
 ae:t.ae<1099511627776
 room:eE dT.aK nm=none->to≠f->dT.aK.length<64
 Xn:∀e2,eE dT.aK nm=some e2->e2.ar≠e.ar/\∃y,find t.aa e2.ar=some y/\y.aK=[]/\(m.kind=2↔y.kind=2)/\e2.ar≠f/\e2.ar≠to
def cF.mv{t:Tree}{cz:Int->Nat}(h:cF t cz 0){f:Int}{s:Bytes}{to:Int}{nm:Bytes}{dF dT m:Node}{e:eM}(hs:dB nm=true->Nm nm)(k:Hi t cz f s to nm dF dT m e):∃dep',cF (rQ t f s to nm e.ar (fC dT.aK nm)) dep' 0:=by
 have hem:=(eH k.he).1;have hx1:=(h.sX _ _ e k.hF hem).2.2.1
 have hcase:∃dep':Int->Nat,dep' to<12/\((m.kind=1/\dep'=cz)\/(m.kind=2/\dep' 1=0/\(∀i n,find t.aa i=some n->n.kind=2->i≠1->i≠e.ar->dep' i=dep' n.up+1)/\dep' e.ar=dep' to+1 /\
   ∀i n,find t.aa i=some n->n.kind=2->dep' i<=12/\(dep' i=12->n.aK=[]))):=by
  rcases h.kind _ _ k.hm with hk|hk
  ·exact⟨cz,k.deep,.inl ⟨hk,rfl⟩⟩
  ·obtain⟨c1,c2,c3,c4,c5⟩:=h.adY k.hm hk hx1 k.hT k.kT (k.loop hk) k.deep (k.high hk);exact⟨rL t.aa cz e.ar to,by rw[c5]; exact k.deep,.inr ⟨hk,c1,c2,c3,c4⟩⟩
 obtain⟨dep',hd12,hcase⟩:=hcase;refine⟨dep',?_⟩;cases hfr:eE dT.aK nm with
 |none =>
  have hu:fC dT.aK nm=0:=by simp[fC,hfr]
  rw[hu];exact h.ZG k.hF k.he k.hT k.kT hfr (k.room hfr) (hs k.hn) k.hm k.ne hd12 k.ae hcase
 |some e2 =>
  have hu:fC dT.aK nm=e2.ar:=by simp[fC,hfr]
  rw[hu];obtain⟨q1,y,q2,q3,q4,q5,q6⟩:=k.Xn e2 hfr;have h1:=h.un k.hT hfr q2 q3;have a2:=lP h.jK.iW to nm;have f2:=jh h.jK.iW k.hT (s:=nm);have hy1:find (dU t.aa to nm) e2.ar=some y:=by rw[f2,aj q6]; exact q2
  have f4:∀i,find (gx (dU t.aa to nm) e2.ar) i=if i=e2.ar then yp y else if i=to then some { dT with aK:=fO dT.aK nm } else find t.aa i:=by
   intro i;rw[qx a2 hy1,f2]
  have hnn:bO (gx (dU t.aa to nm) e2.ar) e.ar=bO t.aa e.ar:=by
   simp only[bO];rw[f4,aj (fun hh=>q1 hh.symm),aj k.ne]
  have hy0:=(h.num _ _ q2).1
  have hmv:rQ t f s to nm e.ar e2.ar=rQ ⟨gx (dU t.aa to nm) e2.ar,t.next,t.ae⟩ f s to nm e.ar 0:=by
   unfold rQ;simp only[hnn];rw[US h.jK.iW k.hF k.hT q2 q5 q6];have e1:(e2.ar != 0)=true:=ic;simp only[e1,an,af,↓reduceIte]
  rw[hmv]
  have hsn:to=f->s≠nm:=fun hh hsn=>by
   subst hh; subst hsn;have:=k.hF; rw[k.hT] at this; cases this;have:=k.he; rw[hfr] at this; cases this;exact q1 rfl
  obtain⟨dF',g1,g2⟩:∃dF',find (gx (dU t.aa to nm) e2.ar) f=some dF'/\eE dF'.aK s=some e:=by
   rw[f4,aj (fun hh=>q5 hh.symm)]
   split
   ·rename_i hh;refine⟨_,rfl,?_⟩;rw[pF (hsn hh.symm)];subst hh;have:=k.hF; rw[k.hT] at this; cases this;exact k.he
   ·exact⟨dF,k.hF,k.he⟩
  have back:∀i n,find (gx (dU t.aa to nm) e2.ar) i=some n->n.kind=2->∃n0,find t.aa i=some n0/\n0.kind=2/\n0.up=n.up/\(n0.aK=[]->n.aK=[]):=by
   intro i n hi hk;rw[f4] at hi;split at hi
   ·unfold yp at hi;split at hi
    ·cases hi
    ·rename_i hh;cases hi;simp only at hk;simp[hk] at hh
   ·split at hi
    ·rename_i hh; subst hh;cases hi;exact⟨dT,k.hT,hk,rfl,fun h0=>by simp[h0,fO]⟩
    ·exact⟨n,hi,hk,rfl,fun h0=>h0⟩
  refine h1.ZG (dep':=dep') g1 g2 (dT:={ dT with aK:=fO dT.aK nm }) ?_ k.kT (xb _ _) (fun _=>bz (HM hfr) (h.NS k.hT)) (hs k.hn) (m:=m) ?_ k.ne hd12 k.ae ?_
  ·simp only; rw[f4,aj (fun hh=>q6 hh.symm),av rfl]
  ·simp only; rw[f4,aj (fun hh=>q1 hh.symm),aj k.ne]; exact k.hm
  ·rcases hcase with hc|⟨hk,c1,c2,c3,c4⟩
   ·exact .inl hc
   ·refine .inr ⟨hk,c1,?_,c3,?_⟩
    ·intro i n hi hk2 hi1 hie;obtain⟨n0,b1,b2,b3,_⟩:=back i n hi hk2;rw[<-b3]; exact c2 i n0 b1 b2 hi1 hie
    ·intro i n hi hk2;obtain⟨n0,b1,b2,_,b4⟩:=back i n hi hk2;exact⟨(c4 i n0 b1 b2).1,fun h12=>b4 ((c4 i n0 b1 b2).2 h12)⟩
def cF.zero{t:Tree}{cz:Int->Nat}{x:Int}(h:cF t cz x):find t.aa 0=none:=by
 cases hz:find t.aa 0 with
 |none=>rfl
 |some m=>have:=h.num _ _ hz; omega
def Oz{t:Tree}{cz:Int->Nat}(h:cF t cz 0)(f:Int)(s:Bytes)(to:Int)(nm:Bytes) :
  ((wR t f s to nm).1=t/\(wR t f s to nm).2.1=0/\(wR t f s to nm).2.2≠0) \/
  (wR t f s to nm=(t,0,0)/\∃dF dT e e2,find t.aa f=some dF/\dF.kind=2/\dB s=true/\eE dF.aK s=some e/\eB t.aa f s=(e.ar,0)/\find t.aa to=some dT/\dT.kind=2/\dB nm=true/\eE dT.aK nm=some e2/\e2.ar=e.ar) \/
  ∃dF dT m e,Hi t cz f s to nm dF dT m e/\dB s=true/\eB t.aa f s=(e.ar,0)/\wR t f s to nm=(rQ t f s to nm e.ar (fC dT.aK nm),fC dT.aK nm,0):=by
 unfold wR;split
 ·rename_i c1; exact .inl ⟨rfl,rfl,by simpa using c1⟩
 rename_i c1;split
 ·rename_i c2; exact .inl ⟨rfl,rfl,by simpa using c2⟩
 rename_i c2;split
 ·exact .inl ⟨rfl,rfl,dk⟩
 rename_i c3;obtain⟨dF,e,e1,e2,e3,e4,e5⟩:=look_ok (by simpa using c1)
 obtain⟨dT,g1,g2,g3⟩:=yL (show(gM t.aa to).2=0 by simpa using c2)
 have hem:=(eH e4).1;obtain⟨_,_,x1,_,m,hm,hup⟩:=h.sX _ _ e e1 hem;have hnode:bO t.aa e.ar=m:=by simp[bO,hm]
 simp only[e5,g3,hnode];split
 ·rename_i c4;right; left;refine⟨rfl,dF,dT,e,?_⟩;have c4':fC dT.aK nm=e.ar:=by simpa using c4
  cases hfr:eE dT.aK nm with
  |none=>simp only[fC,hfr] at c4'; have:=(h.num _ _ hm).1; omega
  |some e2'=>simp only[fC,hfr] at c4'; exact⟨e2',e1,e2,e3,e4,rfl,g1,g2,by simpa using c3,rfl,c4'⟩
 rename_i c4;split
 ·exact .inl ⟨rfl,rfl,dk⟩
 rename_i c5;split
 ·rename_i c6; exact .inl ⟨rfl,rfl,by simpa using c6⟩
 rename_i c6;split
 ·exact .inl ⟨rfl,rfl,dk⟩
 rename_i c7;right; right;have hdt:=h.pT g1 g2;simp only[manyN,hdt,cV,bm,eG,bt,kB,not_and,jN] at c7;obtain⟨r1,r2,r3,r4⟩:=c7
 have hw:nc (((cz to:Nat):Int)+1)=((cz to+1:Nat):Int):=by
  have:=(h.deep _ _ g1 g2).1;rw[show(((cz to:Nat):Int)+1)=((cz to+1:Nat):Int) by omega]
  exact gb aM aM
 rw[hw] at r3;have hnf:=h.vX e1 hem
 have hne:e.ar≠to:=fun hh=>by
  rw[hh,g1] at hm; cases hm;simp only[g2,iw,b9] at c5;rw[hh,cF.yG] at c5;exact c5 rfl
 refine⟨dF,dT,m,e,⟨e1,e2,e4,g1,g2,by simpa using c3,hm,hne,hnf,?_,aM,?_,aM,?_,?_⟩,e3,rfl,rfl⟩
 ·intro hk;simpa[hk] using c5
 ·intro hk;have:=r3 hk; omega
 ·intro hfr hne;have hu:fC dT.aK nm=0:=by simp[fC,hfr]
  have:=r1 ⟨hu,hne⟩;omega
 ·intro e2' hfr;have hu:fC dT.aK nm=e2'.ar:=by simp[fC,hfr]
  rw[hu] at c4 c6;obtain⟨_,_,_,_,y,hy,_⟩:=h.sX _ _ e2' g1 (eH hfr).1;have hny:bO t.aa e2'.ar=y:=by simp[bO,hy]
  have hto:=h.vX g1 (eH hfr).1;simp only[sV,hy,dD,cG,af,↓reduceIte,hny,jN,ne_eq,kP] at c6;split at c6
  ·cases c6
  ·rename_i k1;split at c6
   ·cases c6
   ·rename_i k2;split at c6
    ·cases c6
    ·rename_i k3;have hy0:y.aK=[]:=cf.1 (by simpa using k3)
     refine⟨by simpa using c4,y,hy,hy0,?_,?_,hto⟩
     ·simp at k1 k2;constructor
      ·exact k1
      ·intro hy2;rcases h.kind _ _ hm with hk|hk
       ·exact absurd hy2 (k2 aM)
       ·exact hk
     ·intro hh;rw[hh,e1] at hy; cases hy;rw[hy0] at hem; cases hem
def Mw{t:Tree}{cz:Int->Nat}(h:cF t cz 0)(f:Int)(s:Bytes)(to:Int)(nm:Bytes)(hs:dB nm=true->Nm nm):∃dep',cF (wR t f s to nm).1 dep' 0:=by
 rcases Oz h f s to nm with ⟨h1,_⟩|⟨h1,_⟩|⟨dF,dT,m,e,k,_,_,hk⟩
 ·rw[h1]; exact⟨cz,h⟩
 ·rw[h1]; exact⟨cz,h⟩
 ·rw[hk]; exact h.mv hs k
def IU:cF p8 (fun _=>0) 0:=by
 have hf:∀i n,find p8.aa i=some n->i=1/\n=⟨1,2,0,[],[],1⟩:=by
  intro i n hi;obtain⟨h1,h2⟩:=cr hi;simp[p8] at h1;subst h1;exact⟨h2.symm,rfl⟩
 refine⟨⟨?_,?_⟩,⟨_,rfl,rfl,rfl⟩,?_,?_,?_,?_,?_,?_,?_,?_,rfl,?_,?_,by simp[p8],by simp[p8],by simp[p8]⟩
 ·simp[p8,ng]
 ·intro n hn; simp[p8] at hn; subst hn; exact List.Pairwise.nil
 ·intro i n hi; obtain⟨rfl,rfl⟩:=hf i n hi; simp[p8]
 ·intro i n hi; obtain⟨rfl,rfl⟩:=hf i n hi; simp
 ·intro i n hi; obtain⟨rfl,rfl⟩:=hf i n hi; simp
 ·intro i n hi; obtain⟨rfl,rfl⟩:=hf i n hi; simp
 ·intro i n e hi he; obtain⟨rfl,rfl⟩:=hf i n hi; cases he
 ·intro i n hi; obtain⟨rfl,rfl⟩:=hf i n hi; exact⟨List.Pairwise.nil,dk⟩
 ·intro i n hi; obtain⟨rfl,rfl⟩:=hf i n hi; simp[p8,mJ,jW]
 ·intro i n hi _ h1; exact absurd (hf i n hi).1 h1
 ·intro i n hi _ h1; exact absurd (hf i n hi).1 h1
 ·intro i n hi; obtain⟨rfl,rfl⟩:=hf i n hi; simp
section
attribute [local irreducible] fP fm kM gK dH kr aq aL cH bP
def zu:∀(d:Bytes),bytesOf (d.map Aj)=some d
 | []=>rfl
 |b::d=>by
  rw[a8]
  show bP (bytesOf (d.map Aj)) (fun l=>some (UInt8.ofNat ((b.toNat:Int)).toNat::l))=some (b::d)
  rw[zu d,cq];simp
def akP(a b:Bytes):aq dp 134 [mc a,mc b] []=some (.bool (a==b),[]):=by
 refine aw ?_;simp only[YK,ajA,zu,EN,seval]
def amb a b:=cP (akP a b)
def alQ(x y:eM):decide (x=y)=(x.name==y.name&&(x.ar==y.ar&&(x.ae==y.ae&&true))):=by
 cases x; cases y;simp only[eM.mk.injEq,fW];rw[er];simp
def LU(x y:eM):lK [.s,.i,.i] (dJ x) (dJ y)=some (decide (x=y)):=by
 rw[alQ];simp only[dJ,lK,iq,cq,↓reduceIte]
def aeU(x:eM):(dJ x).all ag.j9=true:=rfl
def akQ(a b:List eM)(ha:a.length<=100000):aq dp 135 [iU a,iU b] []=some (.bool (decide (a=b)),[]) :=
 ahz (sz:=3) (e:=gq) (ld := .kl 3) (ne := .VP [.s,.i,.i] true) gd rfl ha (fun _=>rfl) (fun _=>rfl) (fun _=>rfl) (fun _ _ _ _ h=>by simp only[ei,gw.ev,h]; rfl) (fun _ _ _ _ _ _ h h'=>by simp only[ei,gw.ev,h,h',gq,LU,cq])
def amc a b ha:=cP (akQ a b ha)
def ZI(x y:Node):decide (x=y)=(x.ar==y.ar&&(x.kind==y.kind&&(x.df==y.df&&(x.up==y.up&&(x.data==y.data&&decide (x.aK=y.aK)))))):=by
 cases x; cases y;simp only[Node.mk.injEq];rw[er];simp only[bt,bm,eG];constructor
 ·rintro⟨h1,h2,h3,h4,h5,h6⟩; exact⟨h1,h2,h3,h6,h4,h5⟩
 ·rintro⟨h1,h2,h3,h6,h4,h5⟩; exact⟨h1,h2,h3,h4,h5,h6⟩
def akO(x y:Node)(hx:x.aK.length<=100000):aq dp 133 [.agg (aI x),.agg (aI y)] []=some (.bool (decide (x=y)),[]):=by
 rw[ZI];refine aw ?_;simp only[YJ,aey,bJ,aI,EN,seval]
 repeat' ((first|apply bW|apply c8|apply fq)<;>intro hb<;>simp only[hb,EN,aey,amb,amc,hx,seval])
 all_goals simp_all only[vK,↓reduceIte,reduceCtorEq,an]
def ama x y hx:=cP (akO x y hx)
def akR(a b:List Node)(ha:a.length<=100000)(he:∀n,n∈a->n.aK.length<=100000):aq dp 136 [aV a,aV b,.func 133 []] []=some (.bool (decide (a=b)),[]) :=
 ahy (sz:=6) (e:=aI) (z:=[aH 0,aH 0,aH 0,.slice .c0 [],.slice .c0 [],aH 0]) gd rfl ha (fun _=>rfl) rfl (fun _=>rfl) (fun _=>rfl) fun x y M h=>ama x y (he x h) M
def amd a b ha he:=cP (akR a b ha he)
def ai0(x y:Tree):decide (x=y)=(x.next==y.next&&(x.ae==y.ae&&decide (x.aa=y.aa))):=by
 cases x; cases y;simp only[Tree.mk.injEq];rw[er];simp only[bt,bm,eG];constructor
 ·rintro⟨h1,h2,h3⟩; exact⟨h2,h3,h1⟩
 ·rintro⟨h2,h3,h1⟩; exact⟨h1,h2,h3⟩
def c71(a b:Tree)(ha:Small a):aq dp 71 [bD a,bD b] []=some (.bool (decide (a=b)),[]):=by
 rw[ai0];have h1:=ha.aa;have h2:=ha.aK;refine aw ?_;simp only[ahh,E71,bD,aY,EN,seval]
 repeat' ((first|apply bW|apply c8|apply fq)<;>intro hb<;>simp only[hb,EN,E71,amd _ _ h1 h2,seval])
 all_goals simp_all only[vK,↓reduceIte,reduceCtorEq,an]
end
structure JD where
 kD:Int
 handle:Int
 ar:Int
 deriving DecidableEq,Inhabited
structure Ct where
 ar:Int
 aa:Int
 bytes:Int
 deriving DecidableEq,Inhabited
structure JF where
 nw:Int
 ann:Int
 node:Node
 deriving DecidableEq,Inhabited
structure JH where
 id:Int
 ar:Int
 at':Int
 deriving DecidableEq,Inhabited
structure qm where
 kind:Int
 kD:Int
 aQ:Bytes
 rj:Bytes
 n:Int
 m:Int
 handle:Int
 data:Bytes
 deriving DecidableEq,Inhabited
structure Pp where
 err:Int
 ar:Int
 kind:Int
 n:Int
 m:Int
 names:List Bytes
 data:Bytes
 deriving DecidableEq,Inhabited
structure JG where
 kD:Int
 seq:Int
 ans:Pp
 deriving DecidableEq,Inhabited
def yM(h:JD):List ag:=[.int .i64 h.kD,.int .i64 h.handle,.int .i64 h.ar]
def Qh(h:JD):ag := .agg (yM h)
def vW(q:Ct):List ag:=[.int .i64 q.ar,.int .i64 q.aa,.int .i64 q.bytes]
def Kd(q:Ct):ag := .agg (vW q)
def yN(p:JF):List ag := .int .i64 p.nw :: .int .i64 p.ann::aI p.node
def Qi(p:JF):ag := .agg (yN p)
def yP(s:JH):List ag:=[.int .i64 s.id,.int .i64 s.ar,.int .i64 s.at']
def Qk(s:JH):ag := .agg (yP s)
abbrev nv(l:List Int):ag := .slice .sh (l.map mr)
abbrev fX(l:List Bytes):ag := .slice .sh (l.map ag.str)
def fD(o:qm):List ag:=[.int .i64 o.kind,.int .i64 o.kD,.str o.aQ,.str o.rj,.int .i64 o.n,.int .i64 o.m,.int .i64 o.handle,mc o.data]
def zF(o:qm):ag := .agg (fD o)
def ga(a:Pp):List ag:=[.int .i64 a.err,.int .i64 a.ar,.int .i64 a.kind,.int .i64 a.n,.int .i64 a.m,fX a.names,mc a.data]
def ub(a:Pp):ag := .agg (ga a)
def yO(s:JG):List ag := .int .i64 s.kD :: .int .i64 s.seq::ga s.ans
def Qj(s:JG):ag := .agg (yO s)
def HD(n:JD):(Qh n).cells=yM n:=rfl
def Gn(n:Ct):(Kd n).cells=vW n:=rfl
def HE(n:JF):(Qi n).cells=yN n:=rfl
def HG(n:JH):(Qk n).cells=yP n:=rfl
def HF(n:JG):(Qj n).cells=yO n:=rfl
def KI(n:JD):(yM n).length=3:=rfl
def Ir(n:Ct):(vW n).length=3:=rfl
def KJ(n:JF):(yN n).length=8:=rfl
def KL(n:JH):(yP n).length=3:=rfl
def KK(n:JG):(yO n).length=9:=rfl
def mo{α:Type}(f:α->ag)(k:Nat)(h:∀a,(f a).cells.length=k)(l:List α):wid (l.map f) k=True:=by
 simp only[fH,j5];intro x hx;obtain⟨n,_,rfl⟩:=cm.1 hx;exact h n
def Ph(l:List JD):wid (l.map Qh) 3=True:=mo Qh _ (fun _=>rfl) l
def Lq(l:List Ct):wid (l.map Kd) 3=True:=mo Kd _ (fun _=>rfl) l
def Pj(l:List JF):wid (l.map Qi) 8=True:=mo Qi _ (fun _=>rfl) l
def Pm(l:List JH):wid (l.map Qk) 3=True:=mo Qk _ (fun _=>rfl) l
def Pk(l:List JG):wid (l.map Qj) 9=True:=mo Qj _ (fun _=>rfl) l
def DZ(l:List Bytes):wid (l.map ag.str) 1=True:=mo ag.str _ (fun _=>rfl) l
def tkH(n:JD):List.take 3 (yM n)=yM n:=rfl
def shH(n:JD):List.map ag.shut (yM n)=yM n:=rfl
def tkQ(n:Ct):List.take 3 (vW n)=vW n:=rfl
def shQ(n:Ct):List.map ag.shut (vW n)=vW n:=rfl
def tkP(n:JF):List.take 8 (yN n)=yN n:=rfl
def shP(n:JF):List.map ag.shut (yN n)=yN n:=rfl
def tkS(n:JH):List.take 3 (yP n)=yP n:=rfl
def shS(n:JH):List.map ag.shut (yP n)=yP n:=rfl
def tkU(n:JG):List.take 9 (yO n)=yO n:=rfl
def shU(n:JG):List.map ag.shut (yO n)=yO n:=rfl
def agy:((2:Nat):Int)=2:=rfl
def ad8:Int.toNat 0=0:=rfl
def ad9:Int.toNat 1=1:=rfl
def alR(a b c d:Int):lK [FK.i,FK.i] [aH a,aH b] [aH c,aH d]=some (a==c&&b==d):=by
 simp[lK,iq]
def alS(a b c a' b' c':Int):lK [FK.i,FK.i,FK.i] [aH a,aH b,aH c] [aH a',aH b',aH c']=some (a==a'&&(b==b'&&c==c')):=by
 simp[lK,iq]
def EVF:=u8w @alR @alS @eu.{0} @dX.{0} @agy @ad8 @ad9 @jv (u8w @fM @HD @Gn @HE @HG @HF @KI @Ir (u8w @KJ @KL @KK @Ph @Lq @Pj @Pm @Pk (u8w @DZ @tkH @shH @tkQ @shQ @tkP @shP @tkS (cn @shS (cn @tkU (cn @shU (cn @tkN (cn @shN (cn @tkE @shE)))))))))
def EW:=And.intro EVF EN
section
attribute [local irreducible] fP fm kM gK dH kr aq aL cH bP
def k9(n:Node):Bool:=n.kind==1&&n.df==0
end
section
theorem N9{α:Type}(p:α->Bool):∀(l:List α)(i:Nat),(rE p l i = -1/\l.find? p=none)\/∃(m:Nat) (x:α),rE p l i=((i+m:Nat):Int)/\l[m]?=some x/\l.find? p=some x/\l.eraseIdx m=l.eraseP p
 | [],i => .inl ⟨rfl,rfl⟩
 |x::r,i=>by
  rw[rE]
  by_cases h:p x=true
  ·grind
  ·rcases N9 p r (i+1) with ⟨h1,h2⟩|⟨m,y,h1,h2,h3,h4⟩
   ·exact .inl ⟨by simp[h,h1],by simp[h,h2]⟩
   ·grind
def Mt{α:Type}(lt:α->Bool)(l:List α):Nat:=(l.takeWhile lt).length
theorem TG{α:Type}{lt:α->Bool}:∀ {l:List α},l.Pairwise (fun a b=>lt b=true->lt a=true)->Low lt l (Mt lt l)
 | [],_=>⟨ak _,fun h n hn=>by simp_all⟩
 |a::r,h=>by
  obtain⟨h1,h2⟩:=bR.1 h;obtain⟨i1,i2⟩:=TG h2;unfold Mt at i1 i2 ⊢
  by_cases ha:lt a=true
  ·rw[fu,av ha];refine⟨kW,fun k n hn=>?_⟩
   grind
  ·rw[fu,aj ha];refine⟨dk,fun k n hn=>?_⟩
   grind
attribute [local irreducible] fP fm kM gK dH kr aq aL cH bP
end
section
section
variable {α:Type} (enc:α->ag) {f sz bytes:Nat}
def L9(hp:dp.qP f=some (p9 sz bytes))(hw:∀a,(enc a).cells.length=sz)(hb:bytes<=1000){l:List α}(h0:l≠[])(hn:l.length<=100000)(M:aO) :
  aq dp f [ka (l.map enc)] M=some (.cY M.length 0 sz 0 l.length,M++[.arr sz 0 (l.map enc)]):=by
 refine gN (g:=p9 sz bytes) hp ?_;obtain⟨a,r,rfl⟩:=fz h0;have hw:wid ((a::r).map enc) sz:=by have:=mo enc sz hw (a::r); simpa using this
 have hr:dY ((a::r).map enc).length bytes:=by have:=si (a:=(a::r).length) (b:=bytes) aM aM; simpa using this
 unfold p9;simp only[a8] at hw hr ⊢;rw[gm ⟨hw,hr⟩];simp
def QY(hp:dp.qP f=some (nI sz bytes))(hb:bytes<=1000){l:List α}{b id v:Nat}(h:b<=l.length)(hn:l.length<=100000)(x:ag)(hx:x.cells.length=sz)(M:aO)(hM:nth M id=some (.arr sz v (l.map enc))) :
  aq dp f [.cY id v sz 0 l.length,aH b,ka [x]] M=some (.cY id (v+1) sz 0 (l.length+1),jY M id (.arr sz (v+1) ((l.map enc).take b++x::(l.map enc).drop b))):=by
 refine gN (g:=nI sz bytes) hp ?_;have hr:dY ((l.map enc).length+1) bytes:=by have:=si (a:=l.length+1) (b:=bytes) aM aM; simpa using this
 unfold nI;simp only[hM];rw[gm ⟨trivial,trivial,trivial,dk,aM,by simpa using h,hx,hr⟩]
 simp
def QX(hp:dp.qP f=some (oS sz)){l:List α}{b id v:Nat}(h:b<l.length)(hn:l.length<=100000)(M:aO)(hM:nth M id=some (.arr sz v (l.map enc))) :
  aq dp f [.cY id v sz 0 l.length,aH b,aH ((b+1:Nat):Int)] M=some (.cY id (v+1) sz 0 (l.length-1),jY M id (.arr sz (v+1) ((l.map enc).take b++(l.map enc).drop (b+1)))):=by
 refine gN (g:=oS sz) hp ?_;unfold oS;simp only[hM];rw[gm ⟨trivial,trivial,trivial,dk,aM,by simpa using h,aM,ic⟩]
 simp
def VH{l:List α}{b:Nat}(h:b<l.length):List.take (l.length-1) ((l.map enc).take b++(l.map enc).drop (b+1))=(l.eraseIdx b).map enc:=by
 rw[bS ic,List.eraseIdx_eq_take_drop_succ];simp
def Wa{l:List α}{b:Nat}(h:b<=l.length)(x:α):List.take (l.length+1) ((l.map enc).take b++enc x::(l.map enc).drop b)=(l.take b++x::l.drop b).map enc:=by
 rw[bS ic];simp
end
attribute [local irreducible] fP fm kM gK dH kr aq aL cH bP
def Wc(t:Tree)(ar:Int)(ht:Small t)(hr:wQ t)(M:aO):aL (aq dp) 106 [.agg [aV t.aa,aH t.next,aH t.ae],aH ar] M=some (.tuple [.agg (aI (bO t.aa ar)),.bool (find t.aa ar).isSome],M) :=
 cO (akv t ar ht hr) M
def al2(t:Tree)(ar:Int)(ht:Small t)(hr:wQ t)(M:aO):aL (aq dp) 104 [.agg [aV t.aa,aH t.next,aH t.ae],aH ar] M=some (.tuple [.agg (aY (pc t ar).1),aH (pc t ar).2],M) :=
 cO (akt t ar ht hr) M
end
section
attribute [local irreducible] fP fm kM gK dH kr aq aL cH bP
def cF.sz{t:Tree}{cz:Int->Nat}{x:Int}(h:cF t cz x):Sz 200 t where
 aa:=h.aa
 aK:=fun n hn=>by have:=(h.wL _ _ ((fp h.jK.iW).2 ⟨hn,rfl⟩)).2; omega
 data:=fun n hn=>by
  have hi:=(fp h.jK.iW).2 ⟨hn,rfl⟩;rcases h.kind _ _ hi with h1|h1
  ·have:=(h.file _ _ hi h1).2.2; omega
  ·rw[h.dir _ _ hi h1]; simp
def Sz.Lg{b:Nat}{t:Tree}(h:Sz b t)(hb:b<=100000:=by omega):Small t:=h.small hb
def Rt(t:Tree):Prop:=∃cz,cF t cz 0
def Rt.jK{t:Tree}(h:Rt t):wQ t:=let ⟨_,g⟩:=h; g.jK
def Rt.sz{t:Tree}(h:Rt t):Sz 200 t:=let ⟨_,g⟩:=h; g.sz
def Rt.small{t:Tree}(h:Rt t):Small t:=h.sz.small aM
def Rt.free{t:Tree}(h:Rt t)(ar:Int):Rt (pc t ar).1:=let ⟨_,g⟩:=h; ⟨_,EM g ar⟩
def b0T(n:Tree)(B:Nat)(M:aO):List.map (ag.kG B M) (aY n)=aY n:=rfl
end
abbrev AM(α:Type):=List (Int×α)
section
variable {α:Type}
def wM(l:AM α):List ag:=l.map fun p => .int .i64 p.1
def re(enc:α->ag)(l:AM α):List ag:=l.map fun p=>enc p.2
def dx:AM α->Int->Option α
 | [],_=>none
 |(k',v)::l,k=>if k=k' then some v else dx l k
def kL:AM α->Int->α->AM α
 | [],k,v=>[(k,v)]
 |(k',v')::l,k,v=>if k=k' then (k,v)::l else (k',v')::kL l k v
def fN:∀(l:AM α)(k:Int)(v:α)(j:Int),dx (kL l k v) j=if j=k then some v else dx l j
 | [],k,v,j=>by simp only[kL,dx]
 |(k',v')::l,k,v,j=>by
  simp only[kL];split
  ·rename_i h;subst h;simp only[dx];split<;>rfl
  ·rename_i h;simp only[dx];split
   ·rename_i h2;rw[aj (fun hh=>h (hh.symm.trans h2))]
   ·exact fN l k v j
def Dt:∀(l:AM α)(k:Int)(v:α),dx l k=some v->(k,v)∈l
 |(k',v')::l,k,v,h=>by
  simp only[dx] at h;split at h
  ·rename_i hk;injection h with h
   subst h; subst hk;exact aG
  ·exact aP _ (Dt l k v h)
def TR:∀(l:AM α)(k:Int)(v:α),(kL l k v).length<=l.length+1
 | [],_,_=>by simp[kL]
 |(k',v')::l,k,v=>by
  simp only[kL];split
  ·simp
  ·have:=TR l k v;simp; omega
def lC(enc:α->ag):∀(l:AM α)(k:Int),td .i (.int .i64 k) (wM l) (re enc l)=some ((dx l k).map enc)
 | [],k=>rfl
 |(k',v)::l,k=>by
  show bP (iq .i (.int .i64 k) (.int .i64 k')) (fun b=>zk b (some (some (enc v))) (td .i (.int .i64 k) (wM l) (re enc l)))=_
  rw[lC enc l k];simp only[iq,↓reduceIte,cq,dx]
  by_cases h:k=k'
  ·rw[av h,show(k==k')=true by simpa using h,uu]; rfl
  ·rw[aj h,show(k==k')=false by simpa using h,mL]
end
section
variable {α:Type}
def um(enc:α->ag):∀(l:AM α)(k:Int)(v:α),te .i (.int .i64 k) (enc v) (wM l) (re enc l)=some (wM (kL l k v),re enc (kL l k v))
 | [],k,v=>by
  show bP (iq .i (.int .i64 k) (.int .i64 k)) (fun _=>some ([ag.int .i64 k],[enc v]))=_
  simp only[iq,↓reduceIte,cq];rfl
 |(k',v')::l,k,v=>by
  show bP (iq .i (.int .i64 k) (.int .i64 k')) (fun b=>zk b (some (ag.int .i64 k::wM l,enc v::re enc l)) (bP (te .i (.int .i64 k) (enc v) (wM l) (re enc l)) fun x=>some (ag.int .i64 k'::x.1,enc v'::x.2)))=_
  rw[um enc l k v];simp only[iq,↓reduceIte,cq,kL]
  by_cases h:k=k'
  ·rw[av h,show(k==k')=true by simpa using h,uu]; rfl
  ·rw[aj h,show(k==k')=false by simpa using h,mL]; rfl
def aaM(enc:α->ag)(B:Nat)(M:aO)(h:∀a,(enc a).jL B M=enc a)(l:AM α):List.map (ag.jL B M) (re enc l)=re enc l:=by
 unfold re;rw[fY];exact cj (fun p _=>h p.2)
def ZD(enc:α->ag)(h:∀a,(enc a).ids=[])(l:AM α):(re enc l).flatMap ag.ids=[]:=by
 unfold re;rw[List.flatMap_map];exact jS.2 fun p _=>h p.2
def Qx(enc:α->ag)(h:∀a,(enc a).flat=true)(l:AM α):(re enc l).all ag.flat=true:=bF.2 fun x hx=>by
 obtain⟨p,_,rfl⟩:=cm.1 hx;exact h p.2
def Z1(enc:α->ag)(ρ:Nat->Nat)(h:∀a,(enc a).rn ρ=enc a)(l:AM α):(re enc l).map (ag.rn ρ)=re enc l:=by
 unfold re;rw[fY];exact cj (fun p _=>h p.2)
def VI(l:AM α):(wM l).length=l.length:=by simp[wM]
def Iz(o:Option Bool):lL (.bool false) false (o.map ag.bool) = .bool (o.getD false):=by cases o<;>rfl
end
noncomputable def oh(T:Br)(f0:Nat)(g:List ag->aO->Option (ag×aO)):Br:=⟨T.code,fun f=>if f=f0 then some g else T.qP f⟩
def xB{P:Program}{T:Br}(hT:ym P T){f0:Nat}{g:List ag->aO->Option (ag×aO)}(he:k6 P f0=true)(hg:∀ {args:List ag} {M:aO} {x:ag×aO},g args M=some x->eZ P f0 args M x):ym P (oh T f0 g):=by
 refine⟨hT.code,fun f g' h args M x hx=>?_⟩
 simp only[oh] at h;split at h
 ·rename_i hf;cases h; subst hf;exact⟨he,hg hx⟩
 ·exact hT.qP f g' h args M x hx
def Ae{T:Br}{f0:Nat}{g:List ag->aO->Option (ag×aO)}(h1:T.code f0=none)(h2:T.qP f0=none):∀n,yB (lh T n) (lh (oh T f0 g) n)
 |0,f,a,M,x,h=>by
  by_cases hf:f=f0
  ·subst hf;rw[lh,h2] at h;cases h
  ·have hp:(oh T f0 g).qP f=T.qP f:=by simp[oh,hf]
   rw[lh] at h ⊢;rw[hp];exact h
 |n+1,f,a,M,x,h=>by
  by_cases hf:f=f0
  ·subst hf;rw[lh,h2,h1] at h;cases h
  ·have hp:(oh T f0 g).qP f=T.qP f:=by simp[oh,hf]
   rw[lh] at h ⊢;rw[hp];split at h
   ·rename_i g hg; exact h
   ·rename_i hg;have hc:(oh T f0 g).code f=T.code f:=rfl;rw[hc];split at h
    ·cases h
    ·rename_i fn hfn;split at h
     ·rename_i hl;simp only[av hl];obtain⟨o,ho,h⟩:=bu h;rw[jO (Ae h1 h2 n) _ ho,cq];exact h
     ·cases h
def xA{T:Br}{f0:Nat}{g:List ag->aO->Option (ag×aO)}(h1:T.code f0=none)(h2:T.qP f0=none){f:Nat}{a:List ag}{M:aO}{x:ag×aO}(h:aq T f a M=some x):aq (oh T f0 g) f a M=some x:=by
 obtain⟨n,hn⟩:=uY h;exact qL (fun n x h=>vd _ n f a M x h) (Ae h1 h2 n f a M x hn)
noncomputable def aiY:Br:=oh dp 158 (K7 (aq dp) L3 1)
def XV:ym Tryz.prog aiY:=xB UN gd (fun h=>(Oa gd (uE gd UN) func158 air h).2)
noncomputable def fc:Br:=oh aiY 63 DC
def MW:ym Tryz.prog fc:=xB XV gd (fun h=>UK h)
def UH:pC Tryz.prog (aq fc):=uE gd MW
def MX{f:Nat}{a:List ag}{M:aO}{x:ag×aO}(h:aq dp f a M=some x):aq fc f a M=some x:=xA rfl rfl (xA rfl rfl h)
def lS'{f:Nat}{a:List ag}{M:aO}{x:ag×aO}(h:aq dp f a M=some x):aq fc f a M=some x:=MX h
def lS{f:Nat}{vs:List ag}{M:aO}{x:ag×aO}(h:aL (aq dp) f vs M=some x):aL (aq fc) f vs M=some x:=by
 obtain⟨a,B,y,h1,h2⟩:=tY h;exact h2 _ (MX h1)
def k63(s:Bytes)(hs:s.length<=100000)(M:aO):aL (aq fc) 63 [.str s] M=some (.tuple [fX (bI s).1,aH (bI s).2],M):=by
 have h:aq fc 63 [.str s] []=some (.tuple [fX (bI s).1,aH (bI s).2],[]):=by
  refine gN (g:=DC) rfl ?_;unfold DC;simp only[];rw[av ⟨trivial,hs⟩]
 exact cO h M
end
section
open Go Go.RowKit Go.Extern.Stop Go.Stop Go.Extern
def KU (h:Value) (w:World):(Go.method 442 248 (.agg #[h]) "Kind").run Tryz.prog w = .ok (301,h) w:=gd
def KT (h:Value) (w:World):(Go.method 442 248 (.agg #[h]) "Elem").run Tryz.prog w = .ok (312,.agg #[h]) w:=gd
def A5 (h:Value) (w:World):(Go.method 442 248 (.agg #[h]) "Implements").run Tryz.prog w = .ok (313,.agg #[h]) w:=gd
def yX (h:Value) (w:World):(Go.method 442 248 (.agg #[h]) "AssignableTo").run Tryz.prog w = .ok (310,.agg #[h]) w:=gd
def rlm(z:Sem Value)(f:TypeId->Addr->Nat->Nat->Sem Value)(v:Value) :
  ReflectliteValue.method z f #[v]=(do match <-ReflectliteValue.parts v with|none=>z|some (t,a,fl)=>f t a fl (fl % 32)):=rfl
def rls:∃s1 s2 s3 s4 s5:String,∀v x:Value,ReflectliteValue.set #[v,x]=(do
  let (some (dst,a,fl),some (src,b,_)):=(<-ReflectliteValue.parts v,<-ReflectliteValue.parts x)
   |unsupported (.noEntry s1)
  if fl / ReflectliteValue.flagAddr % 2==0 then unsupported (.noEntry s2)
  let val <-loadVar src b
  if <-Rtype.directlyAssignable dst src then storeVar dst a val
  else if <-Rtype.implements dst src then
   if (<-Rtype.kind src)==20 then
    match val with
    | .nilIface=>unsupported (.noEntry s3)
    |_=>storeVar dst a val
   else storeVar dst a (.iface src val)
  else panicString (s4++(<-Rtype.spelt src)++s5++(<-Rtype.spelt dst))
  pure (.tuple #[])):=⟨_,_,_,_,_,fun v x=>rfl⟩
def Kj(t:Addr)(w:World):(ReflectliteValue.unpack (.iface 140 (.pointer (some t)))).run Tryz.prog w
  = .ok (.agg #[.pointer (some ⟨2,140,none⟩),.pointer (some ⟨w.heap.size,0,none⟩),.int .u64 150]) (w.alloc (.cells #[.pointer (some t)] 140)):=gd
def VU (a:Addr) (w:World):(ReflectliteValue.methodAny (ReflectliteValue.valueError "reflectlite.Value.Type" 0) (fun t _ _ _=>ReflectliteType.toType t) #[.agg #[.pointer (some ⟨2,140,none⟩),.pointer (some a),.int .u64 150]]).run Tryz.prog w
  = .ok (.iface 248 (.agg #[.pointer (some ⟨2,140,none⟩)])) w:=gd
def VS(w:World):((ReflectliteType.abiMethod fun t=>Functor.map (fun a:Nat=>Value.int IntKind.u8 (a:Int)) (Rtype.kind t)) #[.pointer (some ⟨2,140,none⟩)]).run Tryz.prog w = .ok (.int .u8 22) w:=gd
def VT(w:World):((ReflectliteType.abiMethod fun t=>Functor.map (fun a:Nat=>Value.int IntKind.u8 (a:Int)) (Rtype.kind t)) #[.pointer (some ⟨2,34,none⟩)]).run Tryz.prog w = .ok (.int .u8 2) w:=gd
def HN(a:Addr)(w:World):(ReflectliteValue.parts (.agg #[.pointer (some ⟨2,140,none⟩),.pointer (some a),.int .u64 150])).run Tryz.prog w = .ok (some (140,a,150)) w:=gd
def Qm(a p:Addr)(W:World)(ha:W.cell? a=some (.pointer (some p))) :
  (ReflectliteValue.method (ReflectliteValue.valueError "reflectlite.Value.IsNil" 0) ReflectliteValue.isNil #[.agg #[.pointer (some ⟨2,140,none⟩),.pointer (some a),.int .u64 150]]).run Tryz.prog W = .ok (.bool false) W:=by
 rw[rlm];simp only[Sem.run_bind,HN,Result.andThen];simp[ReflectliteValue.isNil,loadVar,isAgg,underlying,underlying140,ha,Result.andThen]
def VR(w:World):(ReflectliteType.method ReflectliteType.elem #[.agg #[.pointer (some ⟨2,140,none⟩)]]).run Tryz.prog w = .ok (.iface 248 (.agg #[.pointer (some ⟨2,34,none⟩)])) w:=gd
def D8 (w:World):(ReflectliteType.relation "Implements" ReflectliteType.implements_ #[.agg #[.pointer (some ⟨2,34,none⟩)],.iface 248 (.agg #[.pointer (some ⟨2,137,none⟩)])]).run Tryz.prog w = .ok (.bool true) w:=gd
def NQ(v:Value)(w:World):(ReflectliteType.typeOf #[.iface 34 v]).run Tryz.prog w = .ok (.iface 248 (.agg #[.pointer (some ⟨2,34,none⟩)])) w:=gd
def D7 (w:World):(ReflectliteType.relation "AssignableTo" ReflectliteType.assignableTo #[.agg #[.pointer (some ⟨2,34,none⟩)],.iface 248 (.agg #[.pointer (some ⟨2,34,none⟩)])]).run Tryz.prog w = .ok (.bool true) w:=gd
def Kk(e:Int)(w:World):(ReflectliteValue.unpack (.iface 34 (.int .i64 e))).run Tryz.prog w
  = .ok (.agg #[.pointer (some ⟨2,34,none⟩),.pointer (some ⟨w.heap.size,0,none⟩),.int .u64 130]) (w.alloc (.cells #[.int .i64 e] 34)):=gd
def NN(w:World):(Rtype.elem? 140).run Tryz.prog w = .ok (some 34) w:=gd
def agG(p:Addr)(w:World):(ReflectliteValue.mk 34 p ReflectliteValue.flagAddr).run Tryz.prog w = .ok (.agg #[.pointer (some ⟨2,34,none⟩),.pointer (some p),.int .u64 386]) w:=gd
def Ql(a p:Addr)(W:World)(ha:W.cell? a=some (.pointer (some p))) :
  (ReflectliteValue.method (ReflectliteValue.valueError "reflectlite.Value.Elem" 0) ReflectliteValue.elem #[.agg #[.pointer (some ⟨2,140,none⟩),.pointer (some a),.int .u64 150]]).run Tryz.prog W
   = .ok (.agg #[.pointer (some ⟨2,34,none⟩),.pointer (some p),.int .u64 386]) W:=by
 rw[rlm];simp only[Sem.run_bind,HN,Result.andThen];simp[ReflectliteValue.elem,loadVar,isAgg,underlying,underlying140,ha,Result.andThen,NN,agG]
def NP(a:Addr)(w:World):(ReflectliteValue.parts (.agg #[.pointer (some ⟨2,34,none⟩),.pointer (some a),.int .u64 386])).run Tryz.prog w = .ok (some (34,a,386)) w:=gd
def Qn(a:Addr)(w:World):(ReflectliteValue.parts (.agg #[.pointer (some ⟨2,34,none⟩),.pointer (some a),.int .u64 130])).run Tryz.prog w = .ok (some (34,a,130)) w:=gd
def NM(w:World):(Rtype.directlyAssignable 34 34).run Tryz.prog w = .ok true w:=gd
def aa4(ta b:Addr)(e:Int)(uL:Value)(W:World)(hb:W.cell? b=some (.int .i64 e))(ht:W.cell? ta=some uL)(hf:W.frozen? ta=false) :
  (ReflectliteValue.set #[.agg #[.pointer (some ⟨2,34,none⟩),.pointer (some ta),.int .u64 386],.agg #[.pointer (some ⟨2,34,none⟩),.pointer (some b),.int .u64 130]]).run Tryz.prog W
   = .ok (.tuple #[]) (W.setCell ta (.int .i64 e)):=by
 have hz:=sizeOf34;have hadd:∀a:Addr,a.add 0=a:=fun a=>by simp[Addr.add]
 obtain⟨s1,s2,s3,s4,s5,rls⟩:=rls;rw[rls];simp only[Sem.run_bind,NP,Qn,Result.andThen];simp[ReflectliteValue.flagAddr,loadVar,isAgg,underlying,underlying34,hb,Result.andThen,NM,storeVar,Value.cells,storeCells,loadCells,loadCellsFrom,hz,hadd];rw[run_store Tryz.prog W ta _ _ (by rfl)]
 simp[ht,hf]
set_option maxHeartbeats 4000000 in
set_option maxRecDepth 40000 in
def agF(e:Int)(t:Addr)(uL:Value)(w:World)(hg:w.cell? ⟨0,0,none⟩=some (.iface 248 (.agg #[.pointer (some ⟨2,137,none⟩)])))(ht0:w.cell? t=some uL)(hf0:w.frozen? t=false) :
  Calls Tryz.prog 96 #[.iface 34 (.int .i64 e),.iface 140 (.pointer (some t))] w fun ev w'=>ev = .returned (.bool true)/\w'=((((w.alloc (.cells #[.pointer (some t)] 140)).alloc (.cells #[.pointer (some ⟨2,140,none⟩),.pointer (some ⟨w.heap.size,0,none⟩),.int .u64 150] 200)).alloc (.cells #[.pointer (some ⟨2,140,none⟩),.pointer (some ⟨w.heap.size,0,none⟩),.int .u64 150] 200)).alloc (.cells #[.int .i64 e] 34)).setCell t (.int .i64 e):=by
 have h6:=@run_callFunc_extern Tryz.prog 164 _ (fun args=>ReflectliteValue.unpack (args.getD 0 (.tuple #[]))) func164 gd gd gd gd
 have h7:=@run_callFunc_extern Tryz.prog 165 _ (ReflectliteValue.methodAny (ReflectliteValue.valueError "reflectlite.Value.Type" 0) (fun t _ _ _=>ReflectliteType.toType t)) func165 gd gd gd gd
 have h8:=@run_callFunc_extern Tryz.prog 166 _ (ReflectliteValue.method (ReflectliteValue.valueError "reflectlite.Value.IsNil" 0) ReflectliteValue.isNil) func166 gd gd gd gd;have h27:=@run_callFunc_extern Tryz.prog 301 _ (ReflectliteType.abiMethod fun t=>do pure (.int .u8 (<-Rtype.kind t))) func301 gd gd gd gd
 have h37:=@run_callFunc_extern Tryz.prog 312 _ (ReflectliteType.method ReflectliteType.elem) func312 gd gd gd gd;have h38:=@run_callFunc_extern Tryz.prog 313 _ (ReflectliteType.relation "Implements" ReflectliteType.implements_) func313 gd gd gd gd;have h10:=@run_callFunc_extern Tryz.prog 213 _ ReflectliteType.typeOf func213 gd gd gd gd;have h35:=@run_callFunc_extern Tryz.prog 310 _ (ReflectliteType.relation "AssignableTo" ReflectliteType.assignableTo) func310 gd gd gd gd;have h11:=@run_callFunc_extern Tryz.prog 214 _ (ReflectliteValue.method (ReflectliteValue.valueError "reflectlite.Value.Elem" 0) ReflectliteValue.elem) func214 gd gd gd gd;have h12:=@run_callFunc_extern Tryz.prog 215 _ ReflectliteValue.set func215 gd gd gd gd;have tO:=NQ;have mA:=yX;have a25:=D7;have v25:=Kk;have f6:=Kj;have f7:=VU;have mK:=KU;have mE:=KT;have mI:=A5;have k27:=VS;have k25:=VT;have e27:=VR;have i25:=D8;have n8:=Qm ⟨w.heap.size,0,none⟩ t ((w.alloc (.cells #[.pointer (some t)] 140)).alloc (.cells #[.pointer (some ⟨2,140,none⟩),.pointer (some ⟨w.heap.size,0,none⟩),.int .u64 150] 200)) dk
 have cA:0<w.heap.size:=by
  rcases eL w.heap.size with h0|h
  ·simp[World.cell?,h0] at hg
  ·exact h
 have hg2:((w.alloc (.cells #[.pointer (some t)] 140)).alloc (.cells #[.pointer (some ⟨2,140,none⟩),.pointer (some ⟨w.heap.size,0,none⟩),.int .u64 150] 200)).cell? ⟨0,0,none⟩=some (.iface 248 (.agg #[.pointer (some ⟨2,137,none⟩)])):=by
  rw[World.cell?_alloc_lt _ _ ⟨0,0,none⟩ dk,World.cell?_alloc_lt _ _ ⟨0,0,none⟩ cA]; exact hg
 have htl:t.block<w.heap.size:=by
  rcases bK t.block w.heap.size with h|h
  ·exact h
  ·simp[World.cell?,ik h] at ht0
 have el:=Ql ⟨w.heap.size,0,none⟩ t (((w.alloc (.cells #[.pointer (some t)] 140)).alloc (.cells #[.pointer (some ⟨2,140,none⟩),.pointer (some ⟨w.heap.size,0,none⟩),.int .u64 150] 200)).alloc (.cells #[.pointer (some ⟨2,140,none⟩),.pointer (some ⟨w.heap.size,0,none⟩),.int .u64 150] 200)) (by rw[World.cell?_alloc_lt _ _ ⟨w.heap.size,0,none⟩ ic]; simp)
 have st:=aa4 t ⟨w.heap.size+1+1+1,0,none⟩ e uL ((((w.alloc (.cells #[.pointer (some t)] 140)).alloc (.cells #[.pointer (some ⟨2,140,none⟩),.pointer (some ⟨w.heap.size,0,none⟩),.int .u64 150] 200)).alloc (.cells #[.pointer (some ⟨2,140,none⟩),.pointer (some ⟨w.heap.size,0,none⟩),.int .u64 150] 200)).alloc (.cells #[.int .i64 e] 34))
  (by rw[World.cell?_alloc_at _ _ _ _ dk]; rfl)
  (by rw[World.cell?_alloc_lt _ _ t ic,World.cell?_alloc_lt _ _ t ic,World.cell?_alloc_lt _ _ t ic,World.cell?_alloc_lt _ _ t htl]; exact ht0)
  (by rw[World.frozen?_alloc_old _ _ t ic,World.frozen?_alloc_old _ _ t ic,World.frozen?_alloc_old _ _ t ic,World.frozen?_alloc_old _ _ t (gA htl)]; exact hf0)
 go_enter func96,ntmps96
 go_wp2
 refine wp_loop_rounds 1 ?_;rw[rounds_succ]
 go_wp2
 go_ret
 exact⟨rfl,rfl⟩
end
section
open Go Go.Abs
def JQ(w:World):(Instr.typeAssert .nilIface 20 137 true).run Tryz.prog w = .ok (.tuple #[.nilIface,.bool false]) w:=gd
def JP(v:Value)(w:World):(Instr.typeAssert (.iface 34 v) 20 137 true).run Tryz.prog w = .ok (.tuple #[.iface 34 v,.bool true]) w:=gd
set_option maxRecDepth 40000 in
def O9(p:Value)(w:World) :
  CallsD Tryz.prog 95 #[p] .returning w fun e u' w'=>e = .returned (.tuple #[])/\u' = .returning/\w'=w:=by
 refine callsD_of_wpS func95 rfl fun c₀ cs hu=>?_
 simp only[ntmps95,dI,aD,aF,Nat.reduceAdd,Nat.reduceSub,jz,jA,kS,jQ,bp,bw];apply wpS_seq;apply wpS_region;simp[wpOpsS,go_sem,recoverD,hu,Exit.thenS,JQ];apply wpS_seq;apply wpS_region;simp[wpOpsS,go_sem,Exit.thenS];refine wpS_cond (t:=false) (by simp[Act.eval]) ?_
 simp only[af,aC];refine wpS_of_wp (wp_skip ?_);cases c₀;simp_all [bodyPostS,results,Tryz.results95]
def Gh(w:World)(o:Obj):(w.alloc o).heap=w.heap.push o:=rfl
def XO{e:Int}{j:J}{M:aO}{w W:World}{k b:Nat}{c:ag}(hr:Rel j M w)(hM:M[k]?=some (.cells [c]))(hj:j k=some b){vs:Array Value}{t:TypeId}(hw:w.heap[b]?=some (.cells vs t (0,0)))(hv:vs.size=1)
  (hsz:w.heap.size<=W.heap.size) (hos:W.os=w.os) (ht:W.tape=w.tape) (hou:W.output=w.output) (hq:∀b',b'≠b->b'<w.heap.size->W.heap[b']?=w.heap[b']?) (hs:W.heap[b]?=some (.cells (vs.setIfInBounds 0 (.int .i64 e)) t (0,0))) :
  Rel j (M.set k (.cells [.int .i64 e])) W/\Ext j M w j (M.set k (.cells [.int .i64 e])) W:=by
 have hg:∀(vs':Array Value)(t':TypeId)(fr:Nat×Nat),w.heap[b]?=some (.cells vs' t' fr)->∃us fr',W.heap[b]?=some (.cells us t' fr')/\us.size=vs'.size:=fun vs' t' fr h=>by
  rw[hw] at h;injection h with h
  injection h with h1 h2 h3
  subst h1; subst h2;exact⟨_,_,hs,dk⟩
 have q:Quiet w W:=⟨hsz,hos,ht,hou⟩;refine⟨Rel.store hM rfl rfl hj hr q hq hg fun j' M' _=>⟨_,_,hs,by simp[hv],fun i c v hc hv=>?_⟩,Ext.store hM rfl rfl hj hr q hq hg⟩
 match i with
 |0 =>
  have h0:(vs.setIfInBounds 0 (.int .i64 e))[0]?=some (.int .i64 e):=Array.getElem?_setIfInBounds_self_of_lt aM;rw[h0] at hv;simp at hc;injection hv with hv
  subst hc; subst hv;exact .plain (.int _ _)
 |i+1=>simp at hc
def UO{e:Int}{j:J}{M:aO}{w:World}(hr:Rel j M w)(hG:sS j M w){k b:Nat}{c:ag}(hM:M[k]?=some (.cells [c]))(hj:j k=some b){vs:Array Value}{t:TypeId}(hw:w.heap[b]?=some (.cells vs t (0,0)))(hv:vs.size=1) :
  CallsD Tryz.prog 95 #[.pointer (some ⟨b,0,none⟩)] (.panicking [{ v := .iface 34 (.int .i64 e),recovered:=false }]) w fun ed u' w' =>
   ed = .returned (.tuple #[])/\u' = .panicking [{ v := .iface 34 (.int .i64 e),recovered:=true }]/\Rel j (M.set k (.cells [.int .i64 e])) w'/\Ext j M w j (M.set k (.cells [.int .i64 e])) w':=by
 have hg:=(hG.g 0 [HO] 0 HO rfl rfl).2;have cA:0<w.heap.size:=(hG.g 0 [HO] 0 HO rfl rfl).1.lt;have hk:k<M.length:=aJ hM;have hb:=hr.lt _ _ hk hj;refine callsD_of_wpS func95 rfl fun c₀ cs hu=>?_
 simp only[ntmps95,dI,aD,aF,Nat.reduceAdd,Nat.reduceSub,jz,jA,kS,jQ,bp,bw];apply wpS_seq;apply wpS_region;simp[wpOpsS,go_sem,recoverD,hu,Exit.thenS,JP];refine wpS_of_wp ?_;refine wp_seq (wp_region ?_);simp[wpOps,go_sem,Exit.then]
 repeat' refine Or.inl ?_
 refine(agF e ⟨b,0,none⟩ vs[0] _ hg (by simp[World.cell?,hw,hv]) (by simp[World.frozen?,hw])).mono ?_
 rintro ev w' ⟨rfl,rfl⟩;simp[go_sem]
 repeat' refine Or.inl ?_
 refine wp_cond (t:=false) ?_ ?_
 ·simp[Act.eval]
 simp only[af,aC];refine wp_skip ?_
 have hR:=XO (e:=e) (W:=((((w.alloc (.cells #[.pointer (some ⟨b,0,none⟩)] 140)).alloc (.cells #[.pointer (some ⟨2,140,none⟩),.pointer (some ⟨w.heap.size,0,none⟩),.int .u64 150] 200)).alloc (.cells #[.pointer (some ⟨2,140,none⟩),.pointer (some ⟨w.heap.size,0,none⟩),.int .u64 150] 200)).alloc (.cells #[.int .i64 e] 34)).setCell ⟨b,0,none⟩ (.int .i64 e)) hr hM hj hw hv (by simp[World.setCell,Gh]; omega) rfl rfl rfl (fun b' h1 h2=>by
   have h3:b'≠w.heap.size:=aM;have h4:b'≠w.heap.size+1:=aM;have h5:b'≠w.heap.size+1+1:=aM;have h6:b'≠w.heap.size+1+1+1:=aM;simp[World.setCell,ft,dM h1,Gh,fR,h3,h4,h5,h6]) (by
   have h3:b≠w.heap.size:=aM;have h4:b≠w.heap.size+1:=aM;have h5:b≠w.heap.size+1+1:=aM;have h6:b≠w.heap.size+1+1+1:=aM;simp[World.setCell,ft,Gh,fR,hw,h3,h4,h5,h6])
 simp[bodyPostS,results,Tryz.results95];exact hR
end
end Go.Proofs.YtcbopkblmebjiaaGreatDoor
namespace Go.Proofs.YtcbopkblmebjiaaGreatDoor
open Go Go.Abs
def Ur:cD :=
 (.seq (.region [
 ox (.store 1 (.tmp 2) (.kj (.int .i64 0)))] false [2]) (.ret))
noncomputable def Yo:Code:=match Tryz.f44.body with|some (.seq _ (.seq _ r))=>r|_ => .skip
def PO:zi:={ n:=6,own:=[],lv:=[(2,[2]),(3,[2])],lp:=[] }
def Et:cD :=
 (.seq (.region [
 ob 4 (.mv (.tmp 0)),
 ob 5 (.sy (.tmp 4) [])] false [2]) Ur)
def aiB:comp Tryz.prog PO Yo=some Et:=gd
-- 95 "catacomb/fed.told$1": not apt: tuple index out of range)
noncomputable def Yn:Code:=match Tryz.f44.body with|some (.seq r _)=>r|_ => .skip
def aar:zi:={ n:=6,own:=[],lv:=[(0,[0,2,3])],lp:=[] }
def LN:cD :=
 (.region [
 ob 2 (.sv [(.int .i64 0)])] false [0,2,3])
def aiA:comp Tryz.prog aar Yn=some LN:=gd
end Go.Proofs.YtcbopkblmebjiaaGreatDoor
