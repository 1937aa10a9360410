import Derived.Laws.RangeString
import Derived.RangeFuncBox
import Derived.RangeFuncFrom
import Derived.RangeFuncLeaves
import Derived.Shelf.Abstract
import Derived.WalkKit
import Derived.OwnWalkIn
import Derived.TacticsInMore
import Derived.LoopNIn
import Derived.LoopIn
import Derived.Maps.AppendAt
import Derived.RangeFuncNested
import Derived.Test.YtcbopkblmebjiaaGreatDoorProg
import Derived.LaidEql
import Derived.Stop.Asserts
import Derived.RowKitTokens
import Derived.Defers
import Derived.Recover
import Derived.KernelRfl
import Derived.Test.YtcbopkblmebjiaaGreatDoorFduC
set_option linter.unusedSimpArgs false
set_option linter.unusedVariables false
set_option linter.unusedSectionVars false
set_option linter.defProp false
open Go.Proofs.Tryz
namespace Go.Proofs.YtcbopkblmebjiaaGreatDoor
section
open Go Go.Abs
def PC:Nat->Option eP
 |157=>some Yl
 |159=>some Ym
 |161=>some Yn
 |162=>some Yo
 |168=>some xT
 |169=>some Yp
 |170=>some P9
 |171=>some Yq
 |172=>some Yr
 |173=>some Yt
 |174=>some Yu
 |175=>some Yv
 |176=>some Yw
 |177=>some Yx
 |178=>some Qa
 |179=>some Yy
 |180=>some Yz
 |181=>some Qb
 |193=>some LB
 |195=>some YA
 |200=>some YB
 |201=>some Qc
 |202=>some Qd
 |205=>some YC
 |206=>some YD
 |207=>some YE
 |208=>some LC
 |209=>some YF
 |210=>some YG
 |216=>some YH
 |217=>some LD
 |219=>some YI
 |221=>some af4
 |222=>some YJ
 |223=>some Qe
 |224=>some Qf
 |225=>some Qg
 |226=>some Qh
 |227=>some YK
 |228=>some YL
 |229=>some YM
 |230=>some YN
 |231=>some YO
 |232=>some YP
 |240=>some LF
 |246=>some Qi
 |248=>some YQ
 |251=>some YR
 |253=>some YT
 |254=>some YU
 |255=>some YV
 |256=>some YW
 |257=>some YX
 |258=>some YY
 |259=>some YZ
 |261=>some Hy
 |278=>some Y0
 |_=>none
def PB:Nat->Option eP
 |77=>some agz
 |78=>some agA
 |79=>some akP
 |81=>some agC
 |82=>some agD
 |83=>some Nu
 |84=>some aaN
 |85=>some aaO
 |86=>some Hz
 |87=>some agE
 |88=>some agF
 |89=>some Nv
 |90=>some aaP
 |91=>some HA
 |92=>some agG
 |93=>some J6
 |94=>some aaQ
 |97=>some aaR
 |98=>some aaS
 |99=>some Qk
 |100=>some Lw
 |101=>some Hu
 |102=>some Hv
 |103=>some Ea
 |104=>some XR
 |105=>some P2
 |106=>some XT
 |108=>some CD
 |109=>some Lx
 |110=>some XU
 |111=>some P3
 |112=>some P4
 |113=>some XV
 |114=>some XW
 |115=>some P5
 |116=>some XX
 |117=>some XY
 |118=>some XZ
 |119=>some X0
 |120=>some X1
 |121=>some X2
 |124=>some X3
 |126=>some Hw
 |127=>some X4
 |128=>some Ly
 |129=>some X5
 |130=>some X6
 |132=>some P6
 |133=>some X7
 |134=>some X8
 |135=>some X9
 |136=>some Ya
 |137=>some Yb
 |138=>some Yc
 |139=>some Yd
 |140=>some Ye
 |141=>some Yf
 |142=>some Yg
 |143=>some Yh
 |144=>some Yi
 |146=>some Yj
 |147=>some Hx
 |148=>some P7
 |150=>some CE
 |151=>some zd
 |152=>some CF
 |153=>some Ba
 |154=>some P8
 |155=>some Lz
 |156=>some Yk
 |f=>PC f
def code:Nat->Option eP
 |3=>some Y1
 |4=>some fn4
 |5=>some fn5
 |6=>some fn6
 |7=>some fn7
 |8=>some fn8
 |9=>some fn9
 |10=>some aav
 |11=>some aaw
 |12=>some afY
 |13=>some afZ
 |14=>some af0
 |15=>some Vo
 |16=>some xL
 |17=>some aax
 |18=>some af1
 |19=>some af2
 |20=>some af3
 |21=>some aay
 |22=>some aaz
 |23=>some aaA
 |24=>some af5
 |25=>some aaB
 |26=>some af6
 |27=>some af7
 |28=>some aaC
 |29=>some af8
 |30=>some aaD
 |31=>some aaE
 |32=>some akM
 |33=>some af9
 |34=>some aga
 |35=>some akN
 |36=>some DJ
 |37=>some Ns
 |38=>some agb
 |39=>some agc
 |40=>some aaF
 |41=>some agd
 |42=>some aaG
 |43=>some age
 |45=>some J4
 |46=>some agf
 |47=>some agh
 |48=>some agi
 |49=>some agj
 |50=>some J5
 |51=>some aaI
 |52=>some agk
 |53=>some aaJ
 |54=>some agl
 |55=>some agm
 |56=>some agn
 |57=>some ago
 |60=>some agp
 |61=>some agq
 |62=>some agr
 |64=>some aaK
 |65=>some ags
 |66=>some agt
 |67=>some Nt
 |68=>some Qj
 |69=>some agu
 |70=>some agv
 |71=>some agw
 |72=>some aaL
 |73=>some agx
 |74=>some Vp
 |75=>some agy
 |76=>some aaM
 |f=>PB f
noncomputable def sK:Nat->Option (List ag->aK->Option (ag×aK))
 |220=>some (vU 3 2 221)
 |58=>some (vU 6 0 59)
 |194=>some (yB)
 |131=>some (Iw)
 |199=>some (zo)
 |218=>some (pN 3 32)
 |234=>some (pN 6 80)
 |145=>some (pN 3 32)
 |107=>some (xA 1 16)
 |233=>some (ou 6)
 |252=>some (ou 3)
 |163=>some (ou 3)
 |249=>some (ng 6 80)
 |250=>some (ng 3 32)
 |160=>some (ng 3 32)
 |_=>none
noncomputable def cY:Bz:=⟨code,sK⟩
set_option maxRecDepth 100000 in
def wg{f:Nat}{c fn:eP}{func:Func}{A:BZ}(h:some c=some fn)(h1:Tryz.prog.funcs[f]?=some func)(h2:oI Tryz.prog A func=some c):∃ A func,Tryz.prog.funcs[f]?=some func/\oI Tryz.prog A func=some fn:=by
 cases h; exact⟨_,_,h1,h2⟩
def gQ{f:Nat}{c fn:eP}{func:Func}(h:some c=some fn)(h1:Tryz.prog.funcs[f]?=some func)(h2:wj [] func c):∃ A func,Tryz.prog.funcs[f]?=some func/\oI Tryz.prog A func=some fn:=wg h h1 h2
def Pz(f:Nat)(fn:eP)(h:PC f=some fn):∃A func,Tryz.prog.funcs[f]?=some func/\oI Tryz.prog A func=some fn:=by
 unfold PC at h;split at h
 ·exact gQ h func157 fR
 ·exact gQ h func159 fR
 ·exact gQ h func161 fR
 ·exact gQ h func162 fR
 ·exact wg h func168 ahE
 ·exact gQ h func169 fR
 ·exact gQ h func170 fR
 ·exact gQ h func171 fR
 ·exact gQ h func172 fR
 ·exact gQ h func173 fR
 ·exact gQ h func174 fR
 ·exact gQ h func175 fR
 ·exact gQ h func176 fR
 ·exact gQ h func177 fR
 ·exact wg h func178 ahF
 ·exact gQ h func179 fR
 ·exact gQ h func180 fR
 ·exact wg h func181 ahG
 ·exact gQ h func193 fR
 ·exact gQ h func195 fR
 ·exact gQ h func200 fR
 ·exact wg h func201 ahH
 ·exact wg h func202 ahI
 ·exact gQ h func205 fR
 ·exact gQ h func206 fR
 ·exact gQ h func207 fR
 ·exact wg h func208 ahJ
 ·exact gQ h func209 fR
 ·exact gQ h func210 fR
 ·exact gQ h func216 fR
 ·exact gQ h func217 fR
 ·exact gQ h func219 fR
 ·exact gQ h func221 fR
 ·exact gQ h func222 fR
 ·exact wg h func223 ahK
 ·exact wg h func224 ahL
 ·exact gQ h func225 fR
 ·exact wg h func226 ahM
 ·exact gQ h func227 fR
 ·exact gQ h func228 fR
 ·exact gQ h func229 fR
 ·exact gQ h func230 fR
 ·exact gQ h func231 fR
 ·exact gQ h func232 fR
 ·exact gQ h func240 fR
 ·exact gQ h func246 fR
 ·exact gQ h func248 fR
 ·exact gQ h func251 fR
 ·exact gQ h func253 fR
 ·exact gQ h func254 fR
 ·exact gQ h func255 fR
 ·exact gQ h func256 fR
 ·exact gQ h func257 fR
 ·exact gQ h func258 fR
 ·exact gQ h func259 fR
 ·exact gQ h func261 fR
 ·exact gQ h func278 fR
 ·cases h
set_option maxRecDepth 100000 in
def Py(f:Nat)(fn:eP)(h:PB f=some fn):∃A func,Tryz.prog.funcs[f]?=some func/\oI Tryz.prog A func=some fn:=by
 unfold PB at h;split at h
 ·exact gQ h func77 fR
 ·exact gQ h func78 fR
 ·exact gQ h func79 fR
 ·exact gQ h func81 fR
 ·exact gQ h func82 fR
 ·exact gQ h func83 fR
 ·exact gQ h func84 fR
 ·exact gQ h func85 fR
 ·exact gQ h func86 fR
 ·exact wg h func87 amd
 ·exact gQ h func88 fR
 ·exact gQ h func89 fR
 ·exact gQ h func90 fR
 ·exact wg h func91 ame
 ·exact gQ h func92 fR
 ·exact wg h func93 amf
 ·exact gQ h func94 fR
 ·exact gQ h func97 fR
 ·exact gQ h func98 fR
 ·exact wg h func99 amg
 ·exact gQ h func100 fR
 ·exact gQ h func101 fR
 ·exact gQ h func102 fR
 ·exact gQ h func103 fR
 ·exact gQ h func104 fR
 ·exact wg h func105 ahs
 ·exact gQ h func106 fR
 ·exact wg h func108 aht
 ·exact gQ h func109 fR
 ·exact gQ h func110 fR
 ·exact wg h func111 ahu
 ·exact wg h func112 ahv
 ·exact gQ h func113 fR
 ·exact gQ h func114 fR
 ·exact wg h func115 ahw
 ·exact gQ h func116 fR
 ·exact gQ h func117 fR
 ·exact gQ h func118 fR
 ·exact gQ h func119 fR
 ·exact gQ h func120 fR
 ·exact gQ h func121 fR
 ·exact gQ h func124 fR
 ·exact gQ h func126 fR
 ·exact gQ h func127 fR
 ·exact wg h func128 ahx
 ·exact gQ h func129 fR
 ·exact gQ h func130 fR
 ·exact gQ h func132 fR
 ·exact gQ h func133 fR
 ·exact gQ h func134 fR
 ·exact gQ h func135 fR
 ·exact gQ h func136 fR
 ·exact gQ h func137 fR
 ·exact gQ h func138 fR
 ·exact gQ h func139 fR
 ·exact gQ h func140 fR
 ·exact gQ h func141 fR
 ·exact gQ h func142 fR
 ·exact gQ h func143 fR
 ·exact gQ h func144 fR
 ·exact gQ h func146 fR
 ·exact gQ h func147 fR
 ·exact wg h func148 ahy
 ·exact wg h func150 ahz
 ·exact wg h func151 ahA
 ·exact wg h func152 ahB
 ·exact wg h func153 ahC
 ·exact gQ h func154 fR
 ·exact gQ h func155 fR
 ·exact gQ h func156 fR
 ·exact Pz _ _ h
set_option maxRecDepth 100000 in
def U5(f:Nat)(fn:eP)(h:code f=some fn):∃A func,Tryz.prog.funcs[f]?=some func/\oI Tryz.prog A func=some fn:=by
 unfold code at h;split at h
 ·exact gQ h func3 fR
 ·exact gQ h func4 fR
 ·exact gQ h func5 fR
 ·exact gQ h func6 fR
 ·exact gQ h func7 fR
 ·exact gQ h func8 fR
 ·exact gQ h func9 fR
 ·exact gQ h func10 fR
 ·exact wg h func11 al2
 ·exact gQ h func12 fR
 ·exact gQ h func13 fR
 ·exact gQ h func14 fR
 ·exact gQ h func15 fR
 ·exact gQ h func16 fR
 ·exact wg h func17 al3
 ·exact gQ h func18 fR
 ·exact gQ h func19 fR
 ·exact gQ h func20 fR
 ·exact wg h func21 al4
 ·exact gQ h func22 fR
 ·exact wg h func23 al5
 ·exact gQ h func24 fR
 ·exact gQ h func25 fR
 ·exact gQ h func26 fR
 ·exact gQ h func27 fR
 ·exact wg h func28 al6
 ·exact gQ h func29 fR
 ·exact gQ h func30 fR
 ·exact gQ h func31 fR
 ·exact gQ h func32 fR
 ·exact gQ h func33 fR
 ·exact gQ h func34 fR
 ·exact gQ h func35 fR
 ·exact gQ h func36 fR
 ·exact gQ h func37 fR
 ·exact gQ h func38 fR
 ·exact wg h func39 al7
 ·exact wg h func40 al8
 ·exact gQ h func41 fR
 ·exact gQ h func42 fR
 ·exact gQ h func43 fR
 ·exact gQ h func45 fR
 ·exact gQ h func46 fR
 ·exact gQ h func47 fR
 ·exact gQ h func48 fR
 ·exact gQ h func49 fR
 ·exact wg h func50 al9
 ·exact gQ h func51 fR
 ·exact gQ h func52 fR
 ·exact gQ h func53 fR
 ·exact gQ h func54 fR
 ·exact gQ h func55 fR
 ·exact gQ h func56 fR
 ·exact gQ h func57 fR
 ·exact gQ h func60 fR
 ·exact gQ h func61 fR
 ·exact gQ h func62 fR
 ·exact gQ h func64 fR
 ·exact gQ h func65 fR
 ·exact gQ h func66 fR
 ·exact wg h func67 ama
 ·exact gQ h func68 fR
 ·exact gQ h func69 fR
 ·exact gQ h func70 fR
 ·exact gQ h func71 fR
 ·exact gQ h func72 fR
 ·exact gQ h func73 fR
 ·exact wg h func74 amb
 ·exact gQ h func75 fR
 ·exact wg h func76 amc
 ·exact Py _ _ h
def W8(f:Nat)(g:List ag->aK->Option (ag×aK))(h:sK f=some g)(args:List ag)(M:aK)(x:ag×aK)(hx:g args M=some x):kJ Tryz.prog f=true/\eM Tryz.prog f args M x:=by
 unfold sK at h;split at h
 ·cases h; exact⟨by kernel_rfl,T9 hx⟩
 ·cases h; exact⟨by kernel_rfl,Xe hx⟩
 ·cases h; exact⟨by kernel_rfl,Kc hx⟩
 ·cases h; exact⟨by kernel_rfl,agU hx⟩
 ·cases h; exact⟨by kernel_rfl,Hh hx⟩
 ·cases h; exact⟨by kernel_rfl,M7 hx⟩
 ·cases h; exact⟨by kernel_rfl,M8 hx⟩
 ·cases h; exact⟨by kernel_rfl,M6 hx⟩
 ·cases h; exact⟨by kernel_rfl,JF hx⟩
 ·cases h; exact⟨by kernel_rfl,Ng hx⟩
 ·cases h; exact⟨by kernel_rfl,Nh hx⟩
 ·cases h; exact⟨by kernel_rfl,Nf hx⟩
 ·cases h; exact⟨by kernel_rfl,NJ hx⟩
 ·cases h; exact⟨by kernel_rfl,NK hx⟩
 ·cases h; exact⟨by kernel_rfl,NI hx⟩
 ·cases h
def Ug:xQ Tryz.prog cY:=⟨U5,W8⟩
abbrev Bytes:=List UInt8
structure ew where
 name:Bytes
 au:Int
 ai:Int
 deriving DecidableEq,Inhabited
structure Node where
 au:Int
 kind:Int
 dj:Int
 data:Bytes
 aM:List ew
 up:Int
 deriving DecidableEq,Inhabited
structure Tree where
 ae:List Node
 next:Int
 ai:Int
 deriving DecidableEq,Inhabited
def Node.zero:Node:=⟨0,0,0,[],[],0⟩
def eo(e:ew):List ag:=[.str e.name,.int .i64 e.au,.int .i64 e.ai]
def gh(e:ew):ag := .agg (eo e)
abbrev ib(l:List ew):ag := .slice .sh (l.map gh)
abbrev jo(d:Bytes):ag := .slice .sh (d.map mF)
def aU(n:Node):List ag:=[.int .i64 n.au,.int .i64 n.kind,.int .i64 n.dj,jo n.data,ib n.aM,.int .i64 n.up]
def ck(n:Node):ag := .agg (aU n)
abbrev aZ(l:List Node):ag := .slice .sh (l.map ck)
def bc(t:Tree):List ag:=[aZ t.ae,.int .i64 t.next,.int .i64 t.ai]
def bJ(t:Tree):ag := .agg (bc t)
structure Small(t:Tree):Prop where
 ae:t.ae.length<=100000
 aM:∀n,n∈t.ae->n.aM.length<=100000
 data:∀n,n∈t.ae->n.data.length<=100000
def Hc(n:Node):(ck n).cells=aU n:=rfl
def JE(e:ew):(gh e).cells=eo e:=rfl
def Kk(n:Node):(aU n).length=6:=rfl
def NX(e:ew):(eo e).length=3:=rfl
def Fo(l:List Node):wid (l.map ck) 6=True:=by
 simp only[fe,jM];intro x hx;obtain⟨n,_,rfl⟩:=bR.1 hx;rfl
def I5(l:List ew):wid (l.map gh) 3=True:=by
 simp only[fe,jM];intro x hx;obtain⟨n,_,rfl⟩:=bR.1 hx;rfl
def OI(l:Bytes):wid (l.map mF) 1=True:=by
 simp only[fe,jM];intro x hx;obtain⟨n,_,rfl⟩:=bR.1 hx;rfl
structure Step where
 kind:Nat
 a:Nat
 b:Nat
 n:Nat
 m:Nat
 data:Bytes
set_option linter.defProp false in
def EVN:=bQ @Hc (bQ @JE (bQ @Kk (bQ @NX (bQ @Fo (bQ @I5 @OI)))))
set_option linter.defProp false in
def EN:=And.intro EVN EV
section
attribute [local irreducible] fP fi kD gK dp kr aq aL ct bI
def jf{α:Type}{l:List α}{pre r:List α}{n:α}(h:l=pre++n::r):l[pre.length]?=some n:=by rw[h]; simp
def mM{α:Type}{l:List α}{pre r:List α}{n:α}(h:l=pre++n::r):((pre.length:Int)<(l.length:Int))=True:=by rw[h]; simp; omega
def ot{α:Type}{l:List α}{pre:List α}(h:l=pre++[]):((pre.length:Int)<(l.length:Int))=False:=by rw[h]; simp
def Uf{α:Type}{pre:List α}{n:α}:((pre.length:Int)+1)=((pre++[n]).length:Int):=by simp
def GD{T:Type}(l:List T)(x:T)(h:(l.length:Int)+1<9223372036854775808:=by omega):IntKind.i64.wrap ((l.length:Int)+1)=((l++[x]).length:Int):=by rw[gx (by omega) (by omega)]; exact Uf
def find(ae:List Node)(au:Int):Option Node:=ae.find? fun n=>n.au==au
def gw(ae:List Node)(au:Int):Node×Int:=match find ae au with
 |none=>(Node.zero,70)
 |some n=>if n.kind=2 then (n,0) else (Node.zero,73)
def dX(l:List ew)(s:Bytes):Option ew:=l.find? fun e=>e.name==s
def sI(b:UInt8):Bool := !(decide ((b.toNat:Int)<32)||((b.toNat:Int)==47))
def dB(s:Bytes):Bool := !(decide ((s.length:Int)<1)||(decide ((s.length:Int)>32)||(s==[46]||s==[46,46])))&&s.all sI
def dR(ae:List Node)(au:Int)(s:Bytes):Int×Int :=
 if (gw ae au).2≠0 then (0,(gw ae au).2) else if dB s=false then (0,60) else match dX (gw ae au).1.aM s with
  |none=>(0,70)
  |some e=>(e.au,0)
def cg{ae:List Node}{au:Int}{n:Node}(h:find ae au=some n):n∈ae/\n.au=au:=by
 unfold find at h;exact⟨List.mem_of_find?_eq_some h,by simpa using List.find?_some h⟩
def ti{t:Tree}(hs:Small t)(au:Int):(gw t.ae au).1.aM.length<=100000:=by
 unfold gw;split
 ·simp[Node.zero]
 ·rename_i n hn;split
  ·exact hs.aM n (cg hn).1
  ·simp[Node.zero]
def zT:List ag:=[.slice .c0 [],.int .i64 0,.int .i64 0]
def nW(n:Node):List Node->List Node->Bool->List Node×Bool
 | [],out,done=>(out,done)
 |m::r,out,done =>
  nW n r ((if !done&&decide (m.au>=n.au) then out++[n] else out)++(if m.au=n.au then [] else [m])) (done||decide (m.au>=n.au))
def eI(ae:List Node)(n:Node):List Node:=(nW n ae [] false).1++(if (nW n ae [] false).2=true then [] else [n])
def iP(ae:List Node)(au:Int):List Node:=ae.filter fun n=>n.au != au
def fE(l:List ew)(s:Bytes):List ew:=l.filter fun e=>e.name != s
def dr(ae:List Node)(au:Int)(s:Bytes):List Node:=eI ae { (find ae au).getD Node.zero with aM:=fE ((find ae au).getD Node.zero).aM s }
abbrev mG(n:Int):Int:=IntKind.i64.wrap n
def Y2(a b:Bytes):Bool := !(strLt a b||a==b)
def uS(e:ew):List ew->List ew->Bool->List ew×Bool
 | [],out,done=>(out,done)
 |m::r,out,done=>uS e r ((if !done&&Y2 m.name e.name then out++[e] else out)++[m]) (done||Y2 m.name e.name)
def sQ(l:List ew)(e:ew):List ew:=(uS e l [] false).1++(if (uS e l [] false).2=true then [] else [e])
def gI(t:Tree)(au:Int)(s:Bytes)(of:Int):Tree :=
 ⟨eI t.ae { (find t.ae au).getD Node.zero with aM:=sQ ((find t.ae au).getD Node.zero).aM ⟨s,of,t.ai⟩ },t.next,mG (t.ai+1)⟩
def OD(ae:List Node)(au:Int):Int:=((find ae au).getD Node.zero).up
def vu(ae:List Node):Nat->Int->Nat->Nat
 |0,_,d=>d
 |m+1,au,d=>if au=1 then d else vu ae m (OD ae au) (d+1)
def ph(ae:List Node)(au:Int):Nat:=vu ae 201 au 0
def mg(ae:List Node)(of:Int):Nat->Int->Bool
 |0,_=>false
 |m+1,au=>if au=of then true else if au=1 then false else mg ae of m (OD ae au)
def iR(ae:List Node)(au of:Int):Bool:=mg ae of (ae.length+1) au
structure Sz(b:Nat)(t:Tree):Prop where
 ae:t.ae.length<=b
 aM:∀n,n∈t.ae->n.aM.length<=b
 data:∀n,n∈t.ae->n.data.length<=100000
def Sz.small{b:Nat}{t:Tree}(h:Sz b t)(hb:b<=100000):Small t:=⟨bh h.ae hb,fun n hn=>bh (h.aM n hn) hb,h.data⟩
def Fp(n:Node):∀(l out:List Node)(d:Bool),(nW n l out d).1.length+(if (nW n l out d).2=true then 0 else 1)<=out.length+l.length+(if d then 0 else 1)
 | [],out,d=>by simp only[nW,aG,cS]; exact ar _
 |m::r,out,d=>by
  rw[nW];refine bh (Fp n r _ _) ?_;cases d<;>by_cases h1:n.au<=m.au<;>by_cases h2:m.au=n.au<;>simp[h1,h2]<;>omega
def Fq(n:Node):∀(l out:List Node)(d:Bool)(x:Node),x∈(nW n l out d).1->x=n\/x∈out\/x∈l
 | [],out,d,x,h=>by simp[nW] at h; exact .inr (.inl h)
 |m::r,out,d,x,h=>by
  rw[nW] at h;rcases Fq n r _ _ x h with h|h|h
  ·exact .inl h
  ·rcases bS.1 h with h|h
   ·split at h
    ·rcases bS.1 h with h|h
     ·exact .inr (.inl h)
     ·exact .inl (by simpa using h)
    ·exact .inr (.inl h)
   ·split at h
    ·cases h
    ·exact .inr (.inr (by simp at h; simp[h]))
  ·exact .inr (.inr (aO _ h))
def Fs(ae:List Node)(n:Node):(eI ae n).length<=ae.length+1:=by
 have:=Fp n ae [] false;unfold eI;split at this<;>simp_all
def Ft{ae:List Node}{n x:Node}(h:x∈eI ae n):x=n\/x∈ae:=by
 unfold eI at h;rcases bS.1 h with h|h
 ·rcases Fq n ae [] false x h with h|h|h
  ·exact .inl h
  ·cases h
  ·exact .inr h
 ·split at h
  ·cases h
  ·exact .inl (by simpa using h)
def Sz.with{b:Nat}{t:Tree}(h:Sz b t){n:Node}(h1:n.aM.length<=b+1)(h2:n.data.length<=100000)(next ai:Int):Sz (b+1) ⟨eI t.ae n,next,ai⟩ :=
 ⟨bh (Fs _ _) (by have:=h.ae; simp; omega),fun x hx=>by
  rcases Ft hx with rfl|hx
  ·exact h1
  ·exact iw (h.aM x hx),fun x hx=>by
  rcases Ft hx with rfl|hx
  ·exact h2
  ·exact h.data x hx⟩
def Sz.up{b c:Nat}{t:Tree}(h:Sz b t)(hbc:b<=c):Sz c t:=⟨bh h.ae hbc,fun n hn=>bh (h.aM n hn) hbc,h.data⟩
def Sz.find{b:Nat}{t:Tree}(h:Sz b t)(au:Int):((find t.ae au).getD Node.zero).aM.length<=b/\((find t.ae au).getD Node.zero).data.length<=100000:=by
 cases hf:Go.Proofs.YtcbopkblmebjiaaGreatDoor.find t.ae au with
 |none=>simp[Node.zero]
 |some n=>exact⟨h.aM n (cg hf).1,h.data n (cg hf).1⟩
def zY(l:List ew)(s:Bytes):(fE l s).length<=l.length:=fa _ _
def Sz.left{b:Nat}{t:Tree}(h:Sz b t)(au:Int)(s:Bytes)(next ai:Int):Sz (b+1) ⟨dr t.ae au s,next,ai⟩ :=
 h.with (n:={ (Go.Proofs.YtcbopkblmebjiaaGreatDoor.find t.ae au).getD Node.zero with aM:=fE ((Go.Proofs.YtcbopkblmebjiaaGreatDoor.find t.ae au).getD Node.zero).aM s }) (bh (zY _ _) (iw (h.find au).1)) (h.find au).2 next ai
def Sz.zD{b:Nat}{t:Tree}(h:Sz b t)(au:Int)(next ai:Int):Sz b ⟨iP t.ae au,next,ai⟩ :=
 ⟨bh (fa _ _) h.ae,fun x hx=>h.aM x ((ef.1 hx).1),fun x hx=>h.data x ((ef.1 hx).1)⟩
def CJ(t:Tree)(n:Node):Bool:=decide ((64:Int)<=n.aM.length)||(decide ((12:Int)<=ph t.ae n.au)||decide ((1099511627776:Int)<=t.ai))
def mn(t:Tree)(au:Int)(s:Bytes):Int :=
 if (gw t.ae au).2≠0 then (gw t.ae au).2 else if dB s=false then 60 else if (dX (gw t.ae au).1.aM s).isSome=true then 71 else if CJ t (gw t.ae au).1 then 76 else 0
def nk(t:Tree)(au:Int)(s:Bytes)(kind:Int):Tree×Int×Int :=
 if kind != 1&&kind != 2 then (t,0,1) else if mn t au s != 0 then (t,0,mn t au s) else
 if decide ((200:Int)<=t.ae.length)||decide ((1099511627776:Int)<=t.next) then (t,0,76) else
 (gI ⟨eI t.ae ⟨t.next,kind,1,[],[],if kind==2 then au else 0⟩,mG (t.next+1),t.ai⟩ au s t.next,t.next,0)
abbrev bD(ae:List Node)(au:Int):Node:=(find ae au).getD Node.zero
def BC(t:Tree)(au to:Int)(s:Bytes):Tree×Int :=
 if !(find t.ae au).isSome||((bD t.ae au).kind==1&&(bD t.ae au).dj==0) then (t,70) else if (bD t.ae au).kind==2 then (t,72) else
 if mn t to s != 0 then (t,mn t to s) else
 (gI ⟨eI t.ae { bD t.ae au with dj:=mG ((bD t.ae au).dj+1) },t.next,t.ai⟩ to s au,0)
def gi(ae:List Node)(au:Int):List Node :=
 if (bD ae au).kind==2 then iP ae au else eI ae { bD ae au with dj:=mG ((bD ae au).dj-1) }
def vF(t:Tree)(au:Int)(s:Bytes):Tree×Int×Int :=
 if (dR t.ae au s).2 != 0 then (t,0,(dR t.ae au s).2) else if decide ((0:Int)<(bD t.ae (dR t.ae au s).1).aM.length) then (t,0,74) else
 (⟨gi (dr t.ae au s) (dR t.ae au s).1,t.next,t.ai⟩,(dR t.ae au s).1,0)
def sv(ae:List Node)(kind:Int)(y:Int):Int :=
 if !(find ae y).isSome then 0 else if kind==2&&(bD ae y).kind != 2 then 73 else if kind != 2&&(bD ae y).kind==2 then 72 else if decide ((0:Int)<(bD ae y).aM.length) then 74 else 0
def W9(t:Tree)(au:Int)(data:Bytes):Tree×Int :=
 if !(find t.ae au).isSome then (t,70) else if (bD t.ae au).kind==2 then (t,72) else if decide ((4096:Int)<data.length) then (t,2) else
 (⟨eI t.ae { bD t.ae au with data:=data },t.next,t.ai⟩,0)
def oN(t:Tree)(au:Int):Tree×Int :=
 if !(find t.ae au).isSome then (t,70) else if (bD t.ae au).kind==2 then (t,72) else if decide ((0:Int)<(bD t.ae au).dj) then (t,71) else
 (⟨iP t.ae au,t.next,t.ai⟩,0)
def oO:Tree:=⟨[⟨1,2,0,[],[],1⟩],2,1⟩
def sk(ae:List Node)(au at' d:Int)(n:Node)(most:Int):Int :=
 if n.kind==2&&iR ae n.au au then
  (if (if decide ((0:Int)<n.aM.length) then mG (mG (mG (at'+ph ae n.au)-d)+1) else mG (mG (at'+ph ae n.au)-d))>most
   then (if decide ((0:Int)<n.aM.length) then mG (mG (mG (at'+ph ae n.au)-d)+1) else mG (mG (at'+ph ae n.au)-d)) else most)
 else most
def vz(ae:List Node)(au at' d:Int):List Node->Int->Int
 | [],most=>most
 |n::r,most=>vz ae au at' d r (sk ae au at' d n most)
def Bc(ae:List Node)(au at':Int):Int:=vz ae au at' (ph ae au) ae 0
def dY(l:List ew)(s:Bytes):Int:=match dX l s with
 |none=>0
 |some e=>e.au
def manyN(t:Tree)(mT to:Int)(aM:List ew)(kind y au:Int):Bool :=
 ((y==0&&to != mT)&&decide ((64:Int)<=aM.length))||(decide ((12:Int)<=ph t.ae to)||((kind==2&&decide ((12:Int)<Bc t.ae au (mG (ph t.ae to+1))))||decide ((1099511627776:Int)<=t.ai)))
def nU(t:Tree)(mT:Int)(s:Bytes)(to:Int)(nm:Bytes)(au y:Int):Tree :=
 gI ⟨if (bD t.ae au).kind==2 then
   eI (if y != 0 then gi (dr (dr t.ae mT s) to nm) y else dr t.ae mT s) { bD t.ae au with up:=to }
  else if y != 0 then gi (dr (dr t.ae mT s) to nm) y else dr t.ae mT s,t.next,t.ai⟩ to nm au
def wa(t:Tree)(mT:Int)(s:Bytes)(to:Int)(nm:Bytes):Tree×Int×Int :=
 if (dR t.ae mT s).2 != 0 then (t,0,(dR t.ae mT s).2) else
 if (gw t.ae to).2 != 0 then (t,0,(gw t.ae to).2) else
 if !dB nm then (t,0,60) else
 if dY (gw t.ae to).1.aM nm==(dR t.ae mT s).1 then (t,0,0) else
 if (bD t.ae (dR t.ae mT s).1).kind==2&&iR t.ae to (dR t.ae mT s).1 then (t,0,75) else
 if sv t.ae (bD t.ae (dR t.ae mT s).1).kind (dY (gw t.ae to).1.aM nm) != 0 then (t,0,sv t.ae (bD t.ae (dR t.ae mT s).1).kind (dY (gw t.ae to).1.aM nm)) else
 if manyN t mT to (gw t.ae to).1.aM (bD t.ae (dR t.ae mT s).1).kind (dY (gw t.ae to).1.aM nm) (dR t.ae mT s).1 then (t,0,76) else
 (nU t mT s to nm (dR t.ae mT s).1 (dY (gw t.ae to).1.aM nm),dY (gw t.ae to).1.aM nm,0)
def Sz.unnamed{b:Nat}{t:Tree}(h:Sz b t)(au next ai:Int):Sz (b+1) ⟨gi t.ae au,next,ai⟩:=by
 unfold gi;split
 ·exact(h.zD au next ai).up (by omega)
 ·exact h.with (n:={ bD t.ae au with dj:=mG ((bD t.ae au).dj-1) }) (iw (h.find au).1) (h.find au).2 next ai
structure Step.Ok(s:Step):Prop where
 kind:s.kind<256
 a:s.a<256
 b:s.b<256
 n:s.n<256
 m:s.m<256
 data:s.data.length<=100000
def nameOf(n:Nat):Bytes:=match n % 6 with
 |0=>[97]
 |1=>[98]
 |2=>[99]
 |3=>[100]
 |4=>[101]
 |_=>[46,46]
def vR(t:Tree)(n:Nat):Int:=match t.ae[n % (t.ae.length+1)]? with
 |some m=>m.au
 |none=>t.next
def XI(t:Tree)(s:Step):Tree×Int×Int :=
 if ((s.kind % 8:Nat):Int)==0||((s.kind % 8:Nat):Int)==1 then nk t (vR t s.a) (nameOf s.n) (((s.m % 2:Nat):Int)+1) else
 if ((s.kind % 8:Nat):Int)==2 then ((BC t (vR t s.b) (vR t s.a) (nameOf s.n)).1,0,(BC t (vR t s.b) (vR t s.a) (nameOf s.n)).2) else
 if ((s.kind % 8:Nat):Int)==3 then vF t (vR t s.a) (nameOf s.n) else
 if ((s.kind % 8:Nat):Int)==4||((s.kind % 8:Nat):Int)==5 then wa t (vR t s.a) (nameOf s.n) (vR t s.b) (nameOf s.m) else
 if ((s.kind % 8:Nat):Int)==6 then ((W9 t (vR t s.a) s.data).1,0,(W9 t (vR t s.a) s.data).2) else
 ((oN t (vR t s.a)).1,0,(oN t (vR t s.a)).2)
def HJ(e:ew):∀(l out:List ew)(d:Bool),(uS e l out d).1.length+(if (uS e l out d).2=true then 0 else 1)<=out.length+l.length+(if d then 0 else 1)
 | [],out,d=>by simp only[uS,aG,cS]; exact ar _
 |m::r,out,d=>by
  rw[uS];refine bh (HJ e r _ _) ?_;cases d<;>cases h1:Y2 m.name e.name<;>simp<;>omega
def Qr(l:List ew)(e:ew):(sQ l e).length<=l.length+1:=by
 have:=HJ e l [] false;unfold sQ;split at this<;>simp_all
def Sz.qY{b:Nat}{t:Tree}(h:Sz b t)(au:Int)(s:Bytes)(of:Int):Sz (b+1) (gI t au s of) :=
 h.with (n:={ bD t.ae au with aM:=sQ (bD t.ae au).aM ⟨s,of,t.ai⟩ }) (bh (Qr _ _) (Nat.succ_le_succ (h.find au).1)) (h.find au).2 t.next (mG (t.ai+1))
def Sz.add{b:Nat}{t:Tree}(h:Sz b t)(au:Int)(s:Bytes)(kind:Int):Sz (b+5) (nk t au s kind).1:=by
 unfold nk;split
 ·exact h.up (by omega)
 ·split
  ·exact h.up (by omega)
  ·split
   ·exact h.up (by omega)
   ·exact((h.with (n:=⟨t.next,kind,1,[],[],if kind==2 then au else 0⟩) (by simp) (by simp) (mG (t.next+1)) t.ai).qY au s t.next).up (by omega)
def Sz.ln{b:Nat}{t:Tree}(h:Sz b t)(au to:Int)(s:Bytes):Sz (b+5) (BC t au to s).1:=by
 unfold BC;split
 ·exact h.up (by omega)
 ·split
  ·exact h.up (by omega)
  ·split
   ·exact h.up (by omega)
   ·exact((h.with (n:={ bD t.ae au with dj:=mG ((bD t.ae au).dj+1) }) (iw (h.find au).1) (h.find au).2 t.next t.ai).qY to s au).up (by omega)
def Sz.un{b:Nat}{t:Tree}(h:Sz b t)(au:Int)(s:Bytes):Sz (b+5) (vF t au s).1:=by
 unfold vF;split
 ·exact h.up (by omega)
 ·split
  ·exact h.up (by omega)
  ·exact((h.left au s t.next t.ai).unnamed _ t.next t.ai).up (by omega)
def Sz.put{b:Nat}{t:Tree}(h:Sz b t)(au:Int)(data:Bytes)(hd:data.length<=100000):Sz (b+5) (W9 t au data).1:=by
 unfold W9;split
 ·exact h.up (by omega)
 ·split
  ·exact h.up (by omega)
  ·split
   ·exact h.up (by omega)
   ·exact(h.with (n:={ bD t.ae au with data:=data }) (iw (h.find au).1) hd t.next t.ai).up (by omega)
def Sz.free{b:Nat}{t:Tree}(h:Sz b t)(au:Int):Sz (b+5) (oN t au).1:=by
 unfold oN;split
 ·exact h.up (by omega)
 ·split
  ·exact h.up (by omega)
  ·split
   ·exact h.up (by omega)
   ·exact(h.zD au t.next t.ai).up (by omega)
def Sz.move{b:Nat}{t:Tree}(h:Sz b t)(mT:Int)(s:Bytes)(to:Int)(nm:Bytes)(au y:Int):Sz (b+5) (nU t mT s to nm au y):=by
 unfold nU;have z1:=h.left mT s t.next t.ai
 have z3:=(z1.left to nm t.next t.ai).unnamed y t.next t.ai
 have z:Sz (b+3) ⟨if y != 0 then gi (dr (dr t.ae mT s) to nm) y else dr t.ae mT s,t.next,t.ai⟩:=by
  split
  ·exact z3
  ·exact z1.up (by omega)
 split
 ·exact((z.with (n:={ bD t.ae au with up:=to }) (bh (h.find au).1 (by omega)) (h.find au).2 t.next t.ai).qY to nm au).up (by omega)
 ·exact(z.qY to nm au).up (by omega)
def Sz.mv{b:Nat}{t:Tree}(h:Sz b t)(mT:Int)(s:Bytes)(to:Int)(nm:Bytes):Sz (b+5) (wa t mT s to nm).1:=by
 unfold wa
 repeat' split
 all_goals first
  |exact h.up (by omega)
  |exact h.move mT s to nm _ _
def Sz.done{b:Nat}{t:Tree}(h:Sz b t)(s:Step)(hs:s.Ok):Sz (b+5) (XI t s).1:=by
 unfold XI
 repeat' split
 all_goals first
  |exact h.add _ _ _
  |exact h.ln _ _ _
  |exact h.un _ _
  |exact h.mv _ _ _ _
  |exact h.put _ _ hs.data
  |exact h.free _
def Sz.oO:Sz 1 oO:=⟨by simp[Go.Proofs.YtcbopkblmebjiaaGreatDoor.oO],fun n hn=>by simp[Go.Proofs.YtcbopkblmebjiaaGreatDoor.oO] at hn; subst hn; simp,fun n hn=>by simp[Go.Proofs.YtcbopkblmebjiaaGreatDoor.oO] at hn; subst hn; simp⟩
def tkN(n:Node):List.take 6 (aU n)=aU n:=rfl
def shN(n:Node):List.map ag.shut (aU n)=aU n:=rfl
def tkE(n:ew):List.take 3 (eo n)=eo n:=rfl
def shE(n:ew):List.map ag.shut (eo n)=eo n:=rfl
def ajC(a:Int):aq cY 124 [.int .i64 a] []=some (.bool false,[]):=by
 refine aI ?_;simp only[X3,aiv,an,EN,seval]
def ak0 a:=cP (ajC a)
def JH(a b:Int):Int:=if decide (a<b) then -1 else if decide (b<a) then 1 else 0
def c60(a b:Int):aq cY 60 [.int .i64 a,.int .i64 b] []=some (.int .i64 (JH a b),[]):=by
 refine aI ?_;simp only[agp,E60,ak0,EN,seval]
 repeat' ((first|apply bK|apply cI|apply eW)<;>intro hb<;>simp only[hb,EN,E60,seval])
 all_goals (simp_all only[JH,vl,↓reduceIte,reduceCtorEq,an]; done)
def k60 a b:=cP (c60 a b)
def U4(a b:Int):(JH a b<0)=(a<b):=by
 unfold JH
 by_cases h1:a<b
 ·simp[h1]
 ·by_cases h2:b<a<;>simp[h1,h2]
def U3(a b:Int):(JH a b==0)=(a==b):=by
 unfold JH
 by_cases h1:a<b
 ·have:¬a=b:=by omega
  simp[h1,this]
 ·by_cases h2:b<a
  ·have:¬a=b:=by omega
   simp[h1,h2,this]
  ·have:a=b:=by omega
   simp[this]
def akD(n:Node)(au:Int):aq cY 259 [.agg (aU n),.int .i64 au] []=some (.int .i64 (JH n.au au),[]):=by
 refine aI ?_;simp only[YZ,ai1,ck,aU,k60,EN,seval]
def ahg n au:=cP (akD n au)
structure Pa(ae:List Node)(au:Int)(b:Nat):Prop where
 le:b<=ae.length
 lt:∀h n,ae[h]?=some n->(n.au<au↔h<b)
def Kz(i j:Nat)(hj:j<=100000)(hi:i<=j):IntKind.i64.wrap ((i:Int)+(j:Int))=((i+j:Nat):Int)/\IntKind.u64.wrap ((i+j:Nat):Int)=((i+j:Nat):Int) /\
  (((i+j:Nat):Int)).fdiv (2 ^ min 1 IntKind.u64.bits)=(((i+j) / 2:Nat):Int)/\IntKind.i64.wrap (((i+j) / 2:Nat):Int)=(((i+j) / 2:Nat):Int)/\IntKind.i64.wrap ((((i+j) / 2:Nat):Int)+1)=(((i+j) / 2+1:Nat):Int):=by
 refine⟨?_,?_,?_,?_,?_⟩
 ·rw[gx (by omega) (by omega)]; rfl
 ·have:IntKind.u64.wrap ((i+j:Nat):Int)=((i+j:Nat):Int) % 18446744073709551616:=by simp[IntKind.wrap,IntKind.bits,IntKind.signed]
  rw[this]; omega
 ·have:(2:Int) ^ min 1 IntKind.u64.bits=2:=by decide
  rw[this,Int.fdiv_eq_ediv_of_nonneg _ (by omega)]; omega
 ·exact gx (by omega) (by omega)
 ·rw[gx (by omega) (by omega)]; rfl
def WB{ae:List Node}{au:Int}{b:Nat}(hb:Pa ae au b)(hn:ae.length<=100000){k:List K}{r:Option (ag×aK)}
  (hx:∀v q,kr (aq cY) [.tmp 6,.tmp 7] 0 k ⟨.exit 0,[(0,aZ ae),(1,.int .i64 au),(2,.func 259 []),(8,.int .i64 ae.length),(9,.int .i64 b),(10,v),(17,q)],[]⟩=r) :
  ∀(f i j:Nat),j-i<=f->i<=b->b<=j->j<=ae.length->fP (aq cY) [.tmp 6,.tmp 7] 0 k (.loop [0,1,2,8,9,10] Wb) [(0,aZ ae),(1,.int .i64 au),(2,.func 259 []),(8,.int .i64 ae.length),(9,.int .i64 i),(10,.int .i64 j)] []=r:=by
 intro f;induction f with
 |zero =>
  intro i j h1 h2 h3 h4;obtain rfl:i=b:=by omega
  rw[bX];have cr:((i:Int)<(j:Int))=False:=by simp; omega
  simp only[GM,cr,EN,seval];exact hx _ _
 |succ f ih =>
  intro i j h1 h2 h3 h4;rw[bX]
  by_cases hij:i<j
  ·have cr:((i:Int)<(j:Int))=True:=by simp; omega
   obtain⟨m1,m2,m3,m4,m5⟩:=Kz i j (by omega) (by omega)
   have hmid:(i+j) / 2<ae.length:=by omega
   have hx:=aj hmid;have hl:=hb.lt _ _ hx;simp only[GM,cr,m1,m2,m3,m4,hx,ahg,U4,tkN,shN,EN,seval];refine bK (fun hq=>?_) (fun hq=>?_)
   ·have hq:ae[(i+j) / 2].au<au:=by simpa using hq
    simp only[GM,m5,EN,seval];exact ih ((i+j) / 2+1) j (by omega) (hl.1 hq) h3 h4
   ·have hq:¬ae[(i+j) / 2].au<au:=by simpa using hq
    simp only[GM,EN,seval];exact ih i ((i+j) / 2) (by omega) h2 (Nat.not_lt.1 fun h=>hq (hl.2 h)) (by omega)
  ·obtain rfl:i=b:=by omega
   have cr:((i:Int)<(j:Int))=False:=by simp; omega
   simp only[GM,cr,EN,seval];exact hx _ _
def HO(ae:List Node)(au:Int)(b:Nat):Bool:=match ae[b]? with
 |some n=>n.au==au
 |none=>false
def akC(ae:List Node)(au:Int)(b:Nat)(hb:Pa ae au b)(hn:ae.length<=100000):aq cY 258 [aZ ae,.int .i64 au,.func 259 []] []=some (.tuple [.int .i64 b,.bool (HO ae au b)],[]):=by
 refine aI ?_;simp only[YY,GM,EN,seval];refine WB hb hn (fun v q=>?_) ae.length 0 ae.length (by omega) (by omega) hb.le (by omega)
 unfold HO
 by_cases cr:b<ae.length
 ·have hx:=aj cr;have h1:((b:Int)<(ae.length:Int))=True:=by simp; omega
  simp only[GM,hx,h1,ahg,U3,tkN,shN,EN,seval]
 ·have hx:ae[b]?=none:=eG (by omega)
  have h1:((b:Int)<(ae.length:Int))=False:=by simp; omega
  simp only[GM,hx,h1,EN,seval]
def alE ae au b hb hn:=cP (akC ae au b hb hn)
def nI(ae:List Node):Prop:=ae.Pairwise fun a b=>a.au<b.au
def kY(ae:List Node)(au:Int):Nat:=(ae.takeWhile fun n=>decide (n.au<au)).length
def ui{ae:List Node}(h:nI ae)(au:Int):Pa ae au (kY ae au):=by
 unfold kY;induction ae with
 |nil=>exact⟨by simp,fun h n hn=>by simp at hn⟩
 |cons a r ih =>
  obtain⟨h1,h2⟩:=bF.1 h;obtain⟨i1,i2⟩:=ih h2
  by_cases ha:a.au<au
  ·rw[fb,az (by simpa using ha)]
   refine⟨by simpa using i1,fun k n hn=>?_⟩
   cases k with
   |zero=>simp at hn; subst hn; simp[ha]
   |succ k=>rw[i2 k n (by simpa using hn)]; simp
  ·rw[fb,ak (by simpa using ha)]
   refine⟨by simp,fun k n hn=>?_⟩
   simp only[aG,j8,mb];cases k with
   |zero=>simp at hn; subst hn; exact ha
   |succ k =>
    have:=h1 n (aQ (by simpa using hn))
    omega
def rT{ae:List Node}(h:nI ae)(au:Int):(HO ae au (kY ae au)=true/\∃n,ae[kY ae au]?=some n/\find ae au=some n/\n.au=au)\/(HO ae au (kY ae au)=false/\find ae au=none):=by
 obtain⟨l1,l2⟩:=ui h au;cases hf:find ae au with
 |some n =>
  left;obtain⟨hm,he⟩:=cg hf;obtain⟨k,hk⟩:=bN hm;have hkb:¬k<kY ae au:=fun hc=>by have:=(l2 k n hk).2 hc; omega
  have hb:kY ae au<ae.length:=by have:=(aC.1 hk).1; omega
  have hx:=aj hb;have hnl:¬ae[kY ae au].au<au:=fun hc=>iK _ ((l2 _ _ hx).1 hc)
  have hke:k=kY ae au:=by
   rcases bG (kY ae au) k with cr|hge
   ·have hkl:=(aC.1 hk).1;have h3:=bT.1 h _ _ hb hkl cr;have h4:ae[k]=n:=by rw[aj hkl] at hk; injection hk
    rw[h4] at h3;omega
   ·omega
  subst hke;exact⟨by unfold HO; rw[hk]; simp[he],n,hk,rfl,he⟩
 |none =>
  right;refine⟨?_,rfl⟩;unfold HO;split
  ·rename_i n hn;have:=eD.1 hf n (aQ hn);simpa using this
  ·rfl
def um{M:aK}{p:Nat}{b:cA}(h:nth M p=some b):jZ M p b=M:=by
 rw[eJ] at h; rw[fN];apply cN;intro i
 by_cases e:p=i
 ·subst e; rw[dC (aF h),h]
 ·rw[cC e]
def cM{C:eL}{f p:Nat}{vs:List ag}{r:ag}{M:aK}{cs:List ag}(hM:nth M p=some (.cells cs))(h:C f (.ptr 0 0::vs) [.cells cs]=some (r,[.cells cs]))(h1:vs.all ag.flat=true:=by exact rfl)(h2:vs.flatMap ag.ids=[]:=by exact rfl)(h3:r.wF=true:=by exact rfl)(h4:vs.map (ag.rn (iC [p]))=vs:=by exact rfl)(h5:r.BE (xg [p])=r:=by exact rfl)(h6:cs.all ag.vP=true:=by exact rfl)(h7:cs.flatMap ag.mL=[]:=by exact rfl)(h8:cs.map (ag.sY (iC [p]))=cs:=by exact rfl)(h10:cs.map (ag.sY (xg [p]))=cs:=by exact rfl):aL C f (.ptr p 0::vs) M=some (r,M):=by
 have:=pC hM h h1 h2 h3 h4 h5 h6 h7 h8 h6 h10;rwa[um hM] at this
def aks(ae:List Node)(next ai au:Int)(h:nI ae)(hn:ae.length<=100000):aq cY 232 [.ptr 0 0,.int .i64 au] [.cells [aZ ae,.int .i64 next,.int .i64 ai]] =
  some (.tuple [.int .i64 (kY ae au),.bool (HO ae au (kY ae au))],[.cells [aZ ae,.int .i64 next,.int .i64 ai]]):=by
 refine aI ?_;have hk:=alE ae au _ (ui h au) hn;simp only[YP,aiV,hk,EN,seval]
def VH ae next ai au h hn p M hM:=cM (p:=p) (M:=M) hM (aks ae next ai au h hn)
def aj6(ae:List Node)(next ai au:Int)(h:nI ae)(hn:ae.length<=100000):aq cY 177 [.ptr 0 0,.int .i64 au] [.cells [aZ ae,.int .i64 next,.int .i64 ai]] =
  some (.tuple [ck (bD ae au),.bool (find ae au).isSome],[.cells [aZ ae,.int .i64 next,.int .i64 ai]]):=by
 refine aI ?_;have hk:=fun M=>VH ae next ai au h hn 0 (.cells [aZ ae,.int .i64 next,.int .i64 ai]::M) rfl
 simp only[Yx,ZF,hk,EN,seval];rcases rT h au with ⟨h1,n,h2,h3,h4⟩|⟨h1,h2⟩
 ·simp only[ZF,h1,h2,h3,bD,aU,EN,seval];rfl
 ·simp only[ZF,h1,h2,bD,EN,seval];rfl
def F7 ae next ai au h hn p M hM:=cM (p:=p) (M:=M) hM (aj6 ae next ai au h hn)
def akh(ae:List Node)(next ai au:Int)(h:nI ae)(hn:ae.length<=100000):aq cY 216 [.ptr 0 0,.int .i64 au] [.cells [aZ ae,.int .i64 next,.int .i64 ai]] =
  some (.tuple [ck (gw ae au).1,.int .i64 (gw ae au).2],[.cells [aZ ae,.int .i64 next,.int .i64 ai]]):=by
 refine aI ?_;have hk:=fun M=>F7 ae next ai au h hn 0 (.cells [aZ ae,.int .i64 next,.int .i64 ai]::M) rfl
 simp only[YH,UC,hk,ck,aU,EN,seval];unfold gw;cases hf:find ae au with
 |none=>simp only[UC,bD,hf,Option.isSome,EN,seval]; first|done|rfl
 |some n =>
  simp only[UC,bD,hf,Option.isSome,bz,EN,seval]
  repeat' ((first|apply bK|apply cI|apply eW)<;>intro hb<;>simp only[hb,EN,UC,seval])
  all_goals (clear hk; simp_all [Node.zero])
def VF ae next ai au h hn p M hM:=cM (p:=p) (M:=M) hM (akh ae next ai au h hn)
end
end
section
open Go
set_option maxRecDepth 100000 in
def Lr{s pre r:List UInt8}{n:UInt8}(h:s=pre++n::r) :
  (n.toNat<128/\Utf8.decode ⟨s.toArray⟩ pre.length=(n.toNat,1)) \/
  ∃c m r',n::r=m++r'/\m≠[]/\(∀b,b∈m->128<=b.toNat)/\128<=c/\c<2147483648/\Utf8.decode ⟨s.toArray⟩ pre.length=(c,m.length):=by
 have hg:∀k,(⟨s.toArray⟩:ByteArray).get! (pre.length+k)=(n::r).getD k 0:=fun k=>by
  subst h
  show((pre++n::r).toArray)[pre.length+k]! = _
  simp only[List.getElem!_toArray,List.getElem!_eq_getElem?_getD,fp];rw[bq (by omega),iv]
  rfl
 have hsz:(⟨s.toArray⟩:ByteArray).size=pre.length+(n::r).length:=by
  show s.toArray.size=_
  subst h; simp
 by_cases hn:n.toNat<128
 ·refine .inl ⟨hn,?_⟩;have h0:=hg 0;simp only[cS,List.getD_cons_zero] at h0;simp[Utf8.decode,h0,hn]
 ·refine .inr ?_;have hn':128<=n.toNat:=by omega
  have h0:=hg 0;have h1:=hg 1;have h2:=hg 2;have h3:=hg 3;simp only[cS,List.getD_cons_zero,List.getD_cons_succ] at h0 h1 h2 h3
  have one:∀c,128<=c->c<2147483648->Utf8.decode ⟨s.toArray⟩ pre.length=(c,1)->∃c m r',n::r=m++r'/\m≠[]/\(∀b,b∈m->128<=b.toNat)/\128<=c/\c<2147483648/\Utf8.decode ⟨s.toArray⟩ pre.length=(c,m.length) :=
   fun c hc hc2 hd=>⟨c,[n],r,rfl,by simp,by simpa using hn',hc,hc2,hd⟩
  have big:∀k,k<r.length->128<=(r.getD k 0).toNat->∃b,r[k]?=some b/\128<=b.toNat:=fun k hk hb=>by
   refine⟨r[k],aj hk,?_⟩;simpa[fp,aj hk] using hb
  have cr:¬n.toNat<0x80:=by omega
  have hN:n.toNat<256:=n.toNat_lt;unfold Utf8.decode at one ⊢;simp only[cS,h0,h1,h2,h3,hsz,av,cr,aw] at one ⊢
  by_cases hA:(n.toNat / 32==6&&(decide (pre.length+1<pre.length+(r.length+1))&&(r.getD 0 0).toNat / 64==2))=true
  ·simp only[hA,aE] at one ⊢;simp only[bm,dM,bt] at hA;obtain⟨hA1,hA2,hA3⟩:=hA
   by_cases hc:n.toNat % 32*64+(r.getD 0 0).toNat % 64>=0x80
   ·simp only[hc,aE] at one ⊢;obtain⟨b0,g0,g1⟩:=big 0 (by omega) (by omega)
    match r,g0 with
    |_::r',g0 =>
     cases g0;exact⟨_,[n,_],r',rfl,by simp,by simp[hn',g1],hc,by omega,rfl⟩
   ·simp only[hc,aw] at one ⊢;exact one _ (by decide) (by decide) rfl
  ·simp only[hA,aw] at one ⊢
   by_cases hB:(n.toNat / 16==14&&(decide (pre.length+1<pre.length+(r.length+1))&&(r.getD 0 0).toNat / 64==2)&&(decide (pre.length+2<pre.length+(r.length+1))&&(r.getD 1 0).toNat / 64==2))=true
   ·simp only[hB,aE] at one ⊢;simp only[bm,dM,bt] at hB;obtain⟨⟨hB1,hB2,hB3⟩,hB4,hB5⟩:=hB
    by_cases hc:((n.toNat % 16*4096+(r.getD 0 0).toNat % 64*64+(r.getD 1 0).toNat % 64>=0x800:Bool)&&Utf8.valid ((n.toNat % 16*4096+(r.getD 0 0).toNat % 64*64+(r.getD 1 0).toNat % 64:Nat):Int))=true
    ·simp only[hc,aE] at one ⊢;simp only[bm,bt] at hc;obtain⟨b0,g0,g1⟩:=big 0 (by omega) (by omega)
     obtain⟨b1,k0,k1⟩:=big 1 (by omega) (by omega)
     match r,g0,k0 with
     |_::_::r',g0,k0 =>
      cases g0;cases k0;exact⟨_,[n,_,_],r',rfl,by simp,by simp[hn',g1,k1],by omega,by omega,rfl⟩
    ·simp only[hc,aw] at one ⊢;exact one _ (by decide) (by decide) rfl
   ·simp only[hB,aw] at one ⊢
    by_cases hC:(n.toNat / 8==30&&(decide (pre.length+1<pre.length+(r.length+1))&&(r.getD 0 0).toNat / 64==2)&&(decide (pre.length+2<pre.length+(r.length+1))&&(r.getD 1 0).toNat / 64==2)&&(decide (pre.length+3<pre.length+(r.length+1))&&(r.getD 2 0).toNat / 64==2))=true
    ·simp only[hC,aE] at one ⊢;simp only[bm,dM,bt] at hC;obtain⟨⟨⟨hB1,hB2,hB3⟩,hB4,hB5⟩,hB6,hB7⟩:=hC
     by_cases hc:((n.toNat % 8*262144+(r.getD 0 0).toNat % 64*4096+(r.getD 1 0).toNat % 64*64+(r.getD 2 0).toNat % 64>=0x10000:Bool)&&Utf8.valid ((n.toNat % 8*262144+(r.getD 0 0).toNat % 64*4096+(r.getD 1 0).toNat % 64*64+(r.getD 2 0).toNat % 64:Nat):Int))=true
     ·simp only[hc,aE] at one ⊢;simp only[bm,bt] at hc;obtain⟨b0,g0,g1⟩:=big 0 (by omega) (by omega)
      obtain⟨b1,k0,k1⟩:=big 1 (by omega) (by omega)
      obtain⟨b2,l0,l1⟩:=big 2 (by omega) (by omega)
      match r,g0,k0,l0 with
      |_::_::_::r',g0,k0,l0 =>
       cases g0;cases k0;cases l0;exact⟨_,[n,_,_,_],r',rfl,by simp,by simp[hn',g1,k1,l1],by omega,by omega,rfl⟩
     ·simp only[hc,aw] at one ⊢;exact one _ (by decide) (by decide) rfl
    ·simp only[hC,aw] at one ⊢;exact one _ (by decide) (by decide) rfl
end
section
open Go Go.Abs
section
attribute [local irreducible] fP fi kD gK dp kr aq aL ct bI
def oz(_:Bytes):Prop:=True
def all_true{m:Bytes}(h:∀b,b∈m->128<=b.toNat):m.all sI=true:=by
 rw[bu];intro b hb;have:=h b hb;have h1:¬((b.toNat:Int)<32):=by omega
 have h2:¬((b.toNat:Int)=47):=by omega
 simp[sI,h1,h2]
def Wn{s:Bytes}(hs:s.length<=100000)(ha:oz s){k:List K}{R:Bool->Option (ag×aK)}
  (hx:∀e p,kr (aq cY) [.tmp 2] 0 k ⟨.exit 0,e,[.nB s p]⟩=R true) (hr:∀p,kr (aq cY) [.tmp 2] 0 k ⟨.ret,[(2,.bool false)],[.nB s p]⟩=R false) :
  ∀(q:Nat)(l pre:Bytes),l.length<=q->s=pre++l->fP (aq cY) [.tmp 2] 0 k (.loop [21] LW) [(21,.jx 0)] [.nB s pre.length]=R (l.all sI):=by
 intro q;induction q with
 |zero =>
  intro l pre hq h;have h0:l=[]:=cm (by omega)
  subst h0;rw[bX];have cr:(pre.length<s.length)=False:=by rw[h]; simp
  simp only[vW,cr,EN,seval];exact hx _ _
 |succ q ih =>
  intro l pre hq h;cases l with
  |nil =>
   rw[bX];have cr:(pre.length<s.length)=False:=by rw[h]; simp
   simp only[vW,cr,EN,seval];exact hx _ _
  |cons n r =>
   rw[bX];have cr:(pre.length<s.length)=True:=by rw[h]; simp
   rcases Lr h with ⟨hn,hd⟩|⟨c,m,r',hm,hne,hb,hc,hc2,hd⟩
   ·have hi:=ih r (pre++[n]) (by simp at hq; omega) (by rw[h]; simp)
    simp only[aJ,av,aG,aP] at hi;simp only[vW,cr,hd,EN,seval]
    repeat' ((first|apply bK|apply cI|apply eW)<;>intro hb<;>simp only[hb,vW,hd,EV,seval])
    all_goals first
     |(refine(hr _).trans ?_; congr 1; symm; clear hi ih hx hr hd h; simp_all [sI]; done)
     |(refine hi.trans ?_; congr 1; symm; clear hi ih hx hr hd h; simp_all [sI]; done)
   ·have hml:0<m.length:=iI.2 hne;have hl2:(n::r).length=m.length+r'.length:=by rw[hm]; simp
    have hi:=ih r' (pre++m) (by simp at hq hl2; omega) (by rw[h,hm]; simp)
    simp only[aJ] at hi;have h32:decide ((c:Int)<32)=false:=by simp; omega
    have h47:((c:Int)==47)=false:=by rw[bL]; omega
    rw[hm,List.all_append,all_true hb,bP];simp only[vW,cr,hd,h32,h47,EN,seval];exact hi
def ajD(s:Bytes)(hs:s.length<=100000)(ha:oz s):aq cY 126 [.str s] []=some (.bool (dB s),[]):=by
 refine aI ?_;simp only[Hw,vW,EN,seval];have hl:=fun k hx hr=>Wn (k:=k) (R:=fun b=>some (ag.bool b,[])) hs ha hx hr s.length s [] (ar _) rfl
 have he:(s==[])=decide ((s.length:Int)<1):=by cases s<;>simp; omega
 rw[he]
 repeat' ((first|apply bK|apply cI|apply eW)<;>intro hb<;>simp only[hb,EN,vW,seval])
 all_goals first
  |(clear hl he; simp_all [dB]; done)
  |(refine(hl _ (fun e p=>by simp only[vW,EN,seval]) (fun p=>by simp only[vW,EN,seval])).trans ?_; clear hl he; simp_all [dB]; done)
def VA s hs ha:=cP (ajD s hs ha)
def alq(a b:Bytes)(M:aK):aL (aq cY) 199 [.str a,.str b] M=some (.int .i64 (Lib.compareBytes a b),M) :=
 cO (gy (g:=zo) rfl rfl) M
def c138(a b:Bytes):aq cY 138 [.str a,.str b] []=some (.int .i64 (Lib.compareBytes a b),[]):=by
 refine aI ?_;simp only[Yc,aiA,alq,EN,seval]
def aa2 a b:=cP (c138 a b)
def yY:∀(a b:Bytes),(Lib.compareBytes a b<0)=(strLt a b=true)
 | [],[]=>by simp[Lib.compareBytes,strLt]
 | [],_::_=>by simp[Lib.compareBytes,strLt]
 |_::_,[]=>by simp[Lib.compareBytes,strLt]
 |a::x,b::y=>by
  rw[Lib.compareBytes,strLt]
  by_cases h1:a<b
  ·simp[h1]
  ·by_cases h2:b<a
   ·have h3:¬a=b:=by rintro rfl; exact oh _ h2
    simp[h1,h2,h3]
   ·have h3:a=b:=by rw[<-iA]; simp only[ki] at h1 h2; omega
    subst h3;simp[h1,yY x y]
def FW:∀(a b:Bytes),(Lib.compareBytes a b==0)=(a==b)
 | [],[]=>by simp[Lib.compareBytes]
 | [],_::_=>by simp[Lib.compareBytes]
 |_::_,[]=>by simp[Lib.compareBytes]
 |a::x,b::y=>by
  rw[Lib.compareBytes]
  by_cases h1:a<b
  ·have h3:¬a=b:=by rintro rfl; exact oh _ h1
   simp[h1,h3]
  ·by_cases h2:b<a
   ·have h3:¬a=b:=by rintro rfl; exact oh _ h2
    simp[h1,h2,h3]
   ·have h3:a=b:=by rw[<-iA]; simp only[ki] at h1 h2; omega
    subst h3;simp only[h1,aw,FW x y];simp
def aky(e:ew)(s:Bytes):aq cY 254 [.agg (eo e),.str s] []=some (.int .i64 (Lib.compareBytes e.name s),[]):=by
 refine aI ?_;simp only[YU,aiZ,gh,eo,aa2,EN,seval]
def ahf e s:=cP (aky e s)
structure Jm(aM:List ew)(s:Bytes)(b:Nat):Prop where
 le:b<=aM.length
 lt:∀h n,aM[h]?=some n->(strLt n.name s=true↔h<b)
def Wz{aM:List ew}{s:Bytes}{b:Nat}(hb:Jm aM s b)(hn:aM.length<=100000){k:List K}{r:Option (ag×aK)}
  (hx:∀v q,kr (aq cY) [.tmp 6,.tmp 7] 0 k ⟨.exit 0,[(0,ib aM),(1,.str s),(2,.func 254 []),(8,.int .i64 aM.length),(9,.int .i64 b),(10,v),(17,q)],[]⟩=r) :
  ∀(f i j:Nat),j-i<=f->i<=b->b<=j->j<=aM.length->fP (aq cY) [.tmp 6,.tmp 7] 0 k (.loop [0,1,2,8,9,10] V9) [(0,ib aM),(1,.str s),(2,.func 254 []),(8,.int .i64 aM.length),(9,.int .i64 i),(10,.int .i64 j)] []=r:=by
 intro f;induction f with
 |zero =>
  intro i j h1 h2 h3 h4;obtain rfl:i=b:=by omega
  rw[bX];have cr:((i:Int)<(j:Int))=False:=by simp; omega
  simp only[GL,cr,EN,seval];exact hx _ _
 |succ f ih =>
  intro i j h1 h2 h3 h4;rw[bX]
  by_cases hij:i<j
  ·have cr:((i:Int)<(j:Int))=True:=by simp; omega
   obtain⟨m1,m2,m3,m4,m5⟩:=Kz i j (by omega) (by omega)
   have hmid:(i+j) / 2<aM.length:=by omega
   have hx:=aj hmid;have hl:=hb.lt _ _ hx;simp only[GL,cr,m1,m2,m3,m4,hx,ahf,yY,tkE,shE,EN,seval];refine bK (fun hq=>?_) (fun hq=>?_)
   ·have hq:strLt aM[(i+j) / 2].name s=true:=by simpa using hq
    simp only[GL,m5,EN,seval];exact ih ((i+j) / 2+1) j (by omega) (hl.1 hq) h3 h4
   ·have hq:¬strLt aM[(i+j) / 2].name s=true:=by simpa using hq
    simp only[GL,EN,seval];exact ih i ((i+j) / 2) (by omega) h2 (Nat.not_lt.1 fun h=>hq (hl.2 h)) (by omega)
  ·obtain rfl:i=b:=by omega
   have cr:((i:Int)<(j:Int))=False:=by simp; omega
   simp only[GL,cr,EN,seval];exact hx _ _
def Bg(aM:List ew)(s:Bytes)(b:Nat):Bool:=match aM[b]? with
 |some n=>n.name==s
 |none=>false
def akx(aM:List ew)(s:Bytes)(b:Nat)(hb:Jm aM s b)(hn:aM.length<=100000):aq cY 253 [ib aM,.str s,.func 254 []] []=some (.tuple [.int .i64 b,.bool (Bg aM s b)],[]):=by
 refine aI ?_;simp only[YT,GL,EN,seval];refine Wz hb hn (fun v q=>?_) aM.length 0 aM.length (by omega) (by omega) hb.le (by omega)
 unfold Bg
 by_cases cr:b<aM.length
 ·have hx:=aj cr;have h1:((b:Int)<(aM.length:Int))=True:=by simp; omega
  simp only[GL,hx,h1,ahf,FW,tkE,shE,EN,seval]
 ·have hx:aM[b]?=none:=eG (by omega)
  have h1:((b:Int)<(aM.length:Int))=False:=by simp; omega
  simp only[GL,hx,h1,EN,seval]
def alA aM s b hb hn:=cP (akx aM s b hb hn)
def oT(l:List ew):Prop:=l.Pairwise fun a b=>strLt a.name b.name=true
def lq(l:List ew)(s:Bytes):Nat:=(l.takeWhile fun n=>strLt n.name s).length
def ako(n:Node)(s:Bytes)(b:Nat)(hb:Jm n.aM s b)(hn:n.aM.length<=100000):aq cY 228 [ck n,.str s] []=some (.tuple [.int .i64 b,.bool (Bg n.aM s b)],[]):=by
 refine aI ?_;have hk:=alA n.aM s b hb hn;simp only[YL,aiS,ck,aU,hk,EN,seval]
def QC(a b c:Int)(d:Bytes)(e:List ew)(u:Int)(s:Bytes)(i:Nat)(hb:Jm e s i)(hn:e.length<=100000)(M:aK):aL (aq cY) 228 [.agg [.int .i64 a,.int .i64 b,.int .i64 c,jo d,ib e,.int .i64 u],.str s] M=some (.tuple [.int .i64 i,.bool (Bg e s i)],M) :=
 cO (ako ⟨a,b,c,d,e,u⟩ s i hb hn) M
end
section
open Go.RowKit Go.Shelf
def DN{α:Type}(b0:Nat)(F:Fence)(n:Nat)(P:Program)(g:Nat)(lb:Array Value)(encs:α->Array Value)(Kp:World->World->Prop)(S Sp:List α->Prop)(N:Nat)(w:World):Prop :=
 ∀(l:Nat)(J Jx:List α->World->Prop)(W:World),Below w.heap.size w W->AbidesFrom W.heap.size J->AbidesFrom W.heap.size Jx->(∀s A v,J s A->J s (A.setCell ⟨b0,0,none⟩ v)) ->
  (∀pre x W1,J pre W1->pre.length<N->YieldAt F (n-1) P l (encs x) W1 fun e W' =>
   (e = .returned (.bool true)/\J (pre++[x]) W'/\Kp W1 W')\/(e = .returned (.bool false)/\Jx (pre++[x]) W')) ->
  J [] W ->
  CallsIn F n P g (#[.func (.yield l) #[] #[]]++lb) W fun e W'=>(∃v,e = .returned v)/\((∃xs,S xs/\J xs W')\/(∃pre,Sp pre/\Jx pre W'))
def xP{F:Fence}{n:Nat}{P:Program}{b0:Nat}{α:Type}{g:Operand}{ps:Array Tmp}{assign body:Code}{Q:Exit->Act->World->Prop}{a:Act}{w:World}(hb0w:b0<w.heap.size)
  (hro:F.round=none) (h1:1<=n) {gf:Nat} {lb:Array Value} (hg:a.eval g = .func (.func gf) #[] lb) (hFg:F.fn gf) (eg:∀args w,(callFunc gf args).run P w = .ok (.enter gf args) w)
  {encs:α->Array Value} {Kp:World->World->Prop} {S Sp:List α->Prop} {N:Nat} {w0:World} (hseq:DN b0 F (n-1) P gf lb encs Kp S Sp N w0)
  (hKt:∀ {A B C:World},Kp A B->Kp B C->Kp A C) (hKb:∀(W:World)(l:Nat)(o o':Obj),w.heap.size<=l->W.heap[l]?=some o->o.isCells=false->o.isWalk=false->Kp W (W.putObj l o')) (hb0:Below w0.heap.size w0 w) (hps:∀x,(encs x).size=ps.size)
  (I:List α->World->Prop) (Ix:Code->List α->World->Prop) (hI:OwnFrom w.heap.size I) (hIx:∀c,OwnFrom w.heap.size (Ix c)) (hIc:∀s A v,I s A->I s (A.setCell ⟨b0,0,none⟩ v)) (h0:I [] w) (a₁:α->Act)
  (hassign:∀(l:Nat)(x:α)(W:World)(K:Act->World->Prop),K (a₁ x) W ->
   assign.wpIn (F.inRound l) (n-1-1) P (Exit.then K (fun _ _ _=>False)) { tmps:=(ps.zip (encs x)).foldl (fun t (p,v)=>t.setIfInBounds p v) a.tmps,defers:=[] } W)
  (hbody:∀(l:Nat)(pre:List α)(x:α)(W:World),I pre W->pre.length<N->body.wpIn (F.inRound l) (n-1-1) P (ownPostK Kp I Ix (pre++[x]) W) (a₁ x) W)
  (hdone:∀(D:Nat)(xs:List α)(W:World),w.heap.size<=D->S xs->I xs W->W.heap[D]?=some (.deferred (some []))->Q .normal { a with defers:={ target := .collected D,args := #[] }::a.defers } W)
  (hstop:∀(D:Nat)(c:Code)(pre:List α)(W:World),w.heap.size<=D->Sp pre->Ix c pre W->W.heap[D]?=some (.deferred (some []))->c.wpIn F n P Q { a with defers:={ target := .collected D,args := #[] }::a.defers } W) :
  (Code.rangeFunc g ps assign body).wpIn F n P Q a w:=by
 refine wpIn_rangeFunc ?_;intro fn hfn;rw[hro];obtain⟨rec,hrec⟩:∃rec:LoopState->Option Code->Loop,rec=fun st pe=>{ state:=st,pending:=pe,fn,tmps:=a.tmps,params:=ps,assign,body,defers:=w.heap.size }:=⟨_,rfl⟩
 obtain⟨W1,hW1⟩:∃W1,(w.alloc (.deferred (some []))).alloc (.loop (rec .ready none))=W1:=⟨_,rfl⟩
 have hL1:W1.heap[w.heap.size+1]?=some (.loop (rec .ready none)):=by
  rw[<-hW1]; have:=World.alloc_heap_new (w.alloc (.deferred (some []))) (.loop (rec .ready none)); rwa[World.size_alloc] at this
 have hK1:W1.heap[w.heap.size]?=some (.deferred (some [])):=by
  rw[<-hW1]; exact(Below.heap_alloc _ _ _ (by simp)).trans (World.alloc_heap_new w _)
 have hI1:I [] W1:=by rw[<-hW1]; exact hI.alloc _ (hI.alloc _ h0)
 have hb1:Below w0.heap.size w0 W1:=by
  rw[<-hW1]; exact hb0.trans ((((Below.refl _ w).alloc (ar _) _).alloc (by simp) _).mono hb0.size)
 refine⟨w.heap.size+1,[{ target := .collected w.heap.size,args := #[] }],W1,{ target := .fn (.func gf) lb,args := #[.func (.yield (w.heap.size+1)) #[] #[]] },W1,gf,
  #[.func (.yield (w.heap.size+1)) #[] #[]]++lb,W1,?_,?_,?_,?_,fun _=>h1,?_⟩
 ·rw[<-hW1,hrec]; exact run_enterLoop_outer _ _ _ _ _
 ·simp only[resolve,hg];simp[go_sem]
 ·intro f' hf'; simp[Target.leads] at hf'; subst hf'; exact hFg
 ·simp[invoke,go_sem,eg]
 ·have hnw:∀ {A B:World} {row:Option Nat},(∀r,row=some r->W1.heap.size<=r/\∃o:Obj,A.heap[r]?=some o/\o.isWalk=true)->(∀r,row=some r->w.heap.size<=r/\∃o:Obj,A.heap[r]?=some o/\o.isCells=false) :=
   fun hr r e=>by obtain⟨hB,o,ho,hw⟩:=hr r e; exact⟨by rw[<-hW1] at hB; simp at hB; omega,o,ho,Obj.not_cells_of_walk hw⟩
  refine(hseq (w.heap.size+1)
   (fun pre W=>I pre W/\W.heap[w.heap.size+1]?=some (.loop (rec .ready none))/\W.heap[w.heap.size]?=some (.deferred (some [])))
   (fun pre W=>∃c,Ix c pre W/\W.heap[w.heap.size+1]?=some (.loop (rec .done (some c)))/\W.heap[w.heap.size]?=some (.deferred (some [])))
   W1 hb1
   (fun s A B row hs hg' hr=>⟨hI s A B row hs.1 hg' (hnw (B:=B) hr),(grownBy_keeps hg' (fun r e=>(hr r e).2) hs.2.1 rfl).trans hs.2.1,(grownBy_keeps hg' (fun r e=>(hr r e).2) hs.2.2 rfl).trans hs.2.2⟩)
   (fun s A B row hs hg' hr=>by
    obtain⟨c,hc,hl,hk⟩:=hs;exact⟨c,hIx c s A B row hc hg' (hnw (B:=B) hr),(grownBy_keeps hg' (fun r e=>(hr r e).2) hl rfl).trans hl,(grownBy_keeps hg' (fun r e=>(hr r e).2) hk rfl).trans hk⟩)
   (fun s A v hs=>⟨hIc s A v hs.1,(Below.heap_setCell _ _ _ _ (by show _≠b0; omega)).trans hs.2.1,(Below.heap_setCell _ _ _ _ (by show _≠b0; omega)).trans hs.2.2⟩)
   ?_ ⟨hI1,hL1,hK1⟩).mono ?_
  ·rintro pre x W ⟨hi,hl,hk⟩ eU;have cr:w.heap.size+1<W.heap.size:=(fj.1 hl).1;have hy:=run_yield (P:=P) (args:=encs x) hl (by rw[hrec]; exact hps x)
   rw[hrec] at hy;refine⟨fn,_,assign,body,hy,roundIn_of_wpIn hfn (hassign _ x W _ ⟨_,run_beginRound hl (by rw[hrec]),?_⟩)⟩
   have hl2:(W.putObj (w.heap.size+1) (.loop { rec .ready none with state := .busy })).heap[w.heap.size+1]?=some (.loop { rec .ready none with state := .busy }):=World.putObj_heap_same cr
   have hk2:(W.putObj (w.heap.size+1) (.loop { rec .ready none with state := .busy })).heap[w.heap.size]?=some (.deferred (some [])):=(World.putObj_heap_other (by omega)).trans hk
   have hw2:Kp W (W.putObj (w.heap.size+1) (.loop { rec .ready none with state := .busy })):=hKb _ _ _ _ (by omega) hl rfl rfl
   refine wpIn_mono (hbody _ pre x _ (hI.putObj _ hi (by omega) hl rfl) eU) ?_
   have fin:∀(jump:Option Code)(W3:World),KeepsOthers (W.putObj (w.heap.size+1) (.loop { rec .ready none with state := .busy })) W3 ->
     (Instr.endRound (w.heap.size+1) jump).run P W3 = .ok (.bool jump.isNone) (W3.putObj (w.heap.size+1) (.loop (rec (if jump.isNone then .ready else .done) jump))) /\
     W3.heap[w.heap.size+1]?=some (.loop { rec .ready none with state := .busy }) /\
     (W3.putObj (w.heap.size+1) (.loop (rec (if jump.isNone then .ready else .done) jump))).heap[w.heap.size+1]?=some (.loop (rec (if jump.isNone then .ready else .done) jump)) /\
     (W3.putObj (w.heap.size+1) (.loop (rec (if jump.isNone then .ready else .done) jump))).heap[w.heap.size]?=some (.deferred (some [])):=fun jump W3 hk3=>by
    have hl3:=hk3.same _ _ hl2 rfl;have:=run_endRound (P:=P) jump hl3;rw[hrec] at this ⊢;exact⟨this,by rw[hrec] at hl3; exact hl3,World.putObj_heap_same (fj.1 hl3).1,(World.putObj_heap_other (by omega)).trans (hk3.same _ _ hk2 rfl)⟩
   rintro e a3 W3 hp;cases e with
   |normal =>
    obtain⟨hk3,hkp3,hi3⟩:=hp;obtain⟨hr,hl3,hl4,hk4⟩:=fin none W3 hk3;exact⟨_,_,hr,.inl ⟨rfl,⟨hI.putObj _ hi3 (by omega) hl3 rfl,hl4,hk4⟩,hKt (hKt hw2 hkp3) (hKb _ _ _ _ (by omega) hl3 rfl rfl)⟩⟩
   |ret =>
    obtain⟨hk3,hi3⟩:=hp;obtain⟨hr,hl3,hl4,hk4⟩:=fin (some .ret) W3 hk3;exact⟨_,_,hr,.inr ⟨rfl,.ret,(hIx _).putObj _ hi3 (by omega) hl3 rfl,hl4,hk4⟩⟩
   |exit id =>
    obtain⟨hk3,hi3⟩:=hp;obtain⟨hr,hl3,hl4,hk4⟩:=fin (some (.exit id)) W3 hk3;exact⟨_,_,hr,.inr ⟨rfl,.exit id,(hIx _).putObj _ hi3 (by omega) hl3 rfl,hl4,hk4⟩⟩
   |goto t =>
    obtain⟨hk3,hi3⟩:=hp;obtain⟨hr,hl3,hl4,hk4⟩:=fin (some (.goto t)) W3 hk3;exact⟨_,_,hr,.inr ⟨rfl,.goto t,(hIx _).putObj _ hi3 (by omega) hl3 rfl,hl4,hk4⟩⟩
   |panic ch=>exact hp.elim
   |outgrown=>exact hp.elim
  ·rintro e W2 ⟨⟨v,rfl⟩,(⟨xs,hS,hi,hl,hk⟩|⟨pre,hSp,c,hi,hl,hk⟩)⟩
   ·exact⟨none,_,by have:=run_endLoop (P:=P) hl (by rw[hrec]; simp); rw[hrec] at this; exact this,hdone _ xs _ (ar _) hS (hI.putObj _ hi (by omega) hl rfl) ((World.putObj_heap_other (by omega)).trans hk)⟩
   ·exact⟨some c,_,by have:=run_endLoop (P:=P) hl (by rw[hrec]; simp); rw[hrec] at this; exact this,hstop _ c pre _ (ar _) hSp ((hIx c).putObj _ hi (by omega) hl rfl) ((World.putObj_heap_other (by omega)).trans hk)⟩
def LS:J:=⟨fun _=>none,fun _ _=>False⟩
def TV(w:World):Rel LS [] w where
 inj:=fun _ _ _ h=>by cases h
 lt:=fun _ _ h=>by cases h
 fix:=fun _ _ h=>by cases h
 tick:=fun _ _ _ _ h=>by cases h
 arr:=fun _ _ _ _ h=>by cases h
 uC:=fun _ _ h=>by cases h
 zG:=fun _ _ h=>h.elim
@[reducible] def G0:kd:={ g:=fun _=>none }
def acV:@oI G0 Tryz.prog (DP [] f126) f126=some Hw:=by kernel_rfl
def acW:@oI G0 Tryz.prog (DP [] f193) f193=some LB:=by kernel_rfl
def acX:@oI G0 Tryz.prog (DP [] f240) f240=some LF:=by kernel_rfl
def acY:@oI G0 Tryz.prog (DP [] f261) f261=some Hy:=by kernel_rfl
def Gl{α:Type}{x:α}{P:Prop}(h:(none:Option α)=some x):P:=by cases h
def agP(w:World):@su G0 LS [] w:=@su.mk G0 _ _ _ (fun b vs k v h=>Gl (show(none:Option (List Value))=some vs from h)) (fun b vs h=>Gl (show(none:Option (List Value))=some vs from h)) (fun b p h=>Gl (show(none:Option (Value->Prop))=some p from h))
def XF:Nat->Option eP
 |126=>some Hw
 |193=>some LB
 |240=>some LF
 |261=>some Hy
 |_=>none
noncomputable def Dw:Bz:=⟨XF,fun _=>none⟩
def Xh:@xQ G0 Tryz.prog Dw:=by
 refine @xQ.mk G0 _ _ (fun f fn h=>?_) (fun f g h=>by cases h)
 simp only[Dw] at h;unfold XF at h;split at h
 ·cases h; exact⟨_,_,func126,acV⟩
 ·cases h; exact⟨_,_,func193,acW⟩
 ·cases h; exact⟨_,_,func240,acX⟩
 ·cases h; exact⟨_,_,func261,acY⟩
 ·cases h
def adm:@pd G0 Tryz.prog (aq Dw):=@ud G0 _ (by kernel_rfl) _ Xh
section
attribute [local irreducible] fP fi kD gK dp kr aq aL ct bI
def SK{s:Bytes}(hs:s.length<=100000)(ha:oz s){k:List K}{R:Bool->Option (ag×aK)}
  (hx:∀e p,kr (aq Dw) [.tmp 2] 0 k ⟨.exit 0,e,[.nB s p]⟩=R true) (hr:∀p,kr (aq Dw) [.tmp 2] 0 k ⟨.ret,[(2,.bool false)],[.nB s p]⟩=R false) :
  ∀(q:Nat)(l pre:Bytes),l.length<=q->s=pre++l->fP (aq Dw) [.tmp 2] 0 k (.loop [21] LW) [(21,.jx 0)] [.nB s pre.length]=R (l.all sI):=by
 intro q;induction q with
 |zero =>
  intro l pre hq h;have h0:l=[]:=cm (by omega)
  subst h0;rw[bX];have cr:(pre.length<s.length)=False:=by rw[h]; simp
  simp only[vW,cr,EN,seval];exact hx _ _
 |succ q ih =>
  intro l pre hq h;cases l with
  |nil =>
   rw[bX];have cr:(pre.length<s.length)=False:=by rw[h]; simp
   simp only[vW,cr,EN,seval];exact hx _ _
  |cons n r =>
   rw[bX];have cr:(pre.length<s.length)=True:=by rw[h]; simp
   rcases Lr h with ⟨hn,hd⟩|⟨c,m,r',hm,hne,hb,hc,hc2,hd⟩
   ·have hi:=ih r (pre++[n]) (by simp at hq; omega) (by rw[h]; simp)
    simp only[aJ,av,aG,aP] at hi;simp only[vW,cr,hd,EN,seval]
    repeat' ((first|apply bK|apply cI|apply eW)<;>intro hb<;>simp only[hb,vW,hd,EV,seval])
    all_goals first
     |(refine(hr _).trans ?_; congr 1; symm; clear hi ih hx hr hd h; simp_all [sI]; done)
     |(refine hi.trans ?_; congr 1; symm; clear hi ih hx hr hd h; simp_all [sI]; done)
   ·have hml:0<m.length:=iI.2 hne;have hl2:(n::r).length=m.length+r'.length:=by rw[hm]; simp
    have hi:=ih r' (pre++m) (by simp at hq hl2; omega) (by rw[h,hm]; simp)
    simp only[aJ] at hi;have h32:decide ((c:Int)<32)=false:=by simp; omega
    have h47:((c:Int)==47)=false:=by rw[bL]; omega
    rw[hm,List.all_append,all_true hb,bP];simp only[vW,cr,hd,h32,h47,EN,seval];exact hi
def afy(s:Bytes)(hs:s.length<=100000)(ha:oz s):aq Dw 126 [.str s] []=some (.bool (dB s),[]):=by
 refine aI ?_;simp only[Hw,vW,EN,seval];have hl:=fun k hx hr=>SK (k:=k) (R:=fun b=>some (ag.bool b,[])) hs ha hx hr s.length s [] (ar _) rfl
 have he:(s==[])=decide ((s.length:Int)<1):=by cases s<;>simp; omega
 rw[he]
 repeat' ((first|apply bK|apply cI|apply eW)<;>intro hb<;>simp only[hb,EN,vW,seval])
 all_goals first
  |(clear hl he; simp_all [dB]; done)
  |(refine(hl _ (fun e p=>by simp only[vW,EN,seval]) (fun p=>by simp only[vW,EN,seval])).trans ?_; clear hl he; simp_all [dB]; done)
end
def Dj{f:Nat}{args:List ag}{r:ag}(h:aq Dw f args []=some (r,[]))(hp:r.jR=false)(w:World)(vs:Array Value)(hl:args.length=vs.size)(hv:∀(i:Nat)(c:ag)(v:Value),args[i]?=some c->vs[i]?=some v->fV LS [] w c v) :
  Calls Tryz.prog f vs w fun e w'=>∃v j',e = .returned v/\w.grownBy w' none/\fV j' [] w' r v:=by
 refine((adm f args [] _ h).2 LS w vs (TV w) (agP w) hl hv).mono ?_;intro e w' hce;obtain⟨v,rfl,j',_,hx,hr⟩:=hce.ret hp;exact⟨v,j',rfl,⟨hx.os,hx.tape,hx.output,hx.size,fun k hk _=>(hx.uk k hk fun i hi=>by cases hi).1⟩,hr⟩
def TY(s:Bytes)(hs:s.length<=100000)(ha:oz s)(w:World):Calls Tryz.prog 126 #[.string (bs s)] w fun e w'=>e = .returned (.bool (dB s))/\w.grownBy w' none:=by
 refine(Dj (afy s hs ha) rfl w #[.string (bs s)] rfl ?_).mono ?_
 ·intro i c v h1 h2
  match i with
  |0=>cases h1; cases h2; exact .plain (.str _)
  |i+1=>cases h1
 ·rintro e w' ⟨v,j',rfl,hg,hr⟩;rw[hr.iY];exact⟨rfl,hg⟩
set_option maxHeartbeats 1000000 in
set_option maxRecDepth 100000 in
def Qq(a:ByteArray)(c:Int)(w:World) :
  Calls Tryz.prog 241 #[.string a,.int .u8 c] w fun e w'=>e = .returned (.int .i64 (Lib.indexByte a.data.toList c.toNat.toUInt8))/\w'=w:=by
 go_enter func241,ntmps241
 go_wp2
 rw[run_callFunc_extern func262 (by kernel_rfl) (by kernel_rfl) (by kernel_rfl) (e:=Extern.BytealgIndexByte.indexByte) (by kernel_rfl),Lib.run_indexByteString]
 simp only[Result.andThen];rw[Oper.upon_value]
 go_wp2
 go_ret
 exact⟨rfl,rfl⟩
set_option maxHeartbeats 1000000 in
set_option maxRecDepth 100000 in
def Qp(a:ByteArray)(c:Int)(w:World) :
  Calls Tryz.prog 194 #[.string a,.int .u8 c] w fun e w'=>e = .returned (.int .i64 (Lib.indexByte a.data.toList c.toNat.toUInt8))/\w'=w:=by
 go_enter func194,ntmps194
 go_wp2_with (go_at_call 241; refine(Qq _ _ _).mono ?_; rintro e w' ⟨rfl,rfl⟩)
 go_ret
 exact⟨rfl,rfl⟩
section ev
attribute [local irreducible] fP fi kD gK dp kr aq aL ct bI
def qW:Bytes->Bytes×Bool
 |b::r=>if b=47 then (r,true) else (b::r,false)
 | []=>([],false)
def NC:Bytes->Bool
 |b::_=>b==47
 | []=>false
def akE(s:Bytes):aq Dw 261 [.str s,.str [47]] []=some (.bool (NC s),[]):=by
 refine aI ?_;cases s with
 |nil =>
  have h0:decide (((1:Nat):Int)<=((0:Nat):Int))=false:=by decide
  simp only[Hy,UF,h0,EN,seval];simp only[NC,UF,h0,EN,seval]
 |cons b r =>
  have h1:(1:Int)<=(r.length:Int)+1:=by omega
  simp only[Hy,UF,EN,seval];simp[NC,h1,jc,UF,EN,seval]
  try (cases hb:(b==47)<;>simp_all)
def ahh s:=cP (akE s)
def akt(s:Bytes):aq Dw 240 [.str s,.str [47]] []=some (.tuple [.str (qW s).1,.bool (qW s).2],[]):=by
 refine aI ?_;simp only[LF,UE,ahh,EN,seval];cases s with
 |nil=>simp only[NC,UE,ahh,EN,seval]; rfl
 |cons b r =>
  by_cases hb:b=47
  ·have h1:(1:Int)<=(r.length:Int)+1:=by omega
   have h2:(0:Int)<=(r.length:Int)+1:=by omega
   simp[NC,hb,UE,qW,jc,h1,h2,EN,seval]
  ·have hb':(b==47)=false:=by simpa using hb
   simp only[NC,hb',UE,EN,seval];simp[qW,hb]
def aly s:=cP (akt s)
def c193(s:Bytes):aq Dw 193 [.str s,.str [47]] []=some (.tuple [.str (qW s).1,.bool (qW s).2],[]):=by
 refine aI ?_;simp only[LB,aiN,aly,EN,seval]
end ev
def aar(s:Bytes)(w:World):Calls Tryz.prog 193 #[.string (bs s),.string ⟨#[47]⟩] w fun e w'=>e = .returned (.tuple #[.string (bs (qW s).1),.bool (qW s).2])/\w.grownBy w' none:=by
 refine(Dj (c193 s) rfl w #[.string (bs s),.string ⟨#[47]⟩] rfl ?_).mono ?_
 ·intro i c v h1 h2
  match i with
  |0=>cases h1; cases h2; exact .plain (.str _)
  |1=>cases h1; cases h2; exact .plain (.str [47])
  |i+2=>cases h1
 ·rintro e w' ⟨v,j',rfl,hg,hr⟩;obtain⟨vs,rfl,hl,hv⟩:=hr.tq;obtain⟨l⟩:=vs
  match l,hl with
  | [u1,u2],_ =>
   rw[(hv 0 _ u1 rfl rfl).jU,(hv 1 _ u2 rfl rfl).iY];exact⟨rfl,hg⟩
def DF(s:Bytes):Nat:=if Lib.indexByte s 47<0 then s.length else (Lib.indexByte s 47).toNat
def ri(s:Bytes):Bytes×Bool:=((qW s).1.take (DF (qW s).1),(qW s).2)
def qw(s:Bytes):Bytes:=(qW s).1.drop (DF (qW s).1)
def sV:Nat->Bytes->List (Bytes×Bool)
 |0,_=>[]
 |n+1,s=>match s with
  | []=>[]
  |b::r=>ri (b::r)::sV n (qw (b::r))
def index_le(l:Bytes)(c:UInt8):Lib.indexByte l c<=l.length:=by
 induction l with
 |nil=>simp[Lib.indexByte]
 |cons b r ih =>
  simp only[Lib.indexByte];split
  ·simp; omega
  ·split
   ·simp; omega
   ·simp; omega
def PF(s:Bytes):(qW s).1.length<=s.length:=by
 cases s with
 |nil=>simp[qW]
 |cons b r=>simp only[qW]; split<;>simp
def zt{s:Bytes}(h:s≠[]):(qw s).length<s.length:=by
 cases s with
 |nil=>exact absurd rfl h
 |cons b r =>
  unfold qw;rw[iQ]
  by_cases hb:b=47
  ·have:qW (b::r)=(r,true):=by simp[qW,hb]
   rw[this]; simp; omega
  ·have e:qW (b::r)=(b::r,false):=by simp[qW,hb]
   rw[e]
   have:0<DF (b::r):=by
    unfold DF;have hb':(b==47)=false:=by simpa using hb
    have hg:=Lib.indexByte_ge r 47;split
    ·simp
    ·rename_i hn;simp only[Lib.indexByte,hb',af,aw] at hn ⊢;split
     ·rename_i he; simp[he] at hn
     ·rename_i he;have:Lib.indexByte r 47 ≠ -1:=by simpa using he
      omega
   simp only[av];omega
def Gr:∀(n m:Nat)(s:Bytes),s.length<=n->s.length<=m->sV n s=sV m s:=by
 intro n;induction n with
 |zero =>
  intro m s h _;have:s=[]:=by cases s with|nil=>rfl|cons b r=>simp at h
  subst this;cases m<;>rfl
 |succ n ih =>
  intro m s h h';cases s with
  |nil=>cases m<;>rfl
  |cons b r =>
   cases m with
   |zero=>simp at h'
   |succ m =>
    have:=zt (s:=b::r) (by simp)
    simp only[sV];rw[ih m _ (by omega) (by omega)]
def km(s:Bytes):List (Bytes×Bool):=sV s.length s
def sW{s:Bytes}(h:s≠[]):km s=ri s::km (qw s):=by
 cases s with
 |nil=>exact absurd rfl h
 |cons b r =>
  have:=zt (s:=b::r) (by simp)
  unfold km;rw[show(b::r).length=r.length+1 from rfl,sV]
  rw[Gr r.length (qw (b::r)).length _ (by simp at this; omega) (by omega)]
def A3{s:Bytes}(h:oz s):oz (ri s).1:=trivial
def Cb{s:Bytes}(h:oz s):oz (qw s):=trivial
def Oj(s:Bytes):(ri s).1.length<=s.length:=by
 have:=PF s;unfold ri;rw[gb];omega
abbrev PA:={ x:Bytes×Bool // oz x.1/\x.1.length<=100000 }
abbrev Vf(x:PA):Array Value := #[.string (bs x.1.1),.bool x.1.2]
def FT(b0:Nat)(w:World):Nat:=match w.cell? ⟨b0,0,none⟩ with
 |some (.string s)=>s.size
 |_=>0
section
attribute [local go_sem] Oper.semAt_some
set_option maxHeartbeats 1000000 in
def Ol(n:Nat)(s:Bytes)(w:World) :
  CallsIn Fence.wide n Tryz.prog 125 #[.string (bs s)] w fun e w'=>e = .returned (.func (.func 192) #[] #[.pointer (some ⟨w.heap.size,0,none⟩)])/\w'=w.alloc (.cells #[.string (bs s)] 9):=by
 refine callsIn_of_wp func125 rfl trivial ?_ rfl;simp only[ntmps125,cH,av,aG,Nat.reduceAdd,Nat.reduceSub,jh,ji,kx,jC,aX,aW]
 gi_wp2
 go_ret
 exact⟨rfl,rfl⟩
def Lk(c:Bytes)(n:Nat):bs (c.drop n)=(bs c).extract n (bs c).size:=by
 rw[yf,show(bs c).size=c.length from rfl,cQ]
def vr{b0:Nat}{w:World}{s:Bytes}(h:Boxed w b0 9 (.string (bs s))):FT b0 w=s.length:=by
 unfold FT;rw[h.cell];rfl
set_option maxRecDepth 100000 in
set_option maxHeartbeats 1000000 in
def Vw(n:Nat)(hn:3<=n)(l b0 N:Nat)(s0:Bytes)(ha:oz s0)(hs:s0.length<=100000)(hN:(km s0).length<=N)(J Jx:List PA->World->Prop)(W:World)(hJ:AbidesFrom W.heap.size J)(hJc:∀s A v,J s A->J s (A.setCell ⟨b0,0,none⟩ v))
  (hY:∀pre x W1,J pre W1->pre.length<N->YieldAt Fence.wide (n-1) Tryz.prog l (Vf x) W1 fun e W' =>
   (e = .returned (.bool true)/\J (pre++[x]) W'/\W'.heap[b0]?=W1.heap[b0]?)\/(e = .returned (.bool false)/\Jx (pre++[x]) W'))
  (hB:Boxed W b0 9 (.string (bs s0))) (h0:J [] W) :
  CallsIn Fence.wide n Tryz.prog 192 #[.func (.yield l) #[] #[],.pointer (some ⟨b0,0,none⟩)] W fun e W'=>(∃v,e = .returned v) /\
   ((∃xs:List PA,xs.map (·.1)=km s0/\J xs W')\/(∃pre:List PA,pre.map (·.1) <+: km s0/\Jx pre W')):=by
 refine callsIn_of_wp func192 rfl trivial ?_ rfl;simp only[ntmps192,cH,av,aG,Nat.reduceAdd,Nat.reduceSub,jh,ji,kx,jC,aX,aW]
 gi_wp2
 gi_loopw [3] (fun _ wr=>∃(pre:List PA) (rest:Bytes),Boxed wr b0 9 (.string (bs rest))/\oz rest/\rest.length<=100000/\km s0=pre.map (·.1)++km rest/\J pre wr)
  (fun _ wr=>FT b0 wr)
 case atStart =>
  exact⟨[],s0,hB,ha,hs,rfl,h0⟩
 case round =>
  obtain⟨pre,rest,hb,hra,hrl,hp,hJs⟩:=hrel;have hf:=hb.frozen;cases rest with
  |nil =>
   have hc:wr.cell? ⟨b0,0,none⟩=some (.string ⟨#[]⟩):=hb.cell
   gi_wp2
   go_end0
   exact⟨⟨_,rfl⟩,.inl ⟨pre,by rw[hp]; simp[km,sV],hJs⟩⟩
  |cons x rest =>
   have hc:=hb.cell;have hne:(!(bs (x::rest)).toList.isEmpty)=true:=by simp[bs]
   gi_wp2
   refine⟨trivial,fun h=>(by cases h),(callsIn_wide.2 (aar _ _)).mono ?_⟩
   rintro e w1 ⟨rfl,hg⟩;have hb1:Boxed w1 b0 9 (.string (bs (x::rest))):=hb.kept hg (by simp)
   have hJ1:J pre w1:=hJ pre wr w1 none hJs hg (fun r e=>by cases e)
   have hbr:=hb;clear hb hc hf hJs;have hc1:=hb1.cell;have hf1:=hb1.frozen
   gi_wp2
   refine⟨trivial,fun h=>(by cases h),(callsIn_wide.2 (Qp _ _ _)).mono ?_⟩
   rintro e w2 ⟨rfl,rfl⟩
   have eU:pre.length<N:=by
    have:=congrArg List.length hp;rw[sW (s:=x::rest) (by simp)] at this
    simp at this;omega
   have hpl:=Oj (x::rest);have hrest:=zt (s:=x::rest) (by simp)
   obtain⟨fn,tmps,assign,body,hy,hR⟩:=hY pre ⟨ri (x::rest),A3 hra,by omega⟩ w2 hJ1 eU
   have hpn:km s0=(pre++[⟨ri (x::rest),A3 hra,by omega⟩]:List PA).map (·.1)++km (qw (x::rest)):=by
    rw[hp,sW (by simp)]; simp
   obtain⟨c,hc⟩:∃c,(qW (x::rest)).1=c:=⟨_,rfl⟩;have hix:=index_le c 47
   by_cases hi:Lib.indexByte c 47<0
   ·have he:ri (x::rest)=(c,(qW (x::rest)).2):=by simp[ri,hc,DF,hi]
    have hre:qw (x::rest)=[]:=by simp[qw,hc,DF,hi]
    simp only[Vf,he] at hy;rw[hc];have hi':Lib.indexByte (bs c).data.toList 47<0:=hi
    gi_wp2
    refine⟨fun h=>(by cases h),hR.mono ?_⟩
    rintro e W3 (⟨rfl,hJ3,hk3⟩|⟨rfl,hJx3⟩)
    ·have hb3:Boxed W3 b0 9 (.string (bs (x::rest))):=hk3.trans hb1;have hc3:=hb3.cell;have hf3:=hb3.frozen
     gi_wp2
     go_roundw
     case rel =>
      exact⟨_,qw (x::rest),(by rw[hre]; exact(hb3.set _)),Cb hra,by omega,hpn,hJc _ _ _ hJ3⟩
     case measure =>
      rw[vr (s:=qw (x::rest)) (by rw[hre]; exact(hb3.set _)),vr hbr]
      exact hrest
    ·gi_wp2
     refine bodyPost_ret (results_none rfl _ _ _) rfl ?_;exact⟨⟨_,rfl⟩,.inr ⟨_,⟨km (qw (x::rest)),hpn.symm⟩,hJx3⟩⟩
   ·have hi0:0<=Lib.indexByte c 47:=by omega
    have he:ri (x::rest)=(c.take (Lib.indexByte c 47).toNat,(qW (x::rest)).2):=by simp[ri,hc,DF,hi]
    have hre:qw (x::rest)=c.drop (Lib.indexByte c 47).toNat:=by simp[qw,hc,DF,hi]
    simp only[Vf,he] at hy;rw[show bs (c.take (Lib.indexByte c 47).toNat)=(bs c).extract 0 (Lib.indexByte (bs c).data.toList 47).toNat by rw[yf]; rfl] at hy
    rw[hc];have hi':¬Lib.indexByte (bs c).data.toList 47<0:=hi;have hi2:Lib.indexByte (bs c).data.toList 47<=(bs c).size:=hix
    gi_wp2
    refine⟨fun h=>(by cases h),hR.mono ?_⟩
    rintro e W3 (⟨rfl,hJ3,hk3⟩|⟨rfl,hJx3⟩)
    ·have hb3:Boxed W3 b0 9 (.string (bs (x::rest))):=hk3.trans hb1;have hc3:=hb3.cell;have hf3:=hb3.frozen
     gi_wp2
     go_roundw
     case rel =>
      exact⟨_,qw (x::rest),(by rw[hre,Lk]; exact(hb3.set _)),Cb hra,by omega,hpn,hJc _ _ _ hJ3⟩
     case measure =>
      rw[vr (s:=qw (x::rest)) (by rw[hre,Lk]; exact(hb3.set _)),vr hbr]
      exact hrest
    ·gi_wp2
     refine bodyPost_ret (results_none rfl _ _ _) rfl ?_;exact⟨⟨_,rfl⟩,.inr ⟨_,⟨km (qw (x::rest)),hpn.symm⟩,hJx3⟩⟩
def zL(x:Bytes×Bool)(n:Nat):Bool := !x.2 || !dB x.1||n==12
def nD:List (Bytes×Bool)->Nat->Option (List Bytes)
 | [],_=>some []
 |x::r,n=>if zL x n then none else (nD r (n+1)).map (x.1 :: ·)
def AK:∀(a b:List (Bytes×Bool)) (n:Nat),nD (a++b) n=(nD a n).bind fun l=>(nD b (n+a.length)).map (l ++ ·):=by
 intro a;induction a with
 |nil=>intro b n; simp[nD]
 |cons x r ih =>
  intro b n;simp only[aW,nD];split
  ·rfl
  ·rw[ih,show n+1+r.length=n+(x::r).length by simp; omega]
   cases nD r (n+1) with
   |none=>rfl
   |some l=>simp; rfl
def bw(s:Bytes):List Bytes×Int:=if s=[47] then ([],0) else match nD (km s) 0 with
 |none=>([],60)
 |some []=>([],60)
 |some l=>(l,0)
def LI(pre:List PA):Prop:=nD (pre.map (·.1)) 0=some (pre.map (·.1.1))/\pre.length<=12
def J7{pre:List PA}{x:PA}(h:LI pre)(hb:zL x.1 pre.length=false):LI (pre++[x]):=by
 refine⟨?_,?_⟩
 ·rw[bB,AK,h.1];simp[nD,hb]
 ·have:pre.length≠12:=by intro e; rw[e] at hb; simp[zL] at hb
  have:=h.2;simp; omega
def zM{pre:List PA}{x:PA}(h:LI pre)(hb:zL x.1 pre.length=true):nD ((pre++[x]).map (·.1)) 0=none:=by
 rw[bB,AK,h.1];simp[nD,hb]
def Ow{a l:List (Bytes×Bool)}(h:a <+: l)(hn:nD a 0=none):nD l 0=none:=by
 obtain⟨b,rfl⟩:=h;rw[AK,hn]; rfl
def agT:(Tryz.prog.info? 9).map (fun i=>(i.zero,i.size,i.bytes))=some (some (.string ⟨#[]⟩),1,16):=by kernel_rfl
abbrev F1(b:Bytes):Value := .string (bs b)
def appended{W w1:World}{n₀ B:Nat}{v v':Value}{k m:Nat}{xs ys:List Value}{tmp:Obj}
  (hv:Boxed W B 35 v) (hrow:W.ownsRow n₀ 9 1 v k xs) (hown':w1.ownsRow n₀ 9 1 v' m ys) (hgrow:(W.alloc tmp).grownBy w1 v.ownBlock) :
  Boxed w1 B 35 v/\Boxed (w1.setCell ⟨B,0,none⟩ v') B 35 v'/\(w1.setCell ⟨B,0,none⟩ v').ownsRow n₀ 9 1 v' m ys/\KeepsOthers W (w1.setCell ⟨B,0,none⟩ v') /\
  (w1.setCell ⟨B,0,none⟩ v').os=W.os/\(w1.setCell ⟨B,0,none⟩ v').tape=W.tape/\(w1.setCell ⟨B,0,none⟩ v').output=W.output/\W.heap.size<=(w1.setCell ⟨B,0,none⟩ v').heap.size /\
  ∀q,q<n₀->q<W.heap.size->q≠B->(w1.setCell ⟨B,0,none⟩ v').heap[q]?=W.heap[q]?:=by
 have hv1:Boxed w1 B 35 v:=(hv.alloc tmp).kept hgrow (hv.not_row (by decide) hrow)
 have hs:=grownBy_setCell' w1 B v';refine⟨hv1,hv1.set v',hown'.kept hs (.inr (hv1.not_row (by decide) hown').symm),?_,?_,?_,?_,?_,?_⟩
 ·refine((KeepsOthers.alloc W tmp).trans (KeepsOthers.of_grownBy hgrow fun j o ej hj=>?_)).trans (KeepsOthers.setCell _ _ _)
  rcases(hrow.alloc tmp).2 with ⟨rfl,_⟩|⟨g,cap,cur,rfl,_,hgb,_⟩
  ·simp[Value.ownBlock] at ej
  ·obtain rfl:g=j:=by simpa[Value.ownBlock] using ej
   rw[hgb] at hj; cases hj; rfl
 ·exact hs.os.trans hgrow.os
 ·exact hs.tape.trans hgrow.tape
 ·exact hs.output.trans hgrow.output
 ·have h1:=hgrow.size;have h2:=hs.size;simp at h1;omega
 ·intro q hq hqw hqB;have cr:q<(W.alloc tmp).heap.size:=by simp; omega
  rw[hs.block q (bp cr hgrow.size) (fun e=>hqB (by cases e; rfl)),hgrow.block q cr ?_]
  ·exact Below.heap_alloc _ _ _ hqw
  ·intro e;rcases hrow.2 with ⟨rfl,_⟩|⟨g,cap,cur,rfl,hb,_,_⟩
   ·simp[Value.ownBlock] at e
   ·obtain rfl:q=g:=by simpa[Value.ownBlock] using e
    omega
structure DD(w:World)(pre:List PA)(W:World):Prop where
 F3:LI pre
 r0:Boxed W w.heap.size 35 (.slice none 0 0)
 r1:Boxed W (w.heap.size+1) 34 (.int .i64 0)
 row:∃v,Boxed W (w.heap.size+2) 35 v/\W.ownsRow (w.heap.size+4) 9 1 v pre.length (pre.map fun x=>F1 x.1.1)
 below:Below w.heap.size w W
 sz:w.heap.size+4<=W.heap.size
structure FN(w:World)(c:Code)(pre:List PA)(W:World):Prop where
 ret:c = .ret
 bad:nD (pre.map (·.1)) 0=none
 r0:Boxed W w.heap.size 35 (.slice none 0 0)
 r1:Boxed W (w.heap.size+1) 34 (.int .i64 60)
 below:Below w.heap.size w W
def tx{W W':World}{row:Option Nat}{B k:Nat}{t:TypeId}{v:Value}(h:Boxed W B t v)(hg:W.grownBy W' row)(hr:∀r,row=some r->k<=r/\∃o:Obj,W.heap[r]?=some o/\o.isCells=false):Boxed W' B t v :=
 h.kept hg fun e=>by obtain⟨_,o,ho,hc⟩:=hr B e.symm; rw[show W.heap[B]?=_ from h] at ho; cases ho; cases hc
def DD.own{w:World}:OwnFrom (w.heap.size+4) (DD w):=fun s A B row hs hg hr=>by
 obtain⟨v,hv,hrow⟩:=hs.row;exact⟨hs.F3,tx hs.r0 hg hr,tx hs.r1 hg hr,⟨v,tx hv hg hr,((holdsRow_own (β:=Unit) (w.heap.size+4) (w.heap.size+2) 35 9 1 (fun _=>s.length) (fun _=>s.map fun x=>F1 x.1.1) (fun _ u=>u=v)) () A B row ⟨v,hv,hrow,rfl⟩ hg (fun r e=>(hr r e).2)).elim fun u hu=>hu.2.2▸hu.2.1⟩,ownFrom_below (β:=Unit) (ar _) (by omega) () A B row hs.below hg hr,bh hs.sz hg.size⟩
def FN.own{w:World}(c:Code):OwnFrom (w.heap.size+4) (FN w c):=fun s A B row hs hg hr =>
 ⟨hs.ret,hs.bad,tx hs.r0 hg hr,tx hs.r1 hg hr,ownFrom_below (β:=Unit) (ar _) (by omega) () A B row hs.below hg hr⟩
def DD.cell{w:World}(s:List PA)(A:World)(u:Value)(hs:DD w s A):DD w s (A.setCell ⟨w.heap.size+3,0,none⟩ u):=by
 obtain⟨v,hv,hrow⟩:=hs.row;have hg:=grownBy_setCell' A (w.heap.size+3) u;refine⟨hs.F3,hs.r0.other (by omega) _,hs.r1.other (by omega) _,⟨v,hv.other (by omega) _,hrow.kept hg ?_⟩,hs.below.setCell (p:=⟨w.heap.size+3,0,none⟩) (by simp) _,bh hs.sz hg.size⟩
 rcases hrow.2 with ⟨rfl,_⟩|⟨g,cap,cur,rfl,hb,_,_⟩
 ·exact .inl rfl
 ·refine .inr fun e=>?_
  have:g=w.heap.size+3:=by simpa[Value.ownBlock] using e
  omega
def FN.made{w W:World}{pre:List PA}(h0:Boxed W w.heap.size 35 (.slice none 0 0))(h1:Boxed W (w.heap.size+1) 34 (.int .i64 0))(hb:Below w.heap.size w W)(hbad:nD (pre.map (·.1)) 0=none) :
  KeepsOthers W ((W.setCell ⟨w.heap.size,0,none⟩ (.slice none 0 0)).setCell ⟨w.heap.size+1,0,none⟩ (.int .i64 60))/\FN w .ret pre ((W.setCell ⟨w.heap.size,0,none⟩ (.slice none 0 0)).setCell ⟨w.heap.size+1,0,none⟩ (.int .i64 60)):=by
 refine⟨(KeepsOthers.setCell _ _ _).trans (KeepsOthers.setCell _ _ _),rfl,hbad,(h0.set _).other (by omega) _,?_,(hb.setCell (p:=⟨w.heap.size,0,none⟩) (ar _) _).setCell (p:=⟨w.heap.size+1,0,none⟩) (by simp) _⟩
 exact(h1.other (by omega) _).set _
def AG{W:World}{n₀ k:Nat}{v:Value}{xs:List Value}(h:W.ownsRow n₀ 9 1 v k xs):∃p cap,v = .slice p k cap:=by
 rcases h.2 with ⟨rfl,rfl⟩|⟨g,cap,cur,rfl,_⟩
 ·exact⟨_,_,rfl⟩
 ·exact⟨_,_,rfl⟩
def Xc{W:World}{n₀ n₁ k D:Nat}{v:Value}{xs:List Value}{x:Option (List Deferred)}{o:Obj}(h:W.ownsRow n₀ 9 1 v k xs)(hn:n₁<=n₀)(hD:W.heap[D]?=some (.deferred x)):(W.putObj D o).ownsRow n₁ 9 1 v k xs:=by
 refine⟨h.1,?_⟩;rcases h.2 with h0|⟨g,cap,cur,e,hb,hg,hr⟩
 ·exact .inl h0
 ·refine .inr ⟨g,cap,cur,e,by omega,?_,hr⟩
  exact(World.putObj_heap_other (fun e=>by subst e; rw[hD] at hg; cases hg)).trans hg
def IG{W:World}{n₀ k B:Nat}{v:Value}{xs:List Value}(h:W.ownsRow n₀ 9 1 v k xs)(hB:B<n₀)(u:Value):(W.setCell ⟨B,0,none⟩ u).ownsRow n₀ 9 1 v k xs:=by
 refine⟨h.1,?_⟩;rcases h.2 with h0|⟨g,cap,cur,e,hb,hg,hr⟩
 ·exact .inl h0
 ·exact .inr ⟨g,cap,cur,e,hb,(Below.heap_setCell _ _ _ _ (by show _≠B; omega)).trans hg,hr⟩
def tg{W:World}{B D:Nat}{t:TypeId}{v:Value}{x:Option (List Deferred)}{o:Obj}(h:Boxed W B t v)(hD:W.heap[D]?=some (.deferred x)):Boxed (W.putObj D o) B t v :=
 (World.putObj_heap_other (fun e=>by subst e; rw[show W.heap[B]?=_ from h] at hD; cases hD)).trans h
def zP{w W:World}{D:Nat}{o:Obj}(h:Below w.heap.size w W)(hD:w.heap.size<=D):Below w.heap.size w (W.putObj D o) :=
 ⟨h.os,h.tape,h.output,by simpa[World.putObj] using h.size,fun k hk=>(World.putObj_heap_other (by omega)).trans (h.block k hk)⟩
def xv{W:World}{B D:Nat}{o:Obj}{u:Value}(h:W.heap[D]?=some o)(hB:D≠B):(W.setCell ⟨B,0,none⟩ u).heap[D]?=some o:=(Below.heap_setCell _ _ _ _ (by show _≠B; omega)).trans h
def results63{W:World}{b:Nat}{v u:Value}{tmps:Array Value}(h2:tmps[2]?=some (.pointer (some ⟨b,0,none⟩)))(h3:tmps[3]?=some (.pointer (some ⟨b+1,0,none⟩)))(hv:Boxed W b 35 v)(hu:Boxed W (b+1) 34 u):(results f63 tmps).run Tryz.prog W = .ok (.tuple #[v,u]) W:=by
 have c0:=hv.cell;have c1:=hu.cell;simp[results,f63,go_sem,c0,c1,h2,h3]
def wJ{F:Fence}{n:Nat}{P:Program}{fn:Func}{tmps:Array Value}{R:Ending->World->Prop}{D:Nat}{W W':World}{v:Value}(hD:(Instr.takeDeferred D).run P W = .ok [] W')(hv:(results fn tmps).run P W' = .ok v W')(hR:R (.returned v) W') :
  LeavesInM F n P fn tmps R [{ target := .collected D,args := #[] }] .returning W :=
 ⟨by simp,.inl ⟨D,W',rfl,hD,⟨v,hv,hR⟩⟩⟩
set_option maxRecDepth 100000 in
set_option maxHeartbeats 2000000 in
def Uc(n:Nat)(hn:6<=n)(s:Bytes)(ha:oz s)(hs:s.length<=100000)(w:World) :
  CallsIn Fence.wide n Tryz.prog 63 #[.string (bs s)] w fun e W'=>∃v,e = .returned (.tuple #[v,.int .i64 (bw s).2])/\W'.ownsRow w.heap.size 9 1 v (bw s).1.length ((bw s).1.map F1)/\Below w.heap.size w W':=by
 have h1:1<=n:=by omega
 obtain⟨i0,hi,hz0,hz1,hz2⟩:=info_parts agT;refine callsIn_of_wp_marks func63 rfl trivial ?_ rfl;simp only[ntmps63,cH,av,aG,Nat.reduceAdd,Nat.reduceSub,jh,ji,kx,jC,aX,aW];have b0:=Boxed.new w 35 (.slice none 0 0);have b1:=Boxed.new (w.alloc (.cells #[.slice none 0 0] 35)) 34 (.int .i64 0);have b2:=Boxed.new ((w.alloc (.cells #[.slice none 0 0] 35)).alloc (.cells #[.int .i64 0] 34)) 35 (.slice none 0 0);have b3:=Boxed.new (((w.alloc (.cells #[.slice none 0 0] 35)).alloc (.cells #[.int .i64 0] 34)).alloc (.cells #[.slice none 0 0] 35)) 9 (.string (bs s));simp only[World.size_alloc] at b1 b2 b3;have hB2:Below w.heap.size w ((w.alloc (.cells #[.slice none 0 0] 35)).alloc (.cells #[.int .i64 0] 34)):=((Below.refl _ w).alloc (ar _) _).alloc (by simp) _
 have hB4:=(hB2.alloc (by simp; omega) (.cells #[.slice none 0 0] 35)).alloc (by simp; omega) (.cells #[.string (bs s)] 9)
 by_cases hs47:s=[47]
 ·subst hs47;have ht:((bs [47]).toList==[47])=true:=by rw[uG]; rfl
  gi_wp2
  have c0:=(b0.alloc (.cells #[.int .i64 0] 34)).cell;have c1:=b1.cell;refine⟨.tuple #[.slice none 0 0,.int .i64 0],?_,_,rfl,World.ownsRow_nil _ _ _ _,hB2⟩;simp[results,f63,go_sem,c0,c1]
 have ht:((bs s).toList==[47])=false:=by rw[uG]; simpa using hs47
 gi_wp2
 refine⟨trivial,(Ol _ s _).mono ?_⟩;rintro e w' ⟨rfl,rfl⟩
 gi_wp2
 obtain⟨W4,hW4⟩:∃W4,(((w.alloc (.cells #[.slice none 0 0] 35)).alloc (.cells #[.int .i64 0] 34)).alloc (.cells #[.slice none 0 0] 35)).alloc (.cells #[.string (bs s)] 9)=W4:=⟨_,rfl⟩;have hsz:W4.heap.size=w.heap.size+4:=by rw[<-hW4]; simp
 have e0:Boxed W4 w.heap.size 35 (.slice none 0 0):=by rw[<-hW4]; exact((b0.alloc _).alloc _).alloc _
 have e1:Boxed W4 (w.heap.size+1) 34 (.int .i64 0):=by rw[<-hW4]; exact(b1.alloc _).alloc _
 have e2:Boxed W4 (w.heap.size+2) 35 (.slice none 0 0):=by rw[<-hW4]; exact b2.alloc _
 rw[hW4] at b3 hB4 ⊢
 have hseq:DN (w.heap.size+3) Fence.wide (n-1) Tryz.prog 192 #[.pointer (some ⟨w.heap.size+3,0,none⟩)] Vf (fun A B=>B.heap[w.heap.size+3]?=A.heap[w.heap.size+3]?) (fun xs=>xs.map (·.1)=km s) (fun pre=>pre.map (·.1) <+: km s) (km s).length W4 :=
  fun l J Jx W hW hJ hJx hJc hY h0=>Vw (n-1) (by omega) l _ _ s ha hs (ar _) J Jx W hJ hJc hY ((hW.block _ (by omega)).trans b3) h0
 refine xP (b0:=w.heap.size+3) (by omega) rfl h1 (gf:=192) (lb := #[.pointer (some ⟨w.heap.size+3,0,none⟩)]) rfl trivial (enters_of func192 (by kernel_rfl) rfl) hseq
  (fun h k=>k.trans h) (fun W l o o' hl _ _ _=>World.putObj_heap_other (by omega)) (Below.refl _ _) (fun _=>rfl)
  (DD w) (FN w) (by rw[hsz]; exact DD.own) (fun c=>by rw[hsz]; exact FN.own c) DD.cell
  ⟨⟨rfl,by simp⟩,e0,e1,⟨_,e2,World.ownsRow_nil _ _ _ _⟩,hB4,by omega⟩
  (fun x=>{ tmps := #[.string (bs s),undef,.pointer (some ⟨w.heap.size,0,none⟩),.pointer (some ⟨w.heap.size+1,0,none⟩),.pointer (some ⟨w.heap.size+1+1,0,none⟩),.string (bs x.1.1),.bool x.1.2,.string (bs s),.bool false,.string (bs s),.func (.func 192) #[] #[.pointer (some ⟨w.heap.size+1+1+1,0,none⟩)],.string (bs x.1.1),.bool x.1.2,
   undef,undef,undef,undef,undef,undef,undef,undef,undef,undef,undef,undef,undef,undef,undef,undef,undef,undef,undef,undef],defers:=[] }) ?assign ?body ?done ?stop
 case assign =>
  intro l x W K hK
  gi_wp2
  exact hK
 case body =>
  rintro l pre ⟨⟨nm,ok⟩,hxa,hxl⟩ W hInv cr;obtain⟨v,hv,hrow⟩:=hInv.row;have hc0:=hInv.r0.cell;have hf0:=hInv.r0.frozen;have hc1:=hInv.r1.cell;have hf1:=hInv.r1.frozen;cases ok with
  |false =>
   gi_wp2
   refine⟨trivial,?_⟩
   gi_wp2
   exact FN.made hInv.r0 hInv.r1 hInv.below (zM hInv.F3 (by simp[zL]))
  |true =>
   gi_wp2
   refine⟨trivial,fun h=>(by cases h),(CallsIn.inRound l (callsIn_wide.2 (TY nm hxl hxa W))).mono ?_⟩
   rintro e W5 ⟨rfl,hg5⟩;have hInv5:DD w pre W5:=DD.own pre W W5 none hInv hg5 (fun r e=>by cases e)
   have hK5:KeepsOthers W W5:=KeepsOthers.of_grownBy hg5 (fun j o e=>by cases e)
   clear hc0 hf0 hc1 hf1 hrow hv v;obtain⟨v,hv,hrow⟩:=hInv5.row;have hc0:=hInv5.r0.cell;have hf0:=hInv5.r0.frozen;have hc1:=hInv5.r1.cell;have hf1:=hInv5.r1.frozen;have hc2:W5.cell? ⟨w.heap.size+1+1,0,none⟩=some v:=hv.cell;have hf2:W5.frozen? ⟨w.heap.size+1+1,0,none⟩=false:=hv.frozen;cases hnm:dB nm with
   |false =>
    gi_wp2
    have:=FN.made hInv5.r0 hInv5.r1 hInv5.below (zM (x:=⟨(nm,true),hxa,hxl⟩) hInv5.F3 (by simp[zL,hnm]))
    exact⟨hK5.trans this.1,this.2⟩
   |true =>
    obtain⟨p,cap,rfl⟩:=AG hrow
    by_cases hl:pre.length=12
    ·have hl':((pre.length:Int)==12)=true:=by simp[hl]
     gi_wp2
     have:=FN.made hInv5.r0 hInv5.r1 hInv5.below (zM (x:=⟨(nm,true),hxa,hxl⟩) hInv5.F3 (by simp[zL,hnm,hl]))
     exact⟨hK5.trans this.1,this.2⟩
    ·have hl':((pre.length:Int)==12)=false:=by simp; omega
     gi_wp2_with (gi_at_builtin; generalize hX:wpListIn _ _ _ _ _ _ _ _=X)
     subst hX;refine wpListIn_append_own _ rfl _ _ 35 rfl (w.heap.size+4) 9 i0 (.string ⟨#[]⟩) 1 16 underlying35 hi hz0 hz1 hz2 rfl (by decide) _ _ _ rfl (hrow.alloc _) ⟨W5.heap.size,0,none⟩ 1 1 [F1 nm] rfl rfl (cell_one_new _ _ _) (by simp[Value.oneCell']) (by have:=hInv5.F3.2; simp[maxLen]; omega) (by have:=hInv5.F3.2; omega) (by have:=hv.lt; simp; omega) ?_
     intro v' w1 hown' hgrow hiff;obtain⟨q0,q1,q2,q3,q4,q5,q6,q7,q8⟩:=appended hv hrow hown' hgrow;have hc2':w1.cell? ⟨w.heap.size+1+1,0,none⟩=some (.slice p pre.length cap):=q0.cell;have hf2':w1.frozen? ⟨w.heap.size+1+1,0,none⟩=false:=q0.frozen;obtain⟨p',cap',rfl⟩:=AG hown'
     gi_wp2
     refine⟨hK5.trans q3,(q8 _ (by omega) (by have:=hInv5.sz; omega) (by omega)).trans (hg5.block _ (by have:=hInv.sz; omega) (by simp)),?_⟩
     refine⟨J7 hInv5.F3 (by simp[zL,hnm,hl]),(q8 _ (by omega) hInv5.r0.lt (by omega)).trans hInv5.r0,(q8 _ (by omega) hInv5.r1.lt (by omega)).trans hInv5.r1,⟨_,q1,by simpa using q2⟩,?_,bh hInv5.sz q7⟩
     exact hInv5.below.trans ⟨q4,q5,q6,q7,fun q hq=>q8 q (by omega) (by have:=hInv5.below.size; omega) (by omega)⟩
 case done =>
  rintro D ys W hD hys hInv hK;obtain⟨v,hv,hrow⟩:=hInv.row;have hc0:=hInv.r0.cell;have hf0:=hInv.r0.frozen;have hc1:=hInv.r1.cell;have hf1:=hInv.r1.frozen;have hc2:W.cell? ⟨w.heap.size+1+1,0,none⟩=some v:=hv.cell;have hf2:W.frozen? ⟨w.heap.size+1+1,0,none⟩=false:=hv.frozen;obtain⟨p,cap,rfl⟩:=AG hrow
  by_cases hl:ys.length=0
  ·have hl':((ys.length:Int)==0)=true:=by simp[hl]
   have hy:ys=[]:=cq.1 hl
   have hsp:bw s=([],60):=by
    rw[hy] at hys;simp[bw,hs47,<-hys,nD]
   gi_wp2
   have hm:=xv (u := .int .i64 60) (xv (u := .slice none 0 0) hK (B:=w.heap.size) (by omega)) (B:=w.heap.size+1) (by omega)
   have k0:Boxed ((W.setCell ⟨w.heap.size,0,none⟩ (.slice none 0 0)).setCell ⟨w.heap.size+1,0,none⟩ (.int .i64 60)) w.heap.size 35 (.slice none 0 0):=(hInv.r0.set _).other (by omega) _
   have k1:Boxed ((W.setCell ⟨w.heap.size,0,none⟩ (.slice none 0 0)).setCell ⟨w.heap.size+1,0,none⟩ (.int .i64 60)) (w.heap.size+1) 34 (.int .i64 60):=(hInv.r1.other (by omega) _).set _
   refine wJ (run_takeDeferred hm) (results63 rfl rfl (tg k0 hm) (tg k1 hm)) ⟨_,rfl,World.ownsRow_nil _ _ _ _,zP ((hInv.below.setCell (p:=⟨w.heap.size,0,none⟩) (ar _) _).setCell (p:=⟨w.heap.size+1,0,none⟩) (by simp) _) (by omega)⟩
  ·have hl':((ys.length:Int)==0)=false:=by rw[bL]; omega
   have hsp:bw s=(ys.map (·.1.1),0):=by
    have h0:=hInv.F3.1;rw[hys] at h0;cases ys with
    |nil=>simp at hl
    |cons y ys=>simp[bw,hs47,h0]
   gi_wp2
   have hm:=xv (u := .int .i64 0) (xv (u := .slice p ys.length cap) hK (B:=w.heap.size) (by omega)) (B:=w.heap.size+1) (by omega)
   have k0:Boxed ((W.setCell ⟨w.heap.size,0,none⟩ (.slice p ys.length cap)).setCell ⟨w.heap.size+1,0,none⟩ (.int .i64 0)) w.heap.size 35 (.slice p ys.length cap):=(hInv.r0.set _).other (by omega) _
   have k1:Boxed ((W.setCell ⟨w.heap.size,0,none⟩ (.slice p ys.length cap)).setCell ⟨w.heap.size+1,0,none⟩ (.int .i64 0)) (w.heap.size+1) 34 (.int .i64 0):=(hInv.r1.other (by omega) _).set _
   refine wJ (run_takeDeferred hm) (results63 rfl rfl (tg k0 hm) (tg k1 hm)) ⟨_,rfl,?_,zP ((hInv.below.setCell (p:=⟨w.heap.size,0,none⟩) (ar _) _).setCell (p:=⟨w.heap.size+1,0,none⟩) (by simp) _) (by omega)⟩
   have:=Xc (IG (IG hrow (by omega:w.heap.size<_) (.slice p ys.length cap)) (by omega:w.heap.size+1<_) (.int .i64 0)) (by omega:w.heap.size<=_) hm (o := .deferred none)
   simpa[Function.comp_def] using this
 case stop =>
  rintro D c pre W hD hpre hOut hK;obtain rfl:=hOut.ret;have hsp:bw s=([],60):=by simp[bw,hs47,Ow hpre hOut.bad]
  gi_wp2
  refine wJ (run_takeDeferred hK) (results63 rfl rfl (tg hOut.r0 hK) (tg hOut.r1 hK)) ⟨_,rfl,World.ownsRow_nil _ _ _ _,zP hOut.below (by omega)⟩
def Xg(s:Bytes)(ha:oz s)(hs:s.length<=100000)(w:World) :
  Calls Tryz.prog 63 #[.string (bs s)] w fun e W'=>∃v,e = .returned (.tuple #[v,.int .i64 (bw s).2])/\W'.ownsRow w.heap.size 9 1 v (bw s).1.length ((bw s).1.map F1)/\Below w.heap.size w W' :=
 callsIn_wide.1 (Uc 6 (by omega) s ha hs w)
end
end
instance (s:Bytes):Decidable (oz s):=inferInstanceAs (Decidable True)
def De:List ag->aK->Option (ag×aK)
 | [.str s],M=>if oz s/\s.length<=100000 then some (.tuple [.slice .sh ((bw s).1.map .str),.int .i64 (bw s).2],M) else none
 |_,_=>none
def Ud{args:List ag}{M:aK}{x:ag×aK}(h:De args M=some x):eM Tryz.prog 63 args M x:=by
 unfold De at h;split at h
 ·rename_i s;split at h
  ·rename_i hs;cases h;refine nj.call ?_;intro j w vs hr hG hl hv;obtain⟨u,rfl⟩:=BP hl;have h1:=(hv 0 _ u rfl rfl).jU;subst h1;refine(Xg s hs.1 hs.2 w).mono ?_;rintro e w' ⟨v,rfl,⟨eU,hown⟩,hb⟩;refine⟨_,j,rfl,hr.grow hb.size hb.os hb.tape hb.output hb.block,Ext.grow hb.size hb.os hb.tape hb.output hb.block,.tuple rfl ?_⟩;intro i c v' hi hv'
   match i with
   |0 =>
    cases hi; cases hv';refine .plain ?_;rcases hown with ⟨rfl,h0⟩|⟨g,cap,cur,rfl,hg,hg',hn1,_,hcs,htk⟩
    ·rw[cq.1 h0];exact fF.nil _ _ _
    ·refine .slice _ _ _ _ g 0 1 (fun k=>F1 ((bw s).1.getD k [])) (by simp) (by simpa using hn1) (fun _=>rfl) ?_ ?_ ?_
     ·intro x hx;obtain⟨b,_,rfl⟩:=bR.1 hx;rfl
     ·intro i x k c hx hc;rw[aY] at hx;obtain⟨b,hb',rfl⟩:=aN.1 hx
      match k with
      |0 =>
       have hi:i<(bw s).1.length:=(aC.1 hb').1;refine⟨?_,?_,?_,?_⟩
       ·have h1:cur.toList[i]?=some (F1 b):=by
         have:(cur.toList.take ((bw s).1.length*1))[i]?=some (F1 b):=by rw[htk,aY,hb']; rfl
         rwa[bE (by omega)] at this
        have h2:cur[i]?=some (F1 b):=by simpa using h1
        have h3:(bw s).1.getD i []=b:=by simp[List.getD,hb']
        simp only[Nat.mul_one,cS,aP];rw[h3];simp[World.cell?,hg',h2]
       ·exact lt_of_block hg'
       ·intro id hid hji;have:=hr.lt id g hid hji; omega
       ·intro hx; have:=hr.zG g _ hx; omega
      |k+1=>cases hc
     ·intro i x k c hx hc;rw[aY] at hx;obtain⟨b,hb',rfl⟩:=aN.1 hx
      match k with
      |0 =>
       cases hc;have h3:(bw s).1.getD i []=b:=by simp[List.getD,hb']
       simp only[Nat.mul_one,cS];rw[h3];exact .str _
      |k+1=>cases hc
   |1=>cases hi; cases hv'; exact .plain (.int _ _)
   |i+2=>cases hi
  ·cases h
 ·cases h
section
attribute [local irreducible] fP fi kD gK dp kr aq aL ct bI
def ik:∀a:Bytes,strLt a a=false
 | []=>rfl
 |a::x=>by simp[strLt,ik x,oh]
def qK:∀ {a b c:Bytes},strLt a b=true->strLt b c=true->strLt a c=true
 | [],b,[],_,h2=>by cases b<;>simp[strLt] at h2
 | [],_,_::_,_,_=>rfl
 |_::_,[],_,h1,_=>by simp[strLt] at h1
 |_::_,_::_,[],_,h2=>by simp[strLt] at h2
 |a::x,b::y,c::z,h1,h2=>by
  simp only[strLt,cJ,bm,bt,dM] at h1 h2 ⊢;simp only[ki] at h1 h2 ⊢;rcases h1 with h1|⟨h1,h1'⟩
  ·rcases h2 with h2|⟨h2,_⟩
   ·left; omega
   ·left; rw[<-h2]; exact h1
  ·rcases h2 with h2|⟨h2,h2'⟩
   ·left; rw[h1]; exact h2
   ·right; exact⟨h1.trans h2,qK h1' h2'⟩
def rY{l:List ew}(h:oT l)(s:Bytes):Jm l s (lq l s):=by
 unfold lq;induction l with
 |nil=>exact⟨by simp,fun h n hn=>by simp at hn⟩
 |cons a r ih =>
  obtain⟨h1,h2⟩:=bF.1 h;obtain⟨i1,i2⟩:=ih h2
  by_cases ha:strLt a.name s=true
  ·rw[fb,az ha];refine⟨by simpa using i1,fun k n hn=>?_⟩
   cases k with
   |zero=>simp at hn; subst hn; simp[ha]
   |succ k=>rw[i2 k n (by simpa using hn)]; simp
  ·rw[fb,ak ha];refine⟨by simp,fun k n hn=>?_⟩
   simp only[aG,j8,mb];cases k with
   |zero=>simp at hn; subst hn; exact ha
   |succ k=>exact fun hc=>ha (qK (h1 n (aQ (by simpa using hn))) hc)
def eu{l:List ew}{s:Bytes}{e:ew}(h:dX l s=some e):e∈l/\e.name=s:=by
 unfold dX at h;exact⟨List.mem_of_find?_eq_some h,by simpa using List.find?_some h⟩
def wo{l:List ew}(h:oT l)(s:Bytes):(Bg l s (lq l s)=true/\∃n,l[lq l s]?=some n/\dX l s=some n/\n.name=s)\/(Bg l s (lq l s)=false/\dX l s=none):=by
 obtain⟨l1,l2⟩:=rY h s;cases hf:dX l s with
 |some n =>
  left;obtain⟨hm,he⟩:=eu hf;obtain⟨k,hk⟩:=bN hm;have hkb:¬k<lq l s:=fun hc=>by have:=(l2 k n hk).2 hc; rw[he,ik] at this; cases this
  have hb:lq l s<l.length:=by have:=(aC.1 hk).1; omega
  have hx:=aj hb;have hnl:¬strLt l[lq l s].name s=true:=fun hc=>iK _ ((l2 _ _ hx).1 hc)
  have hke:k=lq l s:=by
   rcases bG (lq l s) k with cr|hge
   ·have hkl:=(aC.1 hk).1;have h3:=bT.1 h _ _ hb hkl cr;have h4:l[k]=n:=by rw[aj hkl] at hk; injection hk
    rw[h4,he] at h3;exact absurd h3 hnl
   ·omega
  subst hke;exact⟨by unfold Bg; rw[hk]; simp[he],n,hk,rfl,he⟩
 |none =>
  right;refine⟨?_,rfl⟩;unfold Bg;split
  ·rename_i n hn;have:=eD.1 hf n (aQ hn);simpa using this
  ·rfl
structure we(t:Tree):Prop where
 ju:nI t.ae
 aM:∀n,n∈t.ae->oT n.aM
def we.dir{t:Tree}(h:we t)(au:Int):oT (gw t.ae au).1.aM:=by
 unfold gw;split
 ·exact List.Pairwise.nil
 ·rename_i n hn;split
  ·exact h.aM n (cg hn).1
  ·exact List.Pairwise.nil
def aj4(t:Tree)(au:Int)(s:Bytes)(ht:Small t)(hr:we t)(hs:s.length<=100000)(ha:oz s):aq cY 175 [bJ t,.int .i64 au,.str s] []=some (.tuple [.int .i64 (dR t.ae au s).1,.int .i64 (dR t.ae au s).2],[]):=by
 obtain⟨ae,next,ai⟩:=t
 have hn:ae.length<=100000:=ht.ae;have hd:(gw ae au).1.aM.length<=100000:=ti ht au;have hE:oT (gw ae au).1.aM:=hr.dir au;have hk:=fun b M=>VF ae next ai au hr.ju hn 1 (b :: .cells [aZ ae,.int .i64 next,.int .i64 ai]::M) rfl
 refine aI ?_;simp only[Yv,Jf,bJ,bc,hk,ck,aU,EN,seval];unfold dR;refine bK (fun hb=>?_) (fun hb=>?_)
 ·simp only[Jf,EN,seval];clear hk;simp_all
 ·simp only[Jf,VA,hs,ha,EN,seval];refine bK (fun hb'=>?_) (fun hb'=>?_)
  ·simp only[Jf,EN,seval];clear hk;simp_all
  ·have hk2:=fun a b c d u M=>QC a b c d (gw ae au).1.aM u s _ (rY hE s) hd M
   simp only[Jf,hk2,EN,seval];rcases wo hE s with ⟨h1,e,h2,h3,_⟩|⟨h1,h2⟩
   ·simp only[Jf,h1,h2,eo,EN,seval];clear hk hk2;simp_all
   ·simp only[Jf,h1,EN,seval];clear hk hk2;simp_all
def VD(ae:List Node)(next ai au:Int)(s:Bytes)(ht:Small ⟨ae,next,ai⟩)(hr:we ⟨ae,next,ai⟩)(hs:s.length<=100000)(ha:oz s)(M:aK):aL (aq cY) 175 [.agg [aZ ae,.int .i64 next,.int .i64 ai],.int .i64 au,.str s] M =
  some (.tuple [.int .i64 (dR ae au s).1,.int .i64 (dR ae au s).2],M):=cO (aj4 ⟨ae,next,ai⟩ au s ht hr hs ha) M
def ajp(t:Tree)(au:Int)(ht:Small t)(hr:we t):aq cY 106 [bJ t,.int .i64 au] []=some (.tuple [ck (bD t.ae au),.bool (find t.ae au).isSome],[]):=by
 obtain⟨ae,next,ai⟩:=t
 have hn:ae.length<=100000:=ht.ae;have hk:=fun b c M=>F7 ae next ai au hr.ju hn 2 (b::c :: .cells [aZ ae,.int .i64 next,.int .i64 ai]::M) rfl
 refine aI ?_;simp only[XT,ait,bJ,bc,hk,ck,aU,EN,seval]
abbrev mj(n:Int):ag := .int .i64 n
def zB(l:List Int):wid (l.map mj) 1=True:=by
 simp only[fe,jM];intro x hx;obtain⟨n,_,rfl⟩:=bR.1 hx;rfl
def ru(ae:List Node):Nat->Int->List Int->List Int
 |0,_,out=>out
 |m+1,au,out=>if au != 1 then (if !(find ae au).isSome||(bD ae au).kind != 2 then out else ru ae m (bD ae au).up (out++[(bD ae au).up])) else out
def rS(ae:List Node)(au:Int):List Int:=ru ae ae.length au [au]
def Wu{ae:List Node}{next ai:Int}(h:nI ae)(hn:ae.length<=100000){k:List K}{R:List Int->Option (ag×aK)}
  (hx:∀(out:List Int) v q,kr (aq cY) [.tmp 4] 1 k ⟨.exit 0,[(0,.ptr 0 0),(1,v),(5,.slice (.own 1) (out.map mj)),(22,q)],[.cells [aZ ae,.int .i64 next,.int .i64 ai],.tick 1 out.length]⟩=R out)
  (hr:∀(out:List Int) b,kr (aq cY) [.tmp 4] 1 k ⟨.ret,[(4,.slice (.own 1) (out.map mj))],[.cells [aZ ae,.int .i64 next,.int .i64 ai],.tick 1 out.length,b]⟩=R out) :
  ∀(m:Nat)(au:Int)(out:List Int),out.length+m=ae.length+1->fP (aq cY) [.tmp 4] 1 k (.loop [0,1,5] V5) [(0,.ptr 0 0),(1,.int .i64 au),(5,.slice (.own 1) (out.map mj))] [.cells [aZ ae,.int .i64 next,.int .i64 ai],.tick 1 out.length]=R (ru ae m au out):=by
 intro m;induction m with
 |zero =>
  intro au out ho;rw[bX];have hd':((out.length:Int)<=(ae.length:Int))=False:=by simp; omega
  simp only[Bw,EN,seval]
  repeat' ((first|apply bK|apply cI|apply eW)<;>intro hb<;>simp only[hb,EN,Bw,hd',seval])
  all_goals exact hx _ _ _
 |succ m ih =>
  intro au out ho;rw[bX];have hd':((out.length:Int)<=(ae.length:Int))=True:=by simp; omega
  have r1:dL (out.length+1) 8=True:=xN;have hk:=fun M=>F7 ae next ai au h hn 0 (.cells [aZ ae,.int .i64 next,.int .i64 ai]::M) rfl
  have hi:=ih (bD ae au).up (out++[(bD ae au).up]) (by simp; omega)
  simp only[bB,aV,bo,aJ,av,aG,aP] at hi;rw[ru];simp only[Bw,EN,seval];refine cI (fun hb=>?_) (fun hb=>?_)
  ·simp only[Bw,hb,hd',hk,ck,aU,EN,seval];refine cI (fun hb1=>?_) (fun hb1=>?_)
   ·simp only[Bw,hb1,EN,seval];refine bK (fun hb2=>?_) (fun hb2=>?_)
    ·simp only[Bw,hb2,hb1,dG,da,EN,seval];exact hr _ _
    ·simp only[Bw,hb2,hb1,r1,zB,gk,af,EN,seval];exact hi
   ·simp only[Bw,hb1,dH,EN,seval];exact hr _ _
  ·simp only[Bw,hb,af,EN,seval];exact hx _ _ _
def akd(ae:List Node)(next ai au:Int)(h:nI ae)(hn:ae.length<=100000):aq cY 202 [.ptr 0 0,.int .i64 au] [.cells [aZ ae,.int .i64 next,.int .i64 ai]] =
  some (.slice .sh ((rS ae au).map mj),[.cells [aZ ae,.int .i64 next,.int .i64 ai]]):=by
 refine aI ?_;simp only[Qd,Bw,EN,seval];exact Wu (R:=fun out=>some (.slice .sh (out.map mj),[.cells [aZ ae,.int .i64 next,.int .i64 ai]])) h hn (fun out v q=>by simp only[Bw,EN,seval]) (fun out b=>by simp only[Bw,EN,seval]) ae.length au [au] (by simp; omega)
def VE ae next ai au h hn p M hM:=cM (p:=p) (M:=M) hM (akd ae next ai au h hn)
def xE(ae:List Node):∀(m:Nat)(au:Int)(out:List Int),out.length<=(ru ae m au out).length/\(ru ae m au out).length<=out.length+m
 |0,_,out=>⟨ar _,ar _⟩
 |m+1,au,out=>by
  rw[ru];split
  ·split
   ·exact⟨ar _,by omega⟩
   ·have:=xE ae m (bD ae au).up (out++[(bD ae au).up]);simp at this;omega
  ·exact⟨ar _,by omega⟩
def sn(ae:List Node)(au:Int):1<=(rS ae au).length/\(rS ae au).length<=ae.length+1:=by
 have:=xE ae ae.length au [au];simp at this;unfold rS;omega
def akv(ae:List Node)(next ai au:Int)(h:nI ae)(hn:ae.length<=100000):aq cY 248 [.ptr 0 0,.int .i64 au] [.cells [aZ ae,.int .i64 next,.int .i64 ai]] =
  some (.int .i64 (((rS ae au).length-1:Nat):Int),[.cells [aZ ae,.int .i64 next,.int .i64 ai]]):=by
 refine aI ?_;have hk:=fun M=>VE ae next ai au h hn 0 (.cells [aZ ae,.int .i64 next,.int .i64 ai]::M) rfl
 have hl:=sn ae au;have hw:IntKind.i64.wrap (((rS ae au).length:Int)-1)=(((rS ae au).length-1:Nat):Int):=by rw[gx (by omega) (by omega)]; omega
 simp only[YQ,aiX,hk,hw,EN,seval]
def ahe ae next ai au h hn p M hM:=cM (p:=p) (M:=M) hM (akv ae next ai au h hn)
def AY(n:Node)(rest:List Node):∀(pre out:List Node),(∀m,m∈pre->m.au<n.au)->nW n (pre++rest) out false=nW n rest (out++pre) false
 | [],out,_=>by simp
 |m::r,out,h=>by
  have hm:=h m (aD ..);have h1:¬n.au<=m.au:=by omega
  have h2:¬m.au=n.au:=by omega
  rw[aW,nW];simp only[ge_iff_le,h1,h2,decide_false,dI,gk,af,aw];rw[AY n rest r _ fun x hx=>h x (aO _ hx)]
  simp
def yL(n:Node):∀(rest out:List Node),(∀m,m∈rest->n.au<m.au)->nW n rest out true=(out++rest,true)
 | [],out,_=>by simp[nW]
 |m::r,out,h=>by
  have hm:=h m (aD ..);have h2:¬m.au=n.au:=by omega
  rw[nW];simp only[cU,cd,h2,dH,af,aw];rw[yL n r _ fun x hx=>h x (aO _ hx)]
  simp
def vi{ae:List Node}{au:Int}{b:Nat}(h:Pa ae au b):∀m,m∈ae.take b->m.au<au:=fun m hm=>by
 obtain⟨k,hk⟩:=bN hm;rw[gF] at hk;split at hk
 ·rename_i cr; exact(h.lt k m hk).2 cr
 ·cases hk
def D3{ae:List Node}{au:Int}{b:Nat}(h:Pa ae au b):∀m,m∈ae.drop b->au<=m.au:=fun m hm=>by
 obtain⟨k,hk⟩:=bN hm;rw[cG] at hk;have:=h.lt _ m hk;have hn:¬b+k<b:=by omega
 have:=fun hc=>hn (this.1 hc)
 omega
def xG{ae:List Node}(h:nI ae){n:Node}(hf:find ae n.au=none):eI ae n=ae.take (kY ae n.au)++n::ae.drop (kY ae n.au):=by
 have hl:=ui h n.au
 have hd:∀m,m∈ae.drop (kY ae n.au)->n.au<m.au:=fun m hm=>by
  have h1:=D3 hl m hm;have h2:=eD.1 hf m (dv hm);have:¬m.au=n.au:=by simpa using h2
  omega
 unfold eI;rw[show nW n ae [] false=nW n (ae.take (kY ae n.au)++ae.drop (kY ae n.au)) [] false by rw[cD]]
 rw[AY n _ _ _ (vi hl)];generalize ae.drop (kY ae n.au)=rest at hd;cases rest with
 |nil=>simp[nW]
 |cons m r =>
  have hm:=hd m (aD ..);have h1:n.au<=m.au:=by omega
  have h2:¬m.au=n.au:=by omega
  rw[nW];simp only[ge_iff_le,h1,h2,nv,fS,eS,dG,aE,aw];rw[yL n r _ fun x hx=>hd x (aO _ hx)]
  simp
def tv{ae:List Node}(h:nI ae){n o:Node}(ho:ae[kY ae n.au]?=some o)(he:o.au=n.au):eI ae n=ae.set (kY ae n.au) n:=by
 have hl:=ui h n.au;have cr:=(aC.1 ho).1
 have hdr:ae.drop (kY ae n.au)=o::ae.drop (kY ae n.au+1):=by
  rw[cB cr];rw[aj cr] at ho; injection ho with ho; rw[ho]
 have hd:∀m,m∈ae.drop (kY ae n.au+1)->n.au<m.au:=fun m hm=>by
  obtain⟨k,hk⟩:=bN hm;rw[cG] at hk;have hkl:=(aC.1 hk).1;have h3:=bT.1 h _ _ cr hkl (by omega)
  have h4:ae[kY ae n.au+1+k]=m:=by rw[aj hkl] at hk; injection hk
  have h5:ae[kY ae n.au]=o:=by rw[aj cr] at ho; injection ho
  rw[h4,h5] at h3;omega
 unfold eI;rw[show nW n ae [] false=nW n (ae.take (kY ae n.au)++ae.drop (kY ae n.au)) [] false by rw[cD]]
 rw[AY n _ _ _ (vi hl),hdr,nW];simp only[ge_iff_le,he,fG,nv,fS,eS,dG,aE,bV];rw[yL n _ _ hd,List.set_eq_take_append_cons_drop,az cr];simp
def p85{ae:List Node}(h0:ae≠[])(hn:ae.length<=100000)(M:aK):aq cY 234 [aZ ae] M=some (.dg M.length 0 6 0 ae.length,M++[.arr 6 0 (ae.map ck)]):=by
 refine gy (g:=pN 6 80) rfl ?_;obtain⟨a,r,rfl⟩:=fm h0;have hw:wid ((a::r).map ck) 6:=by have:=Fo (a::r); simpa using this
 have hr:dL ((a::r).map ck).length 80:=by have:=r9 (a:=(a::r).length) (b:=80) (by omega) (by omega); simpa using this
 unfold pN;simp only[aV] at hw hr ⊢;rw[fY ⟨hw,hr⟩];simp
def p86{ae:List Node}{b:Nat}(hb:b<=ae.length)(hn:ae.length<=100000)(n:Node)(c0 c1:cA) :
  aq cY 249 [.dg 2 0 6 0 ae.length,.int .i64 b,.slice .sh [.agg (aU n)]] [c0,c1,.arr 6 0 (ae.map ck)]=some (.dg 2 1 6 0 (ae.length+1),[c0,c1,.arr 6 1 ((ae.take b++n::ae.drop b).map ck)]):=by
 refine gy (g:=ng 6 80) rfl ?_;have hr:dL ((ae.map ck).length+1) 80:=by have:=r9 (a:=ae.length+1) (b:=80) (by omega) (by omega); simpa using this
 unfold ng;simp only[nth];rw[fY ⟨trivial,trivial,trivial,by simp,by omega,by simpa using hb,rfl,hr⟩]
 simp[jZ,ck]
def T5(ae:List Node)(b:Nat)(o n:Node)(h:ae[b]?=some o):(jZ (ae.map ck) b (putCells (ck o) 0 (aU n)))=(ae.set b n).map ck:=by
 have:putCells (ck o) 0 (aU n)=ck n:=rfl;rw[this,fN,kR]
def akk(ae:List Node)(next ai:Int)(n:Node)(h:nI ae)(h0:ae≠[])(hn:ae.length<=100000):aq cY 223 [.ptr 0 0,ck n] [.cells [aZ ae,.int .i64 next,.int .i64 ai]] =
  some (.tuple [],[.cells [aZ (eI ae n),.int .i64 next,.int .i64 ai]]):=by
 refine aI ?_;have hk:=fun M=>VH ae next ai n.au h hn 0 (.cells [aZ ae,.int .i64 next,.int .i64 ai]::M) rfl
 have hp:=fun M=>p85 h0 hn M
 have hle:=(ui h n.au).le;simp only[Qe,ZI,ck,aU,hk,hp,EN,seval];rcases rT h n.au with ⟨h1,o,h2,h3,h4⟩|⟨h1,h2⟩
 ·have cr:((kY ae n.au:Int)<(ae.length:Int))=True:=by have:=(aC.1 h2).1; simp; omega
  simp only[ZI,h1,h2,cr,bU,dU,dy,EN,seval];have e:=T5 ae _ o n h2;simp only[aU] at e;rw[e,tv h h2 h4,cj (by simp)]
 ·have hi:=fun c0 c1=>p86 hle hn n c0 c1
  simp only[aU] at hi;simp only[ZI,h1,hi,dU,dy,EN,seval];rw[xG h h2,cj (by simp; omega)]
def NN(ae:List Node)(next ai a b c:Int)(d:Bytes)(e:List ew)(u:Int)(h:nI ae)(h0:ae≠[])(hn:ae.length<=100000)(p:Nat)(M:aK)(hM:nth M p=some (.cells [aZ ae,.int .i64 next,.int .i64 ai])) :
  aL (aq cY) 223 [.ptr p 0,.agg [.int .i64 a,.int .i64 b,.int .i64 c,jo d,ib e,.int .i64 u]] M=some (.tuple [],jZ M p (.cells [aZ (eI ae ⟨a,b,c,d,e,u⟩),.int .i64 next,.int .i64 ai])) :=
 pC hM (akk ae next ai ⟨a,b,c,d,e,u⟩ h h0 hn) rfl rfl rfl rfl rfl rfl rfl rfl rfl rfl
def FZ:(∀M cs,ag.yq M (.agg cs) = .agg (cs.map (ag.pn M)))/\(∀M i o,ag.yq M (.ptr i o) = .ptr i o)/\(∀M k n,ag.yq M (.int k n) = .int k n)/\(∀M s,ag.yq M (.str s) = .str s) /\
  (∀M k n,ag.pn M (.int k n) = .int k n)/\(∀M s,ag.pn M (.str s) = .str s)/\(∀M tk xs,ag.pn M (.slice tk xs) = .slice tk xs)/\(∀M b,ag.pn M (.bool b) = .bool b) /\
  (∀M id ver sz lo hi,ag.pn M (.dg id ver sz lo hi)=match nth M id with
   |some (.arr _ v xs)=>if v=ver then .slice .sh ((xs.take hi).drop lo) else .any
   |_ => .any)/\(∀i a b c d,ag.mL (.dg i a b c d)=[i]):=by
 refine⟨?_,?_,?_,?_,?_,?_,?_,?_,?_,?_⟩<;>intros<;>rfl
def zE{ae:List Node}(h:nI ae){au:Int}{o:Node}(ho:ae[kY ae au]?=some o)(he:o.au=au):iP ae au=ae.take (kY ae au)++ae.drop (kY ae au+1):=by
 have hl:=ui h au;have cr:=(aC.1 ho).1
 have hd:∀m,m∈ae.drop (kY ae au+1)->au<m.au:=fun m hm=>by
  obtain⟨k,hk⟩:=bN hm;rw[cG] at hk;have hkl:=(aC.1 hk).1;have h3:=bT.1 h _ _ cr hkl (by omega)
  have h4:ae[kY ae au+1+k]=m:=by rw[aj hkl] at hk; injection hk
  have h5:ae[kY ae au]=o:=by rw[aj cr] at ho; injection ho
  rw[h4,h5] at h3;omega
 have hdr:ae.drop (kY ae au)=o::ae.drop (kY ae au+1):=by
  rw[cB cr];rw[aj cr] at ho; injection ho with ho; rw[ho]
 unfold iP;rw[show ae.filter (fun n=>n.au != au)=(ae.take (kY ae au)++ae.drop (kY ae au)).filter (fun n=>n.au != au) by rw[cD]]
 rw[List.filter_append,hdr,hV];simp only[he,an,af,aw];rw[gn.2 fun m hm=>by have:=vi hl m hm; simp; omega,gn.2 fun m hm=>by have:=hd m hm; simp; omega]
def xZ{ae:List Node}{au:Int}(hf:find ae au=none):iP ae au=ae :=
 gn.2 fun m hm=>by simpa using eD.1 hf m hm
def amh{ae:List Node}{b:Nat}(hb:b<ae.length)(hn:ae.length<=100000)(c0:cA) :
  aq cY 233 [.dg 1 0 6 0 ae.length,.int .i64 b,.int .i64 ((b+1:Nat):Int)] [c0,.arr 6 0 (ae.map ck)]=some (.dg 1 1 6 0 (ae.length-1),[c0,.arr 6 1 ((ae.take b++ae.drop (b+1)).map ck)]):=by
 refine gy (g:=ou 6) rfl ?_;unfold ou;simp only[nth];rw[fY ⟨trivial,trivial,trivial,by simp,by omega,by simpa using hb,by omega,by simp; omega⟩]
 simp[jZ]
def aj7(ae:List Node)(next ai au:Int)(h:nI ae)(hn:ae.length<=100000):aq cY 178 [.ptr 0 0,.int .i64 au] [.cells [aZ ae,.int .i64 next,.int .i64 ai]] =
  some (.tuple [],[.cells [aZ (iP ae au),.int .i64 next,.int .i64 ai]]):=by
 refine aI ?_;have hk:=fun M=>VH ae next ai au h hn 0 (.cells [aZ ae,.int .i64 next,.int .i64 ai]::M) rfl
 simp only[Qa,ZG,hk,EN,seval];rcases rT h au with ⟨h1,o,h2,h3,h4⟩|⟨h1,h2⟩
 ·have cr:=(aC.1 h2).1;have h0:ae≠[]:=by rintro rfl; simp at h2
  have hp:=fun M=>p85 h0 hn M
  have hd:=fun c0=>amh cr hn c0
  have hw:IntKind.i64.wrap ((kY ae au:Int)+1)=((kY ae au+1:Nat):Int):=by rw[gx (by omega) (by omega)]; rfl
  simp only[ZG,h1,hp,hd,hw,dU,dy,EN,seval];rw[zE h h2 h4,cj (by simp; omega)]
 ·simp only[ZG,h1,EN,seval];rw[xZ h2]
def ag1(ae:List Node)(next ai au:Int)(h:nI ae)(hn:ae.length<=100000)(p:Nat)(M:aK)(hM:nth M p=some (.cells [aZ ae,.int .i64 next,.int .i64 ai])) :
  aL (aq cY) 178 [.ptr p 0,.int .i64 au] M=some (.tuple [],jZ M p (.cells [aZ (iP ae au),.int .i64 next,.int .i64 ai])) :=
 pC hM (aj7 ae next ai au h hn) rfl rfl rfl rfl rfl rfl rfl rfl rfl rfl
def rR{a b:Bytes}(h:strLt a b=true):strLt b a=false:=by
 cases hb:strLt b a with
 |false=>rfl
 |true=>have:=qK h hb; rw[ik] at this; cases this
def qF:∀(a b:Bytes),strLt a b=true\/a=b\/strLt b a=true
 | [],[] => .inr (.inl rfl)
 | [],_::_ => .inl rfl
 |_::_,[] => .inr (.inr rfl)
 |a::x,b::y=>by
  simp only[strLt,cJ,bm,bt,dM,List.cons.injEq,ki];rcases qF x y with h|h|h
  ·rcases iy a.toNat b.toNat with h1|h1|h1
   ·exact .inl (.inl h1)
   ·exact .inl (.inr ⟨iA.1 h1,h⟩)
   ·exact .inr (.inr (.inl h1))
  ·rcases iy a.toNat b.toNat with h1|h1|h1
   ·exact .inl (.inl h1)
   ·exact .inr (.inl ⟨iA.1 h1,h⟩)
   ·exact .inr (.inr (.inl h1))
  ·rcases iy a.toNat b.toNat with h1|h1|h1
   ·exact .inl (.inl h1)
   ·exact .inr (.inr (.inr ⟨(iA.1 h1).symm,h⟩))
   ·exact .inr (.inr (.inl h1))
def Ny{a b:Bytes}(h:strLt a b=true):Y2 a b=false:=by simp[Y2,h]
def Nx{a b:Bytes}(h:strLt b a=true):Y2 a b=true:=by
 have h1:=rR h;have h2:¬a=b:=by rintro rfl; rw[ik] at h; cases h
 simp[Y2,h1,h2]
def HK(e:ew)(rest:List ew):∀(pre out:List ew),(∀m,m∈pre->strLt m.name e.name=true)->uS e (pre++rest) out false=uS e rest (out++pre) false
 | [],out,_=>by simp
 |m::r,out,h=>by
  rw[aW,uS,Ny (h m (aD ..))];simp only[dI,gk,af,aw];rw[HK e rest r _ fun x hx=>h x (aO _ hx)]
  simp
def En(e:ew):∀(rest out:List ew),uS e rest out true=(out++rest,true)
 | [],out=>by simp[uS]
 |m::r,out=>by
  rw[uS];simp only[cU,cd,dH,af,aw];rw[En e r];simp
def AV{l:List ew}{s:Bytes}{b:Nat}(h:Jm l s b):∀m,m∈l.take b->strLt m.name s=true:=fun m hm=>by
 obtain⟨k,hk⟩:=bN hm;rw[gF] at hk;split at hk
 ·rename_i cr; exact(h.lt k m hk).2 cr
 ·cases hk
def Cq{l:List ew}{s:Bytes}{b:Nat}(h:Jm l s b):∀m,m∈l.drop b->strLt m.name s=false:=fun m hm=>by
 obtain⟨k,hk⟩:=bN hm;rw[cG] at hk;have:=h.lt _ m hk;have hn:¬b+k<b:=by omega
 cases hc:strLt m.name s with
 |false=>rfl
 |true=>exact absurd (this.1 hc) hn
def uR{l:List ew}(h:oT l){e:ew}(hf:dX l e.name=none):sQ l e=l.take (lq l e.name)++e::l.drop (lq l e.name):=by
 have hl:=rY h e.name
 have hd:∀m,m∈l.drop (lq l e.name)->strLt e.name m.name=true:=fun m hm=>by
  have h1:=Cq hl m hm;have h2:=eD.1 hf m (dv hm);have h3:¬m.name=e.name:=by simpa using h2
  rcases qF m.name e.name with h4|h4|h4
  ·rw[h1] at h4; cases h4
  ·exact absurd h4 h3
  ·exact h4
 unfold sQ;rw[show uS e l [] false=uS e (l.take (lq l e.name)++l.drop (lq l e.name)) [] false by rw[cD]]
 rw[HK e _ _ _ (AV hl)];generalize l.drop (lq l e.name)=rest at hd;cases rest with
 |nil=>simp[uS]
 |cons m r =>
  rw[uS,Nx (hd m (aD ..))];simp only[fS,eS,dG,aE];rw[En];simp
def D2{l:List ew}(h:oT l){s:Bytes}{o:ew}(ho:l[lq l s]?=some o)(he:o.name=s):fE l s=l.take (lq l s)++l.drop (lq l s+1):=by
 have hl:=rY h s;have cr:=(aC.1 ho).1
 have hdr:l.drop (lq l s)=o::l.drop (lq l s+1):=by
  rw[cB cr];rw[aj cr] at ho; injection ho with ho; rw[ho]
 have hd:∀m,m∈l.drop (lq l s+1)->strLt s m.name=true:=fun m hm=>by
  obtain⟨k,hk⟩:=bN hm;rw[cG] at hk;have hkl:=(aC.1 hk).1;have h3:=bT.1 h _ _ cr hkl (by omega)
  have h4:l[lq l s+1+k]=m:=by rw[aj hkl] at hk; injection hk
  have h5:l[lq l s]=o:=by rw[aj cr] at ho; injection ho
  rw[h4,h5,he] at h3;exact h3
 have ne:∀ {a b:Bytes},strLt a b=true->¬a=b:=fun {a b} h=>by rintro rfl; rw[ik] at h; cases h
 unfold fE;rw[show l.filter (fun n=>n.name != s)=(l.take (lq l s)++l.drop (lq l s)).filter (fun n=>n.name != s) by rw[cD]]
 rw[List.filter_append,hdr,hV];simp only[he,an,af,aw];rw[gn.2 fun m hm=>by simpa using ne (AV hl m hm),gn.2 fun m hm=>by simpa using fun hc=>ne (hd m hm) hc.symm]
def Cr{l:List ew}{s:Bytes}(hf:dX l s=none):fE l s=l :=
 gn.2 fun m hm=>by simpa using eD.1 hf m hm
def p58{l:List ew}(h0:l≠[])(hn:l.length<=100000)(M:aK):aq cY 218 [ib l] M=some (.dg M.length 0 3 0 l.length,M++[.arr 3 0 (l.map gh)]):=by
 refine gy (g:=pN 3 32) rfl ?_;obtain⟨a,r,rfl⟩:=fm h0;have hw:wid ((a::r).map gh) 3:=by have:=I5 (a::r); simpa using this
 have hr:dL ((a::r).map gh).length 32:=by have:=r9 (a:=(a::r).length) (b:=32) (by omega) (by omega); simpa using this
 unfold pN;simp only[aV] at hw hr ⊢;rw[fY ⟨hw,hr⟩];simp
def ahQ(M:aK):aq cY 218 [.slice .sh []] M=some (.slice .c0 [],M):=gy (g:=pN 3 32) rfl rfl
def p87{l:List ew}{b:Nat}(hb:b<=l.length)(hn:l.length<=100000)(e:ew)(c0 c1:cA) :
  aq cY 250 [.dg 2 0 3 0 l.length,.int .i64 b,.slice .sh [.agg (eo e)]] [c0,c1,.arr 3 0 (l.map gh)]=some (.dg 2 1 3 0 (l.length+1),[c0,c1,.arr 3 1 ((l.take b++e::l.drop b).map gh)]):=by
 refine gy (g:=ng 3 32) rfl ?_;have hr:dL ((l.map gh).length+1) 32:=by have:=r9 (a:=l.length+1) (b:=32) (by omega) (by omega); simpa using this
 unfold ng;simp only[nth];rw[fY ⟨trivial,trivial,trivial,by simp,by omega,by simpa using hb,rfl,hr⟩]
 simp[jZ,gh]
def amj(e:ew)(M:aK):aq cY 250 [.slice .c0 [],.int .i64 0,.slice .sh [.agg (eo e)]] M=some (.dg M.length 0 3 0 1,M++[.arr 3 0 [.agg (eo e)]]):=by
 refine gy (g:=ng 3 32) rfl ?_
 show ct ((0:Int)=0/\(ag.agg (eo e)).cells.length=3) _=_
 exact fY ⟨rfl,rfl⟩
def p84{l:List ew}{b:Nat}(hb:b<l.length)(hn:l.length<=100000)(c0 c1:cA) :
  aq cY 252 [.dg 2 0 3 0 l.length,.int .i64 b,.int .i64 ((b+1:Nat):Int)] [c0,c1,.arr 3 0 (l.map gh)]=some (.dg 2 1 3 0 (l.length-1),[c0,c1,.arr 3 1 ((l.take b++l.drop (b+1)).map gh)]):=by
 refine gy (g:=ou 3) rfl ?_;unfold ou;simp only[nth];rw[fY ⟨trivial,trivial,trivial,by simp,by omega,by simpa using hb,by omega,by simp; omega⟩]
 simp[jZ]
def K5{ae:List Node}(h:nI ae){n:Node}(hf:find ae n.au=some n):eI ae n=ae:=by
 rcases rT h n.au with ⟨_,o,h2,h3,h4⟩|⟨_,h2⟩
 ·rw[hf] at h3; cases h3;rw[tv h h2 rfl];apply cN;intro i
  by_cases e:kY ae n.au=i
  ·subst e; rw[er (aC.1 h2).1,h2]
  ·rw[fu e]
 ·rw[hf] at h2; cases h2
def akl(ae:List Node)(next ai dir:Int)(s:Bytes)(au:Int)(h:nI ae)(hn:ae.length<=100000){n:Node}(hf:find ae dir=some n)(hE:oT n.aM)(hl:n.aM.length<=99999)(hs:dX n.aM s=none) :
  aq cY 224 [.ptr 0 0,.int .i64 dir,.str s,.int .i64 au] [.cells [aZ ae,.int .i64 next,.int .i64 ai]]=some (.tuple [],[.cells (bc (gI ⟨ae,next,ai⟩ dir s au))]):=by
 refine aI ?_;have h0:ae≠[]:=by rintro rfl; simp[find] at hf
 have hnn:bD ae dir=n:=by simp[bD,hf]
 have hk:=fun M=>F7 ae next ai dir h hn 0 (.cells [aZ ae,.int .i64 next,.int .i64 ai]::M) rfl
 have hk2:=fun a b c d u M=>QC a b c d n.aM u s _ (rY hE s) (by omega) M
 have hle:=(rY hE s).le
 have hres:gI ⟨ae,next,ai⟩ dir s au=⟨eI ae { n with aM:=n.aM.take (lq n.aM s)++⟨s,au,ai⟩::n.aM.drop (lq n.aM s) },next,mG (ai+1)⟩:=by
  have:=uR hE (e:=⟨s,au,ai⟩) hs;simp only[gI,hf,bz,this]
 rw[hres,bc];have hp:=fun a b c d e u M=>NN ae next (mG (ai+1)) a b c d e u h h0 hn 0 (.cells [aZ ae,.int .i64 next,.int .i64 (mG (ai+1))]::M) rfl
 simp only[Qf,O5,hk,hnn,ck,aU,hk2,EN,seval]
 by_cases hne:n.aM=[]
 ·have hlow:lq n.aM s=0:=by rw[hne]; rfl
  have hi:=fun M=>amj ⟨s,au,ai⟩ M
  simp only[eo] at hi;have hlow0:lq [] s=0:=rfl;have hc0:((0:Nat):Int)=0:=rfl;simp only[O5,hne,hlow0,hc0,ib,ahQ,hi,FZ,Ab,EN,seval];rw[show ag.slice .sh [ag.agg [.str s,.int .i64 au,.int .i64 ai]]=ib [⟨s,au,ai⟩] from rfl]
  simp only[O5,hp,EN,seval]
 ·have hc:=fun M=>p58 hne (show n.aM.length<=100000 by omega) M
  have hi:=fun c0 c1=>p87 hle (show n.aM.length<=100000 by omega) ⟨s,au,ai⟩ c0 c1
  simp only[eo] at hi;simp only[O5,hc,hi,FZ,Ab,EN,seval];have ht:List.take (n.aM.length+1) (List.map gh (List.take (lq n.aM s) n.aM++⟨s,au,ai⟩::List.drop (lq n.aM s) n.aM))=List.map gh (List.take (lq n.aM s) n.aM++⟨s,au,ai⟩::List.drop (lq n.aM s) n.aM):=cj (by simp; omega)
  rw[ht];simp only[O5,hp,EN,seval]
def VG(ae:List Node)(next ai dir:Int)(s:Bytes)(au:Int)(h:nI ae)(hn:ae.length<=100000){n:Node}(hf:find ae dir=some n)(hE:oT n.aM)(hl:n.aM.length<=99999)(hs:dX n.aM s=none)(p:Nat)(M:aK)(hM:nth M p=some (.cells [aZ ae,.int .i64 next,.int .i64 ai])) :
  aL (aq cY) 224 [.ptr p 0,.int .i64 dir,.str s,.int .i64 au] M=some (.tuple [],jZ M p (.cells (bc (gI ⟨ae,next,ai⟩ dir s au)))) :=
 pC hM (akl ae next ai dir s au h hn hf hE hl hs) rfl rfl rfl rfl rfl rfl rfl rfl rfl rfl
def akm(ae:List Node)(next ai dir:Int)(s:Bytes)(h:nI ae)(hn:ae.length<=100000){n:Node}(hf:find ae dir=some n)(hE:oT n.aM)(hl:n.aM.length<=99999) :
  aq cY 226 [.ptr 0 0,.int .i64 dir,.str s] [.cells [aZ ae,.int .i64 next,.int .i64 ai]]=some (.tuple [],[.cells [aZ (dr ae dir s),.int .i64 next,.int .i64 ai]]):=by
 refine aI ?_;have h0:ae≠[]:=by rintro rfl; simp[find] at hf
 have hnn:bD ae dir=n:=by simp[bD,hf]
 have hino:n.au=dir:=(cg hf).2;have hk:=fun M=>F7 ae next ai dir h hn 0 (.cells [aZ ae,.int .i64 next,.int .i64 ai]::M) rfl
 have hk2:=fun a b c d u M=>QC a b c d n.aM u s _ (rY hE s) (by omega) M
 have hp:=fun a b c d e u M=>NN ae next ai a b c d e u h h0 hn 0 (.cells [aZ ae,.int .i64 next,.int .i64 ai]::M) rfl
 have hres:dr ae dir s=eI ae { n with aM:=fE n.aM s }:=by simp only[dr,hf,bz]
 rw[hres];simp only[Qh,UD,hk,hnn,ck,aU,hk2,EN,seval];rcases wo hE s with ⟨h1,o,h2,h3,h4⟩|⟨h1,h2⟩
 ·have cr:=(aC.1 h2).1;have hne:n.aM≠[]:=by intro hc; rw[hc] at h2; simp at h2
  have hc:=fun M=>p58 hne (show n.aM.length<=100000 by omega) M
  have hd:=fun c0 c1=>p84 cr (show n.aM.length<=100000 by omega) c0 c1
  have hw:IntKind.i64.wrap ((lq n.aM s:Int)+1)=((lq n.aM s+1:Nat):Int):=by rw[gx (by omega) (by omega)]; rfl
  simp only[UD,h1,hc,hd,hw,FZ,Ab,EN,seval];have ht:List.take (n.aM.length-1) (List.map gh (List.take (lq n.aM s) n.aM++List.drop (lq n.aM s+1) n.aM))=List.map gh (List.take (lq n.aM s) n.aM++List.drop (lq n.aM s+1) n.aM):=cj (by simp; omega)
  rw[ht];simp only[UD,hp,EN,seval];rw[D2 hE h2 h4]
 ·simp only[UD,h1,EN,seval];rw[Cr h2];have:eI ae n=ae:=K5 h (by rw[hino]; exact hf)
  rw[show({ n with aM:=n.aM }:Node)=n from rfl,this]
def aa7(ae:List Node)(next ai dir:Int)(s:Bytes)(h:nI ae)(hn:ae.length<=100000){n:Node}(hf:find ae dir=some n)(hE:oT n.aM)(hl:n.aM.length<=99999)(p:Nat)(M:aK)(hM:nth M p=some (.cells [aZ ae,.int .i64 next,.int .i64 ai])) :
  aL (aq cY) 226 [.ptr p 0,.int .i64 dir,.str s] M=some (.tuple [],jZ M p (.cells [aZ (dr ae dir s),.int .i64 next,.int .i64 ai])) :=
 pC hM (akm ae next ai dir s h hn hf hE hl) rfl rfl rfl rfl rfl rfl rfl rfl rfl rfl
def j4(ae:List Node)(n:Node):List Node:=if n.kind==2 then iP ae n.au else eI ae { n with dj:=mG (n.dj-1) }
def akn(ae:List Node)(next ai:Int)(n:Node)(h:nI ae)(h0:ae≠[])(hn:ae.length<=100000) :
  aq cY 227 [.ptr 0 0,ck n] [.cells [aZ ae,.int .i64 next,.int .i64 ai]]=some (.tuple [],[.cells [aZ (j4 ae n),.int .i64 next,.int .i64 ai]]):=by
 refine aI ?_;have hp:=fun a b c d e u M=>NN ae next ai a b c d e u h h0 hn 0 (.cells [aZ ae,.int .i64 next,.int .i64 ai]::M) rfl
 have hd:=fun M=>ag1 ae next ai n.au h hn 0 (.cells [aZ ae,.int .i64 next,.int .i64 ai]::M) rfl
 simp only[YK,ZJ,ck,aU,EN,seval];unfold j4;refine bK (fun hb=>?_) (fun hb=>?_)
 ·simp only[ZJ,hb,hd,EN,seval]
 ·simp only[ZJ,hb,hp,af,EN,seval]
def aha(ae:List Node)(next ai a b c:Int)(d:Bytes)(e:List ew)(u:Int)(h:nI ae)(h0:ae≠[])(hn:ae.length<=100000)(p:Nat)(M:aK)(hM:nth M p=some (.cells [aZ ae,.int .i64 next,.int .i64 ai])) :
  aL (aq cY) 227 [.ptr p 0,.agg [.int .i64 a,.int .i64 b,.int .i64 c,jo d,ib e,.int .i64 u]] M=some (.tuple [],jZ M p (.cells [aZ (j4 ae ⟨a,b,c,d,e,u⟩),.int .i64 next,.int .i64 ai])) :=
 pC hM (akn ae next ai ⟨a,b,c,d,e,u⟩ h h0 hn) rfl rfl rfl rfl rfl rfl rfl rfl rfl rfl
def sa(ae:List Node)(au:Int):Nat:=(rS ae au).length-1
def oJ(t:Tree)(dir:Int)(s:Bytes):Int :=
 if (gw t.ae dir).2 != 0 then (gw t.ae dir).2 else if !dB s then 60 else if (dX (gw t.ae dir).1.aM s).isSome=true then 71 else
 if decide ((64:Int)<=(gw t.ae dir).1.aM.length)||(decide ((12:Int)<=sa t.ae dir)||decide ((1099511627776:Int)<=t.ai)) then 76 else 0
def akj(ae:List Node)(next ai dir:Int)(s:Bytes)(ht:Small ⟨ae,next,ai⟩)(hr:we ⟨ae,next,ai⟩)(hs:s.length<=100000)(ha:oz s) :
  aq cY 222 [.ptr 0 0,.int .i64 dir,.str s] [.cells [aZ ae,.int .i64 next,.int .i64 ai]]=some (.int .i64 (oJ ⟨ae,next,ai⟩ dir s),[.cells [aZ ae,.int .i64 next,.int .i64 ai]]):=by
 have hn:ae.length<=100000:=ht.ae;have hd:(gw ae dir).1.aM.length<=100000:=ti ht dir;have hE:oT (gw ae dir).1.aM:=hr.dir dir;have hk:=fun M=>VF ae next ai dir hr.ju hn 0 (.cells [aZ ae,.int .i64 next,.int .i64 ai]::M) rfl
 have hk2:=fun a b c d u M=>QC a b c d (gw ae dir).1.aM u s _ (rY hE s) hd M
 have hk3:∀M,aL (aq cY) 248 [.ptr 0 0,.int .i64 dir] (.cells [aZ ae,.int .i64 next,.int .i64 ai]::M)=some (.int .i64 (sa ae dir),.cells [aZ ae,.int .i64 next,.int .i64 ai]::M):=fun M=>ahe ae next ai dir hr.ju hn 0 (.cells [aZ ae,.int .i64 next,.int .i64 ai]::M) rfl
 refine aI ?_;simp only[YJ,GK,hk,ck,aU,EN,seval];refine bK (fun hb=>?_) (fun hb=>?_)
 ·simp only[GK,hb,EN,seval];clear hk hk2 hk3;simp_all only[oJ,vl,↓reduceIte,reduceCtorEq,an]
 simp only[GK,hb,VA,hs,ha,EN,seval];refine bK (fun hb1=>?_) (fun hb1=>?_)
 ·simp only[GK,hb1,EN,seval];clear hk hk2 hk3;simp_all only[oJ,vl,↓reduceIte,reduceCtorEq,an]
 simp only[GK,hb1,hk2,EN,seval];rcases wo hE s with ⟨h1,o,h2,h3,h4⟩|⟨h1,h2⟩
 ·simp only[GK,h1,EN,seval];clear hk hk2 hk3;simp_all only[oJ,c9,vl,↓reduceIte,reduceCtorEq,an]
 ·simp only[GK,h1,EN,seval]
  repeat' ((first|apply bK|apply cI|apply eW)<;>intro hb<;>simp only[hb,EN,GK,hk3,seval])
  all_goals (clear hk hk2 hk3; simp_all only[oJ,iW,vl,↓reduceIte,reduceCtorEq,an]; done)
def ag9 ae next ai dir s ht hr hs ha p M hM:=cM (p:=p) (M:=M) hM (akj ae next ai dir s ht hr hs ha)
def zl(x y:Node):Int:=if x.kind==2&&y.kind != 2 then 73 else if x.kind != 2&&y.kind==2 then 72 else if decide ((0:Int)<y.aM.length) then 74 else 0
def akq(x y:Node):aq cY 230 [ck x,ck y] []=some (.int .i64 (zl x y),[]):=by
 refine aI ?_;simp only[YN,ad1,ck,aU,EN,seval]
 repeat' ((first|apply bK|apply cI|apply eW)<;>intro hb<;>simp only[hb,EN,ad1,seval])
 all_goals (simp_all only[zl,vl,↓reduceIte,reduceCtorEq,an]; done)
def ajn(t:Tree)(au:Int)(ht:Small t)(hr:we t):aq cY 104 [bJ t,.int .i64 au] []=some (.tuple [bJ (oN t au).1,.int .i64 (oN t au).2],[]):=by
 obtain⟨ae,next,ai⟩:=t
 have hn:ae.length<=100000:=ht.ae;refine aI ?_;have hk:=fun b c M=>F7 ae next ai au hr.ju hn 2 (b::c :: .cells [aZ ae,.int .i64 next,.int .i64 ai]::M) rfl
 have hd:=fun b c M=>ag1 ae next ai au hr.ju hn 2 (b::c :: .cells [aZ ae,.int .i64 next,.int .i64 ai]::M) rfl
 simp only[XR,adR,bJ,bc,hk,ck,aU,EN,seval]
 repeat' ((first|apply bK|apply cI|apply eW)<;>intro hb<;>simp only[hb,EN,adR,hd,seval])
 all_goals (clear hk hd; simp_all only[oN,bJ,bc,vl,↓reduceIte,reduceCtorEq,an]; done)
end
def Jv{ae:List Node}(h:nI ae){a b:Node}(ha:a∈ae)(hb:b∈ae)(he:a.au=b.au):a=b:=by
 obtain⟨i,hi⟩:=bN ha;obtain⟨k,hk⟩:=bN hb;have hil:=(aC.1 hi).1;have hkl:=(aC.1 hk).1;have e1:ae[i]=a:=by rw[aj hil] at hi; injection hi
 have e2:ae[k]=b:=by rw[aj hkl] at hk; injection hk
 rcases iy i k with cr|heq|hgt
 ·have:=bT.1 h _ _ hil hkl cr;rw[e1,e2] at this; omega
 ·subst heq; rw[<-e1,<-e2]
 ·have:=bT.1 h _ _ hkl hil hgt;rw[e1,e2] at this; omega
def ft{ae:List Node}(h:nI ae){i:Int}{m:Node}:find ae i=some m↔m∈ae/\m.au=i:=by
 refine⟨cg,fun⟨h1,h2⟩=>?_⟩
 cases hf:find ae i with
 |none =>
  have:=eD.1 hf m h1;simp[h2] at this
 |some k =>
  obtain⟨k1,k2⟩:=cg hf;rw[Jv h h1 k1 (by omega)]
def pS{ae:List Node}{i:Int}:find ae i=none↔∀m,m∈ae->m.au≠i:=by
 unfold find;rw[eD];simp
def xD{ae:List Node}{b:Nat}{o n:Node}(ho:ae[b]?=some o):ae=ae.take b++o::ae.drop (b+1)/\ae.set b n=ae.take b++n::ae.drop (b+1):=by
 have cr:=(aC.1 ho).1;constructor
 ·rw[aj cr] at ho; injection ho with ho
  conv=>lhs; rw[<-cD b ae]
  rw[cB cr,ho]
 ·rw[List.set_eq_take_append_cons_drop,az cr]
def uW{ae:List Node}(h:nI ae){n m:Node}:m∈eI ae n↔m=n\/(m∈ae/\m.au≠n.au):=by
 rcases rT h n.au with ⟨_,o,h2,h3,h4⟩|⟨_,h2⟩
 ·rw[tv h h2 h4];obtain⟨s1,s2⟩:=xD (n:=n) h2;have hon:o∈ae:=(cg h3).1;constructor
  ·intro hm;rw[s2] at hm;rcases bS.1 hm with hm|hm
   ·have hmn:=di hm;have:=vi (ui h n.au) m hm;exact .inr ⟨hmn,by omega⟩
   ·rcases bb.1 hm with rfl|hm
    ·exact .inl rfl
    ·refine .inr ⟨dv hm,fun he=>?_⟩
     have hp:=h;unfold nI at hp;rw[s1,dw] at hp;have:=(bF.1 hp.2.1).1 m hm;omega
  ·rintro(rfl|⟨hm,hne⟩)
   ·rw[s2]; simp
   ·rw[s1] at hm;rw[s2];rcases bS.1 hm with hm|hm
    ·exact eN _ hm
    ·rcases bb.1 hm with rfl|hm
     ·exact absurd h4 hne
     ·exact gZ _ (aO _ hm)
 ·rw[xG h h2];rw[pS] at h2;constructor
  ·intro hm;rcases bS.1 hm with hm|hm
   ·have:=di hm;exact .inr ⟨this,h2 m this⟩
   ·rcases bb.1 hm with rfl|hm
    ·exact .inl rfl
    ·have:=dv hm;exact .inr ⟨this,h2 m this⟩
  ·rintro(rfl|⟨hm,_⟩)
   ·simp
   ·rw[<-cD (kY ae n.au) ae] at hm;rcases bS.1 hm with hm|hm
    ·exact eN _ hm
    ·exact gZ _ (aO _ hm)
def nG{ae:List Node}(h:nI ae)(n:Node):nI (eI ae n):=by
 have hl:=ui h n.au;rcases rT h n.au with ⟨_,o,h2,h3,h4⟩|⟨_,h2⟩
 ·rw[tv h h2 h4];obtain⟨s1,s2⟩:=xD (n:=n) h2;have hp:=h;unfold nI at hp ⊢;rw[s1,dw] at hp;obtain⟨p1,p2,p3⟩:=hp;obtain⟨p4,p5⟩:=bF.1 p2;rw[s2,dw];refine⟨p1,bF.2 ⟨fun m hm=>by have:=p4 m hm; omega,p5⟩,fun a ha c hc=>?_⟩
  rcases bb.1 hc with rfl|hc
  ·exact vi hl a ha
  ·exact p3 a ha c (aO _ hc)
 ·rw[xG h h2];have hp:=h;unfold nI at hp ⊢;rw[<-cD (kY ae n.au) ae,dw] at hp;obtain⟨p1,p2,p3⟩:=hp;rw[pS] at h2;rw[dw];refine⟨p1,bF.2 ⟨fun m hm=>?_,p2⟩,fun a ha c hc=>?_⟩
  ·have k1:=D3 hl m hm;have k2:=h2 m (dv hm);omega
  ·rcases bb.1 hc with rfl|hc
   ·exact vi hl a ha
   ·exact p3 a ha c hc
def gJ{ae:List Node}(h:nI ae)(n:Node)(i:Int):find (eI ae n) i=if i=n.au then some n else find ae i:=by
 split
 ·rename_i he;exact(ft (nG h n)).2 ⟨(uW h).2 (.inl rfl),he.symm⟩
 ·rename_i hne;cases hf:find ae i with
  |none =>
   rw[pS] at hf ⊢;intro m hm;rcases(uW h).1 hm with rfl|⟨hm,_⟩
   ·exact fun he=>hne he.symm
   ·exact hf m hm
  |some m =>
   obtain⟨h1,h2⟩:=cg hf;exact(ft (nG h n)).2 ⟨(uW h).2 (.inr ⟨h1,by omega⟩),h2⟩
def te{ae:List Node}(h:nI ae)(i:Int):nI (iP ae i):=nn _ h
def rU{ae:List Node}(h:nI ae)(k i:Int):find (iP ae k) i=if i=k then none else find ae i:=by
 split
 ·rename_i he;rw[pS];intro m hm;have:=(ef.1 hm).2;simp at this;omega
 ·rename_i hne;cases hf:find ae i with
  |none =>
   rw[pS] at hf ⊢;exact fun m hm=>hf m (ef.1 hm).1
  |some m =>
   obtain⟨h1,h2⟩:=cg hf;exact(ft (te h k)).2 ⟨ef.2 ⟨h1,by simp; omega⟩,h2⟩
def HH{l:List ew}(h:oT l){e:ew}(hf:dX l e.name=none):oT (sQ l e):=by
 rw[uR h hf];have hl:=rY h e.name;have hp:=h;unfold oT at hp ⊢;rw[<-cD (lq l e.name) l,dw] at hp;obtain⟨p1,p2,p3⟩:=hp;rw[dw];refine⟨p1,bF.2 ⟨fun m hm=>?_,p2⟩,fun a ha c hc=>?_⟩
 ·have k1:=Cq hl m hm;have k2:¬m.name=e.name:=by simpa using eD.1 hf m (dv hm)
  rcases qF m.name e.name with h4|h4|h4
  ·rw[k1] at h4; cases h4
  ·exact absurd h4 k2
  ·exact h4
 ·rcases bb.1 hc with rfl|hc
  ·exact AV hl a ha
  ·exact p3 a ha c hc
def uL{l:List ew}(h:oT l)(s:Bytes):oT (fE l s):=nn _ h
def we.with{t:Tree}(h:we t){n:Node}(hn:oT n.aM)(next ai:Int):we ⟨eI t.ae n,next,ai⟩ :=
 ⟨nG h.ju n,fun m hm=>by
  rcases(uW h.ju).1 hm with rfl|⟨hm,_⟩
  ·exact hn
  ·exact h.aM m hm⟩
def we.zD{t:Tree}(h:we t)(i next ai:Int):we ⟨iP t.ae i,next,ai⟩ :=
 ⟨te h.ju i,fun m hm=>h.aM m (ef.1 hm).1⟩
def we.node{t:Tree}(h:we t)(i:Int):oT (bD t.ae i).aM:=by
 cases hf:find t.ae i with
 |none=>simp[bD,hf,Node.zero]; exact List.Pairwise.nil
 |some n=>simp[bD,hf]; exact h.aM n (cg hf).1
def we.left{t:Tree}(h:we t)(i:Int)(s:Bytes)(next ai:Int):we ⟨dr t.ae i s,next,ai⟩ :=
 h.with (n:={ bD t.ae i with aM:=fE (bD t.ae i).aM s }) (uL (h.node i) s) next ai
def we.qY{t:Tree}(h:we t)(i:Int)(s:Bytes)(of:Int)(hf:dX (bD t.ae i).aM s=none):we (gI t i s of) :=
 h.with (n:={ bD t.ae i with aM:=sQ (bD t.ae i).aM ⟨s,of,t.ai⟩ }) (HH (h.node i) hf) t.next (mG (t.ai+1))
section
attribute [local irreducible] fP fi kD gK dp kr aq aL ct bI
def yi{ae:List Node}{dir:Int}(h:(gw ae dir).2=0):∃d,find ae dir=some d/\d.kind=2/\gw ae dir=(d,0):=by
 unfold gw at h ⊢;split at h
 ·cases h
 ·rename_i d hd;split at h
  ·rename_i hk; exact⟨d,hd,hk,by simp[hd,hk]⟩
  ·cases h
def S3{t:Tree}{dir:Int}{s:Bytes}(h:(oJ t dir s != 0)=false):∃d,find t.ae dir=some d/\d.kind=2/\dB s=true/\dX d.aM s=none/\d.aM.length<64/\sa t.ae dir<12/\t.ai<1099511627776:=by
 have h:oJ t dir s=0:=by simpa using h
 unfold oJ at h;split at h
 ·rename_i hc;rw[h] at hc; cases hc
 ·rename_i hc;obtain⟨d,h1,h2,h3⟩:=yi (by simpa using hc)
  rw[h3] at h;split at h
  ·cases h
  ·rename_i hk;split at h
   ·cases h
   ·rename_i hf;split at h
    ·cases h
    ·rename_i hm;simp at hk hf hm;exact⟨d,h1,h2,hk,hf,by omega,by omega,by omega⟩
def Jt(t:Tree)(au:Int)(s:Bytes)(kind:Int):Tree×Int×Int :=
 if kind != 1&&kind != 2 then (t,0,1) else if oJ t au s != 0 then (t,0,oJ t au s) else
 if decide ((200:Int)<=t.ae.length)||decide ((1099511627776:Int)<=t.next) then (t,0,76) else
 (gI ⟨eI t.ae ⟨t.next,kind,1,[],[],if kind==2 then au else 0⟩,mG (t.next+1),t.ai⟩ au s t.next,t.next,0)
def aj1(t:Tree)(dir:Int)(s:Bytes)(kind:Int)(hz:Sz 1000 t)(hr:we t)(hs:s.length<=100000)(ha:oz s)(iq:∀m,m∈t.ae->m.au<t.next) :
  aq cY 171 [bJ t,.int .i64 dir,.str s,.int .i64 kind] []=some (.tuple [bJ (Jt t dir s kind).1,.int .i64 (Jt t dir s kind).2.1,.int .i64 (Jt t dir s kind).2.2],[]):=by
 obtain⟨ae,next,ai⟩:=t
 have ht:Small ⟨ae,next,ai⟩:=hz.small (by omega)
 have hn:ae.length<=100000:=ht.ae;have hk:=fun b c M=>ag9 ae next ai dir s ht hr hs ha 2 (b::c :: .cells [aZ ae,.int .i64 next,.int .i64 ai]::M) rfl
 have last:(oJ ⟨ae,next,ai⟩ dir s != 0)=false->∀u,ae≠[]/\∀b c M,aL (aq cY) 224 [.ptr 2 0,.int .i64 dir,.str s,.int .i64 next] (b::c :: .cells [aZ (eI ae ⟨next,kind,1,[],[],u⟩),.int .i64 (mG (next+1)),.int .i64 ai]::M) =
   some (.tuple [],b::c :: .cells (bc (gI ⟨eI ae ⟨next,kind,1,[],[],u⟩,mG (next+1),ai⟩ dir s next))::M):=fun hm u=>by
  obtain⟨d,d1,d2,d3,d4,d5,d6,d7⟩:=S3 hm;have dm:=cg d1;have cr:=iq d dm.1;simp only at cr;refine⟨by rintro rfl; simp[find] at d1,fun b c M=>?_⟩
  have hz1:Sz 1001 ⟨eI ae ⟨next,kind,1,[],[],u⟩,mG (next+1),ai⟩:=hz.with (n:=⟨next,kind,1,[],[],u⟩) (by simp) (by simp) (mG (next+1)) ai
  have hf:find (eI ae ⟨next,kind,1,[],[],u⟩) dir=some d:=by rw[gJ hr.ju,ak (by simp; omega)]; exact d1
  exact VG (eI ae ⟨next,kind,1,[],[],u⟩) (mG (next+1)) ai dir s next (nG hr.ju _) (hz1.small (by omega)).ae hf (hr.aM d dm.1) (by omega) d4 2 (b::c :: .cells [aZ (eI ae ⟨next,kind,1,[],[],u⟩),.int .i64 (mG (next+1)),.int .i64 ai]::M) rfl
 refine aI ?_;simp only[Yq,ZD,bJ,bc,hk,EN,seval]
 repeat' ((first|apply bK|apply cI|apply eW)<;>intro hb<;>simp only[hb,EN,ZD,hk,seval])
 all_goals try (clear hk last; simp_all only[Jt,bJ,bc,vl,↓reduceIte,reduceCtorEq,an]; done)
 all_goals
  have hm:(oJ ⟨ae,next,ai⟩ dir s != 0)=false:=by assumption
  have h0:=(last hm 0).1
  have hp:∀u b c M,aL (aq cY) 223 [.ptr 2 0,.agg [.int .i64 next,.int .i64 kind,.int .i64 1,.slice .sh [],.slice .sh [],.int .i64 u]] (b::c :: .cells [aZ ae,.int .i64 (mG (next+1)),.int .i64 ai]::M) =
    some (.tuple [],b::c :: .cells [aZ (eI ae ⟨next,kind,1,[],[],u⟩),.int .i64 (mG (next+1)),.int .i64 ai]::M):=fun u b c M=>NN ae (mG (next+1)) ai next kind 1 [] [] u hr.ju h0 hn 2 (b::c :: .cells [aZ ae,.int .i64 (mG (next+1)),.int .i64 ai]::M) rfl
  have hl:=fun u=>(last hm u).2
  simp only[ZD,hp,hl,bc,EN,seval];clear hk last hp hl;simp_all only[Jt,bJ,bc,vl,↓reduceIte,reduceCtorEq,an]
def lnW(t:Tree)(au to:Int)(s:Bytes):Tree×Int :=
 if !(find t.ae au).isSome||((bD t.ae au).kind==1&&(bD t.ae au).dj==0) then (t,70) else if (bD t.ae au).kind==2 then (t,72) else
 if oJ t to s != 0 then (t,oJ t to s) else
 (gI ⟨eI t.ae { bD t.ae au with dj:=mG ((bD t.ae au).dj+1) },t.next,t.ai⟩ to s au,0)
def aj2(t:Tree)(au dir:Int)(s:Bytes)(hz:Sz 1000 t)(hr:we t)(hs:s.length<=100000)(ha:oz s) :
  aq cY 172 [bJ t,.int .i64 au,.int .i64 dir,.str s] []=some (.tuple [bJ (lnW t au dir s).1,.int .i64 (lnW t au dir s).2],[]):=by
 obtain⟨ae,next,ai⟩:=t
 have ht:Small ⟨ae,next,ai⟩:=hz.small (by omega)
 have hn:ae.length<=100000:=ht.ae;have hg:=fun b c M=>F7 ae next ai au hr.ju hn 2 (b::c :: .cells [aZ ae,.int .i64 next,.int .i64 ai]::M) rfl
 have hk:=fun b c M=>ag9 ae next ai dir s ht hr hs ha 2 (b::c :: .cells [aZ ae,.int .i64 next,.int .i64 ai]::M) rfl
 have last:(oJ ⟨ae,next,ai⟩ dir s != 0)=false->(find ae au).isSome=true->((bD ae au).kind==2)=false->∀l,ae≠[]/\∀b c M,aL (aq cY) 224 [.ptr 2 0,.int .i64 dir,.str s,.int .i64 au] (b::c :: .cells [aZ (eI ae { bD ae au with dj:=l }),.int .i64 next,.int .i64 ai]::M) =
   some (.tuple [],b::c :: .cells (bc (gI ⟨eI ae { bD ae au with dj:=l },next,ai⟩ dir s au))::M):=fun hm hi hkd l=>by
  obtain⟨d,d1,d2,d3,d4,d5,d6,d7⟩:=S3 hm;have dm:=cg d1;refine⟨by rintro rfl; simp[find] at d1,fun b c M=>?_⟩
  have hfd:=hz.find au;have hz1:Sz 1001 ⟨eI ae { bD ae au with dj:=l },next,ai⟩:=hz.with (n:={ bD ae au with dj:=l }) (iw hfd.1) hfd.2 next ai
  obtain⟨n,hfn⟩:=lf.1 hi;have hnn:bD ae au=n:=by simp[bD,hfn]
  have hne:¬dir=(bD ae au).au:=fun he=>by
   rw[hnn] at he hkd;have h1:=(cg hfn).2;rw[he,h1,hfn] at d1;injection d1 with d1
   subst d1;simp[d2] at hkd
  have hf:find (eI ae { bD ae au with dj:=l }) dir=some d:=by rw[gJ hr.ju,ak hne]; exact d1
  exact VG (eI ae { bD ae au with dj:=l }) next ai dir s au (nG hr.ju _) (hz1.small (by omega)).ae hf (hr.aM d dm.1) (by omega) d4 2 (b::c :: .cells [aZ (eI ae { bD ae au with dj:=l }),.int .i64 next,.int .i64 ai]::M) rfl
 refine aI ?_;simp only[Yr,ZE,bJ,bc,hg,ck,aU,EN,seval]
 repeat' ((first|apply bK|apply cI|apply eW)<;>intro hb<;>simp only[hb,EN,ZE,hk,seval])
 all_goals try (clear hk hg last; simp_all only[lnW,bJ,bc,vl,↓reduceIte,reduceCtorEq,an]; done)
 all_goals
  have hm:(oJ ⟨ae,next,ai⟩ dir s != 0)=false:=by assumption
  have h2:((bD ae au).kind==2)=false:=by assumption
  have h3:(!(find ae au).isSome)=false:=by assumption
  have h3:(find ae au).isSome=true:=by simpa using h3
  have h0:=(last hm h3 h2 0).1;have hp:=fun a b c d e u x y M=>NN ae next ai a b c d e u hr.ju h0 hn 2 (x::y :: .cells [aZ ae,.int .i64 next,.int .i64 ai]::M) rfl
  have hl:=fun l=>(last hm h3 h2 l).2
  simp only[ZE,hp,hl,bc,EN,seval];clear hk hg last hp hl;simp_all only[lnW,bJ,bc,vl,↓reduceIte,reduceCtorEq,an]
def look_ok{ae:List Node}{dir:Int}{s:Bytes}(h:((dR ae dir s).2 != 0)=false):∃d e,find ae dir=some d/\d.kind=2/\dB s=true/\dX d.aM s=some e/\dR ae dir s=(e.au,0):=by
 have h:(dR ae dir s).2=0:=by simpa using h
 have h':=h;unfold dR at h;split at h
 ·rename_i hc; exact absurd h hc
 ·rename_i hc;obtain⟨d,h1,h2,h3⟩:=yi (by simpa using hc)
  rw[h3] at h;split at h
  ·cases h
  ·rename_i hk;split at h
   ·cases h
   ·rename_i e he;have hk:dB s=true:=by simpa using hk
    refine⟨d,e,h1,h2,hk,he,?_⟩;unfold dR;rw[h3];simp[hk,he]
def Zy(t:Tree)(dir:Int)(s:Bytes):Tree×Int×Int :=
 if (dR t.ae dir s).2 != 0 then (t,0,(dR t.ae dir s).2) else if decide ((0:Int)<(bD t.ae (dR t.ae dir s).1).aM.length) then (t,0,74) else
 (⟨j4 (dr t.ae dir s) (bD t.ae (dR t.ae dir s).1),t.next,t.ai⟩,(dR t.ae dir s).1,0)
def H4{ae:List Node}(h:nI ae){dir:Int}{s:Bytes}{d:Node}(hf:find ae dir=some d):dr ae dir s≠[]:=by
 intro hc
 have:({ d with aM:=fE d.aM s }:Node)∈dr ae dir s:=by
  unfold dr;rw[hf];exact(uW h).2 (.inl rfl)
 rw[hc] at this;cases this
def aj3(t:Tree)(dir:Int)(s:Bytes)(hz:Sz 1000 t)(hr:we t)(hs:s.length<=100000)(ha:oz s) :
  aq cY 174 [bJ t,.int .i64 dir,.str s] []=some (.tuple [bJ (Zy t dir s).1,.int .i64 (Zy t dir s).2.1,.int .i64 (Zy t dir s).2.2],[]):=by
 obtain⟨ae,next,ai⟩:=t
 have ht:Small ⟨ae,next,ai⟩:=hz.small (by omega)
 have hn:ae.length<=100000:=ht.ae;have hg:=fun b c M=>F7 ae next ai (dR ae dir s).1 hr.ju hn 2 (b::c :: .cells [aZ ae,.int .i64 next,.int .i64 ai]::M) rfl
 have hl:=fun M=>VD ae next ai dir s ht hr hs ha M
 refine aI ?_;simp only[Yu,O3,bJ,bc,hl,EN,seval];refine bK (fun hb=>?_) (fun hb=>?_)
 ·simp only[O3,hb,EN,seval];clear hg hl;simp_all only[Zy,bJ,bc,vl,↓reduceIte,reduceCtorEq,an]
 obtain⟨d,e,d1,d2,d3,d4,d5⟩:=look_ok hb;have dm:=cg d1;have hde:d.aM.length<=1000:=hz.aM d dm.1;have hsz:Sz 1001 ⟨dr ae dir s,next,ai⟩:=hz.left dir s next ai
 have hv:=fun x y M=>aa7 ae next ai dir s hr.ju hn d1 (hr.aM d dm.1) (by omega) 2 (x::y :: .cells [aZ ae,.int .i64 next,.int .i64 ai]::M) rfl
 have hu:=fun a b c d' e' u x y M=>aha (dr ae dir s) next ai a b c d' e' u (hr.left dir s next ai).ju (H4 hr.ju d1) (hsz.small (by omega)).ae 2 (x::y :: .cells [aZ (dr ae dir s),.int .i64 next,.int .i64 ai]::M) rfl
 simp only[O3,hb,hg,ck,aU,EN,seval];refine bK (fun hb1=>?_) (fun hb1=>?_)
 ·simp only[O3,hb1,EN,seval];clear hg hl hv hu;simp_all only[Zy,bJ,bc,vl,↓reduceIte,reduceCtorEq,an]
 ·simp only[O3,hb1,hv,hu,EN,seval];clear hg hl hv hu d5;simp_all only[Zy,bJ,bc,vl,↓reduceIte,reduceCtorEq,an]
def Ka(x:Int):List Int->Nat->Int
 | [],_ => -1
 |n::r,i=>if x==n then i else Ka x r (i+1)
def LP(x:Int):∀(l:List Int)(i:Nat),decide ((0:Int)<=Ka x l i)=l.contains x
 | [],i=>by simp[Ka]
 |n::r,i=>by
  unfold Ka
  by_cases h:x=n
  ·simp[h]
  ·simp only[dM,h,aw,LP x r (i+1),List.contains_cons];simp[h]
def WA{l0:List Int}{x:Int}(hl:l0.length<=100000){k:List K}{R:Int->Option (ag×aK)}
  (hx:∀e,kr (aq cY) [.tmp 4] 0 k ⟨.exit 0,e,[]⟩=R (-1)) (hr:∀(i:Nat),kr (aq cY) [.tmp 4] 0 k ⟨.ret,[(4,.int .i64 i)],[]⟩=R i) :
  ∀(l pre:List Int),l0=pre++l->fP (aq cY) [.tmp 4] 0 k (.loop [0,1,7,8] Wa) [(0,.slice .sh (l0.map mj)),(1,.int .i64 x),(7,.int .i64 l0.length),(8,.int .i64 pre.length)] []=R (Ka x l pre.length):=by
 intro l;induction l with
 |nil =>
  intro pre h;rw[bX];simp only[Jh,ot h,EN,seval];exact hx _
 |cons n r ih =>
  intro pre h;rw[bX];have eU:pre.length+1<=100000:=by rw[h] at hl; simp at hl; omega
  have hw:=GD pre n;have hi:=ih (pre++[n]) (by rw[h]; simp)
  simp only[aJ,av,aG,aP] at hi;rw[Ka];simp only[Jh,mM h,jf h,EN,seval];refine bK (fun hb=>?_) (fun hb=>?_)
  ·simp only[Jh,hb,EN,seval];exact hr _
  ·simp only[Jh,hb,hw,af,EN,seval];exact hi
def akz(l:List Int)(x:Int)(hl:l.length<=100000):aq cY 255 [.slice .sh (l.map mj),.int .i64 x] []=some (.int .i64 (Ka x l 0),[]):=by
 refine aI ?_;simp only[YV,Jh,EN,seval];exact WA (R:=fun z=>some (.int .i64 z,[])) hl (fun e=>by simp only[Jh,EN,seval]) (fun i=>by simp only[Jh,EN,seval]) l [] rfl
def alB l x hl:=cP (akz l x hl)
def akp(l:List Int)(x:Int)(hl:l.length<=100000):aq cY 229 [.slice .sh (l.map mj),.int .i64 x] []=some (.bool (l.contains x),[]):=by
 refine aI ?_;simp only[YM,aiT,alB,hl,LP,EN,seval]
def ahb l x hl:=cP (akp l x hl)
def tD(ae:List Node)(at' own au:Int)(n:Node):Bool :=
 n.kind==2&&((rS ae n.au).contains au&&(decide ((12:Int)<mG (mG (mG (at'+(rS ae n.au).length)-1)-own))||(mG (mG (mG (at'+(rS ae n.au).length)-1)-own)==12&&decide ((0:Int)<n.aM.length))))
abbrev oB(ae:List Node)(next ai at' own au:Int):aK:=[.cells [.ptr 4 0],.cells [.int .i64 at'],.cells [.int .i64 own],.cells [.int .i64 au],.cells [aZ ae,.int .i64 next,.int .i64 ai]]
def akB(ae:List Node)(next ai at' own au:Int)(n:Node)(h:nI ae)(hn:ae.length<=99999) :
  aq cY 257 [ck n,.ptr 0 0,.ptr 1 0,.ptr 2 0,.ptr 3 0] (oB ae next ai at' own au)=some (.bool (tD ae at' own au n),oB ae next ai at' own au):=by
 refine aI ?_;have hk:=fun a b c d M=>VE ae next ai n.au h (by omega) 4 (a::b::c::d :: .cells [aZ ae,.int .i64 next,.int .i64 ai]::M) rfl
 have hl:=sn ae n.au;have hc:=fun M=>ahb (rS ae n.au) au (by omega) M
 simp only[YX,ad2,oB,ck,aU,EN,seval]
 repeat' ((first|apply bK|apply cI|apply eW)<;>intro hb<;>simp only[hb,EN,ad2,hk,hc,seval])
 all_goals (clear hk hc; simp_all only[tD,mG,bne,gS,Bool.not_eq_false',vl,↓reduceIte,reduceCtorEq,an]; done)
end
def lL{C:eL}{f:Nat}{args args':List ag}{M B:aK}{ids:List Nat}{r r':ag}{B' M':aK}(h1:args.all ag.flat=true)(h2:reach M (args.flatMap ag.ids)=ids)(h3:ke M (iC ids) ids=some B)(h4:lR M ids=ids)
  (h5:args.map (ag.rn (iC ids))=args') (h:C f args' B=some (r,B')) (h6:B'.length=B.length) (h7:r.wF=true) (h8:B'.all cA.flat=true) (h9:r.BE (xg ids)=r') (h10:mw ids M ids B'=M'):aL C f args M=some (r',M'):=by
 unfold aL;rw[az h1,h2,h3];simp only[bZ];rw[az h4,h5,h];simp only[bZ];rw[az ⟨h6,h7,h8⟩,h9,h10]
def Zg(ae:List Node)(next ai at' own au:Int):ke (oB ae next ai at' own au) (iC [0,1,2,3,4]) [0,1,2,3,4]=some (oB ae next ai at' own au):=rfl
def ahR(ae:List Node)(next ai at' own au:Int):ke [.cells [aZ ae,.int .i64 next,.int .i64 ai],.cells [.ptr 0 0],.cells [.int .i64 au],.cells [.int .i64 at'],.cells [.int .i64 own]] (iC [1,3,4,2,0]) [1,3,4,2,0]=some (oB ae next ai at' own au):=rfl
section
attribute [local irreducible] fP fi kD gK dp kr aq aL ct bI
def alD(ae:List Node)(next ai at' own au:Int)(n:Node)(h:nI ae)(hn:ae.length<=99999) :
  aL (aq cY) 257 [.agg (aU n),.ptr 0 0,.ptr 1 0,.ptr 2 0,.ptr 3 0] (oB ae next ai at' own au)=some (.bool (tD ae at' own au n),oB ae next ai at' own au) :=
 lL (ids:=[0,1,2,3,4]) rfl rfl (Zg ..) rfl rfl (akB ae next ai at' own au n h hn) rfl rfl rfl rfl rfl
def HG(p:Node->Bool):List Node->Nat->Int
 | [],_ => -1
 |n::r,i=>if p n then i else HG p r (i+1)
def LO(p:Node->Bool):∀(l:List Node)(i:Nat),decide ((0:Int)<=HG p l i)=l.any p
 | [],i=>by simp[HG]
 |n::r,i=>by
  unfold HG;cases h:p n with
  |true=>simp[h]
  |false=>simp only[af,aw,LO p r (i+1),List.any_cons,h,da]
def WC{ae:List Node}{next ai at' own au:Int}(h:nI ae)(hn:ae.length<=99999){k:List K}{R:Int->Option (ag×aK)}
  (hx:∀e,kr (aq cY) [.tmp 4] 5 k ⟨.exit 0,e,oB ae next ai at' own au⟩=R (-1)) (hr:∀(i:Nat),kr (aq cY) [.tmp 4] 5 k ⟨.ret,[(4,.int .i64 i)],oB ae next ai at' own au⟩=R i) :
  ∀(l pre:List Node),ae=pre++l->fP (aq cY) [.tmp 4] 5 k (.loop [0,1,7,8] Wc) [(0,aZ ae),(1,.func 257 [.ptr 0 0,.ptr 1 0,.ptr 2 0,.ptr 3 0]),(7,.int .i64 ae.length),(8,.int .i64 pre.length)] (oB ae next ai at' own au)=R (HG (tD ae at' own au) l pre.length):=by
 intro l;induction l with
 |nil =>
  intro pre h;rw[bX];simp only[Ji,ot h,EN,seval];exact hx _
 |cons n r ih =>
  intro pre hp;rw[bX];have eU:pre.length+1<=100000:=by rw[hp] at hn; simp at hn; omega
  have hw:=GD pre n;have hi:=ih (pre++[n]) (by rw[hp]; simp)
  have hk:=alD ae next ai at' own au n h hn
  simp only[aJ,av,aG,aP,oB] at hi;simp only[oB] at hk;rw[HG];simp only[Ji,oB,mM hp,jf hp,hk,tkN,shN,EN,seval];refine bK (fun hb=>?_) (fun hb=>?_)
  ·simp only[Ji,hb,EN,seval];exact hr _
  ·simp only[Ji,hb,hw,af,EN,seval];exact hi
def akF(ae:List Node)(next ai at' own au:Int)(h:nI ae)(hn:ae.length<=99999):aq cY 278 [aZ ae,.func 257 [.ptr 0 0,.ptr 1 0,.ptr 2 0,.ptr 3 0]] (oB ae next ai at' own au) =
  some (.int .i64 (HG (tD ae at' own au) ae 0),oB ae next ai at' own au):=by
 refine aI ?_;simp only[Y0,Ji,EN,seval];exact WC (R:=fun z=>some (.int .i64 z,oB ae next ai at' own au)) h hn (fun e=>by simp only[Ji,oB,EN,seval]) (fun i=>by simp only[Ji,oB,EN,seval]) ae [] rfl
def alF(ae:List Node)(next ai at' own au:Int)(h:nI ae)(hn:ae.length<=99999):aL (aq cY) 278 [aZ ae,.func 257 [.ptr 0 0,.ptr 1 0,.ptr 2 0,.ptr 3 0]] (oB ae next ai at' own au) =
  some (.int .i64 (HG (tD ae at' own au) ae 0),oB ae next ai at' own au) :=
 lL (ids:=[0,1,2,3,4]) rfl rfl (Zg ..) rfl rfl (akF ae next ai at' own au h hn) rfl rfl rfl rfl rfl
def akA(ae:List Node)(next ai at' own au:Int)(h:nI ae)(hn:ae.length<=99999):aq cY 256 [aZ ae,.func 257 [.ptr 0 0,.ptr 1 0,.ptr 2 0,.ptr 3 0]] (oB ae next ai at' own au) =
  some (.bool (ae.any (tD ae at' own au)),oB ae next ai at' own au):=by
 refine aI ?_;have hk:=alF ae next ai at' own au h hn
 simp only[oB] at hk;simp only[YW,ai0,oB,hk,LO,EN,seval]
def alC(ae:List Node)(next ai at' own au:Int)(h:nI ae)(hn:ae.length<=99999) :
  aL (aq cY) 256 [aZ ae,.func 257 [.ptr 1 0,.ptr 3 0,.ptr 4 0,.ptr 2 0]] [.cells [aZ ae,.int .i64 next,.int .i64 ai],.cells [.ptr 0 0],.cells [.int .i64 au],.cells [.int .i64 at'],.cells [.int .i64 own]] =
  some (.bool (ae.any (tD ae at' own au)),[.cells [aZ ae,.int .i64 next,.int .i64 ai],.cells [.ptr 0 0],.cells [.int .i64 au],.cells [.int .i64 at'],.cells [.int .i64 own]]) :=
 lL (ids:=[1,3,4,2,0]) rfl rfl (ahR ..) rfl rfl (akA ae next ai at' own au h hn) rfl rfl rfl rfl rfl
def Hj(ae:List Node)(au at':Int):Bool:=ae.any (tD ae at' (sa ae au) au)
def akr(ae:List Node)(next ai au at':Int)(h:nI ae)(hn:ae.length<=99999):aq cY 231 [.ptr 0 0,.int .i64 au,.int .i64 at'] [.cells [aZ ae,.int .i64 next,.int .i64 ai]] =
  some (.bool (Hj ae au at'),[.cells [aZ ae,.int .i64 next,.int .i64 ai]]):=by
 refine aI ?_;have hk:∀M,aL (aq cY) 248 [.ptr 0 0,.int .i64 au] (.cells [aZ ae,.int .i64 next,.int .i64 ai]::M)=some (.int .i64 (sa ae au),.cells [aZ ae,.int .i64 next,.int .i64 ai]::M):=fun M=>ahe ae next ai au h (by omega) 0 (.cells [aZ ae,.int .i64 next,.int .i64 ai]::M) rfl
 have hd:=alC ae next ai at' (sa ae au) au h hn
 unfold Hj;simp only[YO,aiU,hk,hd,EN,seval]
def alx ae next ai au at' h hn p M hM:=cM (p:=p) (M:=M) hM (akr ae next ai au at' h hn)
def wE(l:List ew)(s:Bytes):dX (fE l s) s=none:=by
 unfold dX fE;rw[eD];intro e he;have:=(ef.1 he).2;simpa using this
def rK{l:List ew}{s r:Bytes}(h:dX l r=none):dX (fE l s) r=none:=by
 unfold dX fE at *;rw[eD] at *;exact fun e he=>h e (ef.1 he).1
def iT{ae:List Node}(h:nI ae){dir:Int}{s:Bytes}{d:Node}(hf:find ae dir=some d)(i:Int):find (dr ae dir s) i=if i=dir then some { d with aM:=fE d.aM s } else find ae i:=by
 have hd:=(cg hf).2;unfold dr;rw[hf];simp only[bz];rw[gJ h,show({ d with aM:=fE d.aM s }:Node).au=dir from hd]
def GA{ae:List Node}(h:nI ae)(n:Node):nI (j4 ae n):=by
 unfold j4;split
 ·exact te h _
 ·exact nG h _
def DI{ae:List Node}(h:nI ae)(n:Node){i:Int}(hi:i≠n.au):find (j4 ae n) i=find ae i:=by
 unfold j4;split
 ·rw[rU h,ak hi]
 ·rw[gJ h,ak hi]
def Sz.j4{b:Nat}{t:Tree}(h:Sz b t){n:Node}(h1:n.aM.length<=b+1)(h2:n.data.length<=100000)(next ai:Int):Sz (b+1) ⟨j4 t.ae n,next,ai⟩:=by
 unfold Go.Proofs.YtcbopkblmebjiaaGreatDoor.j4;split
 ·exact(h.zD _ next ai).up (by omega)
 ·exact h.with (n:={ n with dj:=mG (n.dj-1) }) h1 h2 next ai
def xV(t:Tree)(dir:Int)(s:Bytes)(to:Int)(nm:Bytes)(au:Int)(x y:Node)(there:Bool):Tree :=
 gI ⟨if x.kind==2 then eI (if there then j4 (dr (dr t.ae dir s) to nm) y else dr t.ae dir s) { x with up:=to }
  else if there then j4 (dr (dr t.ae dir s) to nm) y else dr t.ae dir s,t.next,t.ai⟩ to nm au
set_option maxHeartbeats 1000000 in
def ado(ae:List Node)(next ai dir:Int)(s:Bytes)(to:Int)(nm:Bytes)(au:Int)(x y:Node)(there:Bool)(v5 v140:ag)(B0 Bd:cA)(yr:List ag)(hyr:there=true->ag.int .i64 y.au::yr=aU y)(hz:Sz 1000 ⟨ae,next,ai⟩)(hr:we ⟨ae,next,ai⟩){dd dt:Node}(hdir:find ae dir=some dd)(hto:find ae to=some dt)
  (hth:there=false->dX dt.aM nm=none) (hx:(x.kind==2)=true->x.au≠to) (hy:there=true->y.au≠to) (hx1:x.aM.length<=1000) (hx2:x.data.length<=100000) (hy1:y.aM.length<=1000) (hy2:y.data.length<=100000) :
  fP (aq cY) [.fD 10 3,.tmp 11,.tmp 12] 0 [] Mq [(1,.int .i64 dir),(2,.str s),(3,.int .i64 to),(4,.str nm),(5,v5),(10,.ptr 1 0),(13,.int .i64 au),(15,.ptr 2 0),(17,.ptr 4 0),(19,.ptr 5 0),(21,.bool there),(140,v140)]
   [B0,.cells zT,.cells [aZ ae,.int .i64 next,.int .i64 ai],Bd,.cells (aU x),.cells (.int .i64 y.au::yr)]=some (.tuple [bJ (xV ⟨ae,next,ai⟩ dir s to nm au x y there),.int .i64 y.au,.int .i64 0],[]):=by
 have hasc:nI ae:=hr.ju;have n1:=hz.left dir s next ai
 have a1:nI (dr ae dir s):=(hr.left dir s next ai).ju
 have e1:oT dd.aM:=hr.aM dd (cg hdir).1;have e2:oT dt.aM:=hr.aM dt (cg hto).1;have l1:dd.aM.length<=1000:=hz.aM dd (cg hdir).1;have l2:dt.aM.length<=1000:=hz.aM dt (cg hto).1
 obtain⟨d1,f1,g1,m1,q1⟩:∃d1,find (dr ae dir s) to=some d1/\oT d1.aM/\d1.aM.length<=1000/\(dX dt.aM nm=none->dX d1.aM nm=none):=by
  rw[iT hasc hdir];split
  ·rename_i he;subst he;rw[hdir] at hto; cases hto;exact⟨_,rfl,uL e1 s,bh (zY _ _) l1,rK⟩
  ·exact⟨dt,hto,e2,l2,id⟩
 have hv1:=fun a b M=>aa7 ae next ai dir s hasc (hz.small (by omega)).ae hdir e1 (by omega) 2 (a::b :: .cells [aZ ae,.int .i64 next,.int .i64 ai]::M) rfl
 have fin:∀(n3:List Node)(d3:Node),nI n3->Sz 1003 ⟨n3,next,ai⟩->find n3 to=some d3->oT d3.aM->d3.aM.length<=1000->dX d3.aM nm=none ->
   (∀a b M,aL (aq cY) 224 [.ptr 2 0,.int .i64 to,.str nm,.int .i64 au] (a::b :: .cells [aZ n3,.int .i64 next,.int .i64 ai]::M)=some (.tuple [],a::b :: .cells (bc (gI ⟨n3,next,ai⟩ to nm au))::M)) /\
   ((x.kind==2)=true->(∀a b M,aL (aq cY) 223 [.ptr 2 0,.agg [.int .i64 x.au,.int .i64 x.kind,.int .i64 x.dj,jo x.data,ib x.aM,.int .i64 to]] (a::b :: .cells [aZ n3,.int .i64 next,.int .i64 ai]::M) =
     some (.tuple [],a::b :: .cells [aZ (eI n3 { x with up:=to }),.int .i64 next,.int .i64 ai]::M)) /\
    ∀a b M,aL (aq cY) 224 [.ptr 2 0,.int .i64 to,.str nm,.int .i64 au] (a::b :: .cells [aZ (eI n3 { x with up:=to }),.int .i64 next,.int .i64 ai]::M)=some (.tuple [],a::b :: .cells (bc (gI ⟨eI n3 { x with up:=to },next,ai⟩ to nm au))::M)):=by
  intro n3 d3 b1 b2 b3 b4 b5 b6;have h0:n3≠[]:=by rintro rfl; simp[find] at b3
  refine⟨fun a b M=>VG n3 next ai to nm au b1 (b2.small (by omega)).ae b3 b4 (by omega) b6 2 (a::b :: .cells [aZ n3,.int .i64 next,.int .i64 ai]::M) rfl,fun hk=>⟨fun a b M=>NN n3 next ai x.au x.kind x.dj x.data x.aM to b1 h0 (b2.small (by omega)).ae 2 (a::b :: .cells [aZ n3,.int .i64 next,.int .i64 ai]::M) rfl,fun a b M=>?_⟩⟩
  have b7:Sz 1004 ⟨eI n3 { x with up:=to },next,ai⟩:=b2.with (n:={ x with up:=to }) (bh hx1 (by omega)) hx2 next ai
  have b8:find (eI n3 { x with up:=to }) to=some d3:=by rw[gJ b1,ak (fun he=>hx hk he.symm)]; exact b3
  exact VG (eI n3 { x with up:=to }) next ai to nm au (nG b1 _) (b7.small (by omega)).ae b8 b4 (by omega) b6 2 (a::b :: .cells [aZ (eI n3 { x with up:=to }),.int .i64 next,.int .i64 ai]::M) rfl
 cases hth':there with
 |false =>
  obtain⟨w1,w2⟩:=fin (dr ae dir s) d1 a1 (n1.up (by omega)) f1 g1 m1 (q1 (hth hth'))
  cases hkx:(x.kind==2) with
  |false =>
   simp only[x7,hv1,zT,aU,hkx,w1,bc,EN,seval];simp only[xV,hkx,bJ,bc,vl,↓reduceIte,reduceCtorEq,an]
  |true =>
   obtain⟨w3,w4⟩:=w2 hkx;simp only[x7,hv1,zT,aU,hkx,w3,w4,bc,EN,seval];simp only[xV,hkx,bJ,bc,vl,↓reduceIte,reduceCtorEq,an]
 |true =>
  have hyr':yr=[.int .i64 y.kind,.int .i64 y.dj,jo y.data,ib y.aM,.int .i64 y.up]:=by have:=hyr hth'; simpa[aU] using this
  subst hyr';have a2:nI (dr (dr ae dir s) to nm):=(we.left (t:=⟨dr ae dir s,next,ai⟩) (hr.left dir s next ai) to nm next ai).ju
  have n2:=n1.left to nm next ai
  have f2:find (dr (dr ae dir s) to nm) to=some { d1 with aM:=fE d1.aM nm }:=by rw[iT a1 f1,az rfl]
  have hv2:=fun a b M=>aa7 (dr ae dir s) next ai to nm a1 (n1.small (by omega)).ae f1 g1 (by omega) 2 (a::b :: .cells [aZ (dr ae dir s),.int .i64 next,.int .i64 ai]::M) rfl
  have hu:=fun a b M=>aha (dr (dr ae dir s) to nm) next ai y.au y.kind y.dj y.data y.aM y.up a2 (H4 a1 f1) (n2.small (by omega)).ae 2 (a::b :: .cells [aZ (dr (dr ae dir s) to nm),.int .i64 next,.int .i64 ai]::M) rfl
  have f3:find (j4 (dr (dr ae dir s) to nm) y) to=some { d1 with aM:=fE d1.aM nm }:=by rw[DI a2 y (fun he=>hy hth' he.symm)]; exact f2
  obtain⟨w1,w2⟩:=fin (j4 (dr (dr ae dir s) to nm) y) { d1 with aM:=fE d1.aM nm } (GA a2 y) (n2.j4 (bh hy1 (by omega)) hy2 next ai) f3 (uL g1 nm) (bh (zY _ _) m1) (wE _ _)
  cases hkx:(x.kind==2) with
  |false =>
   simp only[x7,hv1,hv2,hu,zT,aU,hkx,w1,bc,EN,seval];simp only[xV,hkx,bJ,bc,vl,↓reduceIte,reduceCtorEq,an]
  |true =>
   obtain⟨w3,w4⟩:=w2 hkx;simp only[x7,hv1,hv2,hu,zT,aU,hkx,w3,w4,bc,EN,seval];simp only[xV,hkx,bJ,bc,vl,↓reduceIte,reduceCtorEq,an]
def lr(ae:List Node)(l:List ew)(s:Bytes):Node:=match dX l s with
 |none=>Node.zero
 |some e=>bD ae e.au
def C2(t:Tree)(dir to:Int)(aM:List ew)(there:Bool)(kind au:Int):Bool :=
 ((!there&&to != dir)&&decide ((64:Int)<=aM.length))||(decide ((12:Int)<(rS t.ae to).length)||((kind==2&&Hj t.ae au (rS t.ae to).length)||decide ((1099511627776:Int)<=t.ai)))
def Mb(t:Tree)(dir:Int)(s:Bytes)(to:Int)(nm:Bytes):Tree×Int×Int :=
 if (dR t.ae dir s).2 != 0 then (t,0,(dR t.ae dir s).2) else
 if (gw t.ae to).2 != 0 then (t,0,(gw t.ae to).2) else
 if !dB nm then (t,0,60) else
 if (lr t.ae (gw t.ae to).1.aM nm).au==(dR t.ae dir s).1 then (t,0,0) else
 if (bD t.ae (dR t.ae dir s).1).kind==2&&(rS t.ae to).contains (dR t.ae dir s).1 then (t,0,75) else
 if (dX (gw t.ae to).1.aM nm).isSome&&zl (bD t.ae (dR t.ae dir s).1) (lr t.ae (gw t.ae to).1.aM nm) != 0 then (t,0,zl (bD t.ae (dR t.ae dir s).1) (lr t.ae (gw t.ae to).1.aM nm)) else
 if C2 t dir to (gw t.ae to).1.aM (dX (gw t.ae to).1.aM nm).isSome (bD t.ae (dR t.ae dir s).1).kind (dR t.ae dir s).1 then (t,0,76) else
 (xV t dir s to nm (dR t.ae dir s).1 (bD t.ae (dR t.ae dir s).1) (lr t.ae (gw t.ae to).1.aM nm) (dX (gw t.ae to).1.aM nm).isSome,(lr t.ae (gw t.ae to).1.aM nm).au,0)
def ahc(a b c:Int)(d:Bytes)(e:List ew)(u:Int)(a' b' c':Int)(d':Bytes)(e':List ew)(u':Int)(M:aK):aL (aq cY) 230 [.agg [.int .i64 a,.int .i64 b,.int .i64 c,jo d,ib e,.int .i64 u],.agg [.int .i64 a',.int .i64 b',.int .i64 c',jo d',ib e',.int .i64 u']] M=some (.int .i64 (zl ⟨a,b,c,d,e,u⟩ ⟨a',b',c',d',e',u'⟩),M) :=
 cO (akq ⟨a,b,c,d,e,u⟩ ⟨a',b',c',d',e',u'⟩) M
def Um(ae:List Node)(to:Int):(rS ae to).contains to=true:=by
 have key:∀(m:Nat)(au:Int)(out:List Int),out.contains to=true->(ru ae m au out).contains to=true:=by
  intro m;induction m with
  |zero=>intro au out h; exact h
  |succ m ih =>
   intro au out h;rw[ru];split
   ·split
    ·exact h
    ·exact ih _ _ (by simp at h ⊢; exact .inl h)
   ·exact h
 exact key _ _ _ (by simp)
def Ta{ae:List Node}{i:Int}(h:(bD ae i).kind=2):(bD ae i).au=i:=by
 cases hf:find ae i with
 |none=>simp[bD,hf,Node.zero] at h
 |some n=>simp[bD,hf]; exact(cg hf).2
set_option maxHeartbeats 4000000 in
def aj5(t:Tree)(dir:Int)(s:Bytes)(to:Int)(nm:Bytes)(hz:Sz 1000 t)(hr:we t)(hs:s.length<=100000)(ha:oz s)(hs':nm.length<=100000)(ha':oz nm)
  (LN:∀e,dX (gw t.ae to).1.aM nm=some e->(bD t.ae e.au).au≠to) :
  aq cY 176 [bJ t,.int .i64 dir,.str s,.int .i64 to,.str nm] []=some (.tuple [bJ (Mb t dir s to nm).1,.int .i64 (Mb t dir s to nm).2.1,.int .i64 (Mb t dir s to nm).2.2],[]):=by
 obtain⟨Q,hQ⟩:∃Q,Mq=Q:=⟨_,rfl⟩;obtain⟨ae,next,ai⟩:=t
 have ht:Small ⟨ae,next,ai⟩:=hz.small (by omega)
 have hn:ae.length<=100000:=ht.ae;have hasc:nI ae:=hr.ju;have hl:=fun M=>VD ae next ai dir s ht hr hs ha M
 have hg:=fun i b c M=>F7 ae next ai i hasc hn 2 (b::c :: .cells [aZ ae,.int .i64 next,.int .i64 ai]::M) rfl
 have hd:=fun b c M=>VF ae next ai to hasc hn 2 (b::c :: .cells [aZ ae,.int .i64 next,.int .i64 ai]::M) rfl
 have hup:=fun b c M=>VE ae next ai to hasc hn 2 (b::c :: .cells [aZ ae,.int .i64 next,.int .i64 ai]::M) rfl
 have hul:=sn ae to;have hn1:ae.length<=1000:=hz.ae;have hc:=fun x M=>ahb (rS ae to) x (by omega) M
 have hdp:=fun i a b c M=>alx ae next ai i a hasc (by omega) 2 (b::c :: .cells [aZ ae,.int .i64 next,.int .i64 ai]::M) rfl
 have hE:oT (gw ae to).1.aM:=hr.dir to;have hde:(gw ae to).1.aM.length<=100000:=ti ht to;have hen:=fun a b c d u M=>QC a b c d (gw ae to).1.aM u nm _ (rY hE nm) hde M
 refine aI ?_;simp only[Yw,x7,hQ,bJ,bc,hl,EN,seval];refine bK (fun hb0=>?_) (fun hb0=>?_)
 ·simp only[x7,hQ,hb0,EN,seval];clear hl hg hd hup hc hdp hen LN;simp_all only[Mb,bJ,bc,vl,↓reduceIte,reduceCtorEq,an]
 simp only[x7,hQ,hb0,hd,ck,aU,EN,seval];refine bK (fun hb1=>?_) (fun hb1=>?_)
 ·simp only[x7,hQ,hb1,EN,seval];clear hl hg hd hup hc hdp hen LN;simp_all only[Mb,bJ,bc,vl,↓reduceIte,reduceCtorEq,an]
 simp only[x7,hQ,hb1,VA,hs',ha',EN,seval];refine bK (fun hb2=>?_) (fun hb2=>?_)
 ·simp only[x7,hQ,hb2,EN,seval];clear hl hg hd hup hc hdp hen LN;simp_all only[Mb,bJ,bc,vl,↓reduceIte,reduceCtorEq,an]
 simp only[x7,hQ,hb2,hg,hen,ck,aU,EN,seval];obtain⟨dd,de,e1,e2,e3,e4,e5⟩:=look_ok hb0;obtain⟨dt,g1,g2,g3⟩:=yi (show(gw ae to).2=0 by simpa using hb1)
 have hx0:=hz.find (dR ae dir s).1;have tail:=fun there y yr hyr hth hy hy1 hy2 v5 v140 B0 Bd hxx=>ado ae next ai dir s to nm (dR ae dir s).1 (bD ae (dR ae dir s).1) y there v5 v140 B0 Bd yr hyr hz hr e1 g1 hth hxx hy hx0.1 hx0.2 hy1 hy2
 have hxne:((bD ae (dR ae dir s).1).kind==2)=true->(rS ae to).contains (dR ae dir s).1=false->(bD ae (dR ae dir s).1).au≠to:=fun h1 h2 h3=>by
  rw[Ta (by simpa using h1)] at h3
  rw[h3,Um] at h2; cases h2
 have hdte:dt.aM=(gw ae to).1.aM:=by rw[g3]
 rcases wo hE nm with ⟨h1,o,h2,h3,h4⟩|⟨h1,h2⟩
 ·have hnu:lr ae (gw ae to).1.aM nm=bD ae o.au:=by simp[lr,h3]
  have hy0:=hz.find o.au;have tl:=tail true (bD ae o.au) _ (fun _=>rfl) (by simp) (fun _=>LN o h3) hy0.1 hy0.2
  simp only[aU,zT] at tl;simp only[x7,hQ,h1,h2,hg,ck,aU,eo,EN,seval]
  repeat' ((first|apply bK|apply cI|apply eW)<;>intro hb<;>simp only[hb,EN,x7,hQ,hup,hc,hdp,ahc,seval])
  all_goals try (clear hl hg hd hup hc hdp hen LN tail tl hxne e5 g3; simp_all only[Mb,C2,bJ,bc,c9,vl,↓reduceIte,reduceCtorEq,an]; done)
  all_goals
   subst hQ;refine(tl _ _ _ _ (fun hk=>by first|exact hxne hk (by assumption)|(exfalso; simp_all; done))).trans ?_
   have hmv:Mb ⟨ae,next,ai⟩ dir s to nm=(xV ⟨ae,next,ai⟩ dir s to nm (dR ae dir s).1 (bD ae (dR ae dir s).1) (bD ae o.au) true,(bD ae o.au).au,0):=by
    clear hl hg hd hup hc hdp hen LN tail tl hxne e5 g3;simp_all only[Mb,C2,c9,vl,↓reduceIte,reduceCtorEq,an]
   rw[hmv];rfl
 ·have hnu:lr ae (gw ae to).1.aM nm=Node.zero:=by simp[lr,h2]
  have tl:=tail false Node.zero [.int .i64 0,.int .i64 0,.slice .c0 [],.slice .c0 [],.int .i64 0] (by simp) (fun _=>by rw[hdte]; exact h2) (by simp) (by simp[Node.zero]) (by simp[Node.zero])
  have hz0:Node.zero.au=0:=rfl;simp only[aU,zT,hz0] at tl;simp only[x7,hQ,h1,EN,seval]
  repeat' ((first|apply bK|apply cI|apply eW)<;>intro hb<;>simp only[hb,EN,x7,hQ,hup,hc,hdp,ahc,seval])
  all_goals try (clear hl hg hd hup hc hdp hen LN tail tl hxne e5 g3; simp_all only[Mb,C2,bJ,bc,iW,vl,↓reduceIte,reduceCtorEq,an]; done)
  all_goals
   subst hQ;refine(tl _ _ _ _ (fun hk=>by first|exact hxne hk (by assumption)|(exfalso; simp_all; done))).trans ?_
   have hmv:Mb ⟨ae,next,ai⟩ dir s to nm=(xV ⟨ae,next,ai⟩ dir s to nm (dR ae dir s).1 (bD ae (dR ae dir s).1) Node.zero false,0,0):=by
    clear hl hg hd hup hc hdp hen LN tail tl hxne e5 g3;simp_all only[Mb,C2,iW,vl,↓reduceIte,reduceCtorEq,an]
   rw[hmv];rfl
end
def mW(l:List ew)(i:Int):Nat:=l.countP fun e=>e.au==i
def qN(ns:List Node)(i:Int):Nat:=(ns.map fun n=>mW n.aM i).sum
def uI(i:Int):mW [] i=0:=rfl
def yZ(a b:List ew)(i:Int):mW (a++b) i=mW a i+mW b i:=List.countP_append
def rH(e:ew)(l:List ew)(i:Int):mW (e::l) i=mW l i+(if e.au=i then 1 else 0):=by simp[mW,List.countP_cons]
def xk(a b:List Node)(i:Int):qN (a++b) i=qN a i+qN b i:=by simp[qN]
def qU(n:Node)(l:List Node)(i:Int):qN (n::l) i=mW n.aM i+qN l i:=by simp[qN]
def uJ{ns:List Node}(h:nI ns)(n:Node)(i:Int):qN (eI ns n) i+mW (bD ns n.au).aM i=qN ns i+mW n.aM i:=by
 rcases rT h n.au with ⟨_,o,h2,h3,h4⟩|⟨_,h2⟩
 ·rw[tv h h2 h4];obtain⟨s1,s2⟩:=xD (n:=n) h2
  have e1:qN ns i=qN (ns.take (kY ns n.au)) i+(mW o.aM i+qN (ns.drop (kY ns n.au+1)) i):=by
   rw[<-qU,<-xk,<-s1]
  rw[s2,xk,qU,e1];simp only[bD,h3,bz];omega
 ·rw[xG h h2]
  have e1:qN ns i=qN (ns.take (kY ns n.au)) i+qN (ns.drop (kY ns n.au)) i:=by
   rw[<-xk,cD]
  rw[xk,qU,e1];simp only[bD,h2,mZ,Node.zero,uI];omega
def y8{ns:List Node}(h:nI ns)(k i:Int):qN (iP ns k) i+mW (bD ns k).aM i=qN ns i:=by
 rcases rT h k with ⟨_,o,h2,h3,h4⟩|⟨_,h2⟩
 ·rw[zE h h2 h4];obtain⟨s1,_⟩:=xD (n:=o) h2
  have e1:qN ns i=qN (ns.take (kY ns k)) i+(mW o.aM i+qN (ns.drop (kY ns k+1)) i):=by
   rw[<-qU,<-xk,<-s1]
  rw[xk,e1];simp only[bD,h3,bz];omega
 ·rw[xZ h2];simp only[bD,h2,mZ,Node.zero,uI];omega
def Cm{l:List ew}{i:Int}:0<mW l i↔∃e,e∈l/\e.au=i:=by simp[mW,nZ]
def qV{i:Int}:∀ {ns:List Node},0<qN ns i↔∃n e,n∈ns/\e∈n.aM/\e.au=i
 | []=>by simp[qN]
 |n::ns=>by
  rw[qU];constructor
  ·intro h;rcases fA (mW n.aM i) with h0|h0
   ·obtain⟨m,e,h1,h2,h3⟩:=(qV (i:=i) (ns:=ns)).1 (by omega)
    exact⟨m,e,aO _ h1,h2,h3⟩
   ·obtain⟨e,h1,h2⟩:=Cm.1 h0;exact⟨n,e,aD,h1,h2⟩
  ·rintro⟨m,e,h1,h2,h3⟩;rcases bb.1 h1 with rfl|h1
   ·have:=Cm.2 ⟨e,h2,h3⟩; omega
   ·have:=(qV (i:=i) (ns:=ns)).2 ⟨m,e,h1,h2,h3⟩; omega
def wN{l:List ew}(h:oT l){e:ew}(hf:dX l e.name=none){x:ew}:x∈sQ l e↔x=e\/x∈l:=by
 rw[uR h hf];have:x∈l↔x∈l.take (lq l e.name)\/x∈l.drop (lq l e.name):=by rw[<-bS,cD]
 rw[this,bS,bb];constructor
 ·rintro(h|h|h)
  ·exact .inr (.inl h)
  ·exact .inl h
  ·exact .inr (.inr h)
 ·rintro(h|h|h)
  ·exact .inr (.inl h)
  ·exact .inl h
  ·exact .inr (.inr h)
def Nc{l:List ew}(h:oT l){e:ew}(hf:dX l e.name=none)(i:Int):mW (sQ l e) i=mW l i+(if e.au=i then 1 else 0):=by
 rw[uR h hf,yZ,rH];have:mW l i=mW (l.take (lq l e.name)) i+mW (l.drop (lq l e.name)) i:=by rw[<-yZ,cD]
 omega
def Ap{l:List ew}{s:Bytes}{x:ew}:x∈fE l s↔x∈l/\x.name≠s:=by simp[fE,ef]
def KU{l:List ew}{b:Nat}{o:ew}(ho:l[b]?=some o):l=l.take b++o::l.drop (b+1):=by
 have cr:=(aC.1 ho).1;rw[aj cr] at ho; injection ho with ho
 conv=>lhs; rw[<-cD b l]
 rw[cB cr,ho]
def JK{l:List ew}(h:oT l){s:Bytes}{o:ew}(hf:dX l s=some o)(i:Int):mW (fE l s) i+(if o.au=i then 1 else 0)=mW l i:=by
 rcases wo h s with ⟨_,o',h2,h3,h4⟩|⟨_,h2⟩
 ·rw[hf] at h3; cases h3;rw[D2 h h2 h4]
  have e1:mW l i=mW (l.take (lq l s)) i+(mW (l.drop (lq l s+1)) i+(if o.au=i then 1 else 0)):=by
   rw[<-rH,<-yZ,<-KU h2]
  rw[yZ,e1];omega
 ·rw[hf] at h2; cases h2
def xt{ns:List Node}(h:nI ns){n o:Node}(hf:find ns n.au=some o):(eI ns n).length=ns.length:=by
 rcases rT h n.au with ⟨_,o,h2,h3,h4⟩|⟨_,h2⟩
 ·rw[tv h h2 h4,ec]
 ·rw[hf] at h2; cases h2
def Nm(s:Bytes):Prop:=dB s=true
structure cn(t:Tree)(cf:Int->Nat)(x:Int):Prop where
 jB:we t
 root:∃r,find t.ae 1=some r/\r.kind=2/\r.up=1
 num:∀i n,find t.ae i=some n->1<=i/\i<t.next
 kind:∀i n,find t.ae i=some n->n.kind=1\/n.kind=2
 file:∀i n,find t.ae i=some n->n.kind=1->n.aM=[]/\n.up=0/\n.data.length<=4096
 dir:∀i n,find t.ae i=some n->n.kind=2->n.data=[]
 wB:∀i n e,find t.ae i=some n->e∈n.aM->1<=e.ai/\e.ai<t.ai/\e.au≠1/\Nm e.name/\∃m,find t.ae e.au=some m/\(m.kind=2->m.up=i)
 xJ:∀i n,find t.ae i=some n->(n.aM.Pairwise fun a b=>a.ai≠b.ai)/\n.aM.length<=64
 dj:∀i n,find t.ae i=some n->n.dj=(qN t.ae i:Int)+(if i=x then 1 else 0)
 one:∀i n,find t.ae i=some n->n.kind=2->i≠1->n.dj=1
 y9:cf 1=0
 sy:∀i n,find t.ae i=some n->n.kind=2->i≠1->cf i=cf n.up+1/\∃p,find t.ae n.up=some p/\p.kind=2
 deep:∀i n,find t.ae i=some n->n.kind=2->cf i<=12/\(cf i=12->n.aM=[])
 ae:t.ae.length<=200
 next:t.next<=1099511627776
 ai:1<=t.ai/\t.ai<=1099511627776
def cn.au{t:Tree}{cf:Int->Nat}{x:Int}(_:cn t cf x){i:Int}{n:Node}(hf:find t.ae i=some n):n.au=i:=(cg hf).2
theorem cn.gv{t t':Tree}{cf:Int->Nat}{x x' d:Int}{n n':Node}(h:cn t cf x)(hs:we t')(hd:find t.ae d=some n)
  (hf:∀i,find t'.ae i=if i=d then some n' else find t.ae i) (hk:n'.kind=n.kind) (hu:n'.up=n.up)
  (hfile:n.kind=1->n'.aM=[]/\n'.data.length<=4096) (hdir:n.kind=2->n'.data=[])
  (hent:∀e,e∈n'.aM->1<=e.ai/\e.ai<t'.ai/\e.au≠1/\Nm e.name/\∃m,find t.ae e.au=some m/\(m.kind=2->m.up=d))
  (hcook:(n'.aM.Pairwise fun a b=>a.ai≠b.ai)/\n'.aM.length<=64)
  (hc:∀i,1<=i->(qN t'.ae i:Int)+(if i=x' then 1 else 0)=qN t.ae i+(if i=x then 1 else 0)+(if i=d then n'.dj-n.dj else 0))
  (h1:n.kind=2->n'.dj=n.dj) (hdeep:cf d=12->n'.aM=[]) (hn:t'.ae.length<=200) (hnx:t'.next=t.next) (hck:t.ai<=t'.ai) (hck':t'.ai<=1099511627776):cn t' cf x':=by
 have rb:∀j m,find t.ae j=some m->∃m',find t'.ae j=some m'/\m'.kind=m.kind/\m'.up=m.up:=by
  intro j m hm;rw[hf];split
  ·rename_i he;subst he;rw[hd] at hm; cases hm;exact⟨n',rfl,hk,hu⟩
  ·exact⟨m,hm,rfl,rfl⟩
 have back:∀j m',find t'.ae j=some m'->(j=d/\m'=n')\/(j≠d/\find t.ae j=some m'):=by
  intro j m' hm;rw[hf] at hm;split at hm
  ·rename_i he; injection hm with hm; exact .inl ⟨he,hm.symm⟩
  ·rename_i he; exact .inr ⟨he,hm⟩
 refine⟨hs,?_,?_,?_,?_,?_,?_,?_,?_,?_,h.y9,?_,?_,hn,by rw[hnx]; exact h.next,⟨by have:=h.ai.1; omega,hck'⟩⟩
 ·obtain⟨r,h1,h2,h3⟩:=h.root;obtain⟨r',k1,k2,k3⟩:=rb _ _ h1;exact⟨r',k1,by omega,by omega⟩
 ·intro i m hm;rw[hnx];rcases back i m hm with ⟨rfl,rfl⟩|⟨_,hm⟩
  ·exact h.num _ _ hd
  ·exact h.num _ _ hm
 ·intro i m hm;rcases back i m hm with ⟨rfl,rfl⟩|⟨_,hm⟩
  ·rw[hk]; exact h.kind _ _ hd
  ·exact h.kind _ _ hm
 ·intro i m hm hk1;rcases back i m hm with ⟨rfl,rfl⟩|⟨_,hm⟩
  ·rw[hk] at hk1;exact⟨(hfile hk1).1,by rw[hu]; exact(h.file _ _ hd hk1).2.1,(hfile hk1).2⟩
  ·exact h.file _ _ hm hk1
 ·intro i m hm hk1;rcases back i m hm with ⟨rfl,rfl⟩|⟨_,hm⟩
  ·rw[hk] at hk1;exact hdir hk1
  ·exact h.dir _ _ hm hk1
 ·intro i m e hm he
  have key:∀m,find t.ae e.au=some m/\(m.kind=2->m.up=i)->∃m,find t'.ae e.au=some m/\(m.kind=2->m.up=i):=by
   rintro m ⟨k1,k2⟩;obtain⟨m',j1,j2,j3⟩:=rb _ _ k1;exact⟨m',j1,fun hk=>by rw[j3]; exact k2 (by omega)⟩
  rcases back i m hm with ⟨rfl,rfl⟩|⟨_,hm⟩
  ·obtain⟨a1,a2,a3,a4,k,a5⟩:=hent e he;exact⟨a1,a2,a3,a4,key k a5⟩
  ·obtain⟨a1,a2,a3,a4,k,a5⟩:=h.wB _ _ e hm he;exact⟨a1,by omega,a3,a4,key k a5⟩
 ·intro i m hm;rcases back i m hm with ⟨rfl,rfl⟩|⟨_,hm⟩
  ·exact hcook
  ·exact h.xJ _ _ hm
 ·intro i m hm;rcases back i m hm with ⟨rfl,rfl⟩|⟨hne,hm⟩
  ·have:=hc i (h.num _ _ hd).1;have:=h.dj _ _ hd;simp only[↓reduceIte] at *;omega
  ·have:=hc i (h.num _ _ hm).1;have:=h.dj _ _ hm;simp only[hne,↓reduceIte] at *;omega
 ·intro i m hm hk1 hi;rcases back i m hm with ⟨rfl,rfl⟩|⟨_,hm⟩
  ·rw[hk] at hk1;rw[h1 hk1]; exact h.one _ _ hd hk1 hi
  ·exact h.one _ _ hm hk1 hi
 ·intro i m hm hk1 hi;rcases back i m hm with ⟨rfl,rfl⟩|⟨_,hm⟩
  ·rw[hk] at hk1;obtain⟨a,p,b,c⟩:=h.sy _ _ hd hk1 hi;obtain⟨p',k1,k2,_⟩:=rb _ _ b;rw[hu]; exact⟨a,p',k1,by omega⟩
  ·obtain⟨a,p,b,c⟩:=h.sy _ _ hm hk1 hi;obtain⟨p',k1,k2,_⟩:=rb _ _ b;exact⟨a,p',k1,by omega⟩
 ·intro i m hm hk1;rcases back i m hm with ⟨rfl,rfl⟩|⟨_,hm⟩
  ·rw[hk] at hk1;exact⟨(h.deep _ _ hd hk1).1,hdeep⟩
  ·exact h.deep _ _ hm hk1
def cn.left{t:Tree}{cf:Int->Nat}{d:Int}{n:Node}{s:Bytes}{e:ew}(h:cn t cf 0)(hd:find t.ae d=some n)(he:dX n.aM s=some e):cn ⟨dr t.ae d s,t.next,t.ai⟩ cf e.au:=by
 have hE:oT n.aM:=h.jB.aM n (cg hd).1;have hi:n.au=d:=h.au hd;have hem:=eu he;have hw:dr t.ae d s=eI t.ae { n with aM:=fE n.aM s }:=by simp[dr,hd]
 have hc:∀i,qN (dr t.ae d s) i+(if e.au=i then 1 else 0)=qN t.ae i:=by
  intro i;have h1:=uJ h.jB.ju { n with aM:=fE n.aM s } i
  have h2:=JK hE he i;rw[hw];have h3:bD t.ae n.au=n:=by simp only[bD,hi,hd,bz]
  simp only[h3] at h1;omega
 refine h.gv (h.jB.left d s t.next t.ai) hd (iT h.jB.ju hd) rfl rfl ?_ ?_ ?_ ?_ ?_ (fun _=>rfl) ?_ ?_ rfl (fG _) h.ai.2
 ·intro hk;obtain⟨h1,_,h3⟩:=h.file _ _ hd hk;exact⟨by simp[h1,fE],h3⟩
 ·exact h.dir _ _ hd
 ·intro x hx;exact h.wB _ _ x hd (Ap.1 hx).1
 ·exact⟨nn _ (h.xJ _ _ hd).1,bh (fa _ _) (h.xJ _ _ hd).2⟩
 ·intro i h0;have h1:=hc i;rw[ak (show i≠0 by omega)]
  have e1:(if i=d then (n.dj-n.dj:Int) else 0)=0:=by split<;>omega
  simp only[e1]
  by_cases h0:i=e.au
  ·subst h0;simp only[↓reduceIte] at h1 ⊢;omega
  ·rw[ak (fun hh=>h0 hh.symm)] at h1
   rw[ak h0];omega
 ·intro h12;have:=(h.deep _ _ hd ?_).2 h12
  ·simp[this,fE]
  ·rcases h.kind _ _ hd with hk|hk
   ·have:=(h.file _ _ hd hk).1;rw[this] at hem; cases hem.1
   ·exact hk
 ·show(dr t.ae d s).length<=200
  rw[hw,xt h.jB.ju (o:=n) (by simp only[hi]; exact hd)]
  exact h.ae
def cn.qY{t:Tree}{cf:Int->Nat}{x d:Int}{n m:Node}{s:Bytes}(h:cn t cf x)(hd:find t.ae d=some n)(hk:n.kind=2)(he:dX n.aM s=none)(h64:n.aM.length<64)(hnm:Nm s)
  (hx:find t.ae x=some m) (hx1:x≠1) (hup:m.kind=2->m.up=d) (hdp:cf d<12) (hck:t.ai<1099511627776):cn (gI t d s x) cf 0:=by
 have hE:oT n.aM:=h.jB.aM n (cg hd).1;have hi:n.au=d:=h.au hd;have hcw:mG (t.ai+1)=t.ai+1:=gx (by have:=h.ai; omega) (by omega)
 have hw:gI t d s x=⟨eI t.ae { n with aM:=sQ n.aM ⟨s,x,t.ai⟩ },t.next,t.ai+1⟩:=by simp only[gI,hd,bz,hcw]
 have hfn:dX n.aM (ew.mk s x t.ai).name=none:=he
 have hc:∀i,qN (gI t d s x).ae i=qN t.ae i+(if x=i then 1 else 0):=by
  intro i;have h1:=uJ h.jB.ju { n with aM:=sQ n.aM ⟨s,x,t.ai⟩ } i
  have h2:=Nc hE hfn i;rw[hw];have h3:bD t.ae n.au=n:=by simp only[bD,hi,hd,bz]
  simp only[h3] at h1 h2 ⊢;omega
 have hff:∀i,find (gI t d s x).ae i=if i=d then some { n with aM:=sQ n.aM ⟨s,x,t.ai⟩ } else find t.ae i:=by
  intro i;rw[hw];have:=gJ h.jB.ju { n with aM:=sQ n.aM ⟨s,x,t.ai⟩ } i
  rw[this];simp only[hi]
 refine h.gv (h.jB.qY d s x (by simp[bD,hd,he])) hd hff rfl rfl ?_ ?_ ?_ ?_ ?_ (fun _=>rfl) ?_ ?_ ?_ ?_ ?_
 ·intro hk1; omega
 ·exact h.dir _ _ hd
 ·intro e hem;rw[hw];rcases(wN hE hfn).1 hem with rfl|hem
  ·exact⟨h.ai.1,by simp only; omega,hx1,hnm,m,hx,hup⟩
  ·obtain⟨a1,a2,a3,a4,a5⟩:=h.wB _ _ e hd hem;exact⟨a1,by simp only; omega,a3,a4,a5⟩
 ·refine⟨?_,by simp only[uR hE hfn,aJ,av,gb,iQ]; omega⟩
  rw[uR hE hfn];have hp:=(h.xJ _ _ hd).1;rw[<-cD (lq n.aM s) n.aM,dw] at hp;obtain⟨p1,p2,p3⟩:=hp;rw[dw];refine⟨p1,bF.2 ⟨fun a ha=>?_,p2⟩,fun a ha c hc=>?_⟩
  ·have:=(h.wB _ _ a hd (dv ha)).2.1;simp only; omega
  ·rcases bb.1 hc with rfl|hc
   ·have:=(h.wB _ _ a hd (di ha)).2.1;simp only; omega
   ·exact p3 a ha c hc
 ·intro i h0;have h1:=hc i;rw[ak (show i≠0 by omega)]
  have e1:(if i=d then (n.dj-n.dj:Int) else 0)=0:=by split<;>omega
  simp only[e1]
  by_cases h0:i=x
  ·subst h0;simp only[↓reduceIte] at h1 ⊢;omega
  ·rw[ak (fun hh=>h0 hh.symm)] at h1
   rw[ak h0];omega
 ·intro h12; omega
 ·rw[hw];simp only;rw[xt h.jB.ju (o:=n) (by simp only[hi]; exact hd)]
  exact h.ae
 ·rw[hw]
 ·rw[hw]; simp only; omega
 ·rw[hw]; simp only; omega
def cn.XP{t:Tree}{cf:Int->Nat}{x x' d:Int}{n n':Node}(h:cn t cf x)(hd:find t.ae d=some n)(hk:n.kind=1)(hi':n'.au=d)(hk':n'.kind=1)(hu:n'.up=n.up)(he:n'.aM=n.aM)(hda:n'.data.length<=4096)
  (hx:∀i:Int,1<=i->(if i=x' then 1 else 0:Int)=(if i=x then 1 else 0)+(if i=d then n'.dj-n.dj else 0)):cn ⟨eI t.ae n',t.next,t.ai⟩ cf x':=by
 have hi:n.au=d:=h.au hd;have hE:oT n'.aM:=by rw[he]; exact h.jB.aM n (cg hd).1
 have hff:∀i,find (eI t.ae n') i=if i=d then some n' else find t.ae i:=by
  intro i;rw[gJ h.jB.ju n' i,hi']
 obtain⟨f1,f2,f3⟩:=h.file _ _ hd hk;refine h.gv (h.jB.with hE t.next t.ai) hd hff (by omega) hu ?_ ?_ ?_ ?_ ?_ ?_ ?_ ?_ rfl (fG _) h.ai.2
 ·intro _; exact⟨by rw[he]; exact f1,hda⟩
 ·intro h2; omega
 ·intro e hem; rw[he,f1] at hem; cases hem
 ·rw[he,f1]; exact⟨List.Pairwise.nil,by simp⟩
 ·intro i h0;have h1:=uJ h.jB.ju n' i;have h2:=hx i h0;simp only[bD,hi',hd,bz,he] at h1;simp only;omega
 ·intro h2; omega
 ·intro _; rw[he,f1]
 ·simp only;rw[xt h.jB.ju (o:=n) (by simp only[hi']; exact hd)]
  exact h.ae
def cn.named{t:Tree}{cf:Int->Nat}{x:Int}(h:cn t cf x){i:Int}{n:Node}(hi:find t.ae i=some n)(hk:n.kind=2)(h1:i≠1)(hx:i≠x):∃p e,find t.ae n.up=some p/\p.kind=2/\e∈p.aM/\e.au=i:=by
 have a:=h.dj _ _ hi;have b:=h.one _ _ hi hk h1;rw[ak hx] at a;obtain⟨m,e,e1,e2,e3⟩:=qV.1 (show 0<qN t.ae i by omega)
 have hm:find t.ae m.au=some m:=(ft h.jB.ju).2 ⟨e1,rfl⟩;obtain⟨_,_,_,_,k,k1,k2⟩:=h.wB _ _ e hm e2;rw[e3,hi] at k1; cases k1;obtain⟨_,p,p1,p2⟩:=h.sy _ _ hi hk h1;rw[k2 hk] at p1 ⊢;rw[hm] at p1; cases p1;exact⟨m,e,hm,p2,e2,e3⟩
def cn.drop{t:Tree}{cf:Int->Nat}{x k:Int}{n:Node}(h:cn t cf x)(hx:x=k\/x=0)(hk:find t.ae k=some n)(he:n.aM=[])(h1:k≠1)(hc:qN t.ae k=0):cn ⟨iP t.ae k,t.next,t.ai⟩ cf 0:=by
 have hff:∀i m,find (iP t.ae k) i=some m↔i≠k/\find t.ae i=some m:=by
  intro i m;rw[rU h.jB.ju];split<;>simp_all
 have hcn:∀i,qN (iP t.ae k) i=qN t.ae i:=by
  intro i;have:=y8 h.jB.ju k i;simp only[bD,hk,bz,he,uI] at this;omega
 have hno:∀i m e,find t.ae i=some m->e∈m.aM->e.au≠k:=by
  intro i m e hm hem hh;have:=qV.2 ⟨m,e,(cg hm).1,hem,hh⟩;omega
 refine⟨h.jB.zD k t.next t.ai,?_,?_,?_,?_,?_,?_,?_,?_,?_,h.y9,?_,?_,?_,h.next,h.ai⟩
 ·obtain⟨r,r1,r2⟩:=h.root;exact⟨r,(hff _ _).2 ⟨fun hh=>h1 hh.symm,r1⟩,r2⟩
 ·intro i m hm; exact h.num _ _ ((hff _ _).1 hm).2
 ·intro i m hm; exact h.kind _ _ ((hff _ _).1 hm).2
 ·intro i m hm; exact h.file _ _ ((hff _ _).1 hm).2
 ·intro i m hm; exact h.dir _ _ ((hff _ _).1 hm).2
 ·intro i m e hm hem;have hm':=((hff _ _).1 hm).2;obtain⟨a1,a2,a3,a4,q,a5,a6⟩:=h.wB _ _ e hm' hem;exact⟨a1,a2,a3,a4,q,(hff _ _).2 ⟨hno _ _ e hm' hem,a5⟩,a6⟩
 ·intro i m hm; exact h.xJ _ _ ((hff _ _).1 hm).2
 ·intro i m hm;obtain⟨m1,m2⟩:=(hff _ _).1 hm;have:=h.dj _ _ m2;have h0:=(h.num _ _ m2).1;rw[ak (show i≠0 by omega)]
  rw[ak (by rcases hx with rfl|rfl<;>omega)] at this
  simp only[hcn];exact this
 ·intro i m hm; exact h.one _ _ ((hff _ _).1 hm).2
 ·intro i m hm hk2 hi1;obtain⟨m1,m2⟩:=(hff _ _).1 hm;obtain⟨a,p,b,c⟩:=h.sy _ _ m2 hk2 hi1;refine⟨a,p,(hff _ _).2 ⟨fun hh=>?_,b⟩,c⟩
  have h0:=(h.num _ _ m2).1;obtain⟨q,e,q1,_,q3,_⟩:=h.named m2 hk2 hi1 (by rcases hx with rfl|rfl<;>omega)
  rw[hh,hk] at q1; cases q1;rw[he] at q3; cases q3
 ·intro i m hm; exact h.deep _ _ ((hff _ _).1 hm).2
 ·exact bh (fa _ _) h.ae
def cn.ah3{t:Tree}{cf dep':Int->Nat}{x to:Int}{n p:Node}(h:cn t cf x)(hx:find t.ae x=some n)(hk:n.kind=2)(hx1:x≠1)(hp:find t.ae to=some p)(hpk:p.kind=2)
  (h1:dep' 1=0) (hds:∀i m,find t.ae i=some m->m.kind=2->i≠1->i≠x->dep' i=dep' m.up+1) (hdx:dep' x=dep' to+1)
  (hdeep:∀i m,find t.ae i=some m->m.kind=2->dep' i<=12/\(dep' i=12->m.aM=[])):cn ⟨eI t.ae { n with up:=to },t.next,t.ai⟩ dep' x:=by
 have hi:n.au=x:=h.au hx
 have hff:∀i,find (eI t.ae { n with up:=to }) i=if i=x then some { n with up:=to } else find t.ae i:=by
  intro i;rw[gJ h.jB.ju { n with up:=to } i]
  simp only[hi]
 have rb:∀j m,find t.ae j=some m->∃m',find (eI t.ae { n with up:=to }) j=some m'/\m'.kind=m.kind/\(j≠x->m'.up=m.up):=by
  intro j m hm;rw[hff];split
  ·rename_i he;subst he;rw[hx] at hm; cases hm;exact⟨_,rfl,rfl,fun hh=>absurd rfl hh⟩
  ·exact⟨m,hm,rfl,fun _=>rfl⟩
 have back:∀j m',find (eI t.ae { n with up:=to }) j=some m'->(j=x/\m'={ n with up:=to })\/(j≠x/\find t.ae j=some m'):=by
  intro j m' hm;rw[hff] at hm;split at hm
  ·rename_i he; injection hm with hm; exact .inl ⟨he,hm.symm⟩
  ·rename_i he; exact .inr ⟨he,hm⟩
 have hcn:∀i,qN (eI t.ae { n with up:=to }) i=qN t.ae i:=by
  intro i;have:=uJ h.jB.ju { n with up:=to } i
  have h3:bD t.ae n.au=n:=by simp only[bD,hi,hx,bz]
  simp only[h3] at this;omega
 have hc0:qN t.ae x=0:=by
  have a:=h.dj _ n hx;have b:=h.one _ n hx hk hx1;simp only[↓reduceIte] at a;omega
 have hno:∀i m e,find t.ae i=some m->e∈m.aM->e.au≠x:=by
  intro i m e hm hem hh;have:=qV.2 ⟨m,e,(cg hm).1,hem,hh⟩;omega
 have hent:∀i m e,find t.ae i=some m->e∈m.aM->1<=e.ai/\e.ai<t.ai/\e.au≠1/\Nm e.name/\∃m,find (eI t.ae { n with up:=to }) e.au=some m/\(m.kind=2->m.up=i):=by
  intro i m e hm hem;obtain⟨a1,a2,a3,a4,q,a5,a6⟩:=h.wB _ _ e hm hem;obtain⟨q',j1,j2,j3⟩:=rb _ _ a5;exact⟨a1,a2,a3,a4,q',j1,fun hk=>by rw[j3 (hno _ _ e hm hem)]; exact a6 (by omega)⟩
 refine⟨h.jB.with (n:={ n with up:=to }) (h.jB.aM n (cg hx).1) t.next t.ai,?_,?_,?_,?_,?_,?_,?_,?_,?_,h1,?_,?_,?_,h.next,h.ai⟩
 ·obtain⟨r,r1,r2,r3⟩:=h.root;obtain⟨r',k1,k2,k3⟩:=rb _ _ r1;exact⟨r',k1,by omega,by rw[k3 (fun hh=>hx1 hh.symm)]; exact r3⟩
 ·intro i m hm;rcases back i m hm with ⟨rfl,rfl⟩|⟨_,hm⟩
  ·exact h.num _ n hx
  ·exact h.num _ _ hm
 ·intro i m hm;rcases back i m hm with ⟨rfl,rfl⟩|⟨_,hm⟩
  ·exact h.kind _ n hx
  ·exact h.kind _ _ hm
 ·intro i m hm hk1;rcases back i m hm with ⟨rfl,rfl⟩|⟨_,hm⟩
  ·simp only at hk1; omega
  ·exact h.file _ _ hm hk1
 ·intro i m hm hk1;rcases back i m hm with ⟨rfl,rfl⟩|⟨_,hm⟩
  ·exact h.dir _ n hx hk
  ·exact h.dir _ _ hm hk1
 ·intro i m e hm hem;rcases back i m hm with ⟨rfl,rfl⟩|⟨_,hm⟩
  ·exact hent _ n e hx hem
  ·exact hent _ _ e hm hem
 ·intro i m hm;rcases back i m hm with ⟨rfl,rfl⟩|⟨_,hm⟩
  ·exact h.xJ _ n hx
  ·exact h.xJ _ _ hm
 ·intro i m hm;simp only[hcn];rcases back i m hm with ⟨rfl,rfl⟩|⟨_,hm⟩
  ·exact h.dj _ n hx
  ·exact h.dj _ _ hm
 ·intro i m hm hk1 hi1;rcases back i m hm with ⟨rfl,rfl⟩|⟨_,hm⟩
  ·exact h.one _ n hx hk hi1
  ·exact h.one _ _ hm hk1 hi1
 ·intro i m hm hk1 hi1;rcases back i m hm with ⟨rfl,rfl⟩|⟨hne,hm⟩
  ·obtain⟨p',k1,k2,_⟩:=rb _ _ hp;exact⟨hdx,p',k1,by omega⟩
  ·obtain⟨_,q,b,c⟩:=h.sy _ _ hm hk1 hi1;obtain⟨q',k1,k2,_⟩:=rb _ _ b;exact⟨hds _ _ hm hk1 hi1 hne,q',k1,by omega⟩
 ·intro i m hm hk1;rcases back i m hm with ⟨rfl,rfl⟩|⟨_,hm⟩
  ·exact hdeep _ n hx hk
  ·exact hdeep _ _ hm hk1
 ·simp only;rw[xt h.jB.ju (o:=n) (by simp only[hi]; exact hx)]
  exact h.ae
def cn.made{t:Tree}{cf:Int->Nat}{d kind:Int}{p:Node}(h:cn t cf 0)(hp:find t.ae d=some p)(hpk:p.kind=2)(hk:kind=1\/kind=2)(hdp:cf d<12)(hl:t.ae.length<200)(hn:t.next<1099511627776) :
  cn ⟨eI t.ae ⟨t.next,kind,1,[],[],if kind==2 then d else 0⟩,t.next+1,t.ai⟩ (fun i=>if i=t.next then cf d+1 else cf i) t.next:=by
 have iq:find t.ae t.next=none:=by
  cases hz:find t.ae t.next with
  |none=>rfl
  |some m=>have:=h.num _ _ hz; omega
 have hnx:2<=t.next:=by
  obtain⟨r,r1,_⟩:=h.root;have:=(h.num _ _ r1).2; omega
 generalize hn':Node.mk t.next kind 1 [] [] (if kind==2 then d else 0)=n'
 have i1:n'.au=t.next:=by rw[<-hn']
 have i2:n'.kind=kind:=by rw[<-hn']
 have i3:n'.dj=1:=by rw[<-hn']
 have i4:n'.data=[]:=by rw[<-hn']
 have i5:n'.aM=[]:=by rw[<-hn']
 have i6:n'.up=if kind==2 then d else 0:=by rw[<-hn']
 have hff:∀i,find (eI t.ae n') i=if i=t.next then some n' else find t.ae i:=by
  intro i;rw[gJ h.jB.ju n' i,i1]
 have rb:∀j m,find t.ae j=some m->find (eI t.ae n') j=some m/\j≠t.next:=by
  intro j m hm;have:=(h.num _ _ hm).2;rw[hff,ak (by omega)]
  exact⟨hm,by omega⟩
 have back:∀j m',find (eI t.ae n') j=some m'->(j=t.next/\m'=n')\/(j≠t.next/\find t.ae j=some m'):=by
  intro j m' hm;rw[hff] at hm;split at hm
  ·rename_i he; injection hm with hm; exact .inl ⟨he,hm.symm⟩
  ·rename_i he; exact .inr ⟨he,hm⟩
 have hcn:∀i,qN (eI t.ae n') i=qN t.ae i:=by
  intro i;have:=uJ h.jB.ju n' i;simp only[bD,i1,iq,mZ,Node.zero,i5,uI] at this;omega
 have hc0:qN t.ae t.next=0:=by
  rcases fA (qN t.ae t.next) with h0|h0
  ·exact h0
  ·obtain⟨m,e,e1,e2,e3⟩:=qV.1 h0;obtain⟨_,_,_,_,k,k1,_⟩:=h.wB _ _ e ((ft h.jB.ju).2 ⟨e1,rfl⟩) e2;rw[e3,iq] at k1; cases k1
 refine⟨h.jB.with (n:=n') (by rw[i5]; exact List.Pairwise.nil) _ _,?_,?_,?_,?_,?_,?_,?_,?_,?_,?_,?_,?_,?_,?_,h.ai⟩
 ·obtain⟨r,r1,r2⟩:=h.root;exact⟨r,(rb _ _ r1).1,r2⟩
 ·intro i m hm;simp only;rcases back i m hm with ⟨rfl,rfl⟩|⟨_,hm⟩
  ·omega
  ·have:=h.num _ _ hm; omega
 ·intro i m hm;rcases back i m hm with ⟨rfl,rfl⟩|⟨_,hm⟩
  ·rw[i2]; exact hk
  ·exact h.kind _ _ hm
 ·intro i m hm hk1;rcases back i m hm with ⟨rfl,rfl⟩|⟨_,hm⟩
  ·rw[i2] at hk1;exact⟨i5,by rw[i6,hk1]; rfl,by rw[i4]; simp⟩
  ·exact h.file _ _ hm hk1
 ·intro i m hm hk1;rcases back i m hm with ⟨rfl,rfl⟩|⟨_,hm⟩
  ·exact i4
  ·exact h.dir _ _ hm hk1
 ·intro i m e hm hem;rcases back i m hm with ⟨rfl,rfl⟩|⟨_,hm⟩
  ·rw[i5] at hem; cases hem
  ·obtain⟨a1,a2,a3,a4,q,a5,a6⟩:=h.wB _ _ e hm hem;exact⟨a1,a2,a3,a4,q,(rb _ _ a5).1,a6⟩
 ·intro i m hm;rcases back i m hm with ⟨rfl,rfl⟩|⟨_,hm⟩
  ·rw[i5]; exact⟨List.Pairwise.nil,by simp⟩
  ·exact h.xJ _ _ hm
 ·intro i m hm;simp only[hcn];rcases back i m hm with ⟨rfl,rfl⟩|⟨hne,hm⟩
  ·rw[hc0,i3]; simp
  ·rw[ak hne];have:=h.dj _ _ hm;rw[ak (by have:=(h.num _ _ hm).1; omega)] at this
   exact this
 ·intro i m hm hk1 hi1;rcases back i m hm with ⟨rfl,rfl⟩|⟨_,hm⟩
  ·exact i3
  ·exact h.one _ _ hm hk1 hi1
 ·show(if (1:Int)=t.next then cf d+1 else cf 1)=0
  rw[ak (by omega)]; exact h.y9
 ·intro i m hm hk1 hi1
  show(if i=t.next then cf d+1 else cf i)=(if m.up=t.next then cf d+1 else cf m.up)+1/\_
  rcases back i m hm with ⟨rfl,rfl⟩|⟨hne,hm⟩
  ·rw[i2] at hk1;have hu:m.up=d:=by rw[i6,hk1]; rfl
   rw[hu,az rfl,ak (rb _ _ hp).2];exact⟨rfl,p,(rb _ _ hp).1,hpk⟩
  ·obtain⟨a,q,b,c⟩:=h.sy _ _ hm hk1 hi1;rw[ak hne,ak (rb _ _ b).2];exact⟨a,q,(rb _ _ b).1,c⟩
 ·intro i m hm hk1
  show(if i=t.next then cf d+1 else cf i)<=12/\((if i=t.next then cf d+1 else cf i)=12->_)
  rcases back i m hm with ⟨rfl,rfl⟩|⟨hne,hm⟩
  ·rw[az rfl]; exact⟨by omega,fun _=>i5⟩
  ·rw[ak hne]; exact h.deep _ _ hm hk1
 ·have:=Fs t.ae n';simp only; omega
 ·simp only; omega
def cover:∀(k:Nat)(l:List Nat),(∀j,j<k->j∈l)->k<=l.length
 |0,_,_=>cy _
 |k+1,l,h=>by
  have hk:=h k (by omega)
  have:=cover k (l.erase k) (fun j hj=>(List.mem_erase_of_ne (by omega)).2 (h j (by omega)))
  rw[List.length_erase_of_mem hk] at this;have:=List.length_pos_of_mem hk;omega
def cn.aid{t:Tree}{cf:Int->Nat}{x:Int}(h:cn t cf x):∀(m:Nat)(i:Int)(n:Node),find t.ae i=some n->n.kind=2->cf i=m->∀k,k<=m->∃j p,find t.ae j=some p/\cf j=k:=by
 intro m;induction m with
 |zero=>intro i n hi _ hm k hk; exact⟨i,n,hi,by omega⟩
 |succ m ih =>
  intro i n hi hk2 hm k hk;rcases Nat.eq_or_lt_of_le hk with rfl|cr
  ·exact⟨i,n,hi,hm⟩
  ·have h1:i≠1:=fun hh=>by subst hh; have:=h.y9; omega
   obtain⟨a,p,b,c⟩:=h.sy _ _ hi hk2 h1;exact ih _ p b c (by omega) k (by omega)
def cn.yh{t:Tree}{cf:Int->Nat}{x:Int}(h:cn t cf x){i:Int}{n:Node}(hi:find t.ae i=some n)(hk:n.kind=2):cf i<t.ae.length:=by
 have:=cover (cf i+1) (t.ae.map fun n=>cf n.au) (fun j hj=>by
  obtain⟨a,p,h1,h2⟩:=h.aid _ _ _ hi hk rfl j (by omega)
  rw[bR];exact⟨p,(cg h1).1,by rw[(cg h1).2,h2]⟩)
 rw[aH] at this;omega
def cn.JP{t:Tree}{cf:Int->Nat}{x:Int}(h:cn t cf x):∀(m:Nat)(i:Int)(d:Nat)(n:Node),find t.ae i=some n->n.kind=2->cf i<=m->vu t.ae m i d=d+cf i:=by
 intro m;induction m with
 |zero=>intro i d n _ _ hd; simp only[vu]; omega
 |succ m ih =>
  intro i d n hi hk hd;simp only[vu];split
  ·rename_i h1; subst h1; have:=h.y9; omega
  ·rename_i h1;obtain⟨a,p,b,c⟩:=h.sy _ _ hi hk h1;have hu:OD t.ae i=n.up:=by simp[OD,hi]
   rw[hu,ih _ _ p b c (by omega)]
   omega
def cn.pD{t:Tree}{cf:Int->Nat}{x:Int}(h:cn t cf x){i:Int}{n:Node}(hi:find t.ae i=some n)(hk:n.kind=2):ph t.ae i=cf i:=by
 have:=h.JP 201 i 0 n hi hk (by have:=(h.deep _ _ hi hk).1; omega)
 simp only[ph,this]; omega
def cn.xE{t:Tree}{cf:Int->Nat}{x:Int}(h:cn t cf x):∀(m:Nat)(i:Int)(out:List Int)(n:Node),find t.ae i=some n->n.kind=2->cf i<=m->(ru t.ae m i out).length=out.length+cf i:=by
 intro m;induction m with
 |zero=>intro i out n _ _ hd; simp only[ru]; omega
 |succ m ih =>
  intro i out n hi hk hd;simp only[ru]
  by_cases h1:i=1
  ·subst h1; have:=h.y9; simp; omega
  ·obtain⟨a,p,b,c⟩:=h.sy _ _ hi hk h1;simp only[gd,ne_eq,h1,mc,↓reduceIte,bD,hi,c9,cU,bz,hk,an,dE,af];rw[ih _ _ p b c (by omega)]
   simp only[aJ,av,aG];omega
def cn.sn{t:Tree}{cf:Int->Nat}{x:Int}(h:cn t cf x){i:Int}{n:Node}(hi:find t.ae i=some n)(hk:n.kind=2):(rS t.ae i).length=cf i+1:=by
 have:=h.xE t.ae.length i [i] n hi hk (by have:=h.yh hi hk; omega)
 simp only[rS,this,av,aG]; omega
def cn.Uk{t:Tree}{cf:Int->Nat}{x:Int}(_:cn t cf x){i:Int}{n:Node}(hi:find t.ae i=some n):OD t.ae i=n.up:=by simp[OD,hi]
def cn.Ci{t:Tree}{cf:Int->Nat}{x:Int}(h:cn t cf x)(of:Int):∀(m:Nat)(i:Int)(n:Node),find t.ae i=some n->n.kind=2->cf i<m->mg t.ae of m i=mg t.ae of (cf i+1) i:=by
 intro m;induction m with
 |zero=>intro i n _ _ hd; omega
 |succ m ih =>
  intro i n hi hk hd
  by_cases h1:i=1
  ·subst h1; simp only[mg]; split<;>rfl
  ·obtain⟨a,p,b,c⟩:=h.sy _ _ hi hk h1;simp only[mg,h1,↓reduceIte,h.Uk hi];rw[ih _ p b c (by omega),a]
def cn.rC{t:Tree}(i:Int):iR t.ae i i=true:=by simp[iR,mg]
def cn.yc{t:Tree}{of:Int}(h1:of≠1):iR t.ae 1 of=false:=by
 simp only[iR,mg];rw[ak (fun hh=>h1 hh.symm)]
 rfl
def cn.yU{t:Tree}{cf:Int->Nat}{x:Int}(h:cn t cf x){of i:Int}{n:Node}(hi:find t.ae i=some n)(hk:n.kind=2)(h1:i≠1)(ho:i≠of):iR t.ae i of=iR t.ae n.up of:=by
 obtain⟨a,p,b,c⟩:=h.sy _ _ hi hk h1;have d1:=h.yh b c;have d2:=h.yh hi hk;simp only[iR];rw[h.Ci of _ _ p b c (by omega)]
 rw[h.Ci of _ _ n hi hk (by omega)]
 conv=>lhs; rw[mg]
 simp only[ho,h1,↓reduceIte,h.Uk hi];rw[a]
def cn.zO{t:Tree}{cf:Int->Nat}{x:Int}(h:cn t cf x){of:Int}:∀(m:Nat)(i:Int)(n:Node),find t.ae i=some n->n.kind=2->cf i=m->iR t.ae i of=true->cf of<=cf i:=by
 intro m;induction m with
 |zero =>
  intro i n hi hk hm hb
  by_cases h1:i=1
  ·by_cases h2:of=1
   ·subst h1; subst h2; exact ar _
   ·subst h1; rw[cn.yc h2] at hb; cases hb
  ·obtain⟨a,_⟩:=h.sy _ _ hi hk h1;omega
 |succ m ih =>
  intro i n hi hk hm hb;have h1:i≠1:=fun hh=>by subst hh; have:=h.y9; omega
  obtain⟨a,p,b,c⟩:=h.sy _ _ hi hk h1
  by_cases ho:i=of
  ·subst ho; exact ar _
  ·rw[h.yU hi hk h1 ho] at hb;have:=ih _ p b c (by omega) hb
   omega
def tQ{α:Type}[DecidableEq α]:∀(l k:List α),l.Nodup->(∀x,x∈l->x∈k)->l.length<=k.length
 | [],_,_,_=>cy _
 |a::l,k,h,hs=>by
  have ha:=hs a aD;obtain⟨h1,h2⟩:=gW.1 h;have:=tQ l (k.erase a) h2 (fun x hx=>(List.mem_erase_of_ne (by rintro rfl; exact h1 hx)).2 (hs x (aO _ hx)))
  rw[List.length_erase_of_mem ha] at this;have:=List.length_pos_of_mem ha;simp only[av];omega
def cn.few{t:Tree}{cf:Int->Nat}{x:Int}(h:cn t cf x){i:Int}{n:Node}(hi:find t.ae i=some n):n.aM.length<=64:=(h.xJ _ _ hi).2
def Px(i:Int):∀(ns:List Node),(∀n,n∈ns->n.aM.length<=64)->qN ns i<=64*ns.length
 | [],_=>cy _
 |n::ns,h=>by
  have h1:=Px i ns (fun m hm=>h m (aO _ hm))
  have h2:mW n.aM i<=n.aM.length:=kf;have h3:=h n aD;rw[qU,av];omega
def cn.JL{t:Tree}{cf:Int->Nat}{x:Int}(h:cn t cf x)(i:Int):qN t.ae i<=12800:=by
 have:=Px i t.ae (fun n hn=>h.few ((ft h.jB.ju).2 ⟨hn,rfl⟩))
 have:=h.ae;omega
def cn.vw{t:Tree}{cf:Int->Nat}{x:Int}(h:cn t cf x){i:Int}{n:Node}(hi:find t.ae i=some n){e:ew}(he:e∈n.aM):e.au≠i:=by
 intro hh;obtain⟨_,_,h1,_,m,hm,hu⟩:=h.wB _ _ e hi he;rw[hh,hi] at hm; cases hm
 have hk:n.kind=2:=by
  rcases h.kind _ _ hi with hk|hk
  ·rw[(h.file _ _ hi hk).1] at he; cases he
  ·exact hk
 have:=(h.sy _ _ hi hk (by omega)).1
 rw[hu hk] at this;omega
def Cw{t:Tree}{au:Int}{s:Bytes}(h:(mn t au s != 0)=false):∃d,find t.ae au=some d/\d.kind=2/\dB s=true/\dX d.aM s=none/\d.aM.length<64/\ph t.ae au<12/\t.ai<1099511627776:=by
 have h0:mn t au s=0:=by simpa using h
 unfold mn at h0;split at h0
 ·rename_i h1; exact absurd h0 h1
 ·rename_i h1;obtain⟨d,d1,d2,d3⟩:=yi (show(gw t.ae au).2=0 by omega)
  rw[d3] at h0;split at h0
  ·cases h0
  ·rename_i h2;split at h0
   ·cases h0
   ·rename_i h3;split at h0
    ·cases h0
    ·rename_i h4;simp only[CJ,(cg d1).2,cJ,bt,kH] at h4;refine⟨d,d1,d2,by simpa using h2,by simpa using h3,by omega,by omega,by omega⟩
def cn.cw{t:Tree}{cf:Int->Nat}{x:Int}(h:cn t cf x)(hn:t.next<1099511627776):mG (t.next+1)=t.next+1:=gx (by
 obtain⟨r,r1,_⟩:=h.root;have:=h.num _ _ r1; omega) (by omega)
def B7{t:Tree}{cf:Int->Nat}(h:cn t cf 0)(au:Int)(s:Bytes)(kind:Int)(hs:dB s=true->Nm s):∃dep',cn (nk t au s kind).1 dep' 0:=by
 unfold nk;split
 ·exact⟨cf,h⟩
 ·rename_i hk;split
  ·exact⟨cf,h⟩
  ·rename_i he;split
   ·exact⟨cf,h⟩
   ·rename_i hb;obtain⟨d,d1,d2,d3,d4,d5,d6,d7⟩:=Cw (by simpa using he)
    simp only[cJ,bt,kH] at hb;have hn:t.next<1099511627776:=by omega
    rw[h.pD d1 d2] at d6
    have hk':kind=1\/kind=2:=by
     simp only[bm,gd,ne_eq,not_and,ma] at hk
     by_cases h1:kind=1
     ·exact .inl h1
     ·exact .inr (hk h1)
    have hm:=h.made d1 d2 hk' d6 (by omega) hn
    rw[h.cw hn];have cr:=(h.num _ _ d1).2;have hne:au≠t.next:=by omega
    refine⟨_,hm.qY (d:=au) (n:=d) (m:=⟨t.next,kind,1,[],[],if kind==2 then au else 0⟩) ?_ d2 d4 (by simpa using d5) (hs d3) ?_ ?_ ?_ ?_ d7⟩
    ·simp only; rw[gJ h.jB.ju]; simp only[hne,↓reduceIte]; exact d1
    ·simp only; rw[gJ h.jB.ju]; simp only[↓reduceIte]
    ·have:=(h.num _ _ d1).1; omega
    ·intro h2;simp only at h2;simp[h2]
    ·simp only[hne,↓reduceIte]; exact d6
def LZ{t:Tree}{cf:Int->Nat}(h:cn t cf 0)(au to:Int)(s:Bytes)(hs:dB s=true->Nm s):cn (BC t au to s).1 cf 0:=by
 unfold BC;split
 ·exact h
 ·rename_i hf;split
  ·exact h
  ·rename_i hk;split
   ·exact h
   ·rename_i he;obtain⟨d,d1,d2,d3,d4,d5,d6,d7⟩:=Cw (by simpa using he)
    rw[h.pD d1 d2] at d6;cases hi:find t.ae au with
    |none=>simp[hi] at hf
    |some n =>
     simp only[bD,hi,bz] at hk ⊢
     have hk1:n.kind=1:=by
      rcases h.kind _ _ hi with h1|h1
      ·exact h1
      ·simp[h1] at hk
     have hlk:=h.dj _ _ hi;rw[ak (by have:=(h.num _ _ hi).1; omega)] at hlk
     have hcl:=h.JL au;have hw:mG (n.dj+1)=n.dj+1:=gx (by omega) (by omega)
     rw[hw];obtain⟨f1,f2,f3⟩:=h.file _ _ hi hk1
     have hg:=h.XP (n':={ n with dj:=n.dj+1 }) (x':=au) hi hk1 (cg hi).2 hk1 rfl rfl f3 (fun i h0=>by
      simp only;rw[ak (show i≠0 by omega)]
      split<;>omega)
     have hne:to≠au:=fun hh=>by subst hh; rw[hi] at d1; cases d1; omega
     refine hg.qY (d:=to) (n:=d) (m:={ n with dj:=n.dj+1 }) ?_ d2 d4 (by simpa using d5) (hs d3) ?_ ?_ ?_ d6 d7
     ·simp only; rw[gJ h.jB.ju]; simp only[h.au hi,hne,↓reduceIte]; exact d1
     ·simp only; rw[gJ h.jB.ju]; simp only[h.au hi,↓reduceIte]
     ·intro hh; subst hh;obtain⟨r,r1,r2,_⟩:=h.root;rw[hi] at r1; cases r1; omega
     ·intro h2; simp only at h2; omega
def cn.unnamed{t:Tree}{cf:Int->Nat}{k:Int}{n:Node}(h:cn t cf k)(hk:find t.ae k=some n)(he:n.aM=[])(h1:k≠1):cn ⟨gi t.ae k,t.next,t.ai⟩ cf 0:=by
 unfold gi;simp only[bD,hk,bz];have hl:=h.dj _ _ hk;simp only[↓reduceIte] at hl;split
 ·rename_i h2;have:=h.one _ _ hk (by simpa using h2) h1
  exact h.drop (.inl rfl) hk he h1 (by omega)
 ·rename_i h2
  have hk1:n.kind=1:=by
   rcases h.kind _ _ hk with h1|h1
   ·exact h1
   ·simp[h1] at h2
  have hcl:=h.JL k;have hw:mG (n.dj-1)=n.dj-1:=gx (by omega) (by omega)
  rw[hw];obtain⟨f1,f2,f3⟩:=h.file _ _ hk hk1
  exact h.XP (n':={ n with dj:=n.dj-1 }) (x':=0) hk hk1 (cg hk).2 hk1 rfl rfl f3 (fun i h0=>by
   simp only;rw[ak (show i≠0 by omega)]
   split<;>omega)
def cn.un{t:Tree}{cf:Int->Nat}(h:cn t cf 0){d:Int}{n m:Node}{s:Bytes}{e:ew}(hd:find t.ae d=some n)(he:dX n.aM s=some e)(hm:find t.ae e.au=some m)(hm0:m.aM=[]):cn ⟨gi (dr t.ae d s) e.au,t.next,t.ai⟩ cf 0:=by
 have hem:=(eu he).1;have hl:=h.left hd he;refine hl.unnamed (n:=m) ?_ hm0 (h.wB _ _ e hd hem).2.2.1;simp only;rw[iT h.jB.ju hd,ak (h.vw hd hem)];exact hm
def Gz{t:Tree}{cf:Int->Nat}(h:cn t cf 0)(au:Int)(s:Bytes):cn (vF t au s).1 cf 0:=by
 unfold vF;split
 ·exact h
 ·rename_i hl;obtain⟨d,e,d1,d2,d3,d4,d5⟩:=look_ok (by simpa using hl)
  rw[d5];split
  ·exact h
  ·rename_i h0;obtain⟨_,_,_,_,m,hm,_⟩:=h.wB _ _ e d1 (eu d4).1;simp only[bD,hm,bz,bt] at h0;exact h.un d1 d4 hm (cq.1 (by omega))
def Ec{t:Tree}{cf:Int->Nat}(h:cn t cf 0)(au:Int):cn (oN t au).1 cf 0:=by
 unfold oN;split
 ·exact h
 ·rename_i hf;split
  ·exact h
  ·rename_i hk;split
   ·exact h
   ·rename_i hd;cases hi:find t.ae au with
    |none=>simp[hi] at hf
    |some n =>
     simp only[bD,hi,bz] at hk hd
     have hk1:n.kind=1:=by
      rcases h.kind _ _ hi with h1|h1
      ·exact h1
      ·simp[h1] at hk
     simp only[bt] at hd;have hl:=h.dj _ _ hi;rw[ak (by have:=(h.num _ _ hi).1; omega)] at hl
     refine h.drop (.inr rfl) hi (h.file _ _ hi hk1).1 ?_ (by omega)
     intro hh; subst hh;obtain⟨r,r1,r2,_⟩:=h.root;rw[hi] at r1; cases r1; omega
def BJ:∀ {a b:List Node},nI a->nI b->(∀m,m∈a↔m∈b)->a=b
 | [],[],_,_,_=>rfl
 | [],y::b,_,_,h=>by have:=(h y).2 aD; cases this
 |x::a,[],_,_,h=>by have:=(h x).1 aD; cases this
 |x::a,y::b,ha,hb,h=>by
  obtain⟨a1,a2⟩:=bF.1 ha;obtain⟨b1,b2⟩:=bF.1 hb
  have hxy:x=y:=by
   rcases bb.1 ((h x).1 aD) with h1|h1
   ·exact h1
   ·rcases bb.1 ((h y).2 aD) with h2|h2
    ·exact h2.symm
    ·have:=b1 x h1; have:=a1 y h2; omega
  subst hxy;rw[BJ a2 b2 (fun m=>?_)]
  constructor
  ·intro hm;rcases bb.1 ((h m).1 (aO _ hm)) with h1|h1
   ·subst h1; have:=a1 m hm; omega
   ·exact h1
  ·intro hm;rcases bb.1 ((h m).2 (aO _ hm)) with h1|h1
   ·subst h1; have:=b1 m hm; omega
   ·exact h1
def PX{a b:List Node}(ha:nI a)(hb:nI b)(h:∀i,find a i=find b i):a=b :=
 BJ ha hb fun m=>by
  constructor
  ·intro hm;have:=(ft ha).2 ⟨hm,rfl⟩;rw[h] at this;exact(cg this).1
  ·intro hm;have:=(ft hb).2 ⟨hm,rfl⟩;rw[<-h] at this;exact(cg this).1
def vG{ae:List Node}(h:nI ae)(k:Int):nI (gi ae k):=by
 unfold gi;split
 ·exact te h _
 ·exact nG h _
def ll{ae:List Node}(h:nI ae)(k:Int)(s:Bytes):nI (dr ae k s):=nG h _
def xU(n:Node):Option Node:=if n.kind==2 then none else some { n with dj:=mG (n.dj-1) }
def pT{ae:List Node}(h:nI ae){k:Int}{n:Node}(hk:find ae k=some n)(i:Int):find (gi ae k) i=if i=k then xU n else find ae i:=by
 unfold gi xU;simp only[bD,hk,bz];split
 ·rw[rU h]
 ·rw[gJ h];simp only[(cg hk).2]
def JS(l:List ew)(a b:Bytes):fE (fE l a) b=fE (fE l b) a:=by
 simp only[fE,List.filter_filter];congr 1;funext e;rw[Bool.and_comm]
def Uj{ae:List Node}(h:nI ae){f to y:Int}{s nm:Bytes}{dF dT m:Node}(hF:find ae f=some dF)(hT:find ae to=some dT)(hy:find ae y=some m)(h1:y≠f)(h2:y≠to) :
  gi (dr (dr ae f s) to nm) y=dr (gi (dr ae to nm) y) f s:=by
 have a1:=ll h f s;have a2:=ll h to nm;have a3:=ll a1 to nm;have a4:=vG a2 y;have f1:=iT h hF (s:=s);have f2:=iT h hT (s:=nm);have hy1:find (dr ae to nm) y=some m:=by rw[f2,ak h2]; exact hy
 have f4:=pT a2 hy1;obtain⟨dT',hT'⟩:∃dT',find (dr ae f s) to=some dT':=by rw[f1]; split<;>simp_all
 have f3:=iT a1 hT' (s:=nm);have hy3:find (dr (dr ae f s) to nm) y=some m:=by rw[f3,ak h2,f1,ak h1]; exact hy
 have f5:=pT a3 hy3;obtain⟨dF',hF'⟩:∃dF',find (gi (dr ae to nm) y) f=some dF':=by rw[f4,ak (fun hh=>h1 hh.symm),f2]; split<;>simp_all
 have f6:=iT a4 hF' (s:=s);refine PX (vG a3 y) (ll a4 f s) (fun i=>?_)
 rw[f5,f6,f4,f3];rw[f1] at hT';rw[f4,ak (fun hh=>h1 hh.symm),f2] at hF'
 by_cases i1:i=y
 ·subst i1; simp[h1]
 ·simp only[i1,↓reduceIte]
  by_cases i2:i=to
  ·subst i2;simp only[↓reduceIte]
   by_cases i3:i=f
   ·subst i3;simp only[↓reduceIte] at hT' hF' ⊢;injection hT' with hT'; injection hF' with hF'
    rw[<-hT',<-hF'];rw[hF] at hT; cases hT;simp only[JS]
   ·simp only[i3,↓reduceIte] at hT' ⊢;rw[f2]; simp only[↓reduceIte];rw[hT] at hT'; injection hT' with hT'; rw[hT']
  ·simp only[i2,↓reduceIte];rw[f1,f2]
   by_cases i3:i=f
   ·subst i3;simp only[↓reduceIte,i2] at hF' ⊢;rw[hF] at hF'; injection hF' with hF'; rw[hF']
   ·simp only[i3,i2,↓reduceIte]
def Hl{l:List ew}{s:Bytes}{e:ew}(h:dX l s=some e):(fE l s).length<l.length:=by
 obtain⟨h1,h2⟩:=eu h;refine Nat.lt_of_le_of_ne (fa _ _) fun hh=>?_
 have:=List.length_filter_eq_length_iff.1 hh e h1;simp[h2] at this
def cn.Y8{t:Tree}{cf dep':Int->Nat}{f to:Int}{s nm:Bytes}{dF dT m:Node}{e:ew}(h:cn t cf 0)(hF:find t.ae f=some dF)(he:dX dF.aM s=some e)(hT:find t.ae to=some dT)(hTk:dT.kind=2)(hfree:dX dT.aM nm=none)(hroom:to≠f->dT.aM.length<64)(hnm:Nm nm)
  (hm:find t.ae e.au=some m) (hne:e.au≠to) (hd12:dep' to<12) (hck:t.ai<1099511627776)
  (hcase:(m.kind=1/\dep'=cf)\/(m.kind=2/\dep' 1=0/\(∀i n,find t.ae i=some n->n.kind=2->i≠1->i≠e.au->dep' i=dep' n.up+1)/\dep' e.au=dep' to+1 /\
   ∀i n,find t.ae i=some n->n.kind=2->dep' i<=12/\(dep' i=12->n.aM=[]))):cn (nU t f s to nm e.au 0) dep' 0:=by
 have hem:=(eu he).1;have hnf:e.au≠f:=h.vw hF hem;have h1:e.au≠1:=(h.wB _ _ e hF hem).2.2.1;have hl:=h.left hF he;have fl:=iT h.jB.ju hF (s:=s);have hmx:find (dr t.ae f s) e.au=some m:=by rw[fl,ak hnf]; exact hm
 obtain⟨d1,g1,g2,g3,g4⟩:∃d1,find (dr t.ae f s) to=some d1/\d1.kind=2/\dX d1.aM nm=none/\d1.aM.length<64:=by
  rw[fl];split
  ·rename_i hh;subst hh;rw[hF] at hT; cases hT;exact⟨_,rfl,hTk,rK hfree,bp (Hl he) (h.few hF)⟩
  ·rename_i hh;exact⟨dT,hT,hTk,hfree,hroom hh⟩
 have hnode:bD t.ae e.au=m:=by simp[bD,hm]
 unfold nU;simp only[hnode,an,af,↓reduceIte];rcases hcase with ⟨hk,rfl⟩|⟨hk,c1,c2,c3,c4⟩
 ·rw[ak (by simp[hk])]
  exact hl.qY g1 g2 g3 g4 hnm hmx h1 (fun h2=>by omega) hd12 hck
 ·rw[az (by simp[hk])]
  have hs:=hl.ah3 (dep':=dep') hmx hk h1 g1 g2 c1 (fun i n hi hk2 hi1 hie=>by
    simp only[fl] at hi;split at hi
    ·rename_i hh; subst hh;cases hi;exact c2 i dF hF hk2 hi1 hie
    ·exact c2 _ _ hi hk2 hi1 hie) c3 (fun i n hi hk2=>by
    simp only[fl] at hi;split at hi
    ·rename_i hh; subst hh;cases hi;obtain⟨q1,q2⟩:=c4 i dF hF hk2;exact⟨q1,fun h12=>by simp[q2 h12,fE]⟩
    ·exact c4 _ _ hi hk2)
  have hmi:m.au=e.au:=(cg hm).2;have fw:=gJ (ll h.jB.ju f s) { m with up:=to }
  refine hs.qY (n:=d1) (m:={ m with up:=to }) ?_ g2 g3 g4 hnm ?_ h1 (fun _=>rfl) hd12 hck
  ·simp only;rw[fw];rw[ak (show ¬to=m.au from fun hh=>hne (by omega))]
   exact g1
  ·simp only;rw[fw];simp only[hmi,↓reduceIte]
def uu(ae:List Node)(at' d:Int)(n:Node):Int :=
 if decide ((0:Int)<n.aM.length) then mG (mG (mG (at'+ph ae n.au)-d)+1) else mG (mG (at'+ph ae n.au)-d)
def HE(ae:List Node)(au at' d:Int)(n:Node)(most:Int):most<=sk ae au at' d n most/\((n.kind==2&&iR ae n.au au)=true->uu ae at' d n<=sk ae au at' d n most):=by
 have e:sk ae au at' d n most=if n.kind==2&&iR ae n.au au then (if uu ae at' d n>most then uu ae at' d n else most) else most:=rfl
 rw[e];split
 ·split
  ·exact⟨by omega,fun _=>fG _⟩
  ·exact⟨fG _,fun _=>by omega⟩
 ·rename_i h; exact⟨fG _,fun hh=>absurd hh h⟩
def Ae(ae:List Node)(au at' d:Int):∀(l:List Node)(most:Int),most<=vz ae au at' d l most/\∀n,n∈l->(n.kind==2&&iR ae n.au au)=true->uu ae at' d n<=vz ae au at' d l most
 | [],most=>⟨fG _,fun n hn=>by cases hn⟩
 |m::l,most=>by
  obtain⟨h1,h2⟩:=Ae ae au at' d l (sk ae au at' d m most);obtain⟨h3,h4⟩:=HE ae au at' d m most;rw[vz];refine⟨by omega,fun n hn hb=>?_⟩
  rcases bb.1 hn with rfl|hn
  ·have:=h4 hb; omega
  ·exact h2 n hn hb
def rl(ae:List Node)(cf:Int->Nat)(x to:Int):Int->Nat:=fun i=>if iR ae i x then cf i+(cf to+1)-cf x else cf i
def cn.Ef{t:Tree}{cf:Int->Nat}(h:cn t cf 0){x to i:Int}{m n:Node}(hx:find t.ae x=some m)(hk:m.kind=2)(hd:cf to<12)(hi:find t.ae i=some n)(hk2:n.kind=2)(hb:iR t.ae i x=true) :
  uu t.ae (((cf to+1:Nat):Int)) (cf x) n=((rl t.ae cf x to i+(if 0<n.aM.length then 1 else 0):Nat):Int):=by
 have d1:=(h.deep _ _ hi hk2).1;have d2:=(h.deep _ _ hx hk).1;have d3:=h.zO _ i n hi hk2 rfl hb;have hdn:ph t.ae n.au=cf i:=by rw[h.au hi]; exact h.pD hi hk2
 have w1:mG ((((cf to+1:Nat):Int))+(cf i:Nat))=(((cf to+1:Nat):Int))+(cf i:Nat):=gx (by omega) (by omega)
 have w2:mG ((((cf to+1:Nat):Int))+(cf i:Nat)-(cf x:Nat))=(((cf to+1:Nat):Int))+(cf i:Nat)-(cf x:Nat):=gx (by omega) (by omega)
 have w3:mG ((((cf to+1:Nat):Int))+(cf i:Nat)-(cf x:Nat)+1)=(((cf to+1:Nat):Int))+(cf i:Nat)-(cf x:Nat)+1:=gx (by omega) (by omega)
 unfold uu rl;rw[az hb,hdn,w1,w2,w3]
 by_cases hl:0<n.aM.length
 ·rw[az (by simpa using hl),az hl]; omega
 ·rw[ak (by simpa using hl),ak hl]; omega
def cn.adi{t:Tree}{cf:Int->Nat}(h:cn t cf 0){x to:Int}{m dT:Node}(hx:find t.ae x=some m)(hk:m.kind=2)(hx1:x≠1)(hT:find t.ae to=some dT)(hTk:dT.kind=2)(hnb:iR t.ae to x=false)(hd:cf to<12)
  (hh:Bc t.ae x (((cf to+1:Nat):Int))<=12) :
  rl t.ae cf x to 1=0/\(∀i n,find t.ae i=some n->n.kind=2->i≠1->i≠x->rl t.ae cf x to i=rl t.ae cf x to n.up+1)/\rl t.ae cf x to x=rl t.ae cf x to to+1 /\
   (∀i n,find t.ae i=some n->n.kind=2->rl t.ae cf x to i<=12/\(rl t.ae cf x to i=12->n.aM=[]))/\rl t.ae cf x to to=cf to:=by
 have hto:rl t.ae cf x to to=cf to:=by unfold rl; rw[ak (by simp[hnb])]
 refine⟨?_,?_,?_,?_,hto⟩
 ·unfold rl;rw[ak (by simp[cn.yc hx1])]
  exact h.y9
 ·intro i n hi hk2 hi1 hix;obtain⟨a,p,b,c⟩:=h.sy _ _ hi hk2 hi1;have hb:=h.yU hi hk2 hi1 hix;unfold rl;rw[hb];split
  ·rename_i hb2;have:=h.zO _ _ p b c rfl hb2;omega
  ·exact a
 ·rw[hto];unfold rl;rw[az (cn.rC x)];omega
 ·intro i n hi hk2
  by_cases hb:iR t.ae i x=true
  ·have h1:=(Ae t.ae x (((cf to+1:Nat):Int)) (ph t.ae x) t.ae 0).2 n (cg hi).1 (by rw[hk2,h.au hi,hb]; rfl)
   rw[h.pD hx hk,h.Ef hx hk hd hi hk2 hb] at h1;unfold Bc at hh;rw[h.pD hx hk] at hh;have h2:=Int.le_trans h1 hh;split at h2
   ·rename_i hl;exact⟨by omega,fun h12=>by omega⟩
   ·rename_i hl;exact⟨by omega,fun _=>cq.1 (by omega)⟩
  ·have:rl t.ae cf x to i=cf i:=by unfold rl; rw[ak hb]
   rw[this];exact h.deep _ _ hi hk2
def pk{l:List ew}{s r:Bytes}(h:r≠s):dX (fE l s) r=dX l r:=by
 unfold dX fE;rw[List.find?_filter];congr 1;funext e
 by_cases he:e.name=r
 ·have hn:e.name≠s:=he▸h;simp[he,h]
 ·simp[he]
structure vY(t:Tree)(cf:Int->Nat)(f:Int)(s:Bytes)(to:Int)(nm:Bytes)(dF dT m:Node)(e:ew):Prop where
 hF:find t.ae f=some dF
 kF:dF.kind=2
 he:dX dF.aM s=some e
 hT:find t.ae to=some dT
 kT:dT.kind=2
 hn:dB nm=true
 hm:find t.ae e.au=some m
 ne:e.au≠to
 nf:e.au≠f
 loop:m.kind=2->iR t.ae to e.au=false
 deep:cf to<12
 high:m.kind=2->Bc t.ae e.au (((cf to+1:Nat):Int))<=12
 ai:t.ai<1099511627776
 room:dX dT.aM nm=none->to≠f->dT.aM.length<64
 KD:∀e2,dX dT.aM nm=some e2->e2.au≠e.au/\∃y,find t.ae e2.au=some y/\y.aM=[]/\(m.kind=2↔y.kind=2)/\e2.au≠f/\e2.au≠to
def cn.mv{t:Tree}{cf:Int->Nat}(h:cn t cf 0){f:Int}{s:Bytes}{to:Int}{nm:Bytes}{dF dT m:Node}{e:ew}(hs:dB nm=true->Nm nm)(k:vY t cf f s to nm dF dT m e):∃dep',cn (nU t f s to nm e.au (dY dT.aM nm)) dep' 0:=by
 have hem:=(eu k.he).1;have hx1:=(h.wB _ _ e k.hF hem).2.2.1
 have hcase:∃dep':Int->Nat,dep' to<12/\((m.kind=1/\dep'=cf)\/(m.kind=2/\dep' 1=0/\(∀i n,find t.ae i=some n->n.kind=2->i≠1->i≠e.au->dep' i=dep' n.up+1)/\dep' e.au=dep' to+1 /\
   ∀i n,find t.ae i=some n->n.kind=2->dep' i<=12/\(dep' i=12->n.aM=[]))):=by
  rcases h.kind _ _ k.hm with hk|hk
  ·exact⟨cf,k.deep,.inl ⟨hk,rfl⟩⟩
  ·obtain⟨c1,c2,c3,c4,c5⟩:=h.adi k.hm hk hx1 k.hT k.kT (k.loop hk) k.deep (k.high hk);exact⟨rl t.ae cf e.au to,by rw[c5]; exact k.deep,.inr ⟨hk,c1,c2,c3,c4⟩⟩
 obtain⟨dep',hd12,hcase⟩:=hcase;refine⟨dep',?_⟩;cases hfr:dX dT.aM nm with
 |none =>
  have hu:dY dT.aM nm=0:=by simp[dY,hfr]
  rw[hu];exact h.Y8 k.hF k.he k.hT k.kT hfr (k.room hfr) (hs k.hn) k.hm k.ne hd12 k.ai hcase
 |some e2 =>
  have hu:dY dT.aM nm=e2.au:=by simp[dY,hfr]
  rw[hu];obtain⟨q1,y,q2,q3,q4,q5,q6⟩:=k.KD e2 hfr;have h1:=h.un k.hT hfr q2 q3;have a2:=ll h.jB.ju to nm;have f2:=iT h.jB.ju k.hT (s:=nm);have hy1:find (dr t.ae to nm) e2.au=some y:=by rw[f2,ak q6]; exact q2
  have f4:∀i,find (gi (dr t.ae to nm) e2.au) i=if i=e2.au then xU y else if i=to then some { dT with aM:=fE dT.aM nm } else find t.ae i:=by
   intro i;rw[pT a2 hy1,f2]
  have hnn:bD (gi (dr t.ae to nm) e2.au) e.au=bD t.ae e.au:=by
   simp only[bD];rw[f4,ak (fun hh=>q1 hh.symm),ak k.ne]
  have hy0:=(h.num _ _ q2).1
  have hmv:nU t f s to nm e.au e2.au=nU ⟨gi (dr t.ae to nm) e2.au,t.next,t.ai⟩ f s to nm e.au 0:=by
   unfold nU;simp only[hnn];rw[Uj h.jB.ju k.hF k.hT q2 q5 q6];have e1:(e2.au != 0)=true:=by simp; omega
   simp only[e1,an,af,↓reduceIte]
  rw[hmv]
  have hsn:to=f->s≠nm:=fun hh hsn=>by
   subst hh; subst hsn;have:=k.hF; rw[k.hT] at this; cases this;have:=k.he; rw[hfr] at this; cases this;exact q1 rfl
  obtain⟨dF',g1,g2⟩:∃dF',find (gi (dr t.ae to nm) e2.au) f=some dF'/\dX dF'.aM s=some e:=by
   rw[f4,ak (fun hh=>q5 hh.symm)]
   split
   ·rename_i hh;refine⟨_,rfl,?_⟩;rw[pk (hsn hh.symm)];subst hh;have:=k.hF; rw[k.hT] at this; cases this;exact k.he
   ·exact⟨dF,k.hF,k.he⟩
  have back:∀i n,find (gi (dr t.ae to nm) e2.au) i=some n->n.kind=2->∃n0,find t.ae i=some n0/\n0.kind=2/\n0.up=n.up/\(n0.aM=[]->n.aM=[]):=by
   intro i n hi hk;rw[f4] at hi;split at hi
   ·unfold xU at hi;split at hi
    ·cases hi
    ·rename_i hh;cases hi;simp only at hk;simp[hk] at hh
   ·split at hi
    ·rename_i hh; subst hh;cases hi;exact⟨dT,k.hT,hk,rfl,fun h0=>by simp[h0,fE]⟩
    ·exact⟨n,hi,hk,rfl,fun h0=>h0⟩
  refine h1.Y8 (dep':=dep') g1 g2 (dT:={ dT with aM:=fE dT.aM nm }) ?_ k.kT (wE _ _) (fun _=>bp (Hl hfr) (h.few k.hT)) (hs k.hn) (m:=m) ?_ k.ne hd12 k.ai ?_
  ·simp only; rw[f4,ak (fun hh=>q6 hh.symm),az rfl]
  ·simp only; rw[f4,ak (fun hh=>q1 hh.symm),ak k.ne]; exact k.hm
  ·rcases hcase with hc|⟨hk,c1,c2,c3,c4⟩
   ·exact .inl hc
   ·refine .inr ⟨hk,c1,?_,c3,?_⟩
    ·intro i n hi hk2 hi1 hie;obtain⟨n0,b1,b2,b3,_⟩:=back i n hi hk2;rw[<-b3]; exact c2 i n0 b1 b2 hi1 hie
    ·intro i n hi hk2;obtain⟨n0,b1,b2,_,b4⟩:=back i n hi hk2;exact⟨(c4 i n0 b1 b2).1,fun h12=>b4 ((c4 i n0 b1 b2).2 h12)⟩
def cn.zero{t:Tree}{cf:Int->Nat}{x:Int}(h:cn t cf x):find t.ae 0=none:=by
 cases hz:find t.ae 0 with
 |none=>rfl
 |some m=>have:=h.num _ _ hz; omega
def EI{t:Tree}{cf:Int->Nat}(h:cn t cf 0)(f:Int)(s:Bytes)(to:Int)(nm:Bytes) :
  ((wa t f s to nm).1=t/\(wa t f s to nm).2.1=0/\(wa t f s to nm).2.2≠0) \/
  (wa t f s to nm=(t,0,0)/\∃dF dT e e2,find t.ae f=some dF/\dF.kind=2/\dB s=true/\dX dF.aM s=some e/\dR t.ae f s=(e.au,0)/\find t.ae to=some dT/\dT.kind=2/\dB nm=true/\dX dT.aM nm=some e2/\e2.au=e.au) \/
  ∃dF dT m e,vY t cf f s to nm dF dT m e/\dB s=true/\dR t.ae f s=(e.au,0)/\wa t f s to nm=(nU t f s to nm e.au (dY dT.aM nm),dY dT.aM nm,0):=by
 unfold wa;split
 ·rename_i c1; exact .inl ⟨rfl,rfl,by simpa using c1⟩
 rename_i c1;split
 ·rename_i c2; exact .inl ⟨rfl,rfl,by simpa using c2⟩
 rename_i c2;split
 ·exact .inl ⟨rfl,rfl,by simp⟩
 rename_i c3;obtain⟨dF,e,e1,e2,e3,e4,e5⟩:=look_ok (by simpa using c1)
 obtain⟨dT,g1,g2,g3⟩:=yi (show(gw t.ae to).2=0 by simpa using c2)
 have hem:=(eu e4).1;obtain⟨_,_,x1,_,m,hm,hup⟩:=h.wB _ _ e e1 hem;have hnode:bD t.ae e.au=m:=by simp[bD,hm]
 simp only[e5,g3,hnode];split
 ·rename_i c4;right; left;refine⟨rfl,dF,dT,e,?_⟩;have c4':dY dT.aM nm=e.au:=by simpa using c4
  cases hfr:dX dT.aM nm with
  |none=>simp only[dY,hfr] at c4'; have:=(h.num _ _ hm).1; omega
  |some e2'=>simp only[dY,hfr] at c4'; exact⟨e2',e1,e2,e3,e4,rfl,g1,g2,by simpa using c3,rfl,c4'⟩
 rename_i c4;split
 ·exact .inl ⟨rfl,rfl,by simp⟩
 rename_i c5;split
 ·rename_i c6; exact .inl ⟨rfl,rfl,by simpa using c6⟩
 rename_i c6;split
 ·exact .inl ⟨rfl,rfl,by simp⟩
 rename_i c7;right; right;have hdt:=h.pD g1 g2;simp only[manyN,hdt,cJ,bm,dM,bt,kH,not_and,gd] at c7;obtain⟨r1,r2,r3,r4⟩:=c7
 have hw:mG (((cf to:Nat):Int)+1)=((cf to+1:Nat):Int):=by
  have:=(h.deep _ _ g1 g2).1;rw[show(((cf to:Nat):Int)+1)=((cf to+1:Nat):Int) by omega]
  exact gx (by omega) (by omega)
 rw[hw] at r3;have hnf:=h.vw e1 hem
 have hne:e.au≠to:=fun hh=>by
  rw[hh,g1] at hm; cases hm;simp only[g2,ei,bP] at c5;rw[hh,cn.rC] at c5;exact c5 rfl
 refine⟨dF,dT,m,e,⟨e1,e2,e4,g1,g2,by simpa using c3,hm,hne,hnf,?_,by omega,?_,by omega,?_,?_⟩,e3,rfl,rfl⟩
 ·intro hk;simpa[hk] using c5
 ·intro hk;have:=r3 hk; omega
 ·intro hfr hne;have hu:dY dT.aM nm=0:=by simp[dY,hfr]
  have:=r1 ⟨hu,hne⟩;omega
 ·intro e2' hfr;have hu:dY dT.aM nm=e2'.au:=by simp[dY,hfr]
  rw[hu] at c4 c6;obtain⟨_,_,_,_,y,hy,_⟩:=h.wB _ _ e2' g1 (eu hfr).1;have hny:bD t.ae e2'.au=y:=by simp[bD,hy]
  have hto:=h.vw g1 (eu hfr).1;simp only[sv,hy,c9,cU,af,↓reduceIte,hny,gd,ne_eq,ma] at c6;split at c6
  ·cases c6
  ·rename_i k1;split at c6
   ·cases c6
   ·rename_i k2;split at c6
    ·cases c6
    ·rename_i k3;have hy0:y.aM=[]:=cq.1 (by simpa using k3)
     refine⟨by simpa using c4,y,hy,hy0,?_,?_,hto⟩
     ·simp at k1 k2;constructor
      ·exact k1
      ·intro hy2;rcases h.kind _ _ hm with hk|hk
       ·exact absurd hy2 (k2 (by omega))
       ·exact hk
     ·intro hh;rw[hh,e1] at hy; cases hy;rw[hy0] at hem; cases hem
def Ma{t:Tree}{cf:Int->Nat}(h:cn t cf 0)(f:Int)(s:Bytes)(to:Int)(nm:Bytes)(hs:dB nm=true->Nm nm):∃dep',cn (wa t f s to nm).1 dep' 0:=by
 rcases EI h f s to nm with ⟨h1,_⟩|⟨h1,_⟩|⟨dF,dT,m,e,k,_,_,hk⟩
 ·rw[h1]; exact⟨cf,h⟩
 ·rw[h1]; exact⟨cf,h⟩
 ·rw[hk]; exact h.mv hs k
def It:cn oO (fun _=>0) 0:=by
 have hf:∀i n,find oO.ae i=some n->i=1/\n=⟨1,2,0,[],[],1⟩:=by
  intro i n hi;obtain⟨h1,h2⟩:=cg hi;simp[oO] at h1;subst h1;exact⟨h2.symm,rfl⟩
 refine⟨⟨?_,?_⟩,⟨_,rfl,rfl,rfl⟩,?_,?_,?_,?_,?_,?_,?_,?_,rfl,?_,?_,by simp[oO],by simp[oO],by simp[oO]⟩
 ·simp[oO,nI]
 ·intro n hn; simp[oO] at hn; subst hn; exact List.Pairwise.nil
 ·intro i n hi; obtain⟨rfl,rfl⟩:=hf i n hi; simp[oO]
 ·intro i n hi; obtain⟨rfl,rfl⟩:=hf i n hi; simp
 ·intro i n hi; obtain⟨rfl,rfl⟩:=hf i n hi; simp
 ·intro i n hi; obtain⟨rfl,rfl⟩:=hf i n hi; simp
 ·intro i n e hi he; obtain⟨rfl,rfl⟩:=hf i n hi; cases he
 ·intro i n hi; obtain⟨rfl,rfl⟩:=hf i n hi; exact⟨List.Pairwise.nil,by simp⟩
 ·intro i n hi; obtain⟨rfl,rfl⟩:=hf i n hi; simp[oO,qN,mW]
 ·intro i n hi _ h1; exact absurd (hf i n hi).1 h1
 ·intro i n hi _ h1; exact absurd (hf i n hi).1 h1
 ·intro i n hi; obtain⟨rfl,rfl⟩:=hf i n hi; simp
section
attribute [local irreducible] fP fi kD gK dp kr aq aL ct bI
def yV:∀(d:Bytes),bytesOf (d.map mF)=some d
 | []=>rfl
 |b::d=>by
  rw[aV]
  show bI (bytesOf (d.map mF)) (fun l=>some (UInt8.ofNat ((b.toNat:Int)).toNat::l))=some (b::d)
  rw[yV d,bZ];simp
def ajJ(a b:Bytes):aq cY 134 [jo a,jo b] []=some (.bool (a==b),[]):=by
 refine aI ?_;simp only[X8,aiy,yV,EN,seval]
def ak5 a b:=cP (ajJ a b)
def akH(x y:ew):decide (x=y)=(x.name==y.name&&(x.au==y.au&&(x.ai==y.ai&&true))):=by
 cases x; cases y;simp only[ew.mk.injEq,eS];rw[eb];simp
def PM(x y:ew):kK [.s,.i,.i] (eo x) (eo y)=some (decide (x=y)):=by
 rw[akH];simp only[eo,kK,ig,bZ,↓reduceIte]
def UO(x:ew):(eo x).all ag.kW=true:=rfl
def ai9(x:Node):(aU x).all ag.kW=true:=rfl
def Wo{a b:List ew}(ha:a.length<=100000){k:List K}{R:Bool->Option (ag×aK)}
  (hx:∀e,kr (aq cY) [.tmp 4] 0 k ⟨.exit 0,e,[]⟩=R true) (hr:kr (aq cY) [.tmp 4] 0 k ⟨.ret,[(4,.bool false)],[]⟩=R false) :
  ∀(l m pre pre':List ew),a=pre++l->b=pre'++m->pre.length=pre'.length->l.length=m.length->fP (aq cY) [.tmp 4] 0 k (.loop [0,1,12,13] VW) [(0,ib a),(1,ib b),(12,.int .i64 a.length),(13,.int .i64 pre.length)] []=R (decide (l=m)):=by
 intro l;induction l with
 |nil =>
  intro m pre pre' h h' hp hl;have hm:m=[]:=cq.1 hl.symm;subst hm;rw[bX];simp only[Fx,ot h,EN,seval];exact hx _
 |cons n r ih =>
  intro m pre pre' h h' hp hl;cases m with
  |nil=>cases hl
  |cons n' m =>
  rw[bX];have eU:pre.length+1<=100000:=by rw[h] at ha; simp at ha; omega
  have hw:=GD pre n;have hi:=ih m (pre++[n]) (pre'++[n']) (by rw[h]; simp) (by rw[h']; simp) (by simp[hp]) (by simpa using hl)
  have ha2:b[pre.length]?=some n':=by rw[hp]; exact jf h'
  have hdc:decide (n::r=n'::m)=(decide (n=n')&&decide (r=m)):=by
   rw[eb]; simp
  rw[hdc];simp only[aJ,av,aG] at hi;simp only[Fx,mM h,jf h,ha2,tkE,shE,PM,UO,EN,seval];refine bK (fun hb=>?_) (fun hb=>?_)
  ·have hb':decide (n=n')=false:=by simpa using hb
   simp only[Fx,hb',cd,EN,seval];exact hr
  ·have hb':decide (n=n')=true:=by simpa using hb
   simp only[Fx,hb',bP,hw,EN,seval];exact hi
def ajK(a b:List ew)(ha:a.length<=100000):aq cY 135 [ib a,ib b] []=some (.bool (decide (a=b)),[]):=by
 refine aI ?_;simp only[X9,Fx,EN,seval];refine bK (fun hb=>?_) (fun hb=>?_)
 ·have:decide (a=b)=false:=by
   simp at hb ⊢;rintro rfl; exact hb rfl
  simp only[Fx,this,EN,seval]
 ·simp only[Fx,EN,seval];exact Wo (R:=fun z=>some (.bool z,[])) ha (fun e=>by simp only[Fx,EN,seval]) (by simp only[Fx,EN,seval]) a b [] [] rfl rfl rfl (by simp at hb; omega)
def ak6 a b ha:=cP (ajK a b ha)
def Za(x y:Node):decide (x=y)=(x.au==y.au&&(x.kind==y.kind&&(x.dj==y.dj&&(x.up==y.up&&(x.data==y.data&&decide (x.aM=y.aM)))))):=by
 cases x; cases y;simp only[Node.mk.injEq];rw[eb];simp only[bt,bm,dM];constructor
 ·rintro⟨h1,h2,h3,h4,h5,h6⟩; exact⟨h1,h2,h3,h6,h4,h5⟩
 ·rintro⟨h1,h2,h3,h6,h4,h5⟩; exact⟨h1,h2,h3,h4,h5,h6⟩
def ajI(x y:Node)(hx:x.aM.length<=100000):aq cY 133 [.agg (aU x),.agg (aU y)] []=some (.bool (decide (x=y)),[]):=by
 rw[Za];refine aI ?_;simp only[X7,adU,ck,aU,EN,seval]
 repeat' ((first|apply bK|apply cI|apply eW)<;>intro hb<;>simp only[hb,EN,adU,ak5,ak6,hx,seval])
 all_goals simp_all only[vl,↓reduceIte,reduceCtorEq,an]
def ak4 x y hx:=cP (ajI x y hx)
def Wp{a b:List Node}(ha:a.length<=100000)(he:∀n,n∈a->n.aM.length<=100000){k:List K}{R:Bool->Option (ag×aK)}
  (hx:∀e,kr (aq cY) [.tmp 6] 0 k ⟨.exit 0,e,[]⟩=R true) (hr:∀M,kr (aq cY) [.tmp 6] 0 k ⟨.ret,[(6,.bool false)],M⟩=R false) :
  ∀(l m pre pre':List Node),a=pre++l->b=pre'++m->pre.length=pre'.length->l.length=m.length->fP (aq cY) [.tmp 6] 0 k (.loop [1,2,15,16,17] VX) [(1,aZ b),(2,.func 133 []),(15,aZ a),(16,.int .i64 a.length),(17,.int .i64 pre.length)] []=R (decide (l=m)):=by
 intro l;induction l with
 |nil =>
  intro m pre pre' h h' hp hl;have hm:m=[]:=cq.1 hl.symm;subst hm;rw[bX];simp only[Fy,ot h,EN,seval];exact hx _
 |cons n r ih =>
  intro m pre pre' h h' hp hl;cases m with
  |nil=>cases hl
  |cons n' m =>
  rw[bX];have eU:pre.length+1<=100000:=by rw[h] at ha; simp at ha; omega
  have hw:=GD pre n;have hi:=ih m (pre++[n]) (pre'++[n']) (by rw[h]; simp) (by rw[h']; simp) (by simp[hp]) (by simpa using hl)
  have ha2:b[pre.length]?=some n':=by rw[hp]; exact jf h'
  have hen:=he n (by rw[h]; simp)
  have hdc:decide (n::r=n'::m)=(decide (n=n')&&decide (r=m)):=by
   rw[eb]; simp
  have hfl:List.flatMap ag.mL (aU n)=[]:=rfl;have hfl':List.flatMap ag.mL (aU n')=[]:=rfl;rw[hdc];simp only[aJ,av,aG] at hi;simp only[Fy,mM h,jf h,ha2,tkN,shN,ai9,ak4,hen,hfl,hfl',EN,seval];refine bK (fun hb=>?_) (fun hb=>?_)
  ·have hb':decide (n=n')=false:=by simpa using hb
   simp only[Fy,hb',cd,EN,seval];exact hr _
  ·have hb':decide (n=n')=true:=by simpa using hb
   simp only[Fy,hb',bP,hw,EN,seval];exact hi
def ajL(a b:List Node)(ha:a.length<=100000)(he:∀n,n∈a->n.aM.length<=100000):aq cY 136 [aZ a,aZ b,.func 133 []] []=some (.bool (decide (a=b)),[]):=by
 refine aI ?_;simp only[Ya,Fy,EN,seval];refine bK (fun hb=>?_) (fun hb=>?_)
 ·have:decide (a=b)=false:=by
   simp at hb ⊢;rintro rfl; exact hb rfl
  simp only[Fy,this,EN,seval]
 ·simp only[Fy,EN,seval];exact Wp (R:=fun z=>some (.bool z,[])) ha he (fun e=>by simp only[Fy,EN,seval]) (fun M=>by simp only[Fy,EN,seval]) a b [] [] rfl rfl rfl (by simp at hb; omega)
def ak7 a b ha he:=cP (ajL a b ha he)
def aic(x y:Tree):decide (x=y)=(x.next==y.next&&(x.ai==y.ai&&decide (x.ae=y.ae))):=by
 cases x; cases y;simp only[Tree.mk.injEq];rw[eb];simp only[bt,bm,dM];constructor
 ·rintro⟨h1,h2,h3⟩; exact⟨h2,h3,h1⟩
 ·rintro⟨h2,h3,h1⟩; exact⟨h1,h2,h3⟩
def c71(a b:Tree)(ha:Small a):aq cY 71 [bJ a,bJ b] []=some (.bool (decide (a=b)),[]):=by
 rw[aic];have h1:=ha.ae;have h2:=ha.aM;refine aI ?_;simp only[agw,E71,bJ,bc,EN,seval]
 repeat' ((first|apply bK|apply cI|apply eW)<;>intro hb<;>simp only[hb,EN,E71,ak7 _ _ h1 h2,seval])
 all_goals simp_all only[vl,↓reduceIte,reduceCtorEq,an]
end
structure Jk where
 jw:Int
 handle:Int
 au:Int
 deriving DecidableEq,Inhabited
structure B4 where
 au:Int
 ae:Int
 bytes:Int
 deriving DecidableEq,Inhabited
structure Jn where
 mT:Int
 amq:Int
 node:Node
 deriving DecidableEq,Inhabited
structure Jp where
 id:Int
 au:Int
 at':Int
 deriving DecidableEq,Inhabited
structure oS where
 kind:Int
 jw:Int
 aR:Bytes
 rp:Bytes
 n:Int
 m:Int
 handle:Int
 data:Bytes
 deriving DecidableEq,Inhabited
structure OQ where
 err:Int
 au:Int
 kind:Int
 n:Int
 m:Int
 names:List Bytes
 data:Bytes
 deriving DecidableEq,Inhabited
structure Jo where
 jw:Int
 seq:Int
 ans:OQ
 deriving DecidableEq,Inhabited
def yl(h:Jk):List ag:=[.int .i64 h.jw,.int .i64 h.handle,.int .i64 h.au]
def PI(h:Jk):ag := .agg (yl h)
def vv(q:B4):List ag:=[.int .i64 q.au,.int .i64 q.ae,.int .i64 q.bytes]
def JT(q:B4):ag := .agg (vv q)
def ym(p:Jn):List ag := .int .i64 p.mT :: .int .i64 p.amq::aU p.node
def PJ(p:Jn):ag := .agg (ym p)
def yo(s:Jp):List ag:=[.int .i64 s.id,.int .i64 s.au,.int .i64 s.at']
def PL(s:Jp):ag := .agg (yo s)
abbrev lM(l:List Int):ag := .slice .sh (l.map mj)
abbrev fL(l:List Bytes):ag := .slice .sh (l.map ag.str)
def dK(o:oS):List ag:=[.int .i64 o.kind,.int .i64 o.jw,.str o.aR,.str o.rp,.int .i64 o.n,.int .i64 o.m,.int .i64 o.handle,jo o.data]
def ua(o:oS):ag := .agg (dK o)
def eA(a:OQ):List ag:=[.int .i64 a.err,.int .i64 a.au,.int .i64 a.kind,.int .i64 a.n,.int .i64 a.m,fL a.names,jo a.data]
def sf(a:OQ):ag := .agg (eA a)
def yn(s:Jo):List ag := .int .i64 s.jw :: .int .i64 s.seq::eA s.ans
def PK(s:Jo):ag := .agg (yn s)
def Hb(n:Jk):(PI n).cells=yl n:=rfl
def FU(n:B4):(JT n).cells=vv n:=rfl
def He(n:Jn):(PJ n).cells=ym n:=rfl
def Hg(n:Jp):(PL n).cells=yo n:=rfl
def Hf(n:Jo):(PK n).cells=yn n:=rfl
def Kj(n:Jk):(yl n).length=3:=rfl
def H6(n:B4):(vv n).length=3:=rfl
def Kl(n:Jn):(ym n).length=8:=rfl
def Kn(n:Jp):(yo n).length=3:=rfl
def Km(n:Jo):(yn n).length=9:=rfl
def mB{α:Type}(f:α->ag)(k:Nat)(h:∀a,(f a).cells.length=k)(l:List α):wid (l.map f) k=True:=by
 simp only[fe,jM];intro x hx;obtain⟨n,_,rfl⟩:=bR.1 hx;exact h n
def OJ(l:List Jk):wid (l.map PI) 3=True:=mB PI _ (fun _=>rfl) l
def K4(l:List B4):wid (l.map JT) 3=True:=mB JT _ (fun _=>rfl) l
def OL(l:List Jn):wid (l.map PJ) 8=True:=mB PJ _ (fun _=>rfl) l
def ON(l:List Jp):wid (l.map PL) 3=True:=mB PL _ (fun _=>rfl) l
def OM(l:List Jo):wid (l.map PK) 9=True:=mB PK _ (fun _=>rfl) l
def DB(l:List Bytes):wid (l.map ag.str) 1=True:=mB ag.str _ (fun _=>rfl) l
def tkH(n:Jk):List.take 3 (yl n)=yl n:=rfl
def shH(n:Jk):List.map ag.shut (yl n)=yl n:=rfl
def tkQ(n:B4):List.take 3 (vv n)=vv n:=rfl
def shQ(n:B4):List.map ag.shut (vv n)=vv n:=rfl
def tkP(n:Jn):List.take 8 (ym n)=ym n:=rfl
def shP(n:Jn):List.map ag.shut (ym n)=ym n:=rfl
def tkS(n:Jp):List.take 3 (yo n)=yo n:=rfl
def shS(n:Jp):List.map ag.shut (yo n)=yo n:=rfl
def tkU(n:Jo):List.take 9 (yn n)=yn n:=rfl
def shU(n:Jo):List.map ag.shut (yn n)=yn n:=rfl
def afG:((2:Nat):Int)=2:=rfl
def adr:Int.toNat 0=0:=rfl
def ads:Int.toNat 1=1:=rfl
def akI(a b c d:Int):kK [FK.i,FK.i] [.int .i64 a,.int .i64 b] [.int .i64 c,.int .i64 d]=some (a==c&&b==d):=by
 simp[kK,ig]
def akJ(a b c a' b' c':Int):kK [FK.i,FK.i,FK.i] [.int .i64 a,.int .i64 b,.int .i64 c] [.int .i64 a',.int .i64 b',.int .i64 c']=some (a==a'&&(b==b'&&c==c')):=by
 simp[kK,ig]
set_option linter.defProp false in
def EVF:=bQ @akI (bQ @akJ (bQ @dU.{0} (bQ @dy.{0} (bQ @afG (bQ @adr (bQ @ads (bQ @jb (bQ @fH (bQ @Hb (bQ @FU (bQ @He (bQ @Hg (bQ @Hf (bQ @Kj (bQ @H6 (bQ @Kl (bQ @Kn (bQ @Km (bQ @OJ (bQ @K4 (bQ @OL (bQ @ON (bQ @OM (bQ @DB (bQ @tkH (bQ @shH (bQ @tkQ (bQ @shQ (bQ @tkP (bQ @shP (bQ @tkS (bQ @shS (bQ @tkU (bQ @shU (bQ @tkN (bQ @shN (bQ @tkE (@shE))))))))))))))))))))))))))))))))))))))
set_option linter.defProp false in
def EW:=And.intro EVF EN
section
attribute [local irreducible] fP fi kD gK dp kr aq aL ct bI
def jv(n:Node):Bool:=n.kind==1&&n.dj==0
end
section
def Vt{α:Type}(p:α->Bool):List α->Nat->Int
 | [],_ => -1
 |x::r,i=>if p x then (i:Int) else Vt p r (i+1)
theorem NF{α:Type}(p:α->Bool):∀(l:List α)(i:Nat),(Vt p l i = -1/\l.find? p=none)\/∃(m:Nat) (x:α),Vt p l i=((i+m:Nat):Int)/\l[m]?=some x/\l.find? p=some x/\l.eraseIdx m=l.eraseP p
 | [],i => .inl ⟨rfl,rfl⟩
 |x::r,i=>by
  rw[Vt]
  by_cases h:p x=true
  ·grind
  ·rcases NF p r (i+1) with ⟨h1,h2⟩|⟨m,y,h1,h2,h3,h4⟩
   ·exact .inl ⟨by simp[h,h1],by simp[h,h2]⟩
   ·grind
structure Low{α:Type}(lt:α->Bool)(l:List α)(b:Nat):Prop where
 le:b<=l.length
 lt:∀h n,l[h]?=some n->(lt n=true↔h<b)
def L6{α:Type}(lt:α->Bool)(l:List α):Nat:=(l.takeWhile lt).length
theorem SU{α:Type}{lt:α->Bool}:∀ {l:List α},l.Pairwise (fun a b=>lt b=true->lt a=true)->Low lt l (L6 lt l)
 | [],_=>⟨ar _,fun h n hn=>by simp_all⟩
 |a::r,h=>by
  obtain⟨h1,h2⟩:=bF.1 h;obtain⟨i1,i2⟩:=SU h2;unfold L6 at i1 i2 ⊢
  by_cases ha:lt a=true
  ·rw[fb,az ha];refine⟨by grind,fun k n hn=>?_⟩
   grind
  ·rw[fb,ak ha];refine⟨by simp,fun k n hn=>?_⟩
   grind
def ug{α:Type}(eq:α->Bool)(l:List α)(b:Nat):Bool:=match l[b]? with
 |some n=>eq n
 |none=>false
def Ln{C:eL}{f p:Nat}{vs:List ag}{r:ag}{M:aK}{cs:List ag}(hM:nth M p=some (.cells cs))(h:C f (vs++[.ptr 0 0]) [.cells cs]=some (r,[.cells cs]))(h1:vs.all ag.flat=true)(h2:vs.flatMap ag.ids=[])(h3:r.wF=true)
  (h4:vs.map (ag.rn (iC [p]))=vs) (h5:r.BE (xg [p])=r) (h6:cs.all ag.vP=true) (h7:cs.flatMap ag.mL=[]) (h8:cs.map (ag.sY (iC [p]))=cs) (h10:cs.map (ag.sY (xg [p]))=cs) :
  aL C f (vs++[.ptr p 0]) M=some (r,M):=by
 have hids:(vs++[ag.ptr p 0]).flatMap ag.ids=[p]:=by simp[ag.ids,ag.mL,ag.hU,h2]
 have hi:sL M [p]=[]:=by simp_all [sL,cA.ids]
 have e0:lR M [p]=[p]:=by simp[lR,hi,lP]
 have e1:reach M [p]=[p]:=by
  have ea:lP [] [p]=[p]:=rfl;simp only[reach,ea,e0]
 have hfl:(vs++[ag.ptr p 0]).all ag.flat=true:=by rw[List.all_append,h1]; rfl
 simp_all [aL,ke,iC,cA.flat,cA.rn,bZ,ag.rn,bB,ag.sY,ag.tV,mw,um]
attribute [local irreducible] fP fi kD gK dp kr aq aL ct bI
end
section
section
variable {α:Type} (enc:α->ag) {f sz bytes:Nat}
def LH(hp:cY.sK f=some (pN sz bytes))(hw:∀a,(enc a).cells.length=sz)(hb:bytes<=1000){l:List α}(h0:l≠[])(hn:l.length<=100000)(M:aK) :
  aq cY f [.slice .sh (l.map enc)] M=some (.dg M.length 0 sz 0 l.length,M++[.arr sz 0 (l.map enc)]):=by
 refine gy (g:=pN sz bytes) hp ?_;obtain⟨a,r,rfl⟩:=fm h0;have hw:wid ((a::r).map enc) sz:=by have:=mB enc sz hw (a::r); simpa using this
 have hr:dL ((a::r).map enc).length bytes:=by have:=r9 (a:=(a::r).length) (b:=bytes) (by omega) (by omega); simpa using this
 unfold pN;simp only[aV] at hw hr ⊢;rw[fY ⟨hw,hr⟩];simp
def Qn(hp:cY.sK f=some (ng sz bytes))(hb:bytes<=1000){l:List α}{b id v:Nat}(h:b<=l.length)(hn:l.length<=100000)(x:ag)(hx:x.cells.length=sz)(M:aK)(hM:nth M id=some (.arr sz v (l.map enc))) :
  aq cY f [.dg id v sz 0 l.length,.int .i64 b,.slice .sh [x]] M=some (.dg id (v+1) sz 0 (l.length+1),jZ M id (.arr sz (v+1) ((l.map enc).take b++x::(l.map enc).drop b))):=by
 refine gy (g:=ng sz bytes) hp ?_;have hr:dL ((l.map enc).length+1) bytes:=by have:=r9 (a:=l.length+1) (b:=bytes) (by omega) (by omega); simpa using this
 unfold ng;simp only[hM];rw[fY ⟨trivial,trivial,trivial,by simp,by omega,by simpa using h,hx,hr⟩]
 simp
def Qm(hp:cY.sK f=some (ou sz)){l:List α}{b id v:Nat}(h:b<l.length)(hn:l.length<=100000)(M:aK)(hM:nth M id=some (.arr sz v (l.map enc))) :
  aq cY f [.dg id v sz 0 l.length,.int .i64 b,.int .i64 ((b+1:Nat):Int)] M=some (.dg id (v+1) sz 0 (l.length-1),jZ M id (.arr sz (v+1) ((l.map enc).take b++(l.map enc).drop (b+1)))):=by
 refine gy (g:=ou sz) hp ?_;unfold ou;simp only[hM];rw[fY ⟨trivial,trivial,trivial,by simp,by omega,by simpa using h,by omega,by simp; omega⟩]
 simp
def Va{l:List α}{b:Nat}(h:b<l.length):List.take (l.length-1) ((l.map enc).take b++(l.map enc).drop (b+1))=(l.eraseIdx b).map enc:=by
 rw[cj (by simp; omega),List.eraseIdx_eq_take_drop_succ]
 simp
def Vv{l:List α}{b:Nat}(h:b<=l.length)(x:α):List.take (l.length+1) ((l.map enc).take b++enc x::(l.map enc).drop b)=(l.take b++x::l.drop b).map enc:=by
 rw[cj (by simp; omega)]
 simp
end
attribute [local irreducible] fP fi kD gK dp kr aq aL ct bI
def Vx(t:Tree)(au:Int)(ht:Small t)(hr:we t)(M:aK):aL (aq cY) 106 [.agg [aZ t.ae,.int .i64 t.next,.int .i64 t.ai],.int .i64 au] M=some (.tuple [.agg (aU (bD t.ae au)),.bool (find t.ae au).isSome],M) :=
 cO (ajp t au ht hr) M
def akW(t:Tree)(au:Int)(ht:Small t)(hr:we t)(M:aK):aL (aq cY) 104 [.agg [aZ t.ae,.int .i64 t.next,.int .i64 t.ai],.int .i64 au] M=some (.tuple [.agg (bc (oN t au).1),.int .i64 (oN t au).2],M) :=
 cO (ajn t au ht hr) M
end
section
attribute [local irreducible] fP fi kD gK dp kr aq aL ct bI
def cn.sz{t:Tree}{cf:Int->Nat}{x:Int}(h:cn t cf x):Sz 200 t where
 ae:=h.ae
 aM:=fun n hn=>by have:=(h.xJ _ _ ((ft h.jB.ju).2 ⟨hn,rfl⟩)).2; omega
 data:=fun n hn=>by
  have hi:=(ft h.jB.ju).2 ⟨hn,rfl⟩;rcases h.kind _ _ hi with h1|h1
  ·have:=(h.file _ _ hi h1).2.2; omega
  ·rw[h.dir _ _ hi h1]; simp
def Sz.KV{b:Nat}{t:Tree}(h:Sz b t)(hb:b<=100000:=by omega):Small t:=h.small hb
def Rt(t:Tree):Prop:=∃cf,cn t cf 0
def Rt.jB{t:Tree}(h:Rt t):we t:=let ⟨_,g⟩:=h; g.jB
def Rt.sz{t:Tree}(h:Rt t):Sz 200 t:=let ⟨_,g⟩:=h; g.sz
def Rt.small{t:Tree}(h:Rt t):Small t:=h.sz.small (by omega)
def Rt.free{t:Tree}(h:Rt t)(au:Int):Rt (oN t au).1:=let ⟨_,g⟩:=h; ⟨_,Ec g au⟩
def b0T(n:Tree)(B:Nat)(M:aK):List.map (ag.jz B M) (bc n)=bc n:=rfl
end
abbrev AM(α:Type):=List (Int×α)
section
variable {α:Type}
def wA(l:AM α):List ag:=l.map fun p => .int .i64 p.1
def qP(enc:α->ag)(l:AM α):List ag:=l.map fun p=>enc p.2
def dq:AM α->Int->Option α
 | [],_=>none
 |(k',v)::l,k=>if k=k' then some v else dq l k
def kl:AM α->Int->α->AM α
 | [],k,v=>[(k,v)]
 |(k',v')::l,k,v=>if k=k' then (k,v)::l else (k',v')::kl l k v
def fX:∀(l:AM α)(k:Int)(v:α)(j:Int),dq (kl l k v) j=if j=k then some v else dq l j
 | [],k,v,j=>by simp only[kl,dq]
 |(k',v')::l,k,v,j=>by
  simp only[kl];split
  ·rename_i h;subst h;simp only[dq];split<;>rfl
  ·rename_i h;simp only[dq];split
   ·rename_i h2;rw[ak (fun hh=>h (hh.symm.trans h2))]
   ·exact fX l k v j
def C5:∀(l:AM α)(k:Int)(v:α),dq l k=some v->(k,v)∈l
 |(k',v')::l,k,v,h=>by
  simp only[dq] at h;split at h
  ·rename_i hk;injection h with h
   subst h; subst hk;exact aD
  ·exact aO _ (C5 l k v h)
def S7:∀(l:AM α)(k:Int)(v:α),(kl l k v).length<=l.length+1
 | [],_,_=>by simp[kl]
 |(k',v')::l,k,v=>by
  simp only[kl];split
  ·simp
  ·have:=S7 l k v;simp; omega
def mu(enc:α->ag):∀(l:AM α)(k:Int),uz .i (.int .i64 k) (wA l) (qP enc l)=some ((dq l k).map enc)
 | [],k=>rfl
 |(k',v)::l,k=>by
  show bI (ig .i (.int .i64 k) (.int .i64 k')) (fun b=>zk b (some (some (enc v))) (uz .i (.int .i64 k) (wA l) (qP enc l)))=_
  rw[mu enc l k];simp only[ig,↓reduceIte,bZ,dq]
  by_cases h:k=k'
  ·rw[az h,show(k==k')=true by simpa using h,uZ]; rfl
  ·rw[ak h,show(k==k')=false by simpa using h,nA]
end
section
variable {α:Type}
def tN(enc:α->ag):∀(l:AM α)(k:Int)(v:α),sH .i (.int .i64 k) (enc v) (wA l) (qP enc l)=some (wA (kl l k v),qP enc (kl l k v))
 | [],k,v=>by
  show bI (ig .i (.int .i64 k) (.int .i64 k)) (fun _=>some ([ag.int .i64 k],[enc v]))=_
  simp only[ig,↓reduceIte,bZ];rfl
 |(k',v')::l,k,v=>by
  show bI (ig .i (.int .i64 k) (.int .i64 k')) (fun b=>zk b (some (ag.int .i64 k::wA l,enc v::qP enc l)) (bI (sH .i (.int .i64 k) (enc v) (wA l) (qP enc l)) fun x=>some (ag.int .i64 k'::x.1,enc v'::x.2)))=_
  rw[tN enc l k v];simp only[ig,↓reduceIte,bZ,kl]
  by_cases h:k=k'
  ·rw[az h,show(k==k')=true by simpa using h,uZ]; rfl
  ·rw[ak h,show(k==k')=false by simpa using h,nA]; rfl
def aao(enc:α->ag)(B:Nat)(M:aK)(h:∀a,(enc a).jN B M=enc a)(l:AM α):List.map (ag.jN B M) (qP enc l)=qP enc l:=by
 unfold qP;rw[fT];exact bW (fun p _=>h p.2)
def Y3(enc:α->ag)(h:∀a,(enc a).ids=[])(l:AM α):(qP enc l).flatMap ag.ids=[]:=by
 unfold qP;rw[List.flatMap_map];exact jE.2 fun p _=>h p.2
def P1(enc:α->ag)(h:∀a,(enc a).flat=true)(l:AM α):(qP enc l).all ag.flat=true:=bu.2 fun x hx=>by
 obtain⟨p,_,rfl⟩:=bR.1 hx;exact h p.2
def Zu(enc:α->ag)(ρ:Nat->Nat)(h:∀a,(enc a).rn ρ=enc a)(l:AM α):(qP enc l).map (ag.rn ρ)=qP enc l:=by
 unfold qP;rw[fT];exact bW (fun p _=>h p.2)
def Vb(l:AM α):(wA l).length=l.length:=by simp[wA]
def Ic(o:Option Bool):mr (.bool false) false (o.map ag.bool) = .bool (o.getD false):=by cases o<;>rfl
end
noncomputable def nH(T:Bz)(f0:Nat)(g:List ag->aK->Option (ag×aK)):Bz:=⟨T.code,fun f=>if f=f0 then some g else T.sK f⟩
def w9{P:Program}{T:Bz}(hT:xQ P T){f0:Nat}{g:List ag->aK->Option (ag×aK)}(he:kJ P f0=true)(hg:∀ {args:List ag} {M:aK} {x:ag×aK},g args M=some x->eM P f0 args M x):xQ P (nH T f0 g):=by
 refine⟨hT.code,fun f g' h args M x hx=>?_⟩
 simp only[nH] at h;split at h
 ·rename_i hf;cases h; subst hf;exact⟨he,hg hx⟩
 ·exact hT.sK f g' h args M x hx
def zC{T:Bz}{f0:Nat}{g:List ag->aK->Option (ag×aK)}(h1:T.code f0=none)(h2:T.sK f0=none):∀n,x5 (kP T n) (kP (nH T f0 g) n)
 |0,f,a,M,x,h=>by
  by_cases hf:f=f0
  ·subst hf;rw[kP,h2] at h;cases h
  ·have hp:(nH T f0 g).sK f=T.sK f:=by simp[nH,hf]
   rw[kP] at h ⊢;rw[hp];exact h
 |n+1,f,a,M,x,h=>by
  by_cases hf:f=f0
  ·subst hf;rw[kP,h2,h1] at h;cases h
  ·have hp:(nH T f0 g).sK f=T.sK f:=by simp[nH,hf]
   rw[kP] at h ⊢;rw[hp];split at h
   ·rename_i g hg; exact h
   ·rename_i hg;have hc:(nH T f0 g).code f=T.code f:=rfl;rw[hc];split at h
    ·cases h
    ·rename_i fn hfn;split at h
     ·rename_i hl;simp only[az hl];obtain⟨o,ho,h⟩:=bn h;rw[j5 (zC h1 h2 n) _ ho,bZ];exact h
     ·cases h
def w8{T:Bz}{f0:Nat}{g:List ag->aK->Option (ag×aK)}(h1:T.code f0=none)(h2:T.sK f0=none){f:Nat}{a:List ag}{M:aK}{x:ag×aK}(h:aq T f a M=some x):aq (nH T f0 g) f a M=some x:=by
 obtain⟨n,hn⟩:=uw h;exact pY (fun n x h=>uE _ n f a M x h) (zC h1 h2 n f a M x hn)
noncomputable def ah9:Bz:=nH cY 158 (KN (aq cY) LA 1)
def Xj:xQ Tryz.prog ah9:=w9 Ug (by kernel_rfl) (fun h=>(NG (by kernel_rfl) (ud (by kernel_rfl) Ug) func158 ahD h).2)
noncomputable def fO:Bz:=nH ah9 63 De
def Mz:xQ Tryz.prog fO:=w9 Xj (by kernel_rfl) (fun h=>Ud h)
def Ua:pd Tryz.prog (aq fO):=ud (by kernel_rfl) Mz
def MA{f:Nat}{a:List ag}{M:aK}{x:ag×aK}(h:aq cY f a M=some x):aq fO f a M=some x:=w8 rfl rfl (w8 rfl rfl h)
def lS'{f:Nat}{a:List ag}{M:aK}{x:ag×aK}(h:aq cY f a M=some x):aq fO f a M=some x:=MA h
def lS{f:Nat}{vs:List ag}{M:aK}{x:ag×aK}(h:aL (aq cY) f vs M=some x):aL (aq fO) f vs M=some x:=by
 obtain⟨a,B,y,h1,h2⟩:=tC h;exact h2 _ (MA h1)
def k63(s:Bytes)(hs:s.length<=100000)(M:aK):aL (aq fO) 63 [.str s] M=some (.tuple [fL (bw s).1,.int .i64 (bw s).2],M):=by
 have h:aq fO 63 [.str s] []=some (.tuple [fL (bw s).1,.int .i64 (bw s).2],[]):=by
  refine gy (g:=De) rfl ?_;unfold De;simp only[];rw[az ⟨trivial,hs⟩]
 exact cO h M
end
section
open Go Go.RowKit Go.Extern.Stop Go.Stop Go.Extern
def Ky (h:Value) (w:World):(Go.method 442 248 (.agg #[h]) "Kind").run Tryz.prog w = .ok (301,h) w:=by kernel_rfl
def Kx (h:Value) (w:World):(Go.method 442 248 (.agg #[h]) "Elem").run Tryz.prog w = .ok (312,.agg #[h]) w:=by kernel_rfl
def Ar (h:Value) (w:World):(Go.method 442 248 (.agg #[h]) "Implements").run Tryz.prog w = .ok (313,.agg #[h]) w:=by kernel_rfl
def yA (h:Value) (w:World):(Go.method 442 248 (.agg #[h]) "AssignableTo").run Tryz.prog w = .ok (310,.agg #[h]) w:=by kernel_rfl
def rlm(z:Sem Value)(f:TypeId->Addr->Nat->Nat->Sem Value)(v:Value) :
  ReflectliteValue.method z f #[v]=(do match <-ReflectliteValue.parts v with|none=>z|some (t,a,fl)=>f t a fl (fl % 32)):=rfl
theorem rls:∃s1 s2 s3 s4 s5:String,∀v x:Value,ReflectliteValue.set #[v,x]=(do
  let (some (dst,a,fl),some (src,b,_)):=(<-ReflectliteValue.parts v,<-ReflectliteValue.parts x)
   |unsupported (.noEntry s1)
  if fl / ReflectliteValue.flagAddr % 2==0 then unsupported (.noEntry s2)
  let val <-loadVar src b
  if <-Rtype.directlyAssignable dst src then storeVar dst a val
  else if <-Rtype.implements dst src then
   if (<-Rtype.kind src)==20 then
    match val with
    | .nilIface=>unsupported (.noEntry s3)
    |_=>storeVar dst a val
   else storeVar dst a (.iface src val)
  else panicString (s4 ++ (<-Rtype.spelt src) ++ s5 ++ (<-Rtype.spelt dst))
  pure (.tuple #[])):=⟨_,_,_,_,_,fun v x=>rfl⟩
def JZ(t:Addr)(w:World):(ReflectliteValue.unpack (.iface 140 (.pointer (some t)))).run Tryz.prog w
  = .ok (.agg #[.pointer (some ⟨2,140,none⟩),.pointer (some ⟨w.heap.size,0,none⟩),.int .u64 150]) (w.alloc (.cells #[.pointer (some t)] 140)):=by kernel_rfl
def Vk (a:Addr) (w:World):(ReflectliteValue.methodAny (ReflectliteValue.valueError "reflectlite.Value.Type" 0) (fun t _ _ _=>ReflectliteType.toType t) #[.agg #[.pointer (some ⟨2,140,none⟩),.pointer (some a),.int .u64 150]]).run Tryz.prog w
  = .ok (.iface 248 (.agg #[.pointer (some ⟨2,140,none⟩)])) w:=by kernel_rfl
def Vi(w:World):((ReflectliteType.abiMethod fun t=>Functor.map (fun a:Nat=>Value.int IntKind.u8 (a:Int)) (Rtype.kind t)) #[.pointer (some ⟨2,140,none⟩)]).run Tryz.prog w = .ok (.int .u8 22) w:=by kernel_rfl
def Vj(w:World):((ReflectliteType.abiMethod fun t=>Functor.map (fun a:Nat=>Value.int IntKind.u8 (a:Int)) (Rtype.kind t)) #[.pointer (some ⟨2,34,none⟩)]).run Tryz.prog w = .ok (.int .u8 2) w:=by kernel_rfl
def Hn(a:Addr)(w:World):(ReflectliteValue.parts (.agg #[.pointer (some ⟨2,140,none⟩),.pointer (some a),.int .u64 150])).run Tryz.prog w = .ok (some (140,a,150)) w:=by kernel_rfl
def PO(a p:Addr)(W:World)(ha:W.cell? a=some (.pointer (some p))) :
  (ReflectliteValue.method (ReflectliteValue.valueError "reflectlite.Value.IsNil" 0) ReflectliteValue.isNil #[.agg #[.pointer (some ⟨2,140,none⟩),.pointer (some a),.int .u64 150]]).run Tryz.prog W = .ok (.bool false) W:=by
 rw[rlm];simp only[Sem.run_bind,Hn,Result.andThen];simp[ReflectliteValue.isNil,loadVar,isAgg,underlying,underlying140,ha,Result.andThen]
def Vh(w:World):(ReflectliteType.method ReflectliteType.elem #[.agg #[.pointer (some ⟨2,140,none⟩)]]).run Tryz.prog w = .ok (.iface 248 (.agg #[.pointer (some ⟨2,34,none⟩)])) w:=by kernel_rfl
def DH (w:World):(ReflectliteType.relation "Implements" ReflectliteType.implements_ #[.agg #[.pointer (some ⟨2,34,none⟩)],.iface 248 (.agg #[.pointer (some ⟨2,137,none⟩)])]).run Tryz.prog w = .ok (.bool true) w:=by kernel_rfl
def Np(v:Value)(w:World):(ReflectliteType.typeOf #[.iface 34 v]).run Tryz.prog w = .ok (.iface 248 (.agg #[.pointer (some ⟨2,34,none⟩)])) w:=by kernel_rfl
def DG (w:World):(ReflectliteType.relation "AssignableTo" ReflectliteType.assignableTo #[.agg #[.pointer (some ⟨2,34,none⟩)],.iface 248 (.agg #[.pointer (some ⟨2,34,none⟩)])]).run Tryz.prog w = .ok (.bool true) w:=by kernel_rfl
def J0(e:Int)(w:World):(ReflectliteValue.unpack (.iface 34 (.int .i64 e))).run Tryz.prog w
  = .ok (.agg #[.pointer (some ⟨2,34,none⟩),.pointer (some ⟨w.heap.size,0,none⟩),.int .u64 130]) (w.alloc (.cells #[.int .i64 e] 34)):=by kernel_rfl
def Nl(w:World):(Rtype.elem? 140).run Tryz.prog w = .ok (some 34) w:=by kernel_rfl
def afW(p:Addr)(w:World):(ReflectliteValue.mk 34 p ReflectliteValue.flagAddr).run Tryz.prog w = .ok (.agg #[.pointer (some ⟨2,34,none⟩),.pointer (some p),.int .u64 386]) w:=by kernel_rfl
def PN(a p:Addr)(W:World)(ha:W.cell? a=some (.pointer (some p))) :
  (ReflectliteValue.method (ReflectliteValue.valueError "reflectlite.Value.Elem" 0) ReflectliteValue.elem #[.agg #[.pointer (some ⟨2,140,none⟩),.pointer (some a),.int .u64 150]]).run Tryz.prog W
   = .ok (.agg #[.pointer (some ⟨2,34,none⟩),.pointer (some p),.int .u64 386]) W:=by
 rw[rlm];simp only[Sem.run_bind,Hn,Result.andThen];simp[ReflectliteValue.elem,loadVar,isAgg,underlying,underlying140,ha,Result.andThen,Nl,afW]
def Nn(a:Addr)(w:World):(ReflectliteValue.parts (.agg #[.pointer (some ⟨2,34,none⟩),.pointer (some a),.int .u64 386])).run Tryz.prog w = .ok (some (34,a,386)) w:=by kernel_rfl
def PQ(a:Addr)(w:World):(ReflectliteValue.parts (.agg #[.pointer (some ⟨2,34,none⟩),.pointer (some a),.int .u64 130])).run Tryz.prog w = .ok (some (34,a,130)) w:=by kernel_rfl
def Nk(w:World):(Rtype.directlyAssignable 34 34).run Tryz.prog w = .ok true w:=by kernel_rfl
def aat(ta b:Addr)(e:Int)(uk:Value)(W:World)(hb:W.cell? b=some (.int .i64 e))(ht:W.cell? ta=some uk)(hf:W.frozen? ta=false) :
  (ReflectliteValue.set #[.agg #[.pointer (some ⟨2,34,none⟩),.pointer (some ta),.int .u64 386],.agg #[.pointer (some ⟨2,34,none⟩),.pointer (some b),.int .u64 130]]).run Tryz.prog W
   = .ok (.tuple #[]) (W.setCell ta (.int .i64 e)):=by
 have hz:=sizeOf34;have hadd:∀a:Addr,a.add 0=a:=fun a=>by simp[Addr.add]
 obtain⟨s1,s2,s3,s4,s5,rls⟩:=rls;rw[rls];simp only[Sem.run_bind,Nn,PQ,Result.andThen];simp[ReflectliteValue.flagAddr,loadVar,isAgg,underlying,underlying34,hb,Result.andThen,Nk,storeVar,Value.cells,storeCells,loadCells,loadCellsFrom,hz,hadd];rw[run_store Tryz.prog W ta _ _ (by rfl)]
 simp[ht,hf]
set_option maxHeartbeats 4000000 in
set_option maxRecDepth 40000 in
def afV(e:Int)(t:Addr)(uk:Value)(w:World)(hg:w.cell? ⟨0,0,none⟩=some (.iface 248 (.agg #[.pointer (some ⟨2,137,none⟩)])))(ht0:w.cell? t=some uk)(hf0:w.frozen? t=false) :
  Calls Tryz.prog 96 #[.iface 34 (.int .i64 e),.iface 140 (.pointer (some t))] w fun ev w'=>ev = .returned (.bool true)/\w'=((((w.alloc (.cells #[.pointer (some t)] 140)).alloc (.cells #[.pointer (some ⟨2,140,none⟩),.pointer (some ⟨w.heap.size,0,none⟩),.int .u64 150] 200)).alloc (.cells #[.pointer (some ⟨2,140,none⟩),.pointer (some ⟨w.heap.size,0,none⟩),.int .u64 150] 200)).alloc (.cells #[.int .i64 e] 34)).setCell t (.int .i64 e):=by
 have h6:=@run_callFunc_extern Tryz.prog 164 _ (fun args=>ReflectliteValue.unpack (args.getD 0 (.tuple #[]))) func164 (by kernel_rfl) (by kernel_rfl) (by kernel_rfl) (by kernel_rfl)
 have h7:=@run_callFunc_extern Tryz.prog 165 _ (ReflectliteValue.methodAny (ReflectliteValue.valueError "reflectlite.Value.Type" 0) (fun t _ _ _=>ReflectliteType.toType t)) func165 (by kernel_rfl) (by kernel_rfl) (by kernel_rfl) (by kernel_rfl)
 have h8:=@run_callFunc_extern Tryz.prog 166 _ (ReflectliteValue.method (ReflectliteValue.valueError "reflectlite.Value.IsNil" 0) ReflectliteValue.isNil) func166 (by kernel_rfl) (by kernel_rfl) (by kernel_rfl) (by kernel_rfl)
 have h27:=@run_callFunc_extern Tryz.prog 301 _ (ReflectliteType.abiMethod fun t=>do pure (.int .u8 (<-Rtype.kind t))) func301 (by kernel_rfl) (by kernel_rfl) (by kernel_rfl) (by kernel_rfl)
 have h37:=@run_callFunc_extern Tryz.prog 312 _ (ReflectliteType.method ReflectliteType.elem) func312 (by kernel_rfl) (by kernel_rfl) (by kernel_rfl) (by kernel_rfl)
 have h38:=@run_callFunc_extern Tryz.prog 313 _ (ReflectliteType.relation "Implements" ReflectliteType.implements_) func313 (by kernel_rfl) (by kernel_rfl) (by kernel_rfl) (by kernel_rfl)
 have h10:=@run_callFunc_extern Tryz.prog 213 _ ReflectliteType.typeOf func213 (by kernel_rfl) (by kernel_rfl) (by kernel_rfl) (by kernel_rfl)
 have h35:=@run_callFunc_extern Tryz.prog 310 _ (ReflectliteType.relation "AssignableTo" ReflectliteType.assignableTo) func310 (by kernel_rfl) (by kernel_rfl) (by kernel_rfl) (by kernel_rfl)
 have h11:=@run_callFunc_extern Tryz.prog 214 _ (ReflectliteValue.method (ReflectliteValue.valueError "reflectlite.Value.Elem" 0) ReflectliteValue.elem) func214 (by kernel_rfl) (by kernel_rfl) (by kernel_rfl) (by kernel_rfl)
 have h12:=@run_callFunc_extern Tryz.prog 215 _ ReflectliteValue.set func215 (by kernel_rfl) (by kernel_rfl) (by kernel_rfl) (by kernel_rfl)
 have tO:=Np;have mA:=yA;have a25:=DG;have v25:=J0;have f6:=JZ;have f7:=Vk;have mK:=Ky;have mE:=Kx;have mI:=Ar;have k27:=Vi;have k25:=Vj;have e27:=Vh;have i25:=DH;have n8:=PO ⟨w.heap.size,0,none⟩ t ((w.alloc (.cells #[.pointer (some t)] 140)).alloc (.cells #[.pointer (some ⟨2,140,none⟩),.pointer (some ⟨w.heap.size,0,none⟩),.int .u64 150] 200)) (by simp)
 have cr:0<w.heap.size:=by
  rcases fA w.heap.size with h0|h
  ·simp[World.cell?,h0] at hg
  ·exact h
 have hg2:((w.alloc (.cells #[.pointer (some t)] 140)).alloc (.cells #[.pointer (some ⟨2,140,none⟩),.pointer (some ⟨w.heap.size,0,none⟩),.int .u64 150] 200)).cell? ⟨0,0,none⟩=some (.iface 248 (.agg #[.pointer (some ⟨2,137,none⟩)])):=by
  rw[World.cell?_alloc_lt _ _ ⟨0,0,none⟩ (by simp),World.cell?_alloc_lt _ _ ⟨0,0,none⟩ cr]; exact hg
 have htl:t.block<w.heap.size:=by
  rcases bG t.block w.heap.size with h|h
  ·exact h
  ·simp[World.cell?,gU h] at ht0
 have el:=PN ⟨w.heap.size,0,none⟩ t (((w.alloc (.cells #[.pointer (some t)] 140)).alloc (.cells #[.pointer (some ⟨2,140,none⟩),.pointer (some ⟨w.heap.size,0,none⟩),.int .u64 150] 200)).alloc (.cells #[.pointer (some ⟨2,140,none⟩),.pointer (some ⟨w.heap.size,0,none⟩),.int .u64 150] 200)) (by rw[World.cell?_alloc_lt _ _ ⟨w.heap.size,0,none⟩ (by simp; omega)]; simp)
 have st:=aat t ⟨w.heap.size+1+1+1,0,none⟩ e uk ((((w.alloc (.cells #[.pointer (some t)] 140)).alloc (.cells #[.pointer (some ⟨2,140,none⟩),.pointer (some ⟨w.heap.size,0,none⟩),.int .u64 150] 200)).alloc (.cells #[.pointer (some ⟨2,140,none⟩),.pointer (some ⟨w.heap.size,0,none⟩),.int .u64 150] 200)).alloc (.cells #[.int .i64 e] 34))
  (by rw[World.cell?_alloc_at _ _ _ _ (by simp)]; rfl)
  (by rw[World.cell?_alloc_lt _ _ t (by simp; omega),World.cell?_alloc_lt _ _ t (by simp; omega),World.cell?_alloc_lt _ _ t (by simp; omega),World.cell?_alloc_lt _ _ t htl]; exact ht0)
  (by rw[World.frozen?_alloc_old _ _ t (by simp; omega),World.frozen?_alloc_old _ _ t (by simp; omega),World.frozen?_alloc_old _ _ t (by simp; omega),World.frozen?_alloc_old _ _ t (gm htl)]; exact hf0)
 go_enter func96,ntmps96
 go_wp2
 refine wp_loop_rounds 1 ?_;rw[rounds_succ]
 go_wp2
 go_ret
 exact⟨rfl,rfl⟩
end
section
open Go Go.Abs
def Jy(w:World):(Instr.typeAssert .nilIface 20 137 true).run Tryz.prog w = .ok (.tuple #[.nilIface,.bool false]) w:=by kernel_rfl
def Jw(v:Value)(w:World):(Instr.typeAssert (.iface 34 v) 20 137 true).run Tryz.prog w = .ok (.tuple #[.iface 34 v,.bool true]) w:=by kernel_rfl
set_option maxRecDepth 40000 in
def OB(p:Value)(w:World) :
  CallsD Tryz.prog 95 #[p] .returning w fun e u' w'=>e = .returned (.tuple #[])/\u' = .returning/\w'=w:=by
 refine callsD_of_wpS func95 rfl fun c₀ cs hu=>?_
 simp only[ntmps95,cH,av,aG,Nat.reduceAdd,Nat.reduceSub,jh,ji,kx,jC,aW,aX];apply wpS_seq;apply wpS_region;simp[wpOpsS,go_sem,recoverD,hu,Exit.thenS,Jy];apply wpS_seq;apply wpS_region;simp[wpOpsS,go_sem,Exit.thenS];refine wpS_cond (t:=false) (by simp[Act.eval]) ?_
 simp only[af,aw];refine wpS_of_wp (wp_skip ?_);cases c₀;simp_all [bodyPostS,results,Tryz.results95]
def FP(w:World)(o:Obj):(w.alloc o).heap=w.heap.push o:=rfl
def Xd{e:Int}{j:J}{M:aK}{w W:World}{k b:Nat}{c:ag}(hr:Rel j M w)(hM:M[k]?=some (.cells [c]))(hj:j k=some b){vs:Array Value}{t:TypeId}(hw:w.heap[b]?=some (.cells vs t (0,0)))(hv:vs.size=1)
  (hsz:w.heap.size<=W.heap.size) (hos:W.os=w.os) (ht:W.tape=w.tape) (hou:W.output=w.output) (hq:∀b',b'≠b->b'<w.heap.size->W.heap[b']?=w.heap[b']?) (hs:W.heap[b]?=some (.cells (vs.setIfInBounds 0 (.int .i64 e)) t (0,0))) :
  Rel j (M.set k (.cells [.int .i64 e])) W/\Ext j M w j (M.set k (.cells [.int .i64 e])) W:=by
 have hg:∀(vs':Array Value)(t':TypeId)(fr:Nat×Nat),w.heap[b]?=some (.cells vs' t' fr)->∃us fr',W.heap[b]?=some (.cells us t' fr')/\us.size=vs'.size:=fun vs' t' fr h=>by
  rw[hw] at h;injection h with h
  injection h with h1 h2 h3
  subst h1; subst h2;exact⟨_,_,hs,by simp⟩
 have q:Quiet w W:=⟨hsz,hos,ht,hou⟩;refine⟨Rel.store hM rfl rfl hj hr q hq hg fun j' M' _=>⟨_,_,hs,by simp[hv],fun i c v hc hv=>?_⟩,Ext.store hM rfl rfl hj hr q hq hg⟩
 match i with
 |0 =>
  have h0:(vs.setIfInBounds 0 (.int .i64 e))[0]?=some (.int .i64 e):=Array.getElem?_setIfInBounds_self_of_lt (by omega)
  rw[h0] at hv;simp at hc;injection hv with hv
  subst hc; subst hv;exact .plain (.int _ _)
 |i+1=>simp at hc
def Uh{e:Int}{j:J}{M:aK}{w:World}(hr:Rel j M w)(hG:su j M w){k b:Nat}{c:ag}(hM:M[k]?=some (.cells [c]))(hj:j k=some b){vs:Array Value}{t:TypeId}(hw:w.heap[b]?=some (.cells vs t (0,0)))(hv:vs.size=1) :
  CallsD Tryz.prog 95 #[.pointer (some ⟨b,0,none⟩)] (.panicking [{ v := .iface 34 (.int .i64 e),recovered:=false }]) w fun ed u' w' =>
   ed = .returned (.tuple #[])/\u' = .panicking [{ v := .iface 34 (.int .i64 e),recovered:=true }]/\Rel j (M.set k (.cells [.int .i64 e])) w'/\Ext j M w j (M.set k (.cells [.int .i64 e])) w':=by
 have hg:=(hG.g 0 [Ho] 0 Ho rfl rfl).2;have cr:0<w.heap.size:=(hG.g 0 [Ho] 0 Ho rfl rfl).1.lt;have hk:k<M.length:=aF hM;have hb:=hr.lt _ _ hk hj;refine callsD_of_wpS func95 rfl fun c₀ cs hu=>?_
 simp only[ntmps95,cH,av,aG,Nat.reduceAdd,Nat.reduceSub,jh,ji,kx,jC,aW,aX];apply wpS_seq;apply wpS_region;simp[wpOpsS,go_sem,recoverD,hu,Exit.thenS,Jw];refine wpS_of_wp ?_;refine wp_seq (wp_region ?_);simp[wpOps,go_sem,Exit.then]
 repeat' refine Or.inl ?_
 refine(afV e ⟨b,0,none⟩ vs[0] _ hg (by simp[World.cell?,hw,hv]) (by simp[World.frozen?,hw])).mono ?_
 rintro ev w' ⟨rfl,rfl⟩;simp[go_sem]
 repeat' refine Or.inl ?_
 refine wp_cond (t:=false) ?_ ?_
 ·simp[Act.eval]
 simp only[af,aw];refine wp_skip ?_
 have hR:=Xd (e:=e) (W:=((((w.alloc (.cells #[.pointer (some ⟨b,0,none⟩)] 140)).alloc (.cells #[.pointer (some ⟨2,140,none⟩),.pointer (some ⟨w.heap.size,0,none⟩),.int .u64 150] 200)).alloc (.cells #[.pointer (some ⟨2,140,none⟩),.pointer (some ⟨w.heap.size,0,none⟩),.int .u64 150] 200)).alloc (.cells #[.int .i64 e] 34)).setCell ⟨b,0,none⟩ (.int .i64 e)) hr hM hj hw hv (by simp[World.setCell,FP]; omega) rfl rfl rfl (fun b' h1 h2=>by
   have h3:b'≠w.heap.size:=by omega
   have h4:b'≠w.heap.size+1:=by omega
   have h5:b'≠w.heap.size+1+1:=by omega
   have h6:b'≠w.heap.size+1+1+1:=by omega
   simp[World.setCell,eY,dA h1,FP,fI,h3,h4,h5,h6]) (by
   have h3:b≠w.heap.size:=by omega
   have h4:b≠w.heap.size+1:=by omega
   have h5:b≠w.heap.size+1+1:=by omega
   have h6:b≠w.heap.size+1+1+1:=by omega
   simp[World.setCell,eY,FP,fI,hw,h3,h4,h5,h6])
 simp[bodyPostS,results,Tryz.results95];exact hR
end
end Go.Proofs.YtcbopkblmebjiaaGreatDoor
set_option linter.defProp false
namespace Go.Proofs.YtcbopkblmebjiaaGreatDoor
open Go Go.Abs
def TT:cv :=
 (.seq (.region [
 ox (.store 1 (.tmp 2) (.lg (.int .i64 0)))] false [2]) (.ret))
noncomputable def XH:Code:=match Tryz.f44.body with|some (.seq _ (.seq _ r))=>r|_ => .skip
def Pg:BZ:={ n:=6,own:=[],lv:=[(2,[2]),(3,[2])],lp:=[] }
def DY:cv :=
 (.seq (.region [
 ob 4 (.mv (.tmp 0)),
 ob 5 (.vN (.tmp 4) [])] false [2]) TT)
def ahO:comp Tryz.prog Pg XH=some DY:=by kernel_rfl
noncomputable def XG:Code:=match Tryz.f44.body with|some (.seq r _)=>r|_ => .skip
def ZV:BZ:={ n:=6,own:=[],lv:=[(0,[0,2,3])],lp:=[] }
def Lo:cv :=
 (.region [
 ob 2 (.sO [(.int .i64 0)])] false [0,2,3])
def ahN:comp Tryz.prog ZV XG=some Lo:=by kernel_rfl
end Go.Proofs.YtcbopkblmebjiaaGreatDoor
namespace Go.Abs
open Go
variable [kd]
def TF{a:Act}{d:Option Nat}{v:Value}{t:Nat}(h:d≠some t):(a.put d v).tmps.getD t undef=a.tmps.getD t undef:=by
 cases d with
 |none=>rfl
 |some s =>
  have hne:s≠t:=fun e=>h (by rw[e])
  simp[Act.put,cT,eR hne]
def QD{F:Fence}{n:Nat}{P:Program}{ops:Array Oper}{Q:Exit->Act->World->Prop}{ks:List Nat}{v0:Nat->Value}:∀(l:List Nat)(a:Act)(w:World),
  (∀i o,i∈l->ops[i]?=some o->∀t,t∈ks->o.dst≠some t)->(∀t,t∈ks->a.tmps.getD t undef=v0 t)->wpOpsIn F n P ops Q l a w->wpOpsIn F n P ops (fun e a' w'=>Q e a' w'/\(e = .outgrown\/∀t,t∈ks->a'.tmps.getD t undef=v0 t)) l a w:=by
 intro l;induction l with
 |nil=>exact fun a w _ hv h=>⟨h,.inr hv⟩
 |cons i rest ih =>
  intro a w hd hv h;have hd':∀i o,i∈rest->ops[i]?=some o->∀t,t∈ks->o.dst≠some t:=fun i o hi=>hd i o (aO _ hi)
  simp only[wpOpsIn] at h ⊢;cases ho:ops[i]? with
  |none=>rw[ho] at h; exact ih a w hd' hv h
  |some o =>
   rw[ho] at h;have hdo:=hd i o aD ho;have hp:∀(a:Act) v,(∀t,t∈ks->a.tmps.getD t undef=v0 t)->∀t,t∈ks->(a.put o.dst v).tmps.getD t undef=v0 t:=fun a v h t ht=>(TF (hdo t ht)).trans (h t ht)
   simp only at h ⊢;split at h
   ·rename_i hw;rw[az hw];refine⟨h.1,?_⟩;have h:=h.2;unfold Oper.uponIn at h ⊢;split at h
    ·exact ih _ _ hd' (hp _ _ hv) h
    ·exact ih _ _ hd' (hp _ _ hv) h
    ·exact ih _ _ hd' (hp _ _ hv) h
    ·refine⟨h.1,h.2.mono fun e w' h=>?_⟩
     cases e with
     |returned v=>exact ih _ _ hd' (hp _ _ hv) h
     |panicked c=>exact⟨h,.inr hv⟩
     |outgrown=>obtain⟨a1,w1,h⟩:=h; exact⟨a1,w1,h,.inl rfl⟩
    ·exact⟨h.1,h.2.mono fun v w' h=>ih _ _ hd' (hp _ _ hv) h⟩
    ·refine⟨h.1,h.2.mono fun e w' h=>?_⟩
     cases e with
     |returned v=>exact ih _ _ hd' (hp _ _ hv) h
     |panicked c=>exact⟨h,.inr hv⟩
     |outgrown=>obtain⟨a1,w1,h⟩:=h; exact⟨a1,w1,h,.inl rfl⟩
    ·exact⟨h,.inr hv⟩
    ·exact h.elim
   ·rename_i hw;rw[ak hw];exact⟨h.1,ih _ _ hd' (hp _ _ hv) h.2⟩
def BD(ks:List Nat)(br:Env)(o:Out):Out:=match o.e with
 | .oy v=>⟨.oy v,jr br ks,o.mem⟩
 |_=>o
noncomputable def wW(C:eL)(ks:List Nat):cv->Env->aK->Option Out
 | .seq x y,br,M=>bI (wW C ks x br M) fun o=>ur o (wW C ks y)
 | .region ops d live,br,M=>bI (fh C (.region ops d live) br M) fun o=>some (if d then o else BD ks br o)
 |c,br,M=>fh C c br M
def HD(ks:List Nat):Code->Bool
 | .seq x y=>HD ks x&&HD ks y
 | .region _ ops _=>ops.toList.all fun o=>match o.dst with|some d => !ks.contains d|none=>true
 |_=>true
def IK{P:Program}{C:eL}{A:BZ}(hmix:P.follows .mixedOrders=true)(hC:pd P C){rd:Option Nat}{nd:Nat}{ks:List Nat}:∀(c:Code){ac:cv},comp P A c=some ac->HD ks c=true->∀ {br:Env} {M:aK} {o:Out},wW C ks ac br M=some o ->
  ∀ {j:J} {w:World} {a:Act},Rel j M w->su j M w->cu j M w br a->a.tmps.size=A.n->c.wpIn (Wd rd) nd P (UK A j M w a o) a w:=by
 intro c;induction c with
 |seq x y ihx ihy =>
  intro ac hc hf br M o h j w a hr hG he hs;simp only[comp] at hc;obtain⟨ax,hx,hc⟩:=a8 hc;obtain⟨ay,hy,hc⟩:=a8 hc;cases hc;simp only[HD,bm] at hf;simp only[wW] at h;obtain⟨o1,h1,h⟩:=bn h;refine wpIn_seq (wpIn_mono (ihx hx hf.1 h1 hr hG he hs) ?_);rintro e a1 w1 ⟨he1,hs1,hd1,j1,r1,e1,x1⟩;rcases tF h with ⟨hn,h2⟩|⟨hn,h2⟩
  ·rw[hn] at he1;subst he1;refine wpIn_mono (ihy hy hf.2 h2 r1 (hG.mono x1) e1 hs1) ?_;rintro e a2 w2 ⟨he2,hs2,hd2,j2,r2,e2,x2⟩;exact⟨he2,hs2,hd2.trans hd1,j2,r2,e2,x1.trans x2⟩
  ·subst h2;have:rJ o.e ≠ .normal:=by cases ho:o.e<;>simp_all [rJ]
   subst he1
   cases hx:rJ o.e<;>first
    |exact absurd hx this
    |exact⟨hx.symm,hs1,hd1,j1,r1,e1,x1⟩
 |region id ops draw =>
  intro ac hc hf br M o h j w a hr hG he hs;cases draw with
  |true =>
   have hc0:=hc;simp only[comp,aE] at hc;obtain⟨l0,hl0,hc⟩:=a8 hc;obtain⟨l,hl,hc⟩:=a8 hc;cases hc;simp only[wW,aE] at h;obtain⟨o1,h1,h⟩:=bn h;cases h;exact mJ hmix hC _ hc0 h1 hr hG he hs
  |false =>
   have hc0:=hc;simp only[comp,af,aw] at hc;obtain⟨l,hl,hc⟩:=a8 hc;cases hc;simp only[wW,af,aw] at h;obtain⟨o1,h1,h⟩:=bn h;cases h;simp only[fh] at h1;obtain⟨x,hx,h1⟩:=bn h1;cases h1
   have hdst:∀i o,i∈List.range ops.size->ops[i]?=some o->∀t,t∈ks->o.dst≠some t:=by
    intro i o _ hio t ht hd;simp only[HD,bu] at hf;have:=hf o (Array.mem_toList_iff.2 (Array.mem_of_getElem? hio));rw[hd] at this;simp[ht] at this
   refine wpIn_mono (wpIn_region (QD (v0:=fun t=>a.tmps.getD t undef) _ a w hdst (fun _ _=>rfl) (by
    rw[nr];exact xy hC (grow:=[]) ops.toList 0 (by simp) hl hx hr hG he hs fun a' w' j' h1 h2 h3 h4 h5=>AB (live:=find A.lv id) h1 h2 h3 h4 h5))) ?_
   rintro e a1 w1 ⟨⟨he1,hs1,hd1,j1,r1,e1,x1⟩,hk⟩;clear hx;generalize x.rb (find A.lv id)=y at he1 r1 e1 x1 ⊢;cases hye:y.e with
   |oy v =>
    have hp:BD ks br y=⟨.oy v,jr br ks,y.mem⟩:=by unfold BD; rw[hye]
    rw[hp];have hk':=hk.resolve_left (by rw[he1,hye]; simp[rJ])
    refine⟨by rw[he1,hye],hs1,hd1,j1,r1,⟨fun t=>?_,hG.mono x1⟩,x1⟩
    rw[yt];split
    ·rename_i ht;rw[hk' t ht];exact(he.at' t).mono x1
    ·exact .any _
   |normal =>
    have hp:BD ks br y=y:=by unfold BD; rw[hye]
    rw[hp]; exact⟨he1,hs1,hd1,j1,r1,e1,x1⟩
   |ret =>
    have hp:BD ks br y=y:=by unfold BD; rw[hye]
    rw[hp]; exact⟨he1,hs1,hd1,j1,r1,e1,x1⟩
   |exit i =>
    have hp:BD ks br y=y:=by unfold BD; rw[hye]
    rw[hp]; exact⟨he1,hs1,hd1,j1,r1,e1,x1⟩
 |_ =>
  intro ac hc hf br M o h j w a hr hG he hs;refine mJ hmix hC _ hc (o:=o) ?_ hr hG he hs;simp only[comp] at hc
  first
   |(cases hc; exact h)
   |(obtain⟨_,_,hc⟩:=a8 hc; injection hc with hc; unfold L5 at hc; split at hc<;>subst hc<;>exact h)
   |(obtain⟨_,_,hc⟩:=a8 hc; cases hc; exact h)
   |(obtain⟨_,_,hc⟩:=a8 hc; obtain⟨_,_,hc⟩:=a8 hc; obtain⟨_,_,hc⟩:=a8 hc; cases hc; exact h)
   |cases hc
end Go.Abs
namespace Go.Proofs.YtcbopkblmebjiaaGreatDoor
open Go Go.Abs
def Zv:List sr:=[.Pt 2]
noncomputable def BM(n k:Nat)(o:Out):Option (ag×aK) :=
 match o.e with
 | .ret=>bI (pO o.br o.mem Zv) fun l=>some ((Abs.one l).mf n o.mem,jO n o.mem)
 | .oy (.iface 34 (.int .i64 e)) =>
  match o.mem[k]? with
  |some (.cells [_])=>bI (pO o.br (o.mem.set k (.cells [.int .i64 e])) Zv) fun l=>some ((Abs.one l).mf n (o.mem.set k (.cells [.int .i64 e])),jO n (o.mem.set k (.cells [.int .i64 e])))
  |_=>none
 |_=>none
noncomputable def ES:List ag->aK->Option (ag×aK):=fun args M =>
 if args.length=1 then
  bI (fh (aq fO) Lo (jY 0 args) M) fun o1 =>
  match o1.e,il o1.br 2 with
  | .normal,.ptr k 0=>bI (wW (aq fO) [2] DY (jr o1.br [0,2]) o1.mem) fun o2=>BM M.length k o2
  |_,_=>none
 else none
def K3{args:List ag}{M:aK}{x:ag×aK}(h:ES args M=some x):eM Tryz.prog 44 args M x:=by
 unfold ES at h;split at h
 rotate_left
 ·cases h
 rename_i eU;obtain⟨o1,ho1,h⟩:=bn h;split at h
 rotate_left
 ·cases h
 rename_i k hn1 hk1;obtain⟨o2,ho2,h⟩:=bn h;intro j w vs hr hG hvl hv;refine calls_of_wp_defers func44 rfl ?_;refine wp_seq ?_;have hsz:(vs++Array.replicate (Tryz.f44.ntmps-vs.size) undef).size=6:=by rw[ntmps44]; simp; omega
 have he:cu j M w (jY 0 args) { tmps:=vs++Array.replicate (Tryz.f44.ntmps-vs.size) undef,defers:=[] }:=by
  refine⟨fun t=>?_,hG⟩
  rw[Ad,az (cy _),bU];rcases bG t args.length with ht|ht
  ·have h1:=aj ht;have cr:t<vs.size:=by omega
   have h2:=ba cr;rw[h1];have h3:=hv t _ _ h1 h2
   have:(vs++Array.replicate (Tryz.f44.ntmps-vs.size) undef).getD t undef=vs[t]:=by
    simp[cT,cp cr,h2]
   rw[this];exact h3
  ·rw[eG ht]; exact .any _
 refine wp_mono (wpIn_wide.1 (mJ (rd:=none) (nd:=0) (by kernel_rfl) Ua XG ahN ho1 hr hG he hsz)) ?_
 rintro ex a1 w1 ⟨h1,h2,h3,j1,r1,e1,x1⟩;rw[hn1] at h1;simp only[rJ] at h1;subst h1;simp only[Exit.then]
 refine wp_seq (wp_region ?_);obtain⟨t1,d1⟩:=a1;simp only at h2 h3;subst h3;have hmf:∀(fn:Fn)(first cap:Array Value)(w:World),(Instr.makeFunc fn first cap).run Tryz.prog w = .ok (.func fn first cap) w:=fun _ _ _ _=>rfl
 have h2':t1.size=6:=h2;have h9:3<t1.size:=by omega
 simp[wpOps,go_sem,Exit.then,hmf,h9,Array.getElem?_setIfInBounds,gG]
 repeat' refine Or.inl ?_
 have key:∀d:List Deferred,cu j1 o1.mem w1 (jr o1.br [0,2]) { tmps:=t1.setIfInBounds 3 (.func (.func 95) #[] #[t1[2]?.getD undef]),defers:=d }:=fun d=>by
  refine⟨fun t=>?_,e1.gl⟩
  rw[yt];split
  ·rename_i hm;have hne:3≠t:=by rintro rfl; simp at hm
   have:=e1.at' t;simp only[cT] at this ⊢;rw[eR hne];exact this
  ·exact .any _
 refine wp_mono (wpIn_wide.1 (IK (rd:=none) (nd:=0) (by kernel_rfl) Ua XH ahO (by kernel_rfl) ho2 r1 e1.gl (key _) (by simpa[Pg] using h2'))) ?_
 rintro ex a2 w2 ⟨g1,g2,g3,j2,r2,e2,x2⟩;have hp:=(e1.at' 2).mono x2;simp only[cT] at hp;rw[hk1] at hp
 have fin:∀(j3:J)(M3:aK)(w3:World)(y:ag×aK),Rel j3 M3 w3->cu j3 M3 w3 o2.br a2->Ext j M w j3 M3 w3->(bI (pO o2.br M3 Zv) fun l=>some ((Abs.one l).mf M.length M3,jO M.length M3))=some y ->
   ∃v,(results f44 a2.tmps).run Tryz.prog w3 = .ok v w3/\vn j M w y (.returned v) w3:=by
  intro j3 M3 w3 y r3 e3 x3 hy;obtain⟨l,hl,hy⟩:=bn hy;cases hy;obtain⟨us,u1,u2,u3⟩:=BS (P:=Tryz.prog) (rs:=Tryz.f44.results.toList) r3 e3 (by kernel_rfl:G9 Tryz.prog Tryz.f44.results.toList=some Zv) hl
  have hres:(results f44 a2.tmps).run Tryz.prog w3 = .ok (if h:us.toArray.size=1 then us.toArray[0] else .tuple us.toArray) w3:=by
   unfold results;rw[kQ,Sem.run_bind,Sem.run_map];refine cW (congrArg (fun r:Result (List Value)=>Result.andThen (r.andThen fun a w' => .ok a.toArray w') _) (cW ?_ u1)) rfl
   rfl
  exact⟨_,hres,.inl ⟨_,rfl,j3,yT x3.len r3,wq x3.len (ar _) x3,DT x3.len r3 (Mg u2 u3)⟩⟩
 unfold BM at h;split at h
 ·rename_i hret;rw[hret] at g1;simp only[rJ] at g1;subst g1;simp only[bodyPostD,g3];refine leaves_cons (f:=95) (args := #[t1[2]?.getD undef]) (by simp) (by simp[go_sem]) ?_
  refine(OB _ _).mono ?_;rintro ed u' w'' ⟨rfl,rfl,rfl⟩;simp only[Leaves,settle];exact fin _ _ _ _ r2 e2 (x1.trans x2) h
 ·rename_i e hpan;split at h
  rotate_left
  ·cases h
  rename_i c hM;rw[hpan] at g1;simp only[rJ] at g1;subst g1;simp only[bodyPostD,g3];generalize t1[2]?.getD undef=pv at hp ⊢;cases hp with
  |plain hh=>cases hh
  | @ptr id off b hid hc hj =>
   obtain⟨b',hj',us,t,hw,hrc⟩:=r2.fix _ _ hM rfl;rw[hj] at hj';injection hj' with hj'
   subst hj';refine leaves_cons (f:=95) (args := #[.pointer (some ⟨b,0,none⟩)]) (by simp) (by simp[go_sem]) ?_
   refine(Uh r2 e2.gl hM hj hw (by have:=hrc.1; simpa using this.symm)).mono ?_
   rintro ed u' w'' ⟨rfl,rfl,r3,x3⟩;simp only[Leaves,settle];exact fin _ _ _ _ r3 (e2.mono x3) ((x1.trans x2).trans x3) h
 ·cases h
noncomputable def iM:Bz:=nH fO 44 ES
def Xi:xQ Tryz.prog iM:=w9 Mz (by kernel_rfl) (fun h=>K3 h)
def yH:pd Tryz.prog (aq iM):=ud (by kernel_rfl) Xi
def lF'{f:Nat}{a:List ag}{M:aK}{x:ag×aK}(h:aq fO f a M=some x):aq iM f a M=some x:=w8 rfl rfl h
def lF{f:Nat}{vs:List ag}{M:aK}{x:ag×aK}(h:aL (aq fO) f vs M=some x):aL (aq iM) f vs M=some x:=by
 obtain⟨a,B,y,h1,h2⟩:=tC h;exact h2 _ (lF' h1)
end Go.Proofs.YtcbopkblmebjiaaGreatDoor
