import Derived.Laws.RangeString
import Derived.RangeFuncBox
import Derived.RangeFuncFrom
import Derived.RangeFuncLeaves
import Derived.Shelf.Abstract
import Derived.WalkKit
import Derived.OwnWalkIn
import Derived.TacticsInMore
import Derived.LoopNIn
import Derived.LoopIn
import Derived.Maps.AppendAt
import Derived.RangeFuncNested
import Derived.Test.YtcbopkblmebjiaaGreatDoorProg
import Derived.LaidEql
import Derived.Stop.Asserts
import Derived.RowKitTokens
import Derived.Defers
import Derived.Recover
import Derived.KernelRfl
import Derived.Test.YtcbopkblmebjiaaGreatDoorFduC
set_option linter.unusedSimpArgs false
set_option linter.unusedVariables false
set_option linter.unusedSectionVars false
set_option linter.defProp false
open Go.Proofs.Tryz
namespace Go.Proofs.YtcbopkblmebjiaaGreatDoor
section
open Go Go.Abs
def PG:Nat->Option eU
 |157=>some Yp
 |159=>some Yq
 |161=>some Yr
 |162=>some Yt
 |168=>some xX
 |169=>some Yu
 |170=>some Qd
 |171=>some Yv
 |172=>some Yw
 |173=>some Yx
 |174=>some Yy
 |175=>some Yz
 |176=>some YA
 |177=>some YB
 |178=>some Qe
 |179=>some YC
 |180=>some YD
 |181=>some Qf
 |193=>some LG
 |195=>some YE
 |200=>some YF
 |201=>some Qg
 |202=>some Qh
 |205=>some YG
 |206=>some YH
 |207=>some YI
 |208=>some LH
 |209=>some YJ
 |210=>some YK
 |216=>some YL
 |217=>some LI
 |219=>some YM
 |221=>some af8
 |222=>some YN
 |223=>some Qi
 |224=>some Qj
 |225=>some Qk
 |226=>some Ql
 |227=>some YO
 |228=>some YP
 |229=>some YQ
 |230=>some YR
 |231=>some YT
 |232=>some YU
 |240=>some LJ
 |246=>some Qm
 |248=>some YV
 |251=>some YW
 |253=>some YX
 |254=>some YY
 |255=>some YZ
 |256=>some Y0
 |257=>some Y1
 |258=>some Y2
 |259=>some Y3
 |261=>some HC
 |278=>some Y4
 |_=>none
def PF:Nat->Option eU
 |77=>some agD
 |78=>some agE
 |79=>some akT
 |81=>some agG
 |82=>some agH
 |83=>some Ny
 |84=>some aaR
 |85=>some aaS
 |86=>some HD
 |87=>some agI
 |88=>some agJ
 |89=>some Nz
 |90=>some aaT
 |91=>some HE
 |92=>some agK
 |93=>some Ka
 |94=>some aaU
 |97=>some aaV
 |98=>some aaW
 |99=>some Qo
 |100=>some LA
 |101=>some Hy
 |102=>some Hz
 |103=>some Ee
 |104=>some XW
 |105=>some P6
 |106=>some XX
 |108=>some CH
 |109=>some LB
 |110=>some XY
 |111=>some P7
 |112=>some P8
 |113=>some XZ
 |114=>some X0
 |115=>some P9
 |116=>some X1
 |117=>some X2
 |118=>some X3
 |119=>some X4
 |120=>some X5
 |121=>some X6
 |124=>some X7
 |126=>some HA
 |127=>some X8
 |128=>some LC
 |129=>some X9
 |130=>some Ya
 |132=>some Qa
 |133=>some Yb
 |134=>some Yc
 |135=>some Yd
 |136=>some Ye
 |137=>some Yf
 |138=>some Yg
 |139=>some Yh
 |140=>some Yi
 |141=>some Yj
 |142=>some Yk
 |143=>some Yl
 |144=>some Ym
 |146=>some Yn
 |147=>some HB
 |148=>some Qb
 |150=>some CI
 |151=>some zh
 |152=>some CJ
 |153=>some Bf
 |154=>some Qc
 |155=>some LD
 |156=>some Yo
 |f=>PG f
def code:Nat->Option eU
 |3=>some Y5
 |4=>some fn4
 |5=>some fn5
 |6=>some fn6
 |7=>some fn7
 |8=>some fn8
 |9=>some fn9
 |10=>some aaz
 |11=>some aaA
 |12=>some af2
 |13=>some af3
 |14=>some af4
 |15=>some Vs
 |16=>some xP
 |17=>some aaB
 |18=>some af5
 |19=>some af6
 |20=>some af7
 |21=>some aaC
 |22=>some aaD
 |23=>some aaE
 |24=>some af9
 |25=>some aaF
 |26=>some aga
 |27=>some agb
 |28=>some aaG
 |29=>some agc
 |30=>some aaH
 |31=>some aaI
 |32=>some akQ
 |33=>some agd
 |34=>some age
 |35=>some akR
 |36=>some DN
 |37=>some Nw
 |38=>some agf
 |39=>some agh
 |40=>some aaJ
 |41=>some agi
 |42=>some aaK
 |43=>some agj
 |45=>some J8
 |46=>some agk
 |47=>some agl
 |48=>some agm
 |49=>some agn
 |50=>some J9
 |51=>some aaM
 |52=>some ago
 |53=>some aaN
 |54=>some agp
 |55=>some agq
 |56=>some agr
 |57=>some ags
 |60=>some agt
 |61=>some agu
 |62=>some agv
 |64=>some aaO
 |65=>some agw
 |66=>some agx
 |67=>some Nx
 |68=>some Qn
 |69=>some agy
 |70=>some agz
 |71=>some agA
 |72=>some aaP
 |73=>some agB
 |74=>some Vt
 |75=>some agC
 |76=>some aaQ
 |f=>PF f
noncomputable def sO:Nat->Option (List ag->aL->Option (ag×aL))
 |220=>some (vY 3 2 221)
 |58=>some (vY 6 0 59)
 |194=>some (yF)
 |131=>some (IB)
 |199=>some (zu)
 |218=>some (pR 3 32)
 |234=>some (pR 6 80)
 |145=>some (pR 3 32)
 |107=>some (xE 1 16)
 |233=>some (oz 6)
 |252=>some (oz 3)
 |163=>some (oz 3)
 |249=>some (nn 6 80)
 |250=>some (nn 3 32)
 |160=>some (nn 3 32)
 |_=>none
noncomputable def c9:BD:=⟨code,sO⟩
set_option maxRecDepth 100000 in
def wo{f:Nat}{c fn:eU}{func:Func}{A:B5}(h:some c=some fn)(h1:Tryz.prog.funcs[f]?=some func)(h2:oN Tryz.prog A func=some c):∃ A func,Tryz.prog.funcs[f]?=some func/\oN Tryz.prog A func=some fn:=by
 cases h; exact⟨_,_,h1,h2⟩
def gV{f:Nat}{c fn:eU}{func:Func}(h:some c=some fn)(h1:Tryz.prog.funcs[f]?=some func)(h2:wu [] func c):∃ A func,Tryz.prog.funcs[f]?=some func/\oN Tryz.prog A func=some fn:=wo h h1 h2
def PE(f:Nat)(fn:eU)(h:PG f=some fn):∃A func,Tryz.prog.funcs[f]?=some func/\oN Tryz.prog A func=some fn:=by
 unfold PG at h;split at h
 ·exact gV h func157 fU
 ·exact gV h func159 fU
 ·exact gV h func161 fU
 ·exact gV h func162 fU
 ·exact wo h func168 ahI
 ·exact gV h func169 fU
 ·exact gV h func170 fU
 ·exact gV h func171 fU
 ·exact gV h func172 fU
 ·exact gV h func173 fU
 ·exact gV h func174 fU
 ·exact gV h func175 fU
 ·exact gV h func176 fU
 ·exact gV h func177 fU
 ·exact wo h func178 ahJ
 ·exact gV h func179 fU
 ·exact gV h func180 fU
 ·exact wo h func181 ahK
 ·exact gV h func193 fU
 ·exact gV h func195 fU
 ·exact gV h func200 fU
 ·exact wo h func201 ahL
 ·exact wo h func202 ahM
 ·exact gV h func205 fU
 ·exact gV h func206 fU
 ·exact gV h func207 fU
 ·exact wo h func208 ahN
 ·exact gV h func209 fU
 ·exact gV h func210 fU
 ·exact gV h func216 fU
 ·exact gV h func217 fU
 ·exact gV h func219 fU
 ·exact gV h func221 fU
 ·exact gV h func222 fU
 ·exact wo h func223 ahO
 ·exact wo h func224 ahP
 ·exact gV h func225 fU
 ·exact wo h func226 ahQ
 ·exact gV h func227 fU
 ·exact gV h func228 fU
 ·exact gV h func229 fU
 ·exact gV h func230 fU
 ·exact gV h func231 fU
 ·exact gV h func232 fU
 ·exact gV h func240 fU
 ·exact gV h func246 fU
 ·exact gV h func248 fU
 ·exact gV h func251 fU
 ·exact gV h func253 fU
 ·exact gV h func254 fU
 ·exact gV h func255 fU
 ·exact gV h func256 fU
 ·exact gV h func257 fU
 ·exact gV h func258 fU
 ·exact gV h func259 fU
 ·exact gV h func261 fU
 ·exact gV h func278 fU
 ·cases h
set_option maxRecDepth 100000 in
def PD(f:Nat)(fn:eU)(h:PF f=some fn):∃A func,Tryz.prog.funcs[f]?=some func/\oN Tryz.prog A func=some fn:=by
 unfold PF at h;split at h
 ·exact gV h func77 fU
 ·exact gV h func78 fU
 ·exact gV h func79 fU
 ·exact gV h func81 fU
 ·exact gV h func82 fU
 ·exact gV h func83 fU
 ·exact gV h func84 fU
 ·exact gV h func85 fU
 ·exact gV h func86 fU
 ·exact wo h func87 amh
 ·exact gV h func88 fU
 ·exact gV h func89 fU
 ·exact gV h func90 fU
 ·exact wo h func91 ami
 ·exact gV h func92 fU
 ·exact wo h func93 amj
 ·exact gV h func94 fU
 ·exact gV h func97 fU
 ·exact gV h func98 fU
 ·exact wo h func99 amk
 ·exact gV h func100 fU
 ·exact gV h func101 fU
 ·exact gV h func102 fU
 ·exact gV h func103 fU
 ·exact gV h func104 fU
 ·exact wo h func105 ahw
 ·exact gV h func106 fU
 ·exact wo h func108 ahx
 ·exact gV h func109 fU
 ·exact gV h func110 fU
 ·exact wo h func111 ahy
 ·exact wo h func112 ahz
 ·exact gV h func113 fU
 ·exact gV h func114 fU
 ·exact wo h func115 ahA
 ·exact gV h func116 fU
 ·exact gV h func117 fU
 ·exact gV h func118 fU
 ·exact gV h func119 fU
 ·exact gV h func120 fU
 ·exact gV h func121 fU
 ·exact gV h func124 fU
 ·exact gV h func126 fU
 ·exact gV h func127 fU
 ·exact wo h func128 ahB
 ·exact gV h func129 fU
 ·exact gV h func130 fU
 ·exact gV h func132 fU
 ·exact gV h func133 fU
 ·exact gV h func134 fU
 ·exact gV h func135 fU
 ·exact gV h func136 fU
 ·exact gV h func137 fU
 ·exact gV h func138 fU
 ·exact gV h func139 fU
 ·exact gV h func140 fU
 ·exact gV h func141 fU
 ·exact gV h func142 fU
 ·exact gV h func143 fU
 ·exact gV h func144 fU
 ·exact gV h func146 fU
 ·exact gV h func147 fU
 ·exact wo h func148 ahC
 ·exact wo h func150 ahD
 ·exact wo h func151 ahE
 ·exact wo h func152 ahF
 ·exact wo h func153 ahG
 ·exact gV h func154 fU
 ·exact gV h func155 fU
 ·exact gV h func156 fU
 ·exact PE _ _ h
set_option maxRecDepth 100000 in
def U9(f:Nat)(fn:eU)(h:code f=some fn):∃A func,Tryz.prog.funcs[f]?=some func/\oN Tryz.prog A func=some fn:=by
 unfold code at h;split at h
 ·exact gV h func3 fU
 ·exact gV h func4 fU
 ·exact gV h func5 fU
 ·exact gV h func6 fU
 ·exact gV h func7 fU
 ·exact gV h func8 fU
 ·exact gV h func9 fU
 ·exact gV h func10 fU
 ·exact wo h func11 al6
 ·exact gV h func12 fU
 ·exact gV h func13 fU
 ·exact gV h func14 fU
 ·exact gV h func15 fU
 ·exact gV h func16 fU
 ·exact wo h func17 al7
 ·exact gV h func18 fU
 ·exact gV h func19 fU
 ·exact gV h func20 fU
 ·exact wo h func21 al8
 ·exact gV h func22 fU
 ·exact wo h func23 al9
 ·exact gV h func24 fU
 ·exact gV h func25 fU
 ·exact gV h func26 fU
 ·exact gV h func27 fU
 ·exact wo h func28 ama
 ·exact gV h func29 fU
 ·exact gV h func30 fU
 ·exact gV h func31 fU
 ·exact gV h func32 fU
 ·exact gV h func33 fU
 ·exact gV h func34 fU
 ·exact gV h func35 fU
 ·exact gV h func36 fU
 ·exact gV h func37 fU
 ·exact gV h func38 fU
 ·exact wo h func39 amb
 ·exact wo h func40 amc
 ·exact gV h func41 fU
 ·exact gV h func42 fU
 ·exact gV h func43 fU
 ·exact gV h func45 fU
 ·exact gV h func46 fU
 ·exact gV h func47 fU
 ·exact gV h func48 fU
 ·exact gV h func49 fU
 ·exact wo h func50 amd
 ·exact gV h func51 fU
 ·exact gV h func52 fU
 ·exact gV h func53 fU
 ·exact gV h func54 fU
 ·exact gV h func55 fU
 ·exact gV h func56 fU
 ·exact gV h func57 fU
 ·exact gV h func60 fU
 ·exact gV h func61 fU
 ·exact gV h func62 fU
 ·exact gV h func64 fU
 ·exact gV h func65 fU
 ·exact gV h func66 fU
 ·exact wo h func67 ame
 ·exact gV h func68 fU
 ·exact gV h func69 fU
 ·exact gV h func70 fU
 ·exact gV h func71 fU
 ·exact gV h func72 fU
 ·exact gV h func73 fU
 ·exact wo h func74 amf
 ·exact gV h func75 fU
 ·exact wo h func76 amg
 ·exact PD _ _ h
def Xc(f:Nat)(g:List ag->aL->Option (ag×aL))(h:sO f=some g)(args:List ag)(M:aL)(x:ag×aL)(hx:g args M=some x):kN Tryz.prog f=true/\eP Tryz.prog f args M x:=by
 unfold sO at h;split at h
 ·cases h; exact⟨by kernel_rfl,Ud hx⟩
 ·cases h; exact⟨by kernel_rfl,Xi hx⟩
 ·cases h; exact⟨by kernel_rfl,Kg hx⟩
 ·cases h; exact⟨by kernel_rfl,agY hx⟩
 ·cases h; exact⟨by kernel_rfl,Hl hx⟩
 ·cases h; exact⟨by kernel_rfl,Nb hx⟩
 ·cases h; exact⟨by kernel_rfl,Nc hx⟩
 ·cases h; exact⟨by kernel_rfl,Na hx⟩
 ·cases h; exact⟨by kernel_rfl,JJ hx⟩
 ·cases h; exact⟨by kernel_rfl,Nk hx⟩
 ·cases h; exact⟨by kernel_rfl,Nl hx⟩
 ·cases h; exact⟨by kernel_rfl,Nj hx⟩
 ·cases h; exact⟨by kernel_rfl,NN hx⟩
 ·cases h; exact⟨by kernel_rfl,NP hx⟩
 ·cases h; exact⟨by kernel_rfl,NM hx⟩
 ·cases h
def Uk:xV Tryz.prog c9:=⟨U9,Xc⟩
abbrev Bytes:=List UInt8
structure eD where
 name:Bytes
 au:Int
 ai:Int
 deriving DecidableEq,Inhabited
structure Node where
 au:Int
 kind:Int
 dp:Int
 data:Bytes
 aN:List eD
 up:Int
 deriving DecidableEq,Inhabited
structure Tree where
 ae:List Node
 next:Int
 ai:Int
 deriving DecidableEq,Inhabited
def Node.zero:Node:=⟨0,0,0,[],[],0⟩
def ew(e:eD):List ag:=[.str e.name,.int .i64 e.au,.int .i64 e.ai]
def gk(e:eD):ag := .agg (ew e)
abbrev ij(l:List eD):ag := .slice .sh (l.map gk)
abbrev jt(d:Bytes):ag := .slice .sh (d.map mL)
def aV(n:Node):List ag:=[.int .i64 n.au,.int .i64 n.kind,.int .i64 n.dp,jt n.data,ij n.aN,.int .i64 n.up]
def cn(n:Node):ag := .agg (aV n)
abbrev a8(l:List Node):ag := .slice .sh (l.map cn)
def bd(t:Tree):List ag:=[a8 t.ae,.int .i64 t.next,.int .i64 t.ai]
def bK(t:Tree):ag := .agg (bd t)
structure Small(t:Tree):Prop where
 ae:t.ae.length<=100000
 aN:∀n,n∈t.ae->n.aN.length<=100000
 data:∀n,n∈t.ae->n.data.length<=100000
def Hh(n:Node):(cn n).cells=aV n:=rfl
def JI(e:eD):(gk e).cells=ew e:=rfl
def Kq(n:Node):(aV n).length=6:=rfl
def N1(e:eD):(ew e).length=3:=rfl
def Ft(l:List Node):wid (l.map cn) 6=True:=by
 simp only[fi,jQ];intro x hx;obtain⟨n,_,rfl⟩:=bS.1 hx;rfl
def I9(l:List eD):wid (l.map gk) 3=True:=by
 simp only[fi,jQ];intro x hx;obtain⟨n,_,rfl⟩:=bS.1 hx;rfl
def ON(l:Bytes):wid (l.map mL) 1=True:=by
 simp only[fi,jQ];intro x hx;obtain⟨n,_,rfl⟩:=bS.1 hx;rfl
structure Step where
 kind:Nat
 a:Nat
 b:Nat
 n:Nat
 m:Nat
 data:Bytes
set_option linter.defProp false in
def EVN:=bR @Hh$ bR @JI$ bR @Kq$ bR @N1$ bR @Ft$ bR @I9 @ON
set_option linter.defProp false in
def EN:=And.intro EVN EV
section
attribute [local irreducible] fS fp kH gK dv kr aq aM cv bJ
def ji{α:Type}{l:List α}{pre r:List α}{n:α}(h:l=pre++n::r):l[pre.length]?=some n:=by rw[h]; simp
def mR{α:Type}{l:List α}{pre r:List α}{n:α}(h:l=pre++n::r):((pre.length:Int)<(l.length:Int))=True:=by rw[h]; simp; omega
def oy{α:Type}{l:List α}{pre:List α}(h:l=pre++[]):((pre.length:Int)<(l.length:Int))=False:=by rw[h]; simp
def Uj{α:Type}{pre:List α}{n:α}:((pre.length:Int)+1)=((pre++[n]).length:Int):=by simp
def GI{T:Type}(l:List T)(x:T)(h:(l.length:Int)+1<9223372036854775808:=by omega):IntKind.i64.wrap ((l.length:Int)+1)=((l++[x]).length:Int):=by rw[gD (by omega) (by omega)]; exact Uj
def find(ae:List Node)(au:Int):Option Node:=ae.find? fun n=>n.au==au
def gA(ae:List Node)(au:Int):Node×Int:=match find ae au with
 |none=>(Node.zero,70)
 |some n=>if n.kind=2 then (n,0) else (Node.zero,73)
def eb(l:List eD)(s:Bytes):Option eD:=l.find? fun e=>e.name==s
def sN(b:UInt8):Bool := !(decide ((b.toNat:Int)<32)||((b.toNat:Int)==47))
def dE(s:Bytes):Bool := !(decide ((s.length:Int)<1)||(decide ((s.length:Int)>32)||(s==[46]||s==[46,46])))&&s.all sN
def dV(ae:List Node)(au:Int)(s:Bytes):Int×Int :=
 if (gA ae au).2≠0 then (0,(gA ae au).2) else if dE s=false then (0,60) else match eb (gA ae au).1.aN s with
  |none=>(0,70)
  |some e=>(e.au,0)
def cj{ae:List Node}{au:Int}{n:Node}(h:find ae au=some n):n∈ae/\n.au=au:=by
 unfold find at h;exact⟨List.mem_of_find?_eq_some h,by simpa using List.find?_some h⟩
def tq{t:Tree}(hs:Small t)(au:Int):(gA t.ae au).1.aN.length<=100000:=by
 unfold gA;split
 ·simp[Node.zero]
 ·rename_i n hn;split
  ·exact hs.aN n (cj hn).1
  ·simp[Node.zero]
def zT:List ag:=[.slice .c0 [],.int .i64 0,.int .i64 0]
def oa(n:Node):List Node->List Node->Bool->List Node×Bool
 | [],out,done=>(out,done)
 |m::r,out,done =>
  oa n r ((if !done&&decide (m.au>=n.au) then out++[n] else out)++(if m.au=n.au then [] else [m])) (done||decide (m.au>=n.au))
def eM(ae:List Node)(n:Node):List Node:=(oa n ae [] false).1++(if (oa n ae [] false).2=true then [] else [n])
def iT(ae:List Node)(au:Int):List Node:=ae.filter fun n=>n.au != au
def fH(l:List eD)(s:Bytes):List eD:=l.filter fun e=>e.name != s
def dx(ae:List Node)(au:Int)(s:Bytes):List Node:=eM ae { (find ae au).getD Node.zero with aN:=fH ((find ae au).getD Node.zero).aN s }
abbrev mM(n:Int):Int:=IntKind.i64.wrap n
def Y6(a b:Bytes):Bool := !(strLt a b||a==b)
def uW(e:eD):List eD->List eD->Bool->List eD×Bool
 | [],out,done=>(out,done)
 |m::r,out,done=>uW e r ((if !done&&Y6 m.name e.name then out++[e] else out)++[m]) (done||Y6 m.name e.name)
def sV(l:List eD)(e:eD):List eD:=(uW e l [] false).1++(if (uW e l [] false).2=true then [] else [e])
def gN(t:Tree)(au:Int)(s:Bytes)(of:Int):Tree :=
 ⟨eM t.ae { (find t.ae au).getD Node.zero with aN:=sV ((find t.ae au).getD Node.zero).aN ⟨s,of,t.ai⟩ },t.next,mM (t.ai+1)⟩
def OI(ae:List Node)(au:Int):Int:=((find ae au).getD Node.zero).up
def vy(ae:List Node):Nat->Int->Nat->Nat
 |0,_,d=>d
 |m+1,au,d=>if au=1 then d else vy ae m (OI ae au) (d+1)
def po(ae:List Node)(au:Int):Nat:=vy ae 201 au 0
def mn(ae:List Node)(of:Int):Nat->Int->Bool
 |0,_=>false
 |m+1,au=>if au=of then true else if au=1 then false else mn ae of m (OI ae au)
def iV(ae:List Node)(au of:Int):Bool:=mn ae of (ae.length+1) au
structure Sz(b:Nat)(t:Tree):Prop where
 ae:t.ae.length<=b
 aN:∀n,n∈t.ae->n.aN.length<=b
 data:∀n,n∈t.ae->n.data.length<=100000
def Sz.small{b:Nat}{t:Tree}(h:Sz b t)(hb:b<=100000):Small t:=⟨bj h.ae hb,fun n hn=>bj (h.aN n hn) hb,h.data⟩
def Fu(n:Node):∀(l out:List Node)(d:Bool),(oa n l out d).1.length+(if (oa n l out d).2=true then 0 else 1)<=out.length+l.length+(if d then 0 else 1)
 | [],out,d=>by simp only[oa,aH,cV]; exact ar _
 |m::r,out,d=>by
  rw[oa];refine bj (Fu n r _ _) ?_;cases d<;>by_cases h1:n.au<=m.au<;>by_cases h2:m.au=n.au<;>simp[h1,h2]<;>omega
def Fv(n:Node):∀(l out:List Node)(d:Bool)(x:Node),x∈(oa n l out d).1->x=n\/x∈out\/x∈l
 | [],out,d,x,h=>by simp[oa] at h; exact .inr (.inl h)
 |m::r,out,d,x,h=>by
  rw[oa] at h;rcases Fv n r _ _ x h with h|h|h
  ·exact .inl h
  ·rcases bT.1 h with h|h
   ·split at h
    ·rcases bT.1 h with h|h
     ·exact .inr (.inl h)
     ·exact .inl (by simpa using h)
    ·exact .inr (.inl h)
   ·split at h
    ·cases h
    ·exact .inr (.inr (by simp at h; simp[h]))
  ·exact .inr (.inr (aP _ h))
def Fw(ae:List Node)(n:Node):(eM ae n).length<=ae.length+1:=by
 have:=Fu n ae [] false;unfold eM;split at this<;>simp_all
def Fx{ae:List Node}{n x:Node}(h:x∈eM ae n):x=n\/x∈ae:=by
 unfold eM at h;rcases bT.1 h with h|h
 ·rcases Fv n ae [] false x h with h|h|h
  ·exact .inl h
  ·cases h
  ·exact .inr h
 ·split at h
  ·cases h
  ·exact .inl (by simpa using h)
def Sz.with{b:Nat}{t:Tree}(h:Sz b t){n:Node}(h1:n.aN.length<=b+1)(h2:n.data.length<=100000)(next ai:Int):Sz (b+1) ⟨eM t.ae n,next,ai⟩ :=
 ⟨bj (Fw _ _) (by have:=h.ae; simp; omega),fun x hx=>by
  rcases Fx hx with rfl|hx
  ·exact h1
  ·exact iA (h.aN x hx),fun x hx=>by
  rcases Fx hx with rfl|hx
  ·exact h2
  ·exact h.data x hx⟩
def Sz.up{b c:Nat}{t:Tree}(h:Sz b t)(hbc:b<=c):Sz c t:=⟨bj h.ae hbc,fun n hn=>bj (h.aN n hn) hbc,h.data⟩
def Sz.find{b:Nat}{t:Tree}(h:Sz b t)(au:Int):((find t.ae au).getD Node.zero).aN.length<=b/\((find t.ae au).getD Node.zero).data.length<=100000:=by
 cases hf:Go.Proofs.YtcbopkblmebjiaaGreatDoor.find t.ae au with
 |none=>simp[Node.zero]
 |some n=>exact⟨h.aN n (cj hf).1,h.data n (cj hf).1⟩
def z8(l:List eD)(s:Bytes):(fH l s).length<=l.length:=fg _ _
def Sz.left{b:Nat}{t:Tree}(h:Sz b t)(au:Int)(s:Bytes)(next ai:Int):Sz (b+1) ⟨dx t.ae au s,next,ai⟩ :=
 h.with (n:={ (Go.Proofs.YtcbopkblmebjiaaGreatDoor.find t.ae au).getD Node.zero with aN:=fH ((Go.Proofs.YtcbopkblmebjiaaGreatDoor.find t.ae au).getD Node.zero).aN s }) (bj (z8 _ _) (iA (h.find au).1)) (h.find au).2 next ai
def Sz.zH{b:Nat}{t:Tree}(h:Sz b t)(au:Int)(next ai:Int):Sz b ⟨iT t.ae au,next,ai⟩ :=
 ⟨bj (fg _ _) h.ae,fun x hx=>h.aN x ((eo.1 hx).1),fun x hx=>h.data x ((eo.1 hx).1)⟩
def CN(t:Tree)(n:Node):Bool:=decide ((64:Int)<=n.aN.length)||(decide ((12:Int)<=po t.ae n.au)||decide ((1099511627776:Int)<=t.ai))
def mw(t:Tree)(au:Int)(s:Bytes):Int :=
 if (gA t.ae au).2≠0 then (gA t.ae au).2 else if dE s=false then 60 else if (eb (gA t.ae au).1.aN s).isSome=true then 71 else if CN t (gA t.ae au).1 then 76 else 0
def nu(t:Tree)(au:Int)(s:Bytes)(kind:Int):Tree×Int×Int :=
 if kind != 1&&kind != 2 then (t,0,1) else if mw t au s != 0 then (t,0,mw t au s) else
 if decide ((200:Int)<=t.ae.length)||decide ((1099511627776:Int)<=t.next) then (t,0,76) else
 (gN ⟨eM t.ae ⟨t.next,kind,1,[],[],if kind==2 then au else 0⟩,mM (t.next+1),t.ai⟩ au s t.next,t.next,0)
abbrev bE(ae:List Node)(au:Int):Node:=(find ae au).getD Node.zero
def BG(t:Tree)(au to:Int)(s:Bytes):Tree×Int :=
 if !(find t.ae au).isSome||((bE t.ae au).kind==1&&(bE t.ae au).dp==0) then (t,70) else if (bE t.ae au).kind==2 then (t,72) else
 if mw t to s != 0 then (t,mw t to s) else
 (gN ⟨eM t.ae { bE t.ae au with dp:=mM ((bE t.ae au).dp+1) },t.next,t.ai⟩ to s au,0)
def gm(ae:List Node)(au:Int):List Node :=
 if (bE ae au).kind==2 then iT ae au else eM ae { bE ae au with dp:=mM ((bE ae au).dp-1) }
def vJ(t:Tree)(au:Int)(s:Bytes):Tree×Int×Int :=
 if (dV t.ae au s).2 != 0 then (t,0,(dV t.ae au s).2) else if decide ((0:Int)<(bE t.ae (dV t.ae au s).1).aN.length) then (t,0,74) else
 (⟨gm (dx t.ae au s) (dV t.ae au s).1,t.next,t.ai⟩,(dV t.ae au s).1,0)
def sF(ae:List Node)(kind:Int)(y:Int):Int :=
 if !(find ae y).isSome then 0 else if kind==2&&(bE ae y).kind != 2 then 73 else if kind != 2&&(bE ae y).kind==2 then 72 else if decide ((0:Int)<(bE ae y).aN.length) then 74 else 0
def Xd(t:Tree)(au:Int)(data:Bytes):Tree×Int :=
 if !(find t.ae au).isSome then (t,70) else if (bE t.ae au).kind==2 then (t,72) else if decide ((4096:Int)<data.length) then (t,2) else
 (⟨eM t.ae { bE t.ae au with data:=data },t.next,t.ai⟩,0)
def oT(t:Tree)(au:Int):Tree×Int :=
 if !(find t.ae au).isSome then (t,70) else if (bE t.ae au).kind==2 then (t,72) else if decide ((0:Int)<(bE t.ae au).dp) then (t,71) else
 (⟨iT t.ae au,t.next,t.ai⟩,0)
def oU:Tree:=⟨[⟨1,2,0,[],[],1⟩],2,1⟩
def sr(ae:List Node)(au at' d:Int)(n:Node)(most:Int):Int :=
 if n.kind==2&&iV ae n.au au then
  (if (if decide ((0:Int)<n.aN.length) then mM (mM (mM (at'+po ae n.au)-d)+1) else mM (mM (at'+po ae n.au)-d))>most
   then (if decide ((0:Int)<n.aN.length) then mM (mM (mM (at'+po ae n.au)-d)+1) else mM (mM (at'+po ae n.au)-d)) else most)
 else most
def vD(ae:List Node)(au at' d:Int):List Node->Int->Int
 | [],most=>most
 |n::r,most=>vD ae au at' d r (sr ae au at' d n most)
def Bh(ae:List Node)(au at':Int):Int:=vD ae au at' (po ae au) ae 0
def ec(l:List eD)(s:Bytes):Int:=match eb l s with
 |none=>0
 |some e=>e.au
def manyN(t:Tree)(mX to:Int)(aN:List eD)(kind y au:Int):Bool :=
 ((y==0&&to != mX)&&decide ((64:Int)<=aN.length))||(decide ((12:Int)<=po t.ae to)||((kind==2&&decide ((12:Int)<Bh t.ae au (mM (po t.ae to+1))))||decide ((1099511627776:Int)<=t.ai)))
def nZ(t:Tree)(mX:Int)(s:Bytes)(to:Int)(nm:Bytes)(au y:Int):Tree :=
 gN ⟨if (bE t.ae au).kind==2 then
   eM (if y != 0 then gm (dx (dx t.ae mX s) to nm) y else dx t.ae mX s) { bE t.ae au with up:=to }
  else if y != 0 then gm (dx (dx t.ae mX s) to nm) y else dx t.ae mX s,t.next,t.ai⟩ to nm au
def wg(t:Tree)(mX:Int)(s:Bytes)(to:Int)(nm:Bytes):Tree×Int×Int :=
 if (dV t.ae mX s).2 != 0 then (t,0,(dV t.ae mX s).2) else
 if (gA t.ae to).2 != 0 then (t,0,(gA t.ae to).2) else
 if !dE nm then (t,0,60) else
 if ec (gA t.ae to).1.aN nm==(dV t.ae mX s).1 then (t,0,0) else
 if (bE t.ae (dV t.ae mX s).1).kind==2&&iV t.ae to (dV t.ae mX s).1 then (t,0,75) else
 if sF t.ae (bE t.ae (dV t.ae mX s).1).kind (ec (gA t.ae to).1.aN nm) != 0 then (t,0,sF t.ae (bE t.ae (dV t.ae mX s).1).kind (ec (gA t.ae to).1.aN nm)) else
 if manyN t mX to (gA t.ae to).1.aN (bE t.ae (dV t.ae mX s).1).kind (ec (gA t.ae to).1.aN nm) (dV t.ae mX s).1 then (t,0,76) else
 (nZ t mX s to nm (dV t.ae mX s).1 (ec (gA t.ae to).1.aN nm),ec (gA t.ae to).1.aN nm,0)
def Sz.unnamed{b:Nat}{t:Tree}(h:Sz b t)(au next ai:Int):Sz (b+1) ⟨gm t.ae au,next,ai⟩:=by
 unfold gm;split
 ·exact(h.zH au next ai).up (by omega)
 ·exact h.with (n:={ bE t.ae au with dp:=mM ((bE t.ae au).dp-1) }) (iA (h.find au).1) (h.find au).2 next ai
structure Step.Ok(s:Step):Prop where
 kind:s.kind<256
 a:s.a<256
 b:s.b<256
 n:s.n<256
 m:s.m<256
 data:s.data.length<=100000
def nameOf(n:Nat):Bytes:=match n % 6 with
 |0=>[97]
 |1=>[98]
 |2=>[99]
 |3=>[100]
 |4=>[101]
 |_=>[46,46]
def vV(t:Tree)(n:Nat):Int:=match t.ae[n % (t.ae.length+1)]? with
 |some m=>m.au
 |none=>t.next
def XM(t:Tree)(s:Step):Tree×Int×Int :=
 if ((s.kind % 8:Nat):Int)==0||((s.kind % 8:Nat):Int)==1 then nu t (vV t s.a) (nameOf s.n) (((s.m % 2:Nat):Int)+1) else
 if ((s.kind % 8:Nat):Int)==2 then ((BG t (vV t s.b) (vV t s.a) (nameOf s.n)).1,0,(BG t (vV t s.b) (vV t s.a) (nameOf s.n)).2) else
 if ((s.kind % 8:Nat):Int)==3 then vJ t (vV t s.a) (nameOf s.n) else
 if ((s.kind % 8:Nat):Int)==4||((s.kind % 8:Nat):Int)==5 then wg t (vV t s.a) (nameOf s.n) (vV t s.b) (nameOf s.m) else
 if ((s.kind % 8:Nat):Int)==6 then ((Xd t (vV t s.a) s.data).1,0,(Xd t (vV t s.a) s.data).2) else
 ((oT t (vV t s.a)).1,0,(oT t (vV t s.a)).2)
def HN(e:eD):∀(l out:List eD)(d:Bool),(uW e l out d).1.length+(if (uW e l out d).2=true then 0 else 1)<=out.length+l.length+(if d then 0 else 1)
 | [],out,d=>by simp only[uW,aH,cV]; exact ar _
 |m::r,out,d=>by
  rw[uW];refine bj (HN e r _ _) ?_;cases d<;>cases h1:Y6 m.name e.name<;>simp<;>omega
def Qv(l:List eD)(e:eD):(sV l e).length<=l.length+1:=by
 have:=HN e l [] false;unfold sV;split at this<;>simp_all
def Sz.re{b:Nat}{t:Tree}(h:Sz b t)(au:Int)(s:Bytes)(of:Int):Sz (b+1) (gN t au s of) :=
 h.with (n:={ bE t.ae au with aN:=sV (bE t.ae au).aN ⟨s,of,t.ai⟩ }) (bj (Qv _ _) (Nat.succ_le_succ (h.find au).1)) (h.find au).2 t.next (mM (t.ai+1))
def Sz.add{b:Nat}{t:Tree}(h:Sz b t)(au:Int)(s:Bytes)(kind:Int):Sz (b+5) (nu t au s kind).1:=by
 unfold nu;split
 ·exact h.up (by omega)
 ·split
  ·exact h.up (by omega)
  ·split
   ·exact h.up (by omega)
   ·exact((h.with (n:=⟨t.next,kind,1,[],[],if kind==2 then au else 0⟩) (by simp) (by simp) (mM (t.next+1)) t.ai).re au s t.next).up (by omega)
def Sz.ln{b:Nat}{t:Tree}(h:Sz b t)(au to:Int)(s:Bytes):Sz (b+5) (BG t au to s).1:=by
 unfold BG;split
 ·exact h.up (by omega)
 ·split
  ·exact h.up (by omega)
  ·split
   ·exact h.up (by omega)
   ·exact((h.with (n:={ bE t.ae au with dp:=mM ((bE t.ae au).dp+1) }) (iA (h.find au).1) (h.find au).2 t.next t.ai).re to s au).up (by omega)
def Sz.un{b:Nat}{t:Tree}(h:Sz b t)(au:Int)(s:Bytes):Sz (b+5) (vJ t au s).1:=by
 unfold vJ;split
 ·exact h.up (by omega)
 ·split
  ·exact h.up (by omega)
  ·exact((h.left au s t.next t.ai).unnamed _ t.next t.ai).up (by omega)
def Sz.put{b:Nat}{t:Tree}(h:Sz b t)(au:Int)(data:Bytes)(hd:data.length<=100000):Sz (b+5) (Xd t au data).1:=by
 unfold Xd;split
 ·exact h.up (by omega)
 ·split
  ·exact h.up (by omega)
  ·split
   ·exact h.up (by omega)
   ·exact(h.with (n:={ bE t.ae au with data:=data }) (iA (h.find au).1) hd t.next t.ai).up (by omega)
def Sz.free{b:Nat}{t:Tree}(h:Sz b t)(au:Int):Sz (b+5) (oT t au).1:=by
 unfold oT;split
 ·exact h.up (by omega)
 ·split
  ·exact h.up (by omega)
  ·split
   ·exact h.up (by omega)
   ·exact(h.zH au t.next t.ai).up (by omega)
def Sz.move{b:Nat}{t:Tree}(h:Sz b t)(mX:Int)(s:Bytes)(to:Int)(nm:Bytes)(au y:Int):Sz (b+5) (nZ t mX s to nm au y):=by
 unfold nZ;have z1:=h.left mX s t.next t.ai
 have z3:=(z1.left to nm t.next t.ai).unnamed y t.next t.ai
 have z:Sz (b+3) ⟨if y != 0 then gm (dx (dx t.ae mX s) to nm) y else dx t.ae mX s,t.next,t.ai⟩:=by
  split
  ·exact z3
  ·exact z1.up (by omega)
 split
 ·exact((z.with (n:={ bE t.ae au with up:=to }) (bj (h.find au).1 (by omega)) (h.find au).2 t.next t.ai).re to nm au).up (by omega)
 ·exact(z.re to nm au).up (by omega)
def Sz.mv{b:Nat}{t:Tree}(h:Sz b t)(mX:Int)(s:Bytes)(to:Int)(nm:Bytes):Sz (b+5) (wg t mX s to nm).1:=by
 unfold wg
 repeat' split
 all_goals first
  |exact h.up (by omega)
  |exact h.move mX s to nm _ _
def Sz.done{b:Nat}{t:Tree}(h:Sz b t)(s:Step)(hs:s.Ok):Sz (b+5) (XM t s).1:=by
 unfold XM
 repeat' split
 all_goals first
  |exact h.add _ _ _
  |exact h.ln _ _ _
  |exact h.un _ _
  |exact h.mv _ _ _ _
  |exact h.put _ _ hs.data
  |exact h.free _
def Sz.oU:Sz 1 oU:=⟨by simp[Go.Proofs.YtcbopkblmebjiaaGreatDoor.oU],fun n hn=>by simp[Go.Proofs.YtcbopkblmebjiaaGreatDoor.oU] at hn; subst hn; simp,fun n hn=>by simp[Go.Proofs.YtcbopkblmebjiaaGreatDoor.oU] at hn; subst hn; simp⟩
def tkN(n:Node):List.take 6 (aV n)=aV n:=rfl
def shN(n:Node):List.map ag.shut (aV n)=aV n:=rfl
def tkE(n:eD):List.take 3 (ew n)=ew n:=rfl
def shE(n:eD):List.map ag.shut (ew n)=ew n:=rfl
def ajG(a:Int):aq c9 124 [aG a] []=some (.bool false,[]):=by
 refine aJ ?_;simp only[X7,aiz,an,EN,seval]
def ak4 a:=cP (ajG a)
def JL(a b:Int):Int:=if decide (a<b) then -1 else if decide (b<a) then 1 else 0
def c60(a b:Int):aq c9 60 [aG a,aG b] []=some (aG (JL a b),[]):=by
 refine aJ ?_;simp only[agt,E60,ak4,EN,seval]
 repeat' ((first|apply bL|apply cK|apply eZ)<;>intro hb<;>simp only[hb,EN,E60,seval])
 all_goals (simp_all only[JL,vp,↓reduceIte,reduceCtorEq,an]; done)
def k60 a b:=cP (c60 a b)
def U8(a b:Int):(JL a b<0)=(a<b):=by
 unfold JL
 by_cases h1:a<b
 ·simp[h1]
 ·by_cases h2:b<a<;>simp[h1,h2]
def U7(a b:Int):(JL a b==0)=(a==b):=by
 unfold JL
 by_cases h1:a<b
 ·have:¬a=b:=by omega
  simp[h1,this]
 ·by_cases h2:b<a
  ·have:¬a=b:=by omega
   simp[h1,h2,this]
  ·have:a=b:=by omega
   simp[this]
def akH(n:Node)(au:Int):aq c9 259 [.agg (aV n),aG au] []=some (aG (JL n.au au),[]):=by
 refine aJ ?_;simp only[Y3,ai5,cn,aV,k60,EN,seval]
def ahk n au:=cP (akH n au)
structure Pe(ae:List Node)(au:Int)(b:Nat):Prop where
 le:b<=ae.length
 lt:∀h n,ae[h]?=some n->(n.au<au↔h<b)
def KD(i j:Nat)(hj:j<=100000)(hi:i<=j):IntKind.i64.wrap ((i:Int)+(j:Int))=((i+j:Nat):Int)/\IntKind.u64.wrap ((i+j:Nat):Int)=((i+j:Nat):Int) /\
  (((i+j:Nat):Int)).fdiv (2 ^ min 1 IntKind.u64.bits)=(((i+j) / 2:Nat):Int)/\IntKind.i64.wrap (((i+j) / 2:Nat):Int)=(((i+j) / 2:Nat):Int)/\IntKind.i64.wrap ((((i+j) / 2:Nat):Int)+1)=(((i+j) / 2+1:Nat):Int):=by
 refine⟨?_,?_,?_,?_,?_⟩
 ·rw[gD (by omega) (by omega)]; rfl
 ·have:IntKind.u64.wrap ((i+j:Nat):Int)=((i+j:Nat):Int) % 18446744073709551616:=by simp[IntKind.wrap,IntKind.bits,IntKind.signed]
  rw[this]; omega
 ·have:(2:Int) ^ min 1 IntKind.u64.bits=2:=by decide
  rw[this,Int.fdiv_eq_ediv_of_nonneg _ (by omega)]; omega
 ·exact gD (by omega) (by omega)
 ·rw[gD (by omega) (by omega)]; rfl
def WG{ae:List Node}{au:Int}{b:Nat}(hb:Pe ae au b)(hn:ae.length<=100000){k:List K}{r:Option (ag×aL)}
  (hx:∀v q,kr (aq c9) [.tmp 6,.tmp 7] 0 k ⟨.exit 0,[(0,a8 ae),(1,aG au),(2,.func 259 []),(8,aG ae.length),(9,aG b),(10,v),(17,q)],[]⟩=r) :
  ∀(f i j:Nat),j-i<=f->i<=b->b<=j->j<=ae.length->fS (aq c9) [.tmp 6,.tmp 7] 0 k (.loop [0,1,2,8,9,10] Wg) [(0,a8 ae),(1,aG au),(2,.func 259 []),(8,aG ae.length),(9,aG i),(10,aG j)] []=r:=by
 intro f;induction f with
 |zero =>
  intro i j h1 h2 h3 h4;obtain rfl:i=b:=by omega
  rw[bZ];have cu:((i:Int)<(j:Int))=False:=by simp; omega
  simp only[GR,cu,EN,seval];exact hx _ _
 |succ f ih =>
  intro i j h1 h2 h3 h4;rw[bZ]
  by_cases hij:i<j
  ·have cu:((i:Int)<(j:Int))=True:=by simp; omega
   obtain⟨m1,m2,m3,m4,m5⟩:=KD i j (by omega) (by omega)
   have hmid:(i+j) / 2<ae.length:=by omega
   have hx:=aj hmid;have hl:=hb.lt _ _ hx;simp only[GR,cu,m1,m2,m3,m4,hx,ahk,U8,tkN,shN,EN,seval];refine bL (fun hq=>?_) (fun hq=>?_)
   ·have hq:ae[(i+j) / 2].au<au:=by simpa using hq
    simp only[GR,m5,EN,seval];exact ih ((i+j) / 2+1) j (by omega) (hl.1 hq) h3 h4
   ·have hq:¬ae[(i+j) / 2].au<au:=by simpa using hq
    simp only[GR,EN,seval];exact ih i ((i+j) / 2) (by omega) h2 (Nat.not_lt.1 fun h=>hq (hl.2 h)) (by omega)
  ·obtain rfl:i=b:=by omega
   have cu:((i:Int)<(j:Int))=False:=by simp; omega
   simp only[GR,cu,EN,seval];exact hx _ _
def HS(ae:List Node)(au:Int)(b:Nat):Bool:=match ae[b]? with
 |some n=>n.au==au
 |none=>false
def akG(ae:List Node)(au:Int)(b:Nat)(hb:Pe ae au b)(hn:ae.length<=100000):aq c9 258 [a8 ae,aG au,.func 259 []] []=some (.tuple [aG b,.bool (HS ae au b)],[]):=by
 refine aJ ?_;simp only[Y2,GR,EN,seval];refine WG hb hn (fun v q=>?_) ae.length 0 ae.length (by omega) (by omega) hb.le (by omega)
 unfold HS
 by_cases cu:b<ae.length
 ·have hx:=aj cu;have h1:((b:Int)<(ae.length:Int))=True:=by simp; omega
  simp only[GR,hx,h1,ahk,U7,tkN,shN,EN,seval]
 ·have hx:ae[b]?=none:=eJ (by omega)
  have h1:((b:Int)<(ae.length:Int))=False:=by simp; omega
  simp only[GR,hx,h1,EN,seval]
def alI ae au b hb hn:=cP (akG ae au b hb hn)
def nM(ae:List Node):Prop:=ae.Pairwise fun a b=>a.au<b.au
def k8(ae:List Node)(au:Int):Nat:=(ae.takeWhile fun n=>decide (n.au<au)).length
def uo{ae:List Node}(h:nM ae)(au:Int):Pe ae au (k8 ae au):=by
 unfold k8;induction ae with
 |nil=>exact⟨by simp,fun h n hn=>by simp at hn⟩
 |cons a r ih =>
  obtain⟨h1,h2⟩:=bG.1 h;obtain⟨i1,i2⟩:=ih h2
  by_cases ha:a.au<au
  ·rw[fh,az (by simpa using ha)]
   refine⟨by simpa using i1,fun k n hn=>?_⟩
   cases k with
   |zero=>simp at hn; subst hn; simp[ha]
   |succ k=>rw[i2 k n (by simpa using hn)]; simp
  ·rw[fh,ak (by simpa using ha)]
   refine⟨by simp,fun k n hn=>?_⟩
   simp only[aH,kb,mh];cases k with
   |zero=>simp at hn; subst hn; exact ha
   |succ k =>
    have:=h1 n (aR (by simpa using hn))
    omega
def rY{ae:List Node}(h:nM ae)(au:Int):(HS ae au (k8 ae au)=true/\∃n,ae[k8 ae au]?=some n/\find ae au=some n/\n.au=au)\/(HS ae au (k8 ae au)=false/\find ae au=none):=by
 obtain⟨l1,l2⟩:=uo h au;cases hf:find ae au with
 |some n =>
  left;obtain⟨hm,he⟩:=cj hf;obtain⟨k,hk⟩:=bO hm;have hkb:¬k<k8 ae au:=fun hc=>by have:=(l2 k n hk).2 hc; omega
  have hb:k8 ae au<ae.length:=by have:=(aC.1 hk).1; omega
  have hx:=aj hb;have hnl:¬ae[k8 ae au].au<au:=fun hc=>iP _ ((l2 _ _ hx).1 hc)
  have hke:k=k8 ae au:=by
   rcases bH (k8 ae au) k with cu|hge
   ·have hkl:=(aC.1 hk).1;have h3:=bU.1 h _ _ hb hkl cu;have h4:ae[k]=n:=by rw[aj hkl] at hk; injection hk
    rw[h4] at h3;omega
   ·omega
  subst hke;exact⟨by unfold HS; rw[hk]; simp[he],n,hk,rfl,he⟩
 |none =>
  right;refine⟨?_,rfl⟩;unfold HS;split
  ·rename_i n hn;have:=eG.1 hf n (aR hn);simpa using this
  ·rfl
def uu{M:aL}{p:Nat}{b:cD}(h:nth M p=some b):j6 M p b=M:=by
 rw[eN] at h; rw[fQ];apply cS;intro i
 by_cases e:p=i
 ·subst e; rw[dG (aF h),h]
 ·rw[cE e]
def cM{C:eO}{f p:Nat}{vs:List ag}{r:ag}{M:aL}{cs:List ag}(hM:nth M p=some (.cells cs))(h:C f (.ptr 0 0::vs) [.cells cs]=some (r,[.cells cs]))(h1:vs.all ag.flat=true:=by exact rfl)(h2:vs.flatMap ag.ids=[]:=by exact rfl)(h3:r.wJ=true:=by exact rfl)(h4:vs.map (ag.ry (iH [p]))=vs:=by exact rfl)(h5:r.BI (xk [p])=r:=by exact rfl)(h6:cs.all ag.vT=true:=by exact rfl)(h7:cs.flatMap ag.mQ=[]:=by exact rfl)(h8:cs.map (ag.td (iH [p]))=cs:=by exact rfl)(h10:cs.map (ag.td (xk [p]))=cs:=by exact rfl):aM C f (.ptr p 0::vs) M=some (r,M):=by
 have:=pG hM h h1 h2 h3 h4 h5 h6 h7 h8 h6 h10;rwa[uu hM] at this
def akw(ae:List Node)(next ai au:Int)(h:nM ae)(hn:ae.length<=100000):aq c9 232 [cL 0,aG au] [cm [a8 ae,aG next,aG ai]] =
  some (.tuple [aG (k8 ae au),.bool (HS ae au (k8 ae au))],[cm [a8 ae,aG next,aG ai]]):=by
 refine aJ ?_;have hk:=alI ae au _ (uo h au) hn;simp only[YU,aiZ,hk,EN,seval]
def VL ae next ai au h hn p M hM:=cM (p:=p) (M:=M) hM (akw ae next ai au h hn)
def aka(ae:List Node)(next ai au:Int)(h:nM ae)(hn:ae.length<=100000):aq c9 177 [cL 0,aG au] [cm [a8 ae,aG next,aG ai]] =
  some (.tuple [cn (bE ae au),.bool (find ae au).isSome],[cm [a8 ae,aG next,aG ai]]):=by
 refine aJ ?_;have hk:=fun M=>VL ae next ai au h hn 0 (cm [a8 ae,aG next,aG ai]::M) rfl
 simp only[YB,ZJ,hk,EN,seval];rcases rY h au with ⟨h1,n,h2,h3,h4⟩|⟨h1,h2⟩
 ·simp only[ZJ,h1,h2,h3,bE,aV,EN,seval];rfl
 ·simp only[ZJ,h1,h2,bE,EN,seval];rfl
def Gb ae next ai au h hn p M hM:=cM (p:=p) (M:=M) hM (aka ae next ai au h hn)
def akl(ae:List Node)(next ai au:Int)(h:nM ae)(hn:ae.length<=100000):aq c9 216 [cL 0,aG au] [cm [a8 ae,aG next,aG ai]] =
  some (.tuple [cn (gA ae au).1,aG (gA ae au).2],[cm [a8 ae,aG next,aG ai]]):=by
 refine aJ ?_;have hk:=fun M=>Gb ae next ai au h hn 0 (cm [a8 ae,aG next,aG ai]::M) rfl
 simp only[YL,UG,hk,cn,aV,EN,seval];unfold gA;cases hf:find ae au with
 |none=>simp only[UG,bE,hf,Option.isSome,EN,seval]; first|done|rfl
 |some n =>
  simp only[UG,bE,hf,Option.isSome,bA,EN,seval]
  repeat' ((first|apply bL|apply cK|apply eZ)<;>intro hb<;>simp only[hb,EN,UG,seval])
  all_goals (clear hk; simp_all [Node.zero])
def VJ ae next ai au h hn p M hM:=cM (p:=p) (M:=M) hM (akl ae next ai au h hn)
end
end
section
open Go
-- What is decoded in the midst of a text: a byte below 128,or a rune from 128 on out of such bytes.
set_option maxRecDepth 100000 in
def Lw{s pre r:List UInt8}{n:UInt8}(h:s=pre++n::r) :
  (n.toNat<128/\Utf8.decode ⟨s.toArray⟩ pre.length=(n.toNat,1)) \/
  ∃c m r',n::r=m++r'/\m≠[]/\(∀b,b∈m->128<=b.toNat)/\128<=c/\c<2147483648/\Utf8.decode ⟨s.toArray⟩ pre.length=(c,m.length):=by
 have hg:∀k,(⟨s.toArray⟩:ByteArray).get! (pre.length+k)=(n::r).getD k 0:=fun k=>by
  subst h
  show((pre++n::r).toArray)[pre.length+k]! = _
  simp only[List.getElem!_toArray,List.getElem!_eq_getElem?_getD,fu];rw[br (by omega),iz]
  rfl
 have hsz:(⟨s.toArray⟩:ByteArray).size=pre.length+(n::r).length:=by
  show s.toArray.size=_
  subst h; simp
 by_cases hn:n.toNat<128
 ·refine .inl ⟨hn,?_⟩;have h0:=hg 0;simp only[cV,List.getD_cons_zero] at h0;simp[Utf8.decode,h0,hn]
 ·refine .inr ?_;have hn':128<=n.toNat:=by omega
  have h0:=hg 0;have h1:=hg 1;have h2:=hg 2;have h3:=hg 3;simp only[cV,List.getD_cons_zero,List.getD_cons_succ] at h0 h1 h2 h3
  have one:∀c,128<=c->c<2147483648->Utf8.decode ⟨s.toArray⟩ pre.length=(c,1)->∃c m r',n::r=m++r'/\m≠[]/\(∀b,b∈m->128<=b.toNat)/\128<=c/\c<2147483648/\Utf8.decode ⟨s.toArray⟩ pre.length=(c,m.length) :=
   fun c hc hc2 hd=>⟨c,[n],r,rfl,by simp,by simpa using hn',hc,hc2,hd⟩
  have big:∀k,k<r.length->128<=(r.getD k 0).toNat->∃b,r[k]?=some b/\128<=b.toNat:=fun k hk hb=>by
   refine⟨r[k],aj hk,?_⟩;simpa[fu,aj hk] using hb
  have cu:¬n.toNat<0x80:=by omega
  have hN:n.toNat<256:=n.toNat_lt;unfold Utf8.decode at one ⊢;simp only[cV,h0,h1,h2,h3,hsz,av,cu,aw] at one ⊢
  by_cases hA:(n.toNat / 32==6&&(decide (pre.length+1<pre.length+(r.length+1))&&(r.getD 0 0).toNat / 64==2))=true
  ·simp only[hA,aE] at one ⊢;simp only[bn,dR,bu] at hA;obtain⟨hA1,hA2,hA3⟩:=hA
   by_cases hc:n.toNat % 32*64+(r.getD 0 0).toNat % 64>=0x80
   ·simp only[hc,aE] at one ⊢;obtain⟨b0,g0,g1⟩:=big 0 (by omega) (by omega)
    match r,g0 with
    |_::r',g0 =>
     cases g0;exact⟨_,[n,_],r',rfl,by simp,by simp[hn',g1],hc,by omega,rfl⟩
   ·simp only[hc,aw] at one ⊢;exact one _ (by decide) (by decide) rfl
  ·simp only[hA,aw] at one ⊢
   by_cases hB:(n.toNat / 16==14&&(decide (pre.length+1<pre.length+(r.length+1))&&(r.getD 0 0).toNat / 64==2)&&(decide (pre.length+2<pre.length+(r.length+1))&&(r.getD 1 0).toNat / 64==2))=true
   ·simp only[hB,aE] at one ⊢;simp only[bn,dR,bu] at hB;obtain⟨⟨hB1,hB2,hB3⟩,hB4,hB5⟩:=hB
    by_cases hc:((n.toNat % 16*4096+(r.getD 0 0).toNat % 64*64+(r.getD 1 0).toNat % 64>=0x800:Bool)&&Utf8.valid ((n.toNat % 16*4096+(r.getD 0 0).toNat % 64*64+(r.getD 1 0).toNat % 64:Nat):Int))=true
    ·simp only[hc,aE] at one ⊢;simp only[bn,bu] at hc;obtain⟨b0,g0,g1⟩:=big 0 (by omega) (by omega)
     obtain⟨b1,k0,k1⟩:=big 1 (by omega) (by omega)
     match r,g0,k0 with
     |_::_::r',g0,k0 =>
      cases g0;cases k0;exact⟨_,[n,_,_],r',rfl,by simp,by simp[hn',g1,k1],by omega,by omega,rfl⟩
    ·simp only[hc,aw] at one ⊢;exact one _ (by decide) (by decide) rfl
   ·simp only[hB,aw] at one ⊢
    by_cases hC:(n.toNat / 8==30&&(decide (pre.length+1<pre.length+(r.length+1))&&(r.getD 0 0).toNat / 64==2)&&(decide (pre.length+2<pre.length+(r.length+1))&&(r.getD 1 0).toNat / 64==2)&&(decide (pre.length+3<pre.length+(r.length+1))&&(r.getD 2 0).toNat / 64==2))=true
    ·simp only[hC,aE] at one ⊢;simp only[bn,dR,bu] at hC;obtain⟨⟨⟨hB1,hB2,hB3⟩,hB4,hB5⟩,hB6,hB7⟩:=hC
     by_cases hc:((n.toNat % 8*262144+(r.getD 0 0).toNat % 64*4096+(r.getD 1 0).toNat % 64*64+(r.getD 2 0).toNat % 64>=0x10000:Bool)&&Utf8.valid ((n.toNat % 8*262144+(r.getD 0 0).toNat % 64*4096+(r.getD 1 0).toNat % 64*64+(r.getD 2 0).toNat % 64:Nat):Int))=true
     ·simp only[hc,aE] at one ⊢;simp only[bn,bu] at hc;obtain⟨b0,g0,g1⟩:=big 0 (by omega) (by omega)
      obtain⟨b1,k0,k1⟩:=big 1 (by omega) (by omega)
      obtain⟨b2,l0,l1⟩:=big 2 (by omega) (by omega)
      match r,g0,k0,l0 with
      |_::_::_::r',g0,k0,l0 =>
       cases g0;cases k0;cases l0;exact⟨_,[n,_,_,_],r',rfl,by simp,by simp[hn',g1,k1,l1],by omega,by omega,rfl⟩
     ·simp only[hc,aw] at one ⊢;exact one _ (by decide) (by decide) rfl
    ·simp only[hC,aw] at one ⊢;exact one _ (by decide) (by decide) rfl
end
section
open Go Go.Abs
section
attribute [local irreducible] fS fp kH gK dv kr aq aM cv bJ
def oD(_:Bytes):Prop:=True
def all_true{m:Bytes}(h:∀b,b∈m->128<=b.toNat):m.all sN=true:=by
 rw[bw];intro b hb;have:=h b hb;have h1:¬((b.toNat:Int)<32):=by omega
 have h2:¬((b.toNat:Int)=47):=by omega
 simp[sN,h1,h2]
def Wr{s:Bytes}(hs:s.length<=100000)(ha:oD s){k:List K}{R:Bool->Option (ag×aL)}
  (hx:∀e p,kr (aq c9) [.tmp 2] 0 k ⟨.exit 0,e,[.nG s p]⟩=R true) (hr:∀p,kr (aq c9) [.tmp 2] 0 k ⟨.ret,[(2,.bool false)],[.nG s p]⟩=R false) :
  ∀(q:Nat)(l pre:Bytes),l.length<=q->s=pre++l->fS (aq c9) [.tmp 2] 0 k (.loop [21] L1) [(21,.jA 0)] [.nG s pre.length]=R (l.all sN):=by
 intro q;induction q with
 |zero =>
  intro l pre hq h;have h0:l=[]:=cp (by omega)
  subst h0;rw[bZ];have cu:(pre.length<s.length)=False:=by rw[h]; simp
  simp only[wa,cu,EN,seval];exact hx _ _
 |succ q ih =>
  intro l pre hq h;cases l with
  |nil =>
   rw[bZ];have cu:(pre.length<s.length)=False:=by rw[h]; simp
   simp only[wa,cu,EN,seval];exact hx _ _
  |cons n r =>
   rw[bZ];have cu:(pre.length<s.length)=True:=by rw[h]; simp
   rcases Lw h with ⟨hn,hd⟩|⟨c,m,r',hm,hne,hb,hc,hc2,hd⟩
   ·have hi:=ih r (pre++[n]) (by simp at hq; omega) (by rw[h]; simp)
    simp only[aK,av,aH,aQ] at hi;simp only[wa,cu,hd,EN,seval]
    repeat' ((first|apply bL|apply cK|apply eZ)<;>intro hb<;>simp only[hb,wa,hd,EV,seval])
    all_goals first
     |(refine(hr _).trans ?_; congr 1; symm; clear hi ih hx hr hd h; simp_all [sN]; done)
     |(refine hi.trans ?_; congr 1; symm; clear hi ih hx hr hd h; simp_all [sN]; done)
   ·have hml:0<m.length:=iL.2 hne;have hl2:(n::r).length=m.length+r'.length:=by rw[hm]; simp
    have hi:=ih r' (pre++m) (by simp at hq hl2; omega) (by rw[h,hm]; simp)
    simp only[aK] at hi;have h32:decide ((c:Int)<32)=false:=by simp; omega
    have h47:((c:Int)==47)=false:=by rw[bM]; omega
    rw[hm,List.all_append,all_true hb,bQ];simp only[wa,cu,hd,h32,h47,EN,seval];exact hi
def ajH(s:Bytes)(hs:s.length<=100000)(ha:oD s):aq c9 126 [.str s] []=some (.bool (dE s),[]):=by
 refine aJ ?_;simp only[HA,wa,EN,seval];have hl:=fun k hx hr=>Wr (k:=k) (R:=fun b=>some (ag.bool b,[])) hs ha hx hr s.length s [] (ar _) rfl
 have he:(s==[])=decide ((s.length:Int)<1):=by cases s<;>simp; omega
 rw[he]
 repeat' ((first|apply bL|apply cK|apply eZ)<;>intro hb<;>simp only[hb,EN,wa,seval])
 all_goals first
  |(clear hl he; simp_all [dE]; done)
  |(refine(hl _ (fun e p=>by simp only[wa,EN,seval]) (fun p=>by simp only[wa,EN,seval])).trans ?_; clear hl he; simp_all [dE]; done)
def VE s hs ha:=cP (ajH s hs ha)
def alv(a b:Bytes)(M:aL):aM (aq c9) 199 [.str a,.str b] M=some (aG (Lib.compareBytes a b),M) :=
 cO (gF (g:=zu) rfl rfl) M
def c138(a b:Bytes):aq c9 138 [.str a,.str b] []=some (aG (Lib.compareBytes a b),[]):=by
 refine aJ ?_;simp only[Yg,aiE,alv,EN,seval]
def aa6 a b:=cP (c138 a b)
def za:∀(a b:Bytes),(Lib.compareBytes a b<0)=(strLt a b=true)
 | [],[]=>by simp[Lib.compareBytes,strLt]
 | [],_::_=>by simp[Lib.compareBytes,strLt]
 |_::_,[]=>by simp[Lib.compareBytes,strLt]
 |a::x,b::y=>by
  rw[Lib.compareBytes,strLt]
  by_cases h1:a<b
  ·simp[h1]
  ·by_cases h2:b<a
   ·have h3:¬a=b:=by rintro rfl; exact oq _ h2
    simp[h1,h2,h3]
   ·have h3:a=b:=by rw[<-iE]; simp only[km] at h1 h2; omega
    subst h3;simp[h1,za x y]
def F2:∀(a b:Bytes),(Lib.compareBytes a b==0)=(a==b)
 | [],[]=>by simp[Lib.compareBytes]
 | [],_::_=>by simp[Lib.compareBytes]
 |_::_,[]=>by simp[Lib.compareBytes]
 |a::x,b::y=>by
  rw[Lib.compareBytes]
  by_cases h1:a<b
  ·have h3:¬a=b:=by rintro rfl; exact oq _ h1
   simp[h1,h3]
  ·by_cases h2:b<a
   ·have h3:¬a=b:=by rintro rfl; exact oq _ h2
    simp[h1,h2,h3]
   ·have h3:a=b:=by rw[<-iE]; simp only[km] at h1 h2; omega
    subst h3;simp only[h1,aw,F2 x y];simp
def akC(e:eD)(s:Bytes):aq c9 254 [.agg (ew e),.str s] []=some (aG (Lib.compareBytes e.name s),[]):=by
 refine aJ ?_;simp only[YY,ai3,gk,ew,aa6,EN,seval]
def ahj e s:=cP (akC e s)
structure Jq(aN:List eD)(s:Bytes)(b:Nat):Prop where
 le:b<=aN.length
 lt:∀h n,aN[h]?=some n->(strLt n.name s=true↔h<b)
def WD{aN:List eD}{s:Bytes}{b:Nat}(hb:Jq aN s b)(hn:aN.length<=100000){k:List K}{r:Option (ag×aL)}
  (hx:∀v q,kr (aq c9) [.tmp 6,.tmp 7] 0 k ⟨.exit 0,[(0,ij aN),(1,.str s),(2,.func 254 []),(8,aG aN.length),(9,aG b),(10,v),(17,q)],[]⟩=r) :
  ∀(f i j:Nat),j-i<=f->i<=b->b<=j->j<=aN.length->fS (aq c9) [.tmp 6,.tmp 7] 0 k (.loop [0,1,2,8,9,10] We) [(0,ij aN),(1,.str s),(2,.func 254 []),(8,aG aN.length),(9,aG i),(10,aG j)] []=r:=by
 intro f;induction f with
 |zero =>
  intro i j h1 h2 h3 h4;obtain rfl:i=b:=by omega
  rw[bZ];have cu:((i:Int)<(j:Int))=False:=by simp; omega
  simp only[GQ,cu,EN,seval];exact hx _ _
 |succ f ih =>
  intro i j h1 h2 h3 h4;rw[bZ]
  by_cases hij:i<j
  ·have cu:((i:Int)<(j:Int))=True:=by simp; omega
   obtain⟨m1,m2,m3,m4,m5⟩:=KD i j (by omega) (by omega)
   have hmid:(i+j) / 2<aN.length:=by omega
   have hx:=aj hmid;have hl:=hb.lt _ _ hx;simp only[GQ,cu,m1,m2,m3,m4,hx,ahj,za,tkE,shE,EN,seval];refine bL (fun hq=>?_) (fun hq=>?_)
   ·have hq:strLt aN[(i+j) / 2].name s=true:=by simpa using hq
    simp only[GQ,m5,EN,seval];exact ih ((i+j) / 2+1) j (by omega) (hl.1 hq) h3 h4
   ·have hq:¬strLt aN[(i+j) / 2].name s=true:=by simpa using hq
    simp only[GQ,EN,seval];exact ih i ((i+j) / 2) (by omega) h2 (Nat.not_lt.1 fun h=>hq (hl.2 h)) (by omega)
  ·obtain rfl:i=b:=by omega
   have cu:((i:Int)<(j:Int))=False:=by simp; omega
   simp only[GQ,cu,EN,seval];exact hx _ _
def Bk(aN:List eD)(s:Bytes)(b:Nat):Bool:=match aN[b]? with
 |some n=>n.name==s
 |none=>false
def akB(aN:List eD)(s:Bytes)(b:Nat)(hb:Jq aN s b)(hn:aN.length<=100000):aq c9 253 [ij aN,.str s,.func 254 []] []=some (.tuple [aG b,.bool (Bk aN s b)],[]):=by
 refine aJ ?_;simp only[YX,GQ,EN,seval];refine WD hb hn (fun v q=>?_) aN.length 0 aN.length (by omega) (by omega) hb.le (by omega)
 unfold Bk
 by_cases cu:b<aN.length
 ·have hx:=aj cu;have h1:((b:Int)<(aN.length:Int))=True:=by simp; omega
  simp only[GQ,hx,h1,ahj,F2,tkE,shE,EN,seval]
 ·have hx:aN[b]?=none:=eJ (by omega)
  have h1:((b:Int)<(aN.length:Int))=False:=by simp; omega
  simp only[GQ,hx,h1,EN,seval]
def alE aN s b hb hn:=cP (akB aN s b hb hn)
def oX(l:List eD):Prop:=l.Pairwise fun a b=>strLt a.name b.name=true
def ly(l:List eD)(s:Bytes):Nat:=(l.takeWhile fun n=>strLt n.name s).length
def aks(n:Node)(s:Bytes)(b:Nat)(hb:Jq n.aN s b)(hn:n.aN.length<=100000):aq c9 228 [cn n,.str s] []=some (.tuple [aG b,.bool (Bk n.aN s b)],[]):=by
 refine aJ ?_;have hk:=alE n.aN s b hb hn;simp only[YP,aiW,cn,aV,hk,EN,seval]
def QG(a b c:Int)(d:Bytes)(e:List eD)(u:Int)(s:Bytes)(i:Nat)(hb:Jq e s i)(hn:e.length<=100000)(M:aL):aM (aq c9) 228 [.agg [aG a,aG b,aG c,jt d,ij e,aG u],.str s] M=some (.tuple [aG i,.bool (Bk e s i)],M) :=
 cO (aks ⟨a,b,c,d,e,u⟩ s i hb hn) M
end
section
open Go.RowKit Go.Shelf
def DS{α:Type}(b0:Nat)(F:Fence)(n:Nat)(P:Program)(g:Nat)(lb:Array Value)(encs:α->Array Value)(Kp:World->World->Prop)(S Sp:List α->Prop)(N:Nat)(w:World):Prop :=
 ∀(l:Nat)(J Jx:List α->World->Prop)(W:World),Below w.heap.size w W->AbidesFrom W.heap.size J->AbidesFrom W.heap.size Jx->(∀s A v,J s A->J s (A.setCell ⟨b0,0,none⟩ v)) ->
  (∀pre x W1,J pre W1->pre.length<N->YieldAt F (n-1) P l (encs x) W1 fun e W' =>
   (e = .returned (.bool true)/\J (pre++[x]) W'/\Kp W1 W')\/(e = .returned (.bool false)/\Jx (pre++[x]) W')) ->
  J [] W ->
  CallsIn F n P g (#[.func (.yield l) #[] #[]]++lb) W fun e W'=>(∃v,e = .returned v)/\((∃xs,S xs/\J xs W')\/(∃pre,Sp pre/\Jx pre W'))
def xU{F:Fence}{n:Nat}{P:Program}{b0:Nat}{α:Type}{g:Operand}{ps:Array Tmp}{assign body:Code}{Q:Exit->Act->World->Prop}{a:Act}{w:World}(hb0w:b0<w.heap.size)
  (hro:F.round=none) (h1:1<=n) {gf:Nat} {lb:Array Value} (hg:a.eval g = .func (.func gf) #[] lb) (hFg:F.fn gf) (eg:∀args w,(callFunc gf args).run P w = .ok (.enter gf args) w)
  {encs:α->Array Value} {Kp:World->World->Prop} {S Sp:List α->Prop} {N:Nat} {w0:World} (hseq:DS b0 F (n-1) P gf lb encs Kp S Sp N w0)
  (hKt:∀ {A B C:World},Kp A B->Kp B C->Kp A C) (hKb:∀(W:World)(l:Nat)(o o':Obj),w.heap.size<=l->W.heap[l]?=some o->o.isCells=false->o.isWalk=false->Kp W (W.putObj l o')) (hb0:Below w0.heap.size w0 w) (hps:∀x,(encs x).size=ps.size)
  (I:List α->World->Prop) (Ix:Code->List α->World->Prop) (hI:OwnFrom w.heap.size I) (hIx:∀c,OwnFrom w.heap.size (Ix c)) (hIc:∀s A v,I s A->I s (A.setCell ⟨b0,0,none⟩ v)) (h0:I [] w) (a₁:α->Act)
  (hassign:∀(l:Nat)(x:α)(W:World)(K:Act->World->Prop),K (a₁ x) W ->
   assign.wpIn (F.inRound l) (n-1-1) P (Exit.then K (fun _ _ _=>False)) { tmps:=(ps.zip (encs x)).foldl (fun t (p,v)=>t.setIfInBounds p v) a.tmps,defers:=[] } W)
  (hbody:∀(l:Nat)(pre:List α)(x:α)(W:World),I pre W->pre.length<N->body.wpIn (F.inRound l) (n-1-1) P (ownPostK Kp I Ix (pre++[x]) W) (a₁ x) W)
  (hdone:∀(D:Nat)(xs:List α)(W:World),w.heap.size<=D->S xs->I xs W->W.heap[D]?=some (.deferred (some []))->Q .normal { a with defers:={ target := .collected D,args := #[] }::a.defers } W)
  (hstop:∀(D:Nat)(c:Code)(pre:List α)(W:World),w.heap.size<=D->Sp pre->Ix c pre W->W.heap[D]?=some (.deferred (some []))->c.wpIn F n P Q { a with defers:={ target := .collected D,args := #[] }::a.defers } W) :
  (Code.rangeFunc g ps assign body).wpIn F n P Q a w:=by
 refine wpIn_rangeFunc ?_;intro fn hfn;rw[hro];obtain⟨rec,hrec⟩:∃rec:LoopState->Option Code->Loop,rec=fun st pe=>{ state:=st,pending:=pe,fn,tmps:=a.tmps,params:=ps,assign,body,defers:=w.heap.size }:=⟨_,rfl⟩
 obtain⟨W1,hW1⟩:∃W1,(w.alloc (.deferred (some []))).alloc (.loop (rec .ready none))=W1:=⟨_,rfl⟩
 have hL1:W1.heap[w.heap.size+1]?=some (.loop (rec .ready none)):=by
  rw[<-hW1]; have:=World.alloc_heap_new (w.alloc (.deferred (some []))) (.loop (rec .ready none)); rwa[World.size_alloc] at this
 have hK1:W1.heap[w.heap.size]?=some (.deferred (some [])):=by
  rw[<-hW1]; exact(Below.heap_alloc _ _ _ (by simp)).trans (World.alloc_heap_new w _)
 have hI1:I [] W1:=by rw[<-hW1]; exact hI.alloc _ (hI.alloc _ h0)
 have hb1:Below w0.heap.size w0 W1:=by
  rw[<-hW1]; exact hb0.trans ((((Below.refl _ w).alloc (ar _) _).alloc (by simp) _).mono hb0.size)
 refine⟨w.heap.size+1,[{ target := .collected w.heap.size,args := #[] }],W1,{ target := .fn (.func gf) lb,args := #[.func (.yield (w.heap.size+1)) #[] #[]] },W1,gf,
  #[.func (.yield (w.heap.size+1)) #[] #[]]++lb,W1,?_,?_,?_,?_,fun _=>h1,?_⟩
 ·rw[<-hW1,hrec]; exact run_enterLoop_outer _ _ _ _ _
 ·simp only[resolve,hg];simp[go_sem]
 ·intro f' hf'; simp[Target.leads] at hf'; subst hf'; exact hFg
 ·simp[invoke,go_sem,eg]
 ·have hnw:∀ {A B:World} {row:Option Nat},(∀r,row=some r->W1.heap.size<=r/\∃o:Obj,A.heap[r]?=some o/\o.isWalk=true)->(∀r,row=some r->w.heap.size<=r/\∃o:Obj,A.heap[r]?=some o/\o.isCells=false) :=
   fun hr r e=>by obtain⟨hB,o,ho,hw⟩:=hr r e; exact⟨by rw[<-hW1] at hB; simp at hB; omega,o,ho,Obj.not_cells_of_walk hw⟩
  refine(hseq (w.heap.size+1)
   (fun pre W=>I pre W/\W.heap[w.heap.size+1]?=some (.loop (rec .ready none))/\W.heap[w.heap.size]?=some (.deferred (some [])))
   (fun pre W=>∃c,Ix c pre W/\W.heap[w.heap.size+1]?=some (.loop (rec .done (some c)))/\W.heap[w.heap.size]?=some (.deferred (some [])))
   W1 hb1
   (fun s A B row hs hg' hr=>⟨hI s A B row hs.1 hg' (hnw (B:=B) hr),(grownBy_keeps hg' (fun r e=>(hr r e).2) hs.2.1 rfl).trans hs.2.1,(grownBy_keeps hg' (fun r e=>(hr r e).2) hs.2.2 rfl).trans hs.2.2⟩)
   (fun s A B row hs hg' hr=>by
    obtain⟨c,hc,hl,hk⟩:=hs;exact⟨c,hIx c s A B row hc hg' (hnw (B:=B) hr),(grownBy_keeps hg' (fun r e=>(hr r e).2) hl rfl).trans hl,(grownBy_keeps hg' (fun r e=>(hr r e).2) hk rfl).trans hk⟩)
   (fun s A v hs=>⟨hIc s A v hs.1,(Below.heap_setCell _ _ _ _ (by show _≠b0; omega)).trans hs.2.1,(Below.heap_setCell _ _ _ _ (by show _≠b0; omega)).trans hs.2.2⟩)
   ?_ ⟨hI1,hL1,hK1⟩).mono ?_
  ·rintro pre x W ⟨hi,hl,hk⟩ eY;have cu:w.heap.size+1<W.heap.size:=(fq.1 hl).1;have hy:=run_yield (P:=P) (args:=encs x) hl (by rw[hrec]; exact hps x)
   rw[hrec] at hy;refine⟨fn,_,assign,body,hy,roundIn_of_wpIn hfn (hassign _ x W _ ⟨_,run_beginRound hl (by rw[hrec]),?_⟩)⟩
   have hl2:(W.putObj (w.heap.size+1) (.loop { rec .ready none with state := .busy })).heap[w.heap.size+1]?=some (.loop { rec .ready none with state := .busy }):=World.putObj_heap_same cu
   have hk2:(W.putObj (w.heap.size+1) (.loop { rec .ready none with state := .busy })).heap[w.heap.size]?=some (.deferred (some [])):=(World.putObj_heap_other (by omega)).trans hk
   have hw2:Kp W (W.putObj (w.heap.size+1) (.loop { rec .ready none with state := .busy })):=hKb _ _ _ _ (by omega) hl rfl rfl
   refine wpIn_mono (hbody _ pre x _ (hI.putObj _ hi (by omega) hl rfl) eY) ?_
   have fin:∀(jump:Option Code)(W3:World),KeepsOthers (W.putObj (w.heap.size+1) (.loop { rec .ready none with state := .busy })) W3 ->
     (Instr.endRound (w.heap.size+1) jump).run P W3 = .ok (.bool jump.isNone) (W3.putObj (w.heap.size+1) (.loop (rec (if jump.isNone then .ready else .done) jump))) /\
     W3.heap[w.heap.size+1]?=some (.loop { rec .ready none with state := .busy }) /\
     (W3.putObj (w.heap.size+1) (.loop (rec (if jump.isNone then .ready else .done) jump))).heap[w.heap.size+1]?=some (.loop (rec (if jump.isNone then .ready else .done) jump)) /\
     (W3.putObj (w.heap.size+1) (.loop (rec (if jump.isNone then .ready else .done) jump))).heap[w.heap.size]?=some (.deferred (some [])):=fun jump W3 hk3=>by
    have hl3:=hk3.same _ _ hl2 rfl;have:=run_endRound (P:=P) jump hl3;rw[hrec] at this ⊢;exact⟨this,by rw[hrec] at hl3; exact hl3,World.putObj_heap_same (fq.1 hl3).1,(World.putObj_heap_other (by omega)).trans (hk3.same _ _ hk2 rfl)⟩
   rintro e a3 W3 hp;cases e with
   |normal =>
    obtain⟨hk3,hkp3,hi3⟩:=hp;obtain⟨hr,hl3,hl4,hk4⟩:=fin none W3 hk3;exact⟨_,_,hr,.inl ⟨rfl,⟨hI.putObj _ hi3 (by omega) hl3 rfl,hl4,hk4⟩,hKt (hKt hw2 hkp3) (hKb _ _ _ _ (by omega) hl3 rfl rfl)⟩⟩
   |ret =>
    obtain⟨hk3,hi3⟩:=hp;obtain⟨hr,hl3,hl4,hk4⟩:=fin (some .ret) W3 hk3;exact⟨_,_,hr,.inr ⟨rfl,.ret,(hIx _).putObj _ hi3 (by omega) hl3 rfl,hl4,hk4⟩⟩
   |exit id =>
    obtain⟨hk3,hi3⟩:=hp;obtain⟨hr,hl3,hl4,hk4⟩:=fin (some (.exit id)) W3 hk3;exact⟨_,_,hr,.inr ⟨rfl,.exit id,(hIx _).putObj _ hi3 (by omega) hl3 rfl,hl4,hk4⟩⟩
   |goto t =>
    obtain⟨hk3,hi3⟩:=hp;obtain⟨hr,hl3,hl4,hk4⟩:=fin (some (.goto t)) W3 hk3;exact⟨_,_,hr,.inr ⟨rfl,.goto t,(hIx _).putObj _ hi3 (by omega) hl3 rfl,hl4,hk4⟩⟩
   |panic ch=>exact hp.elim
   |outgrown=>exact hp.elim
  ·rintro e W2 ⟨⟨v,rfl⟩,(⟨xs,hS,hi,hl,hk⟩|⟨pre,hSp,c,hi,hl,hk⟩)⟩
   ·exact⟨none,_,by have:=run_endLoop (P:=P) hl (by rw[hrec]; simp); rw[hrec] at this; exact this,hdone _ xs _ (ar _) hS (hI.putObj _ hi (by omega) hl rfl) ((World.putObj_heap_other (by omega)).trans hk)⟩
   ·exact⟨some c,_,by have:=run_endLoop (P:=P) hl (by rw[hrec]; simp); rw[hrec] at this; exact this,hstop _ c pre _ (ar _) hSp ((hIx c).putObj _ hi (by omega) hl rfl) ((World.putObj_heap_other (by omega)).trans hk)⟩
def LX:J:=⟨fun _=>none,fun _ _=>False⟩
def TZ(w:World):Rel LX [] w where
 inj:=fun _ _ _ h=>by cases h
 lt:=fun _ _ h=>by cases h
 fix:=fun _ _ h=>by cases h
 tick:=fun _ _ _ _ h=>by cases h
 arr:=fun _ _ _ _ h=>by cases h
 uG:=fun _ _ h=>by cases h
 zK:=fun _ _ h=>h.elim
@[reducible] def G0:kg:={ g:=fun _=>none }
def acZ:@oN G0 Tryz.prog (DT [] f126) f126=some HA:=by kernel_rfl
def ac0:@oN G0 Tryz.prog (DT [] f193) f193=some LG:=by kernel_rfl
def ac1:@oN G0 Tryz.prog (DT [] f240) f240=some LJ:=by kernel_rfl
def ac2:@oN G0 Tryz.prog (DT [] f261) f261=some HC:=by kernel_rfl
def Gq{α:Type}{x:α}{P:Prop}(h:(none:Option α)=some x):P:=by cases h
def agT(w:World):@sE G0 LX [] w:=@sE.mk G0 _ _ _ (fun b vs k v h=>Gq (show(none:Option (List Value))=some vs from h)) (fun b vs h=>Gq (show(none:Option (List Value))=some vs from h)) (fun b p h=>Gq (show(none:Option (Value->Prop))=some p from h))
def XJ:Nat->Option eU
 |126=>some HA
 |193=>some LG
 |240=>some LJ
 |261=>some HC
 |_=>none
noncomputable def DA:BD:=⟨XJ,fun _=>none⟩
def Xl:@xV G0 Tryz.prog DA:=by
 refine @xV.mk G0 _ _ (fun f fn h=>?_) (fun f g h=>by cases h)
 simp only[DA] at h;unfold XJ at h;split at h
 ·cases h; exact⟨_,_,func126,acZ⟩
 ·cases h; exact⟨_,_,func193,ac0⟩
 ·cases h; exact⟨_,_,func240,ac1⟩
 ·cases h; exact⟨_,_,func261,ac2⟩
 ·cases h
def adq:@pj G0 Tryz.prog (aq DA):=@uh G0 _ (by kernel_rfl) _ Xl
section
attribute [local irreducible] fS fp kH gK dv kr aq aM cv bJ
def SP{s:Bytes}(hs:s.length<=100000)(ha:oD s){k:List K}{R:Bool->Option (ag×aL)}
  (hx:∀e p,kr (aq DA) [.tmp 2] 0 k ⟨.exit 0,e,[.nG s p]⟩=R true) (hr:∀p,kr (aq DA) [.tmp 2] 0 k ⟨.ret,[(2,.bool false)],[.nG s p]⟩=R false) :
  ∀(q:Nat)(l pre:Bytes),l.length<=q->s=pre++l->fS (aq DA) [.tmp 2] 0 k (.loop [21] L1) [(21,.jA 0)] [.nG s pre.length]=R (l.all sN):=by
 intro q;induction q with
 |zero =>
  intro l pre hq h;have h0:l=[]:=cp (by omega)
  subst h0;rw[bZ];have cu:(pre.length<s.length)=False:=by rw[h]; simp
  simp only[wa,cu,EN,seval];exact hx _ _
 |succ q ih =>
  intro l pre hq h;cases l with
  |nil =>
   rw[bZ];have cu:(pre.length<s.length)=False:=by rw[h]; simp
   simp only[wa,cu,EN,seval];exact hx _ _
  |cons n r =>
   rw[bZ];have cu:(pre.length<s.length)=True:=by rw[h]; simp
   rcases Lw h with ⟨hn,hd⟩|⟨c,m,r',hm,hne,hb,hc,hc2,hd⟩
   ·have hi:=ih r (pre++[n]) (by simp at hq; omega) (by rw[h]; simp)
    simp only[aK,av,aH,aQ] at hi;simp only[wa,cu,hd,EN,seval]
    repeat' ((first|apply bL|apply cK|apply eZ)<;>intro hb<;>simp only[hb,wa,hd,EV,seval])
    all_goals first
     |(refine(hr _).trans ?_; congr 1; symm; clear hi ih hx hr hd h; simp_all [sN]; done)
     |(refine hi.trans ?_; congr 1; symm; clear hi ih hx hr hd h; simp_all [sN]; done)
   ·have hml:0<m.length:=iL.2 hne;have hl2:(n::r).length=m.length+r'.length:=by rw[hm]; simp
    have hi:=ih r' (pre++m) (by simp at hq hl2; omega) (by rw[h,hm]; simp)
    simp only[aK] at hi;have h32:decide ((c:Int)<32)=false:=by simp; omega
    have h47:((c:Int)==47)=false:=by rw[bM]; omega
    rw[hm,List.all_append,all_true hb,bQ];simp only[wa,cu,hd,h32,h47,EN,seval];exact hi
def afC(s:Bytes)(hs:s.length<=100000)(ha:oD s):aq DA 126 [.str s] []=some (.bool (dE s),[]):=by
 refine aJ ?_;simp only[HA,wa,EN,seval];have hl:=fun k hx hr=>SP (k:=k) (R:=fun b=>some (ag.bool b,[])) hs ha hx hr s.length s [] (ar _) rfl
 have he:(s==[])=decide ((s.length:Int)<1):=by cases s<;>simp; omega
 rw[he]
 repeat' ((first|apply bL|apply cK|apply eZ)<;>intro hb<;>simp only[hb,EN,wa,seval])
 all_goals first
  |(clear hl he; simp_all [dE]; done)
  |(refine(hl _ (fun e p=>by simp only[wa,EN,seval]) (fun p=>by simp only[wa,EN,seval])).trans ?_; clear hl he; simp_all [dE]; done)
end
def Dn{f:Nat}{args:List ag}{r:ag}(h:aq DA f args []=some (r,[]))(hp:r.jU=false)(w:World)(vs:Array Value)(hl:args.length=vs.size)(hv:∀(i:Nat)(c:ag)(v:Value),args[i]?=some c->vs[i]?=some v->fY LX [] w c v) :
  Calls Tryz.prog f vs w fun e w'=>∃v j',e = .returned v/\w.grownBy w' none/\fY j' [] w' r v:=by
 refine((adq f args [] _ h).2 LX w vs (TZ w) (agT w) hl hv).mono ?_;intro e w' hce;obtain⟨v,rfl,j',_,hx,hr⟩:=hce.ret hp;exact⟨v,j',rfl,⟨hx.os,hx.tape,hx.output,hx.size,fun k hk _=>(hx.ur k hk fun i hi=>by cases hi).1⟩,hr⟩
def T2(s:Bytes)(hs:s.length<=100000)(ha:oD s)(w:World):Calls Tryz.prog 126 #[.string (bs s)] w fun e w'=>e = .returned (.bool (dE s))/\w.grownBy w' none:=by
 refine(Dn (afC s hs ha) rfl w #[.string (bs s)] rfl ?_).mono ?_
 ·intro i c v h1 h2
  match i with
  |0=>cases h1; cases h2; exact .plain (.str _)
  |i+1=>cases h1
 ·rintro e w' ⟨v,j',rfl,hg,hr⟩;rw[hr.jb];exact⟨rfl,hg⟩
set_option maxHeartbeats 1000000 in
set_option maxRecDepth 100000 in
def Qu(a:ByteArray)(c:Int)(w:World) :
  Calls Tryz.prog 241 #[.string a,.int .u8 c] w fun e w'=>e = .returned (.int .i64 (Lib.indexByte a.data.toList c.toNat.toUInt8))/\w'=w:=by
 go_enter func241,ntmps241
 go_wp2
 rw[run_callFunc_extern func262 (by kernel_rfl) (by kernel_rfl) (by kernel_rfl) (e:=Extern.BytealgIndexByte.indexByte) (by kernel_rfl),Lib.run_indexByteString]
 simp only[Result.andThen];rw[Oper.upon_value]
 go_wp2
 go_ret
 exact⟨rfl,rfl⟩
set_option maxHeartbeats 1000000 in
set_option maxRecDepth 100000 in
def Qt(a:ByteArray)(c:Int)(w:World) :
  Calls Tryz.prog 194 #[.string a,.int .u8 c] w fun e w'=>e = .returned (.int .i64 (Lib.indexByte a.data.toList c.toNat.toUInt8))/\w'=w:=by
 go_enter func194,ntmps194
 go_wp2_with (go_at_call 241; refine(Qu _ _ _).mono ?_; rintro e w' ⟨rfl,rfl⟩)
 go_ret
 exact⟨rfl,rfl⟩
section ev
attribute [local irreducible] fS fp kH gK dv kr aq aM cv bJ
def ra:Bytes->Bytes×Bool
 |b::r=>if b=47 then (r,true) else (b::r,false)
 | []=>([],false)
def NH:Bytes->Bool
 |b::_=>b==47
 | []=>false
def akI(s:Bytes):aq DA 261 [.str s,.str [47]] []=some (.bool (NH s),[]):=by
 refine aJ ?_;cases s with
 |nil =>
  have h0:decide (((1:Nat):Int)<=((0:Nat):Int))=false:=by decide
  simp only[HC,UJ,h0,EN,seval];simp only[NH,UJ,h0,EN,seval]
 |cons b r =>
  have h1:(1:Int)<=(r.length:Int)+1:=by omega
  simp only[HC,UJ,EN,seval];simp[NH,h1,jf,UJ,EN,seval]
  try (cases hb:(b==47)<;>simp_all)
def ahl s:=cP (akI s)
def akx(s:Bytes):aq DA 240 [.str s,.str [47]] []=some (.tuple [.str (ra s).1,.bool (ra s).2],[]):=by
 refine aJ ?_;simp only[LJ,UI,ahl,EN,seval];cases s with
 |nil=>simp only[NH,UI,ahl,EN,seval]; rfl
 |cons b r =>
  by_cases hb:b=47
  ·have h1:(1:Int)<=(r.length:Int)+1:=by omega
   have h2:(0:Int)<=(r.length:Int)+1:=by omega
   simp[NH,hb,UI,ra,jf,h1,h2,EN,seval]
  ·have hb':(b==47)=false:=by simpa using hb
   simp only[NH,hb',UI,EN,seval];simp[ra,hb]
def alC s:=cP (akx s)
def c193(s:Bytes):aq DA 193 [.str s,.str [47]] []=some (.tuple [.str (ra s).1,.bool (ra s).2],[]):=by
 refine aJ ?_;simp only[LG,aiR,alC,EN,seval]
end ev
def aav(s:Bytes)(w:World):Calls Tryz.prog 193 #[.string (bs s),.string ⟨#[47]⟩] w fun e w'=>e = .returned (.tuple #[.string (bs (ra s).1),.bool (ra s).2])/\w.grownBy w' none:=by
 refine(Dn (c193 s) rfl w #[.string (bs s),.string ⟨#[47]⟩] rfl ?_).mono ?_
 ·intro i c v h1 h2
  match i with
  |0=>cases h1; cases h2; exact .plain (.str _)
  |1=>cases h1; cases h2; exact .plain (.str [47])
  |i+2=>cases h1
 ·rintro e w' ⟨v,j',rfl,hg,hr⟩;obtain⟨vs,rfl,hl,hv⟩:=hr.tx;obtain⟨l⟩:=vs
  match l,hl with
  | [u1,u2],_ =>
   rw[(hv 0 _ u1 rfl rfl).jX,(hv 1 _ u2 rfl rfl).jb];exact⟨rfl,hg⟩
def DJ(s:Bytes):Nat:=if Lib.indexByte s 47<0 then s.length else (Lib.indexByte s 47).toNat
def rm(s:Bytes):Bytes×Bool:=((ra s).1.take (DJ (ra s).1),(ra s).2)
def qK(s:Bytes):Bytes:=(ra s).1.drop (DJ (ra s).1)
def sZ:Nat->Bytes->List (Bytes×Bool)
 |0,_=>[]
 |n+1,s=>match s with
  | []=>[]
  |b::r=>rm (b::r)::sZ n (qK (b::r))
def index_le(l:Bytes)(c:UInt8):Lib.indexByte l c<=l.length:=by
 induction l with
 |nil=>simp[Lib.indexByte]
 |cons b r ih =>
  simp only[Lib.indexByte];split
  ·simp; omega
  ·split
   ·simp; omega
   ·simp; omega
def PJ(s:Bytes):(ra s).1.length<=s.length:=by
 cases s with
 |nil=>simp[ra]
 |cons b r=>simp only[ra]; split<;>simp
def zy{s:Bytes}(h:s≠[]):(qK s).length<s.length:=by
 cases s with
 |nil=>exact absurd rfl h
 |cons b r =>
  unfold qK;rw[iU]
  by_cases hb:b=47
  ·have:ra (b::r)=(r,true):=by simp[ra,hb]
   rw[this]; simp; omega
  ·have e:ra (b::r)=(b::r,false):=by simp[ra,hb]
   rw[e]
   have:0<DJ (b::r):=by
    unfold DJ;have hb':(b==47)=false:=by simpa using hb
    have hg:=Lib.indexByte_ge r 47;split
    ·simp
    ·rename_i hn;simp only[Lib.indexByte,hb',af,aw] at hn ⊢;split
     ·rename_i he; simp[he] at hn
     ·rename_i he;have:Lib.indexByte r 47 ≠ -1:=by simpa using he
      omega
   simp only[av];omega
def Gw:∀(n m:Nat)(s:Bytes),s.length<=n->s.length<=m->sZ n s=sZ m s:=by
 intro n;induction n with
 |zero =>
  intro m s h _;have:s=[]:=by cases s with|nil=>rfl|cons b r=>simp at h
  subst this;cases m<;>rfl
 |succ n ih =>
  intro m s h h';cases s with
  |nil=>cases m<;>rfl
  |cons b r =>
   cases m with
   |zero=>simp at h'
   |succ m =>
    have:=zy (s:=b::r) (by simp)
    simp only[sZ];rw[ih m _ (by omega) (by omega)]
def ku(s:Bytes):List (Bytes×Bool):=sZ s.length s
def tb{s:Bytes}(h:s≠[]):ku s=rm s::ku (qK s):=by
 cases s with
 |nil=>exact absurd rfl h
 |cons b r =>
  have:=zy (s:=b::r) (by simp)
  unfold ku;rw[show(b::r).length=r.length+1 from rfl,sZ]
  rw[Gw r.length (qK (b::r)).length _ (by simp at this; omega) (by omega)]
def A7{s:Bytes}(h:oD s):oD (rm s).1:=trivial
def Cf{s:Bytes}(h:oD s):oD (qK s):=trivial
def Oo(s:Bytes):(rm s).1.length<=s.length:=by
 have:=PJ s;unfold rm;rw[gi];omega
abbrev PA:={ x:Bytes×Bool // oD x.1/\x.1.length<=100000 }
abbrev Vj(x:PA):Array Value := #[.string (bs x.1.1),.bool x.1.2]
def FX(b0:Nat)(w:World):Nat:=match w.cell? ⟨b0,0,none⟩ with
 |some (.string s)=>s.size
 |_=>0
section
attribute [local go_sem] Oper.semAt_some
set_option maxHeartbeats 1000000 in
def Oq(n:Nat)(s:Bytes)(w:World) :
  CallsIn Fence.wide n Tryz.prog 125 #[.string (bs s)] w fun e w'=>e = .returned (.func (.func 192) #[] #[.pointer (some ⟨w.heap.size,0,none⟩)])/\w'=w.alloc (.cells #[.string (bs s)] 9):=by
 refine callsIn_of_wp func125 rfl trivial ?_ rfl;simp only[ntmps125,cJ,av,aH,Nat.reduceAdd,Nat.reduceSub,jk,jl,kC,jF,aY,aX]
 gi_wp2
 go_ret
 exact⟨rfl,rfl⟩
def Lo(c:Bytes)(n:Nat):bs (c.drop n)=(bs c).extract n (bs c).size:=by
 rw[yj,show(bs c).size=c.length from rfl,cT]
def vw{b0:Nat}{w:World}{s:Bytes}(h:Boxed w b0 9 (.string (bs s))):FX b0 w=s.length:=by
 unfold FX;rw[h.cell];rfl
set_option maxRecDepth 100000 in
set_option maxHeartbeats 1000000 in
def VA(n:Nat)(hn:3<=n)(l b0 N:Nat)(s0:Bytes)(ha:oD s0)(hs:s0.length<=100000)(hN:(ku s0).length<=N)(J Jx:List PA->World->Prop)(W:World)(hJ:AbidesFrom W.heap.size J)(hJc:∀s A v,J s A->J s (A.setCell ⟨b0,0,none⟩ v))
  (hY:∀pre x W1,J pre W1->pre.length<N->YieldAt Fence.wide (n-1) Tryz.prog l (Vj x) W1 fun e W' =>
   (e = .returned (.bool true)/\J (pre++[x]) W'/\W'.heap[b0]?=W1.heap[b0]?)\/(e = .returned (.bool false)/\Jx (pre++[x]) W'))
  (hB:Boxed W b0 9 (.string (bs s0))) (h0:J [] W) :
  CallsIn Fence.wide n Tryz.prog 192 #[.func (.yield l) #[] #[],.pointer (some ⟨b0,0,none⟩)] W fun e W'=>(∃v,e = .returned v) /\
   ((∃xs:List PA,xs.map (·.1)=ku s0/\J xs W')\/(∃pre:List PA,pre.map (·.1) <+: ku s0/\Jx pre W')):=by
 refine callsIn_of_wp func192 rfl trivial ?_ rfl;simp only[ntmps192,cJ,av,aH,Nat.reduceAdd,Nat.reduceSub,jk,jl,kC,jF,aY,aX]
 gi_wp2
 gi_loopw [3] (fun _ wr=>∃(pre:List PA) (rest:Bytes),Boxed wr b0 9 (.string (bs rest))/\oD rest/\rest.length<=100000/\ku s0=pre.map (·.1)++ku rest/\J pre wr)
  (fun _ wr=>FX b0 wr)
 case atStart =>
  exact⟨[],s0,hB,ha,hs,rfl,h0⟩
 case round =>
  obtain⟨pre,rest,hb,hra,hrl,hp,hJs⟩:=hrel;have hf:=hb.frozen;cases rest with
  |nil =>
   have hc:wr.cell? ⟨b0,0,none⟩=some (.string ⟨#[]⟩):=hb.cell
   gi_wp2
   go_end0
   exact⟨⟨_,rfl⟩,.inl ⟨pre,by rw[hp]; simp[ku,sZ],hJs⟩⟩
  |cons x rest =>
   have hc:=hb.cell;have hne:(!(bs (x::rest)).toList.isEmpty)=true:=by simp[bs]
   gi_wp2
   refine⟨trivial,fun h=>(by cases h),(callsIn_wide.2 (aav _ _)).mono ?_⟩
   rintro e w1 ⟨rfl,hg⟩;have hb1:Boxed w1 b0 9 (.string (bs (x::rest))):=hb.kept hg (by simp)
   have hJ1:J pre w1:=hJ pre wr w1 none hJs hg (fun r e=>by cases e)
   have hbr:=hb;clear hb hc hf hJs;have hc1:=hb1.cell;have hf1:=hb1.frozen
   gi_wp2
   refine⟨trivial,fun h=>(by cases h),(callsIn_wide.2 (Qt _ _ _)).mono ?_⟩
   rintro e w2 ⟨rfl,rfl⟩
   have eY:pre.length<N:=by
    have:=congrArg List.length hp;rw[tb (s:=x::rest) (by simp)] at this
    simp at this;omega
   have hpl:=Oo (x::rest);have hrest:=zy (s:=x::rest) (by simp)
   obtain⟨fn,tmps,assign,body,hy,hR⟩:=hY pre ⟨rm (x::rest),A7 hra,by omega⟩ w2 hJ1 eY
   have hpn:ku s0=(pre++[⟨rm (x::rest),A7 hra,by omega⟩]:List PA).map (·.1)++ku (qK (x::rest)):=by
    rw[hp,tb (by simp)]; simp
   obtain⟨c,hc⟩:∃c,(ra (x::rest)).1=c:=⟨_,rfl⟩;have hix:=index_le c 47
   by_cases hi:Lib.indexByte c 47<0
   ·have he:rm (x::rest)=(c,(ra (x::rest)).2):=by simp[rm,hc,DJ,hi]
    have hre:qK (x::rest)=[]:=by simp[qK,hc,DJ,hi]
    simp only[Vj,he] at hy;rw[hc];have hi':Lib.indexByte (bs c).data.toList 47<0:=hi
    gi_wp2
    refine⟨fun h=>(by cases h),hR.mono ?_⟩
    rintro e W3 (⟨rfl,hJ3,hk3⟩|⟨rfl,hJx3⟩)
    ·have hb3:Boxed W3 b0 9 (.string (bs (x::rest))):=hk3.trans hb1;have hc3:=hb3.cell;have hf3:=hb3.frozen
     gi_wp2
     go_roundw
     case rel =>
      exact⟨_,qK (x::rest),(by rw[hre]; exact(hb3.set _)),Cf hra,by omega,hpn,hJc _ _ _ hJ3⟩
     case measure =>
      rw[vw (s:=qK (x::rest)) (by rw[hre]; exact(hb3.set _)),vw hbr]
      exact hrest
    ·gi_wp2
     refine bodyPost_ret (results_none rfl _ _ _) rfl ?_;exact⟨⟨_,rfl⟩,.inr ⟨_,⟨ku (qK (x::rest)),hpn.symm⟩,hJx3⟩⟩
   ·have hi0:0<=Lib.indexByte c 47:=by omega
    have he:rm (x::rest)=(c.take (Lib.indexByte c 47).toNat,(ra (x::rest)).2):=by simp[rm,hc,DJ,hi]
    have hre:qK (x::rest)=c.drop (Lib.indexByte c 47).toNat:=by simp[qK,hc,DJ,hi]
    simp only[Vj,he] at hy;rw[show bs (c.take (Lib.indexByte c 47).toNat)=(bs c).extract 0 (Lib.indexByte (bs c).data.toList 47).toNat by rw[yj]; rfl] at hy
    rw[hc];have hi':¬Lib.indexByte (bs c).data.toList 47<0:=hi;have hi2:Lib.indexByte (bs c).data.toList 47<=(bs c).size:=hix
    gi_wp2
    refine⟨fun h=>(by cases h),hR.mono ?_⟩
    rintro e W3 (⟨rfl,hJ3,hk3⟩|⟨rfl,hJx3⟩)
    ·have hb3:Boxed W3 b0 9 (.string (bs (x::rest))):=hk3.trans hb1;have hc3:=hb3.cell;have hf3:=hb3.frozen
     gi_wp2
     go_roundw
     case rel =>
      exact⟨_,qK (x::rest),(by rw[hre,Lo]; exact(hb3.set _)),Cf hra,by omega,hpn,hJc _ _ _ hJ3⟩
     case measure =>
      rw[vw (s:=qK (x::rest)) (by rw[hre,Lo]; exact(hb3.set _)),vw hbr]
      exact hrest
    ·gi_wp2
     refine bodyPost_ret (results_none rfl _ _ _) rfl ?_;exact⟨⟨_,rfl⟩,.inr ⟨_,⟨ku (qK (x::rest)),hpn.symm⟩,hJx3⟩⟩
def zP(x:Bytes×Bool)(n:Nat):Bool := !x.2 || !dE x.1||n==12
def nI:List (Bytes×Bool)->Nat->Option (List Bytes)
 | [],_=>some []
 |x::r,n=>if zP x n then none else (nI r (n+1)).map (x.1 :: ·)
def AQ:∀(a b:List (Bytes×Bool)) (n:Nat),nI (a++b) n=(nI a n).bind fun l=>(nI b (n+a.length)).map (l ++ ·):=by
 intro a;induction a with
 |nil=>intro b n; simp[nI]
 |cons x r ih =>
  intro b n;simp only[aX,nI];split
  ·rfl
  ·rw[ih,show n+1+r.length=n+(x::r).length by simp; omega]
   cases nI r (n+1) with
   |none=>rfl
   |some l=>simp; rfl
def bz(s:Bytes):List Bytes×Int:=if s=[47] then ([],0) else match nI (ku s) 0 with
 |none=>([],60)
 |some []=>([],60)
 |some l=>(l,0)
def LN(pre:List PA):Prop:=nI (pre.map (·.1)) 0=some (pre.map (·.1.1))/\pre.length<=12
def Kb{pre:List PA}{x:PA}(h:LN pre)(hb:zP x.1 pre.length=false):LN (pre++[x]):=by
 refine⟨?_,?_⟩
 ·rw[bC,AQ,h.1];simp[nI,hb]
 ·have:pre.length≠12:=by intro e; rw[e] at hb; simp[zP] at hb
  have:=h.2;simp; omega
def zQ{pre:List PA}{x:PA}(h:LN pre)(hb:zP x.1 pre.length=true):nI ((pre++[x]).map (·.1)) 0=none:=by
 rw[bC,AQ,h.1];simp[nI,hb]
def OA{a l:List (Bytes×Bool)}(h:a <+: l)(hn:nI a 0=none):nI l 0=none:=by
 obtain⟨b,rfl⟩:=h;rw[AQ,hn]; rfl
def agX:(Tryz.prog.info? 9).map (fun i=>(i.zero,i.size,i.bytes))=some (some (.string ⟨#[]⟩),1,16):=by kernel_rfl
abbrev F5(b:Bytes):Value := .string (bs b)
def appended{W w1:World}{n₀ B:Nat}{v v':Value}{k m:Nat}{xs ys:List Value}{tmp:Obj}
  (hv:Boxed W B 35 v) (hrow:W.ownsRow n₀ 9 1 v k xs) (hown':w1.ownsRow n₀ 9 1 v' m ys) (hgrow:(W.alloc tmp).grownBy w1 v.ownBlock) :
  Boxed w1 B 35 v/\Boxed (w1.setCell ⟨B,0,none⟩ v') B 35 v'/\(w1.setCell ⟨B,0,none⟩ v').ownsRow n₀ 9 1 v' m ys/\KeepsOthers W (w1.setCell ⟨B,0,none⟩ v') /\
  (w1.setCell ⟨B,0,none⟩ v').os=W.os/\(w1.setCell ⟨B,0,none⟩ v').tape=W.tape/\(w1.setCell ⟨B,0,none⟩ v').output=W.output/\W.heap.size<=(w1.setCell ⟨B,0,none⟩ v').heap.size /\
  ∀q,q<n₀->q<W.heap.size->q≠B->(w1.setCell ⟨B,0,none⟩ v').heap[q]?=W.heap[q]?:=by
 have hv1:Boxed w1 B 35 v:=(hv.alloc tmp).kept hgrow (hv.not_row (by decide) hrow)
 have hs:=grownBy_setCell' w1 B v';refine⟨hv1,hv1.set v',hown'.kept hs (.inr (hv1.not_row (by decide) hown').symm),?_,?_,?_,?_,?_,?_⟩
 ·refine((KeepsOthers.alloc W tmp).trans (KeepsOthers.of_grownBy hgrow fun j o ej hj=>?_)).trans (KeepsOthers.setCell _ _ _)
  rcases(hrow.alloc tmp).2 with ⟨rfl,_⟩|⟨g,cap,cur,rfl,_,hgb,_⟩
  ·simp[Value.ownBlock] at ej
  ·obtain rfl:g=j:=by simpa[Value.ownBlock] using ej
   rw[hgb] at hj; cases hj; rfl
 ·exact hs.os.trans hgrow.os
 ·exact hs.tape.trans hgrow.tape
 ·exact hs.output.trans hgrow.output
 ·have h1:=hgrow.size;have h2:=hs.size;simp at h1;omega
 ·intro q hq hqw hqB;have cu:q<(W.alloc tmp).heap.size:=by simp; omega
  rw[hs.block q (bq cu hgrow.size) (fun e=>hqB (by cases e; rfl)),hgrow.block q cu ?_]
  ·exact Below.heap_alloc _ _ _ hqw
  ·intro e;rcases hrow.2 with ⟨rfl,_⟩|⟨g,cap,cur,rfl,hb,_,_⟩
   ·simp[Value.ownBlock] at e
   ·obtain rfl:q=g:=by simpa[Value.ownBlock] using e
    omega
structure DH(w:World)(pre:List PA)(W:World):Prop where
 F7:LN pre
 r0:Boxed W w.heap.size 35 (.slice none 0 0)
 r1:Boxed W (w.heap.size+1) 34 (.int .i64 0)
 row:∃v,Boxed W (w.heap.size+2) 35 v/\W.ownsRow (w.heap.size+4) 9 1 v pre.length (pre.map fun x=>F5 x.1.1)
 below:Below w.heap.size w W
 sz:w.heap.size+4<=W.heap.size
structure FR(w:World)(c:Code)(pre:List PA)(W:World):Prop where
 ret:c = .ret
 bad:nI (pre.map (·.1)) 0=none
 r0:Boxed W w.heap.size 35 (.slice none 0 0)
 r1:Boxed W (w.heap.size+1) 34 (.int .i64 60)
 below:Below w.heap.size w W
def tE{W W':World}{row:Option Nat}{B k:Nat}{t:TypeId}{v:Value}(h:Boxed W B t v)(hg:W.grownBy W' row)(hr:∀r,row=some r->k<=r/\∃o:Obj,W.heap[r]?=some o/\o.isCells=false):Boxed W' B t v :=
 h.kept hg fun e=>by obtain⟨_,o,ho,hc⟩:=hr B e.symm; rw[show W.heap[B]?=_ from h] at ho; cases ho; cases hc
def DH.own{w:World}:OwnFrom (w.heap.size+4) (DH w):=fun s A B row hs hg hr=>by
 obtain⟨v,hv,hrow⟩:=hs.row;exact⟨hs.F7,tE hs.r0 hg hr,tE hs.r1 hg hr,⟨v,tE hv hg hr,((holdsRow_own (β:=Unit) (w.heap.size+4) (w.heap.size+2) 35 9 1 (fun _=>s.length) (fun _=>s.map fun x=>F5 x.1.1) (fun _ u=>u=v)) () A B row ⟨v,hv,hrow,rfl⟩ hg (fun r e=>(hr r e).2)).elim fun u hu=>hu.2.2▸hu.2.1⟩,ownFrom_below (β:=Unit) (ar _) (by omega) () A B row hs.below hg hr,bj hs.sz hg.size⟩
def FR.own{w:World}(c:Code):OwnFrom (w.heap.size+4) (FR w c):=fun s A B row hs hg hr =>
 ⟨hs.ret,hs.bad,tE hs.r0 hg hr,tE hs.r1 hg hr,ownFrom_below (β:=Unit) (ar _) (by omega) () A B row hs.below hg hr⟩
def DH.cell{w:World}(s:List PA)(A:World)(u:Value)(hs:DH w s A):DH w s (A.setCell ⟨w.heap.size+3,0,none⟩ u):=by
 obtain⟨v,hv,hrow⟩:=hs.row;have hg:=grownBy_setCell' A (w.heap.size+3) u;refine⟨hs.F7,hs.r0.other (by omega) _,hs.r1.other (by omega) _,⟨v,hv.other (by omega) _,hrow.kept hg ?_⟩,hs.below.setCell (p:=⟨w.heap.size+3,0,none⟩) (by simp) _,bj hs.sz hg.size⟩
 rcases hrow.2 with ⟨rfl,_⟩|⟨g,cap,cur,rfl,hb,_,_⟩
 ·exact .inl rfl
 ·refine .inr fun e=>?_
  have:g=w.heap.size+3:=by simpa[Value.ownBlock] using e
  omega
def FR.made{w W:World}{pre:List PA}(h0:Boxed W w.heap.size 35 (.slice none 0 0))(h1:Boxed W (w.heap.size+1) 34 (aG 0))(hb:Below w.heap.size w W)(hbad:nI (pre.map (·.1)) 0=none) :
  KeepsOthers W ((W.setCell ⟨w.heap.size,0,none⟩ (.slice none 0 0)).setCell ⟨w.heap.size+1,0,none⟩ (aG 60))/\FR w .ret pre ((W.setCell ⟨w.heap.size,0,none⟩ (.slice none 0 0)).setCell ⟨w.heap.size+1,0,none⟩ (aG 60)):=by
 refine⟨(KeepsOthers.setCell _ _ _).trans (KeepsOthers.setCell _ _ _),rfl,hbad,(h0.set _).other (by omega) _,?_,(hb.setCell (p:=⟨w.heap.size,0,none⟩) (ar _) _).setCell (p:=⟨w.heap.size+1,0,none⟩) (by simp) _⟩
 exact(h1.other (by omega) _).set _
def AK{W:World}{n₀ k:Nat}{v:Value}{xs:List Value}(h:W.ownsRow n₀ 9 1 v k xs):∃p cap,v = .slice p k cap:=by
 rcases h.2 with ⟨rfl,rfl⟩|⟨g,cap,cur,rfl,_⟩
 ·exact⟨_,_,rfl⟩
 ·exact⟨_,_,rfl⟩
def Xg{W:World}{n₀ n₁ k D:Nat}{v:Value}{xs:List Value}{x:Option (List Deferred)}{o:Obj}(h:W.ownsRow n₀ 9 1 v k xs)(hn:n₁<=n₀)(hD:W.heap[D]?=some (.deferred x)):(W.putObj D o).ownsRow n₁ 9 1 v k xs:=by
 refine⟨h.1,?_⟩;rcases h.2 with h0|⟨g,cap,cur,e,hb,hg,hr⟩
 ·exact .inl h0
 ·refine .inr ⟨g,cap,cur,e,by omega,?_,hr⟩
  exact(World.putObj_heap_other (fun e=>by subst e; rw[hD] at hg; cases hg)).trans hg
def IK{W:World}{n₀ k B:Nat}{v:Value}{xs:List Value}(h:W.ownsRow n₀ 9 1 v k xs)(hB:B<n₀)(u:Value):(W.setCell ⟨B,0,none⟩ u).ownsRow n₀ 9 1 v k xs:=by
 refine⟨h.1,?_⟩;rcases h.2 with h0|⟨g,cap,cur,e,hb,hg,hr⟩
 ·exact .inl h0
 ·exact .inr ⟨g,cap,cur,e,hb,(Below.heap_setCell _ _ _ _ (by show _≠B; omega)).trans hg,hr⟩
def tn{W:World}{B D:Nat}{t:TypeId}{v:Value}{x:Option (List Deferred)}{o:Obj}(h:Boxed W B t v)(hD:W.heap[D]?=some (.deferred x)):Boxed (W.putObj D o) B t v :=
 (World.putObj_heap_other (fun e=>by subst e; rw[show W.heap[B]?=_ from h] at hD; cases hD)).trans h
def zV{w W:World}{D:Nat}{o:Obj}(h:Below w.heap.size w W)(hD:w.heap.size<=D):Below w.heap.size w (W.putObj D o) :=
 ⟨h.os,h.tape,h.output,by simpa[World.putObj] using h.size,fun k hk=>(World.putObj_heap_other (by omega)).trans (h.block k hk)⟩
def xz{W:World}{B D:Nat}{o:Obj}{u:Value}(h:W.heap[D]?=some o)(hB:D≠B):(W.setCell ⟨B,0,none⟩ u).heap[D]?=some o:=(Below.heap_setCell _ _ _ _ (by show _≠B; omega)).trans h
def results63{W:World}{b:Nat}{v u:Value}{tmps:Array Value}(h2:tmps[2]?=some (.pointer (some ⟨b,0,none⟩)))(h3:tmps[3]?=some (.pointer (some ⟨b+1,0,none⟩)))(hv:Boxed W b 35 v)(hu:Boxed W (b+1) 34 u):(results f63 tmps).run Tryz.prog W = .ok (.tuple #[v,u]) W:=by
 have c0:=hv.cell;have c1:=hu.cell;simp[results,f63,go_sem,c0,c1,h2,h3]
def wN{F:Fence}{n:Nat}{P:Program}{fn:Func}{tmps:Array Value}{R:Ending->World->Prop}{D:Nat}{W W':World}{v:Value}(hD:(Instr.takeDeferred D).run P W = .ok [] W')(hv:(results fn tmps).run P W' = .ok v W')(hR:R (.returned v) W') :
  LeavesInM F n P fn tmps R [{ target := .collected D,args := #[] }] .returning W :=
 ⟨by simp,.inl ⟨D,W',rfl,hD,⟨v,hv,hR⟩⟩⟩
set_option maxRecDepth 100000 in
set_option maxHeartbeats 2000000 in
def Ug(n:Nat)(hn:6<=n)(s:Bytes)(ha:oD s)(hs:s.length<=100000)(w:World) :
  CallsIn Fence.wide n Tryz.prog 63 #[.string (bs s)] w fun e W'=>∃v,e = .returned (.tuple #[v,.int .i64 (bz s).2])/\W'.ownsRow w.heap.size 9 1 v (bz s).1.length ((bz s).1.map F5)/\Below w.heap.size w W':=by
 have h1:1<=n:=by omega
 obtain⟨i0,hi,hz0,hz1,hz2⟩:=info_parts agX;refine callsIn_of_wp_marks func63 rfl trivial ?_ rfl;simp only[ntmps63,cJ,av,aH,Nat.reduceAdd,Nat.reduceSub,jk,jl,kC,jF,aY,aX];have b0:=Boxed.new w 35 (.slice none 0 0);have b1:=Boxed.new (w.alloc (.cells #[.slice none 0 0] 35)) 34 (.int .i64 0);have b2:=Boxed.new ((w.alloc (.cells #[.slice none 0 0] 35)).alloc (.cells #[.int .i64 0] 34)) 35 (.slice none 0 0);have b3:=Boxed.new (((w.alloc (.cells #[.slice none 0 0] 35)).alloc (.cells #[.int .i64 0] 34)).alloc (.cells #[.slice none 0 0] 35)) 9 (.string (bs s));simp only[World.size_alloc] at b1 b2 b3;have hB2:Below w.heap.size w ((w.alloc (.cells #[.slice none 0 0] 35)).alloc (.cells #[.int .i64 0] 34)):=((Below.refl _ w).alloc (ar _) _).alloc (by simp) _
 have hB4:=(hB2.alloc (by simp; omega) (.cells #[.slice none 0 0] 35)).alloc (by simp; omega) (.cells #[.string (bs s)] 9)
 by_cases hs47:s=[47]
 ·subst hs47;have ht:((bs [47]).toList==[47])=true:=by rw[uK]; rfl
  gi_wp2
  have c0:=(b0.alloc (.cells #[.int .i64 0] 34)).cell;have c1:=b1.cell;refine⟨.tuple #[.slice none 0 0,.int .i64 0],?_,_,rfl,World.ownsRow_nil _ _ _ _,hB2⟩;simp[results,f63,go_sem,c0,c1]
 have ht:((bs s).toList==[47])=false:=by rw[uK]; simpa using hs47
 gi_wp2
 refine⟨trivial,(Oq _ s _).mono ?_⟩;rintro e w' ⟨rfl,rfl⟩
 gi_wp2
 obtain⟨W4,hW4⟩:∃W4,(((w.alloc (.cells #[.slice none 0 0] 35)).alloc (.cells #[.int .i64 0] 34)).alloc (.cells #[.slice none 0 0] 35)).alloc (.cells #[.string (bs s)] 9)=W4:=⟨_,rfl⟩;have hsz:W4.heap.size=w.heap.size+4:=by rw[<-hW4]; simp
 have e0:Boxed W4 w.heap.size 35 (.slice none 0 0):=by rw[<-hW4]; exact((b0.alloc _).alloc _).alloc _
 have e1:Boxed W4 (w.heap.size+1) 34 (.int .i64 0):=by rw[<-hW4]; exact(b1.alloc _).alloc _
 have e2:Boxed W4 (w.heap.size+2) 35 (.slice none 0 0):=by rw[<-hW4]; exact b2.alloc _
 rw[hW4] at b3 hB4 ⊢
 have hseq:DS (w.heap.size+3) Fence.wide (n-1) Tryz.prog 192 #[.pointer (some ⟨w.heap.size+3,0,none⟩)] Vj (fun A B=>B.heap[w.heap.size+3]?=A.heap[w.heap.size+3]?) (fun xs=>xs.map (·.1)=ku s) (fun pre=>pre.map (·.1) <+: ku s) (ku s).length W4 :=
  fun l J Jx W hW hJ hJx hJc hY h0=>VA (n-1) (by omega) l _ _ s ha hs (ar _) J Jx W hJ hJc hY ((hW.block _ (by omega)).trans b3) h0
 refine xU (b0:=w.heap.size+3) (by omega) rfl h1 (gf:=192) (lb := #[.pointer (some ⟨w.heap.size+3,0,none⟩)]) rfl trivial (enters_of func192 (by kernel_rfl) rfl) hseq
  (fun h k=>k.trans h) (fun W l o o' hl _ _ _=>World.putObj_heap_other (by omega)) (Below.refl _ _) (fun _=>rfl)
  (DH w) (FR w) (by rw[hsz]; exact DH.own) (fun c=>by rw[hsz]; exact FR.own c) DH.cell
  ⟨⟨rfl,by simp⟩,e0,e1,⟨_,e2,World.ownsRow_nil _ _ _ _⟩,hB4,by omega⟩
  (fun x=>{ tmps := #[.string (bs s),undef,.pointer (some ⟨w.heap.size,0,none⟩),.pointer (some ⟨w.heap.size+1,0,none⟩),.pointer (some ⟨w.heap.size+1+1,0,none⟩),.string (bs x.1.1),.bool x.1.2,.string (bs s),.bool false,.string (bs s),.func (.func 192) #[] #[.pointer (some ⟨w.heap.size+1+1+1,0,none⟩)],.string (bs x.1.1),.bool x.1.2,
   undef,undef,undef,undef,undef,undef,undef,undef,undef,undef,undef,undef,undef,undef,undef,undef,undef,undef,undef,undef],defers:=[] }) ?assign ?body ?done ?stop
 case assign =>
  intro l x W K hK
  gi_wp2
  exact hK
 case body =>
  rintro l pre ⟨⟨nm,ok⟩,hxa,hxl⟩ W hInv cu;obtain⟨v,hv,hrow⟩:=hInv.row;have hc0:=hInv.r0.cell;have hf0:=hInv.r0.frozen;have hc1:=hInv.r1.cell;have hf1:=hInv.r1.frozen;cases ok with
  |false =>
   gi_wp2
   refine⟨trivial,?_⟩
   gi_wp2
   exact FR.made hInv.r0 hInv.r1 hInv.below (zQ hInv.F7 (by simp[zP]))
  |true =>
   gi_wp2
   refine⟨trivial,fun h=>(by cases h),(CallsIn.inRound l (callsIn_wide.2 (T2 nm hxl hxa W))).mono ?_⟩
   rintro e W5 ⟨rfl,hg5⟩;have hInv5:DH w pre W5:=DH.own pre W W5 none hInv hg5 (fun r e=>by cases e)
   have hK5:KeepsOthers W W5:=KeepsOthers.of_grownBy hg5 (fun j o e=>by cases e)
   clear hc0 hf0 hc1 hf1 hrow hv v;obtain⟨v,hv,hrow⟩:=hInv5.row;have hc0:=hInv5.r0.cell;have hf0:=hInv5.r0.frozen;have hc1:=hInv5.r1.cell;have hf1:=hInv5.r1.frozen;have hc2:W5.cell? ⟨w.heap.size+1+1,0,none⟩=some v:=hv.cell;have hf2:W5.frozen? ⟨w.heap.size+1+1,0,none⟩=false:=hv.frozen;cases hnm:dE nm with
   |false =>
    gi_wp2
    have:=FR.made hInv5.r0 hInv5.r1 hInv5.below (zQ (x:=⟨(nm,true),hxa,hxl⟩) hInv5.F7 (by simp[zP,hnm]))
    exact⟨hK5.trans this.1,this.2⟩
   |true =>
    obtain⟨p,cap,rfl⟩:=AK hrow
    by_cases hl:pre.length=12
    ·have hl':((pre.length:Int)==12)=true:=by simp[hl]
     gi_wp2
     have:=FR.made hInv5.r0 hInv5.r1 hInv5.below (zQ (x:=⟨(nm,true),hxa,hxl⟩) hInv5.F7 (by simp[zP,hnm,hl]))
     exact⟨hK5.trans this.1,this.2⟩
    ·have hl':((pre.length:Int)==12)=false:=by simp; omega
     gi_wp2_with (gi_at_builtin; generalize hX:wpListIn _ _ _ _ _ _ _ _=X)
     subst hX;refine wpListIn_append_own _ rfl _ _ 35 rfl (w.heap.size+4) 9 i0 (.string ⟨#[]⟩) 1 16 underlying35 hi hz0 hz1 hz2 rfl (by decide) _ _ _ rfl (hrow.alloc _) ⟨W5.heap.size,0,none⟩ 1 1 [F5 nm] rfl rfl (cell_one_new _ _ _) (by simp[Value.oneCell']) (by have:=hInv5.F7.2; simp[maxLen]; omega) (by have:=hInv5.F7.2; omega) (by have:=hv.lt; simp; omega) ?_
     intro v' w1 hown' hgrow hiff;obtain⟨q0,q1,q2,q3,q4,q5,q6,q7,q8⟩:=appended hv hrow hown' hgrow;have hc2':w1.cell? ⟨w.heap.size+1+1,0,none⟩=some (.slice p pre.length cap):=q0.cell;have hf2':w1.frozen? ⟨w.heap.size+1+1,0,none⟩=false:=q0.frozen;obtain⟨p',cap',rfl⟩:=AK hown'
     gi_wp2
     refine⟨hK5.trans q3,(q8 _ (by omega) (by have:=hInv5.sz; omega) (by omega)).trans (hg5.block _ (by have:=hInv.sz; omega) (by simp)),?_⟩
     refine⟨Kb hInv5.F7 (by simp[zP,hnm,hl]),(q8 _ (by omega) hInv5.r0.lt (by omega)).trans hInv5.r0,(q8 _ (by omega) hInv5.r1.lt (by omega)).trans hInv5.r1,⟨_,q1,by simpa using q2⟩,?_,bj hInv5.sz q7⟩
     exact hInv5.below.trans ⟨q4,q5,q6,q7,fun q hq=>q8 q (by omega) (by have:=hInv5.below.size; omega) (by omega)⟩
 case done =>
  rintro D ys W hD hys hInv hK;obtain⟨v,hv,hrow⟩:=hInv.row;have hc0:=hInv.r0.cell;have hf0:=hInv.r0.frozen;have hc1:=hInv.r1.cell;have hf1:=hInv.r1.frozen;have hc2:W.cell? ⟨w.heap.size+1+1,0,none⟩=some v:=hv.cell;have hf2:W.frozen? ⟨w.heap.size+1+1,0,none⟩=false:=hv.frozen;obtain⟨p,cap,rfl⟩:=AK hrow
  by_cases hl:ys.length=0
  ·have hl':((ys.length:Int)==0)=true:=by simp[hl]
   have hy:ys=[]:=ct.1 hl
   have hsp:bz s=([],60):=by
    rw[hy] at hys;simp[bz,hs47,<-hys,nI]
   gi_wp2
   have hm:=xz (u := .int .i64 60) (xz (u := .slice none 0 0) hK (B:=w.heap.size) (by omega)) (B:=w.heap.size+1) (by omega)
   have k0:Boxed ((W.setCell ⟨w.heap.size,0,none⟩ (.slice none 0 0)).setCell ⟨w.heap.size+1,0,none⟩ (.int .i64 60)) w.heap.size 35 (.slice none 0 0):=(hInv.r0.set _).other (by omega) _
   have k1:Boxed ((W.setCell ⟨w.heap.size,0,none⟩ (.slice none 0 0)).setCell ⟨w.heap.size+1,0,none⟩ (.int .i64 60)) (w.heap.size+1) 34 (.int .i64 60):=(hInv.r1.other (by omega) _).set _
   refine wN (run_takeDeferred hm) (results63 rfl rfl (tn k0 hm) (tn k1 hm)) ⟨_,rfl,World.ownsRow_nil _ _ _ _,zV ((hInv.below.setCell (p:=⟨w.heap.size,0,none⟩) (ar _) _).setCell (p:=⟨w.heap.size+1,0,none⟩) (by simp) _) (by omega)⟩
  ·have hl':((ys.length:Int)==0)=false:=by rw[bM]; omega
   have hsp:bz s=(ys.map (·.1.1),0):=by
    have h0:=hInv.F7.1;rw[hys] at h0;cases ys with
    |nil=>simp at hl
    |cons y ys=>simp[bz,hs47,h0]
   gi_wp2
   have hm:=xz (u := .int .i64 0) (xz (u := .slice p ys.length cap) hK (B:=w.heap.size) (by omega)) (B:=w.heap.size+1) (by omega)
   have k0:Boxed ((W.setCell ⟨w.heap.size,0,none⟩ (.slice p ys.length cap)).setCell ⟨w.heap.size+1,0,none⟩ (.int .i64 0)) w.heap.size 35 (.slice p ys.length cap):=(hInv.r0.set _).other (by omega) _
   have k1:Boxed ((W.setCell ⟨w.heap.size,0,none⟩ (.slice p ys.length cap)).setCell ⟨w.heap.size+1,0,none⟩ (.int .i64 0)) (w.heap.size+1) 34 (.int .i64 0):=(hInv.r1.other (by omega) _).set _
   refine wN (run_takeDeferred hm) (results63 rfl rfl (tn k0 hm) (tn k1 hm)) ⟨_,rfl,?_,zV ((hInv.below.setCell (p:=⟨w.heap.size,0,none⟩) (ar _) _).setCell (p:=⟨w.heap.size+1,0,none⟩) (by simp) _) (by omega)⟩
   have:=Xg (IK (IK hrow (by omega:w.heap.size<_) (.slice p ys.length cap)) (by omega:w.heap.size+1<_) (.int .i64 0)) (by omega:w.heap.size<=_) hm (o := .deferred none)
   simpa[Function.comp_def] using this
 case stop =>
  rintro D c pre W hD hpre hOut hK;obtain rfl:=hOut.ret;have hsp:bz s=([],60):=by simp[bz,hs47,OA hpre hOut.bad]
  gi_wp2
  refine wN (run_takeDeferred hK) (results63 rfl rfl (tn hOut.r0 hK) (tn hOut.r1 hK)) ⟨_,rfl,World.ownsRow_nil _ _ _ _,zV hOut.below (by omega)⟩
def Xk(s:Bytes)(ha:oD s)(hs:s.length<=100000)(w:World) :
  Calls Tryz.prog 63 #[.string (bs s)] w fun e W'=>∃v,e = .returned (.tuple #[v,.int .i64 (bz s).2])/\W'.ownsRow w.heap.size 9 1 v (bz s).1.length ((bz s).1.map F5)/\Below w.heap.size w W' :=
 callsIn_wide.1 (Ug 6 (by omega) s ha hs w)
end
end
instance (s:Bytes):Decidable (oD s):=inferInstanceAs (Decidable True)
def Dj:List ag->aL->Option (ag×aL)
 | [.str s],M=>if oD s/\s.length<=100000 then some (.tuple [.slice .sh ((bz s).1.map .str),.int .i64 (bz s).2],M) else none
 |_,_=>none
def Uh{args:List ag}{M:aL}{x:ag×aL}(h:Dj args M=some x):eP Tryz.prog 63 args M x:=by
 unfold Dj at h;split at h
 ·rename_i s;split at h
  ·rename_i hs;cases h;refine nr.call ?_;intro j w vs hr hG hl hv;obtain⟨u,rfl⟩:=BT hl;have h1:=(hv 0 _ u rfl rfl).jX;subst h1;refine(Xk s hs.1 hs.2 w).mono ?_;rintro e w' ⟨v,rfl,⟨eY,hown⟩,hb⟩;refine⟨_,j,rfl,hr.grow hb.size hb.os hb.tape hb.output hb.block,Ext.grow hb.size hb.os hb.tape hb.output hb.block,.tuple rfl ?_⟩;intro i c v' hi hv'
   match i with
   |0 =>
    cases hi; cases hv';refine .plain ?_;rcases hown with ⟨rfl,h0⟩|⟨g,cap,cur,rfl,hg,hg',hn1,_,hcs,htk⟩
    ·rw[ct.1 h0];exact fI.nil _ _ _
    ·refine .slice _ _ _ _ g 0 1 (fun k=>F5 ((bz s).1.getD k [])) (by simp) (by simpa using hn1) (fun _=>rfl) ?_ ?_ ?_
     ·intro x hx;obtain⟨b,_,rfl⟩:=bS.1 hx;rfl
     ·intro i x k c hx hc;rw[aZ] at hx;obtain⟨b,hb',rfl⟩:=aO.1 hx
      match k with
      |0 =>
       have hi:i<(bz s).1.length:=(aC.1 hb').1;refine⟨?_,?_,?_,?_⟩
       ·have h1:cur.toList[i]?=some (F5 b):=by
         have:(cur.toList.take ((bz s).1.length*1))[i]?=some (F5 b):=by rw[htk,aZ,hb']; rfl
         rwa[bF (by omega)] at this
        have h2:cur[i]?=some (F5 b):=by simpa using h1
        have h3:(bz s).1.getD i []=b:=by simp[List.getD,hb']
        simp only[Nat.mul_one,cV,aQ];rw[h3];simp[World.cell?,hg',h2]
       ·exact lt_of_block hg'
       ·intro id hid hji;have:=hr.lt id g hid hji; omega
       ·intro hx; have:=hr.zK g _ hx; omega
      |k+1=>cases hc
     ·intro i x k c hx hc;rw[aZ] at hx;obtain⟨b,hb',rfl⟩:=aO.1 hx
      match k with
      |0 =>
       cases hc;have h3:(bz s).1.getD i []=b:=by simp[List.getD,hb']
       simp only[Nat.mul_one,cV];rw[h3];exact .str _
      |k+1=>cases hc
   |1=>cases hi; cases hv'; exact .plain (.int _ _)
   |i+2=>cases hi
  ·cases h
 ·cases h
section
attribute [local irreducible] fS fp kH gK dv kr aq aM cv bJ
def iq:∀a:Bytes,strLt a a=false
 | []=>rfl
 |a::x=>by simp[strLt,iq x,oq]
def qO:∀ {a b c:Bytes},strLt a b=true->strLt b c=true->strLt a c=true
 | [],b,[],_,h2=>by cases b<;>simp[strLt] at h2
 | [],_,_::_,_,_=>rfl
 |_::_,[],_,h1,_=>by simp[strLt] at h1
 |_::_,_::_,[],_,h2=>by simp[strLt] at h2
 |a::x,b::y,c::z,h1,h2=>by
  simp only[strLt,cN,bn,bu,dR] at h1 h2 ⊢;simp only[km] at h1 h2 ⊢;rcases h1 with h1|⟨h1,h1'⟩
  ·rcases h2 with h2|⟨h2,_⟩
   ·left; omega
   ·left; rw[<-h2]; exact h1
  ·rcases h2 with h2|⟨h2,h2'⟩
   ·left; rw[h1]; exact h2
   ·right; exact⟨h1.trans h2,qO h1' h2'⟩
def sa{l:List eD}(h:oX l)(s:Bytes):Jq l s (ly l s):=by
 unfold ly;induction l with
 |nil=>exact⟨by simp,fun h n hn=>by simp at hn⟩
 |cons a r ih =>
  obtain⟨h1,h2⟩:=bG.1 h;obtain⟨i1,i2⟩:=ih h2
  by_cases ha:strLt a.name s=true
  ·rw[fh,az ha];refine⟨by simpa using i1,fun k n hn=>?_⟩
   cases k with
   |zero=>simp at hn; subst hn; simp[ha]
   |succ k=>rw[i2 k n (by simpa using hn)]; simp
  ·rw[fh,ak ha];refine⟨by simp,fun k n hn=>?_⟩
   simp only[aH,kb,mh];cases k with
   |zero=>simp at hn; subst hn; exact ha
   |succ k=>exact fun hc=>ha (qO (h1 n (aR (by simpa using hn))) hc)
def eB{l:List eD}{s:Bytes}{e:eD}(h:eb l s=some e):e∈l/\e.name=s:=by
 unfold eb at h;exact⟨List.mem_of_find?_eq_some h,by simpa using List.find?_some h⟩
def wy{l:List eD}(h:oX l)(s:Bytes):(Bk l s (ly l s)=true/\∃n,l[ly l s]?=some n/\eb l s=some n/\n.name=s)\/(Bk l s (ly l s)=false/\eb l s=none):=by
 obtain⟨l1,l2⟩:=sa h s;cases hf:eb l s with
 |some n =>
  left;obtain⟨hm,he⟩:=eB hf;obtain⟨k,hk⟩:=bO hm;have hkb:¬k<ly l s:=fun hc=>by have:=(l2 k n hk).2 hc; rw[he,iq] at this; cases this
  have hb:ly l s<l.length:=by have:=(aC.1 hk).1; omega
  have hx:=aj hb;have hnl:¬strLt l[ly l s].name s=true:=fun hc=>iP _ ((l2 _ _ hx).1 hc)
  have hke:k=ly l s:=by
   rcases bH (ly l s) k with cu|hge
   ·have hkl:=(aC.1 hk).1;have h3:=bU.1 h _ _ hb hkl cu;have h4:l[k]=n:=by rw[aj hkl] at hk; injection hk
    rw[h4,he] at h3;exact absurd h3 hnl
   ·omega
  subst hke;exact⟨by unfold Bk; rw[hk]; simp[he],n,hk,rfl,he⟩
 |none =>
  right;refine⟨?_,rfl⟩;unfold Bk;split
  ·rename_i n hn;have:=eG.1 hf n (aR hn);simpa using this
  ·rfl
structure wm(t:Tree):Prop where
 jx:nM t.ae
 aN:∀n,n∈t.ae->oX n.aN
def wm.dir{t:Tree}(h:wm t)(au:Int):oX (gA t.ae au).1.aN:=by
 unfold gA;split
 ·exact List.Pairwise.nil
 ·rename_i n hn;split
  ·exact h.aN n (cj hn).1
  ·exact List.Pairwise.nil
def aj8(t:Tree)(au:Int)(s:Bytes)(ht:Small t)(hr:wm t)(hs:s.length<=100000)(ha:oD s):aq c9 175 [bK t,aG au,.str s] []=some (.tuple [aG (dV t.ae au s).1,aG (dV t.ae au s).2],[]):=by
 obtain⟨ae,next,ai⟩:=t
 have hn:ae.length<=100000:=ht.ae;have hd:(gA ae au).1.aN.length<=100000:=tq ht au;have hE:oX (gA ae au).1.aN:=hr.dir au;have hk:=fun b M=>VJ ae next ai au hr.jx hn 1 (b :: cm [a8 ae,aG next,aG ai]::M) rfl
 refine aJ ?_;simp only[Yz,Jj,bK,bd,hk,cn,aV,EN,seval];unfold dV;refine bL (fun hb=>?_) (fun hb=>?_)
 ·simp only[Jj,EN,seval];clear hk;simp_all
 ·simp only[Jj,VE,hs,ha,EN,seval];refine bL (fun hb'=>?_) (fun hb'=>?_)
  ·simp only[Jj,EN,seval];clear hk;simp_all
  ·have hk2:=fun a b c d u M=>QG a b c d (gA ae au).1.aN u s _ (sa hE s) hd M
   simp only[Jj,hk2,EN,seval];rcases wy hE s with ⟨h1,e,h2,h3,_⟩|⟨h1,h2⟩
   ·simp only[Jj,h1,h2,ew,EN,seval];clear hk hk2;simp_all
   ·simp only[Jj,h1,EN,seval];clear hk hk2;simp_all
def VH(ae:List Node)(next ai au:Int)(s:Bytes)(ht:Small ⟨ae,next,ai⟩)(hr:wm ⟨ae,next,ai⟩)(hs:s.length<=100000)(ha:oD s)(M:aL):aM (aq c9) 175 [.agg [a8 ae,aG next,aG ai],aG au,.str s] M =
  some (.tuple [aG (dV ae au s).1,aG (dV ae au s).2],M):=cO (aj8 ⟨ae,next,ai⟩ au s ht hr hs ha) M
def ajt(t:Tree)(au:Int)(ht:Small t)(hr:wm t):aq c9 106 [bK t,aG au] []=some (.tuple [cn (bE t.ae au),.bool (find t.ae au).isSome],[]):=by
 obtain⟨ae,next,ai⟩:=t
 have hn:ae.length<=100000:=ht.ae;have hk:=fun b c M=>Gb ae next ai au hr.jx hn 2 (b::c :: cm [a8 ae,aG next,aG ai]::M) rfl
 refine aJ ?_;simp only[XX,aix,bK,bd,hk,cn,aV,EN,seval]
abbrev mr(n:Int):ag := .int .i64 n
def zF(l:List Int):wid (l.map mr) 1=True:=by
 simp only[fi,jQ];intro x hx;obtain⟨n,_,rfl⟩:=bS.1 hx;rfl
def rB(ae:List Node):Nat->Int->List Int->List Int
 |0,_,out=>out
 |m+1,au,out=>if au != 1 then (if !(find ae au).isSome||(bE ae au).kind != 2 then out else rB ae m (bE ae au).up (out++[(bE ae au).up])) else out
def rX(ae:List Node)(au:Int):List Int:=rB ae ae.length au [au]
def Wy{ae:List Node}{next ai:Int}(h:nM ae)(hn:ae.length<=100000){k:List K}{R:List Int->Option (ag×aL)}
  (hx:∀(out:List Int) v q,kr (aq c9) [.tmp 4] 1 k ⟨.exit 0,[(0,cL 0),(1,v),(5,.slice (.own 1) (out.map mr)),(22,q)],[cm [a8 ae,aG next,aG ai],.tick 1 out.length]⟩=R out)
  (hr:∀(out:List Int) b,kr (aq c9) [.tmp 4] 1 k ⟨.ret,[(4,.slice (.own 1) (out.map mr))],[cm [a8 ae,aG next,aG ai],.tick 1 out.length,b]⟩=R out) :
  ∀(m:Nat)(au:Int)(out:List Int),out.length+m=ae.length+1->fS (aq c9) [.tmp 4] 1 k (.loop [0,1,5] V9) [(0,cL 0),(1,aG au),(5,.slice (.own 1) (out.map mr))] [cm [a8 ae,aG next,aG ai],.tick 1 out.length]=R (rB ae m au out):=by
 intro m;induction m with
 |zero =>
  intro au out ho;rw[bZ];have hd':((out.length:Int)<=(ae.length:Int))=False:=by simp; omega
  simp only[BB,EN,seval]
  repeat' ((first|apply bL|apply cK|apply eZ)<;>intro hb<;>simp only[hb,EN,BB,hd',seval])
  all_goals exact hx _ _ _
 |succ m ih =>
  intro au out ho;rw[bZ];have hd':((out.length:Int)<=(ae.length:Int))=True:=by simp; omega
  have r1:dQ (out.length+1) 8=True:=xR;have hk:=fun M=>Gb ae next ai au h hn 0 (cm [a8 ae,aG next,aG ai]::M) rfl
  have hi:=ih (bE ae au).up (out++[(bE ae au).up]) (by simp; omega)
  simp only[bC,aW,bp,aK,av,aH,aQ] at hi;rw[rB];simp only[BB,EN,seval];refine cK (fun hb=>?_) (fun hb=>?_)
  ·simp only[BB,hb,hd',hk,cn,aV,EN,seval];refine cK (fun hb1=>?_) (fun hb1=>?_)
   ·simp only[BB,hb1,EN,seval];refine bL (fun hb2=>?_) (fun hb2=>?_)
    ·simp only[BB,hb2,hb1,dJ,dg,EN,seval];exact hr _ _
    ·simp only[BB,hb2,hb1,r1,zF,gq,af,EN,seval];exact hi
   ·simp only[BB,hb1,dK,EN,seval];exact hr _ _
  ·simp only[BB,hb,af,EN,seval];exact hx _ _ _
def akh(ae:List Node)(next ai au:Int)(h:nM ae)(hn:ae.length<=100000):aq c9 202 [cL 0,aG au] [cm [a8 ae,aG next,aG ai]] =
  some (kJ ((rX ae au).map mr),[cm [a8 ae,aG next,aG ai]]):=by
 refine aJ ?_;simp only[Qh,BB,EN,seval];exact Wy (R:=fun out=>some (kJ (out.map mr),[cm [a8 ae,aG next,aG ai]])) h hn (fun out v q=>by simp only[BB,EN,seval]) (fun out b=>by simp only[BB,EN,seval]) ae.length au [au] (by simp; omega)
def VI ae next ai au h hn p M hM:=cM (p:=p) (M:=M) hM (akh ae next ai au h hn)
def xI(ae:List Node):∀(m:Nat)(au:Int)(out:List Int),out.length<=(rB ae m au out).length/\(rB ae m au out).length<=out.length+m
 |0,_,out=>⟨ar _,ar _⟩
 |m+1,au,out=>by
  rw[rB];split
  ·split
   ·exact⟨ar _,by omega⟩
   ·have:=xI ae m (bE ae au).up (out++[(bE ae au).up]);simp at this;omega
  ·exact⟨ar _,by omega⟩
def sv(ae:List Node)(au:Int):1<=(rX ae au).length/\(rX ae au).length<=ae.length+1:=by
 have:=xI ae ae.length au [au];simp at this;unfold rX;omega
def akz(ae:List Node)(next ai au:Int)(h:nM ae)(hn:ae.length<=100000):aq c9 248 [cL 0,aG au] [cm [a8 ae,aG next,aG ai]] =
  some (aG (((rX ae au).length-1:Nat):Int),[cm [a8 ae,aG next,aG ai]]):=by
 refine aJ ?_;have hk:=fun M=>VI ae next ai au h hn 0 (cm [a8 ae,aG next,aG ai]::M) rfl
 have hl:=sv ae au;have hw:IntKind.i64.wrap (((rX ae au).length:Int)-1)=(((rX ae au).length-1:Nat):Int):=by rw[gD (by omega) (by omega)]; omega
 simp only[YV,ai1,hk,hw,EN,seval]
def ahi ae next ai au h hn p M hM:=cM (p:=p) (M:=M) hM (akz ae next ai au h hn)
def A5(n:Node)(rest:List Node):∀(pre out:List Node),(∀m,m∈pre->m.au<n.au)->oa n (pre++rest) out false=oa n rest (out++pre) false
 | [],out,_=>by simp
 |m::r,out,h=>by
  have hm:=h m (aD ..);have h1:¬n.au<=m.au:=by omega
  have h2:¬m.au=n.au:=by omega
  rw[aX,oa];simp only[ge_iff_le,h1,h2,decide_false,dL,gq,af,aw];rw[A5 n rest r _ fun x hx=>h x (aP _ hx)]
  simp
def yP(n:Node):∀(rest out:List Node),(∀m,m∈rest->n.au<m.au)->oa n rest out true=(out++rest,true)
 | [],out,_=>by simp[oa]
 |m::r,out,h=>by
  have hm:=h m (aD ..);have h2:¬m.au=n.au:=by omega
  rw[oa];simp only[cX,cf,h2,dK,af,aw];rw[yP n r _ fun x hx=>h x (aP _ hx)]
  simp
def vm{ae:List Node}{au:Int}{b:Nat}(h:Pe ae au b):∀m,m∈ae.take b->m.au<au:=fun m hm=>by
 obtain⟨k,hk⟩:=bO hm;rw[gI] at hk;split at hk
 ·rename_i cu; exact(h.lt k m hk).2 cu
 ·cases hk
def D7{ae:List Node}{au:Int}{b:Nat}(h:Pe ae au b):∀m,m∈ae.drop b->au<=m.au:=fun m hm=>by
 obtain⟨k,hk⟩:=bO hm;rw[cI] at hk;have:=h.lt _ m hk;have hn:¬b+k<b:=by omega
 have:=fun hc=>hn (this.1 hc)
 omega
def xK{ae:List Node}(h:nM ae){n:Node}(hf:find ae n.au=none):eM ae n=ae.take (k8 ae n.au)++n::ae.drop (k8 ae n.au):=by
 have hl:=uo h n.au
 have hd:∀m,m∈ae.drop (k8 ae n.au)->n.au<m.au:=fun m hm=>by
  have h1:=D7 hl m hm;have h2:=eG.1 hf m (dy hm);have:¬m.au=n.au:=by simpa using h2
  omega
 unfold eM;rw[show oa n ae [] false=oa n (ae.take (k8 ae n.au)++ae.drop (k8 ae n.au)) [] false by rw[cF]]
 rw[A5 n _ _ _ (vm hl)];generalize ae.drop (k8 ae n.au)=rest at hd;cases rest with
 |nil=>simp[oa]
 |cons m r =>
  have hm:=hd m (aD ..);have h1:n.au<=m.au:=by omega
  have h2:¬m.au=n.au:=by omega
  rw[oa];simp only[ge_iff_le,h1,h2,nA,fV,eX,dJ,aE,aw];rw[yP n r _ fun x hx=>hd x (aP _ hx)]
  simp
def tC{ae:List Node}(h:nM ae){n o:Node}(ho:ae[k8 ae n.au]?=some o)(he:o.au=n.au):eM ae n=ae.set (k8 ae n.au) n:=by
 have hl:=uo h n.au;have cu:=(aC.1 ho).1
 have hdr:ae.drop (k8 ae n.au)=o::ae.drop (k8 ae n.au+1):=by
  rw[cC cu];rw[aj cu] at ho; injection ho with ho; rw[ho]
 have hd:∀m,m∈ae.drop (k8 ae n.au+1)->n.au<m.au:=fun m hm=>by
  obtain⟨k,hk⟩:=bO hm;rw[cI] at hk;have hkl:=(aC.1 hk).1;have h3:=bU.1 h _ _ cu hkl (by omega)
  have h4:ae[k8 ae n.au+1+k]=m:=by rw[aj hkl] at hk; injection hk
  have h5:ae[k8 ae n.au]=o:=by rw[aj cu] at ho; injection ho
  rw[h4,h5] at h3;omega
 unfold eM;rw[show oa n ae [] false=oa n (ae.take (k8 ae n.au)++ae.drop (k8 ae n.au)) [] false by rw[cF]]
 rw[A5 n _ _ _ (vm hl),hdr,oa];simp only[ge_iff_le,he,fJ,nA,fV,eX,dJ,aE,bW];rw[yP n _ _ hd,List.set_eq_take_append_cons_drop,az cu];simp
def p85{ae:List Node}(h0:ae≠[])(hn:ae.length<=100000)(M:aL):aq c9 234 [a8 ae] M=some (.dk M.length 0 6 0 ae.length,M++[.arr 6 0 (ae.map cn)]):=by
 refine gF (g:=pR 6 80) rfl ?_;obtain⟨a,r,rfl⟩:=ft h0;have hw:wid ((a::r).map cn) 6:=by have:=Ft (a::r); simpa using this
 have hr:dQ ((a::r).map cn).length 80:=by have:=se (a:=(a::r).length) (b:=80) (by omega) (by omega); simpa using this
 unfold pR;simp only[aW] at hw hr ⊢;rw[gb ⟨hw,hr⟩];simp
def p86{ae:List Node}{b:Nat}(hb:b<=ae.length)(hn:ae.length<=100000)(n:Node)(c0 c1:cD) :
  aq c9 249 [.dk 2 0 6 0 ae.length,aG b,kJ [.agg (aV n)]] [c0,c1,.arr 6 0 (ae.map cn)]=some (.dk 2 1 6 0 (ae.length+1),[c0,c1,.arr 6 1 ((ae.take b++n::ae.drop b).map cn)]):=by
 refine gF (g:=nn 6 80) rfl ?_;have hr:dQ ((ae.map cn).length+1) 80:=by have:=se (a:=ae.length+1) (b:=80) (by omega) (by omega); simpa using this
 unfold nn;simp only[nth];rw[gb ⟨trivial,trivial,trivial,by simp,by omega,by simpa using hb,rfl,hr⟩]
 simp[j6,cn]
def T9(ae:List Node)(b:Nat)(o n:Node)(h:ae[b]?=some o):(j6 (ae.map cn) b (putCells (cn o) 0 (aV n)))=(ae.set b n).map cn:=by
 have:putCells (cn o) 0 (aV n)=cn n:=rfl;rw[this,fQ,kW]
def ako(ae:List Node)(next ai:Int)(n:Node)(h:nM ae)(h0:ae≠[])(hn:ae.length<=100000):aq c9 223 [cL 0,cn n] [cm [a8 ae,aG next,aG ai]] =
  some (.tuple [],[cm [a8 (eM ae n),aG next,aG ai]]):=by
 refine aJ ?_;have hk:=fun M=>VL ae next ai n.au h hn 0 (cm [a8 ae,aG next,aG ai]::M) rfl
 have hp:=fun M=>p85 h0 hn M
 have hle:=(uo h n.au).le;simp only[Qi,ZM,cn,aV,hk,hp,EN,seval];rcases rY h n.au with ⟨h1,o,h2,h3,h4⟩|⟨h1,h2⟩
 ·have cu:((k8 ae n.au:Int)<(ae.length:Int))=True:=by have:=(aC.1 h2).1; simp; omega
  simp only[ZM,h1,h2,cu,bV,dX,dB,EN,seval];have e:=T9 ae _ o n h2;simp only[aV] at e;rw[e,tC h h2 h4,ck (by simp)]
 ·have hi:=fun c0 c1=>p86 hle hn n c0 c1
  simp only[aV] at hi;simp only[ZM,h1,hi,dX,dB,EN,seval];rw[xK h h2,ck (by simp; omega)]
def NS(ae:List Node)(next ai a b c:Int)(d:Bytes)(e:List eD)(u:Int)(h:nM ae)(h0:ae≠[])(hn:ae.length<=100000)(p:Nat)(M:aL)(hM:nth M p=some (cm [a8 ae,aG next,aG ai])) :
  aM (aq c9) 223 [cL p,.agg [aG a,aG b,aG c,jt d,ij e,aG u]] M=some (.tuple [],j6 M p (cm [a8 (eM ae ⟨a,b,c,d,e,u⟩),aG next,aG ai])) :=
 pG hM (ako ae next ai ⟨a,b,c,d,e,u⟩ h h0 hn) rfl rfl rfl rfl rfl rfl rfl rfl rfl rfl
def FZ:(∀M cs,ag.yw M (.agg cs) = .agg (cs.map (ag.pt M)))/\(∀M i o,ag.yw M (.ptr i o) = .ptr i o)/\(∀M k n,ag.yw M (.int k n) = .int k n)/\(∀M s,ag.yw M (.str s) = .str s) /\
  (∀M k n,ag.pt M (.int k n) = .int k n)/\(∀M s,ag.pt M (.str s) = .str s)/\(∀M tk xs,ag.pt M (.slice tk xs) = .slice tk xs)/\(∀M b,ag.pt M (.bool b) = .bool b) /\
  (∀M id ver sz lo hi,ag.pt M (.dk id ver sz lo hi)=match nth M id with
   |some (.arr _ v xs)=>if v=ver then kJ ((xs.take hi).drop lo) else .any
   |_ => .any)/\(∀i a b c d,ag.mQ (.dk i a b c d)=[i]):=by
 refine⟨?_,?_,?_,?_,?_,?_,?_,?_,?_,?_⟩<;>intros<;>rfl
def zI{ae:List Node}(h:nM ae){au:Int}{o:Node}(ho:ae[k8 ae au]?=some o)(he:o.au=au):iT ae au=ae.take (k8 ae au)++ae.drop (k8 ae au+1):=by
 have hl:=uo h au;have cu:=(aC.1 ho).1
 have hd:∀m,m∈ae.drop (k8 ae au+1)->au<m.au:=fun m hm=>by
  obtain⟨k,hk⟩:=bO hm;rw[cI] at hk;have hkl:=(aC.1 hk).1;have h3:=bU.1 h _ _ cu hkl (by omega)
  have h4:ae[k8 ae au+1+k]=m:=by rw[aj hkl] at hk; injection hk
  have h5:ae[k8 ae au]=o:=by rw[aj cu] at ho; injection ho
  rw[h4,h5] at h3;omega
 have hdr:ae.drop (k8 ae au)=o::ae.drop (k8 ae au+1):=by
  rw[cC cu];rw[aj cu] at ho; injection ho with ho; rw[ho]
 unfold iT;rw[show ae.filter (fun n=>n.au != au)=(ae.take (k8 ae au)++ae.drop (k8 ae au)).filter (fun n=>n.au != au) by rw[cF]]
 rw[List.filter_append,hdr,ib];simp only[he,an,af,aw];rw[gv.2 fun m hm=>by have:=vm hl m hm; simp; omega,gv.2 fun m hm=>by have:=hd m hm; simp; omega]
def x8{ae:List Node}{au:Int}(hf:find ae au=none):iT ae au=ae :=
 gv.2 fun m hm=>by simpa using eG.1 hf m hm
def aml{ae:List Node}{b:Nat}(hb:b<ae.length)(hn:ae.length<=100000)(c0:cD) :
  aq c9 233 [.dk 1 0 6 0 ae.length,aG b,aG ((b+1:Nat):Int)] [c0,.arr 6 0 (ae.map cn)]=some (.dk 1 1 6 0 (ae.length-1),[c0,.arr 6 1 ((ae.take b++ae.drop (b+1)).map cn)]):=by
 refine gF (g:=oz 6) rfl ?_;unfold oz;simp only[nth];rw[gb ⟨trivial,trivial,trivial,by simp,by omega,by simpa using hb,by omega,by simp; omega⟩]
 simp[j6]
def akb(ae:List Node)(next ai au:Int)(h:nM ae)(hn:ae.length<=100000):aq c9 178 [cL 0,aG au] [cm [a8 ae,aG next,aG ai]] =
  some (.tuple [],[cm [a8 (iT ae au),aG next,aG ai]]):=by
 refine aJ ?_;have hk:=fun M=>VL ae next ai au h hn 0 (cm [a8 ae,aG next,aG ai]::M) rfl
 simp only[Qe,ZK,hk,EN,seval];rcases rY h au with ⟨h1,o,h2,h3,h4⟩|⟨h1,h2⟩
 ·have cu:=(aC.1 h2).1;have h0:ae≠[]:=by rintro rfl; simp at h2
  have hp:=fun M=>p85 h0 hn M
  have hd:=fun c0=>aml cu hn c0
  have hw:IntKind.i64.wrap ((k8 ae au:Int)+1)=((k8 ae au+1:Nat):Int):=by rw[gD (by omega) (by omega)]; rfl
  simp only[ZK,h1,hp,hd,hw,dX,dB,EN,seval];rw[zI h h2 h4,ck (by simp; omega)]
 ·simp only[ZK,h1,EN,seval];rw[x8 h2]
def ag5(ae:List Node)(next ai au:Int)(h:nM ae)(hn:ae.length<=100000)(p:Nat)(M:aL)(hM:nth M p=some (cm [a8 ae,aG next,aG ai])) :
  aM (aq c9) 178 [cL p,aG au] M=some (.tuple [],j6 M p (cm [a8 (iT ae au),aG next,aG ai])) :=
 pG hM (akb ae next ai au h hn) rfl rfl rfl rfl rfl rfl rfl rfl rfl rfl
def rV{a b:Bytes}(h:strLt a b=true):strLt b a=false:=by
 cases hb:strLt b a with
 |false=>rfl
 |true=>have:=qO h hb; rw[iq] at this; cases this
def qN:∀(a b:Bytes),strLt a b=true\/a=b\/strLt b a=true
 | [],[] => .inr (.inl rfl)
 | [],_::_ => .inl rfl
 |_::_,[] => .inr (.inr rfl)
 |a::x,b::y=>by
  simp only[strLt,cN,bn,bu,dR,List.cons.injEq,km];rcases qN x y with h|h|h
  ·rcases iB a.toNat b.toNat with h1|h1|h1
   ·exact .inl (.inl h1)
   ·exact .inl (.inr ⟨iE.1 h1,h⟩)
   ·exact .inr (.inr (.inl h1))
  ·rcases iB a.toNat b.toNat with h1|h1|h1
   ·exact .inl (.inl h1)
   ·exact .inr (.inl ⟨iE.1 h1,h⟩)
   ·exact .inr (.inr (.inl h1))
  ·rcases iB a.toNat b.toNat with h1|h1|h1
   ·exact .inl (.inl h1)
   ·exact .inr (.inr (.inr ⟨(iE.1 h1).symm,h⟩))
   ·exact .inr (.inr (.inl h1))
def ND{a b:Bytes}(h:strLt a b=true):Y6 a b=false:=by simp[Y6,h]
def NC{a b:Bytes}(h:strLt b a=true):Y6 a b=true:=by
 have h1:=rV h;have h2:¬a=b:=by rintro rfl; rw[iq] at h; cases h
 simp[Y6,h1,h2]
def HO(e:eD)(rest:List eD):∀(pre out:List eD),(∀m,m∈pre->strLt m.name e.name=true)->uW e (pre++rest) out false=uW e rest (out++pre) false
 | [],out,_=>by simp
 |m::r,out,h=>by
  rw[aX,uW,ND (h m (aD ..))];simp only[dL,gq,af,aw];rw[HO e rest r _ fun x hx=>h x (aP _ hx)]
  simp
def Es(e:eD):∀(rest out:List eD),uW e rest out true=(out++rest,true)
 | [],out=>by simp[uW]
 |m::r,out=>by
  rw[uW];simp only[cX,cf,dK,af,aw];rw[Es e r];simp
def AZ{l:List eD}{s:Bytes}{b:Nat}(h:Jq l s b):∀m,m∈l.take b->strLt m.name s=true:=fun m hm=>by
 obtain⟨k,hk⟩:=bO hm;rw[gI] at hk;split at hk
 ·rename_i cu; exact(h.lt k m hk).2 cu
 ·cases hk
def Cu{l:List eD}{s:Bytes}{b:Nat}(h:Jq l s b):∀m,m∈l.drop b->strLt m.name s=false:=fun m hm=>by
 obtain⟨k,hk⟩:=bO hm;rw[cI] at hk;have:=h.lt _ m hk;have hn:¬b+k<b:=by omega
 cases hc:strLt m.name s with
 |false=>rfl
 |true=>exact absurd (this.1 hc) hn
def uV{l:List eD}(h:oX l){e:eD}(hf:eb l e.name=none):sV l e=l.take (ly l e.name)++e::l.drop (ly l e.name):=by
 have hl:=sa h e.name
 have hd:∀m,m∈l.drop (ly l e.name)->strLt e.name m.name=true:=fun m hm=>by
  have h1:=Cu hl m hm;have h2:=eG.1 hf m (dy hm);have h3:¬m.name=e.name:=by simpa using h2
  rcases qN m.name e.name with h4|h4|h4
  ·rw[h1] at h4; cases h4
  ·exact absurd h4 h3
  ·exact h4
 unfold sV;rw[show uW e l [] false=uW e (l.take (ly l e.name)++l.drop (ly l e.name)) [] false by rw[cF]]
 rw[HO e _ _ _ (AZ hl)];generalize l.drop (ly l e.name)=rest at hd;cases rest with
 |nil=>simp[uW]
 |cons m r =>
  rw[uW,NC (hd m (aD ..))];simp only[fV,eX,dJ,aE];rw[Es];simp
def D6{l:List eD}(h:oX l){s:Bytes}{o:eD}(ho:l[ly l s]?=some o)(he:o.name=s):fH l s=l.take (ly l s)++l.drop (ly l s+1):=by
 have hl:=sa h s;have cu:=(aC.1 ho).1
 have hdr:l.drop (ly l s)=o::l.drop (ly l s+1):=by
  rw[cC cu];rw[aj cu] at ho; injection ho with ho; rw[ho]
 have hd:∀m,m∈l.drop (ly l s+1)->strLt s m.name=true:=fun m hm=>by
  obtain⟨k,hk⟩:=bO hm;rw[cI] at hk;have hkl:=(aC.1 hk).1;have h3:=bU.1 h _ _ cu hkl (by omega)
  have h4:l[ly l s+1+k]=m:=by rw[aj hkl] at hk; injection hk
  have h5:l[ly l s]=o:=by rw[aj cu] at ho; injection ho
  rw[h4,h5,he] at h3;exact h3
 have ne:∀ {a b:Bytes},strLt a b=true->¬a=b:=fun {a b} h=>by rintro rfl; rw[iq] at h; cases h
 unfold fH;rw[show l.filter (fun n=>n.name != s)=(l.take (ly l s)++l.drop (ly l s)).filter (fun n=>n.name != s) by rw[cF]]
 rw[List.filter_append,hdr,ib];simp only[he,an,af,aw];rw[gv.2 fun m hm=>by simpa using ne (AZ hl m hm),gv.2 fun m hm=>by simpa using fun hc=>ne (hd m hm) hc.symm]
def Cw{l:List eD}{s:Bytes}(hf:eb l s=none):fH l s=l :=
 gv.2 fun m hm=>by simpa using eG.1 hf m hm
def p58{l:List eD}(h0:l≠[])(hn:l.length<=100000)(M:aL):aq c9 218 [ij l] M=some (.dk M.length 0 3 0 l.length,M++[.arr 3 0 (l.map gk)]):=by
 refine gF (g:=pR 3 32) rfl ?_;obtain⟨a,r,rfl⟩:=ft h0;have hw:wid ((a::r).map gk) 3:=by have:=I9 (a::r); simpa using this
 have hr:dQ ((a::r).map gk).length 32:=by have:=se (a:=(a::r).length) (b:=32) (by omega) (by omega); simpa using this
 unfold pR;simp only[aW] at hw hr ⊢;rw[gb ⟨hw,hr⟩];simp
def ahU(M:aL):aq c9 218 [kJ []] M=some (.slice .c0 [],M):=gF (g:=pR 3 32) rfl rfl
def p87{l:List eD}{b:Nat}(hb:b<=l.length)(hn:l.length<=100000)(e:eD)(c0 c1:cD) :
  aq c9 250 [.dk 2 0 3 0 l.length,aG b,kJ [.agg (ew e)]] [c0,c1,.arr 3 0 (l.map gk)]=some (.dk 2 1 3 0 (l.length+1),[c0,c1,.arr 3 1 ((l.take b++e::l.drop b).map gk)]):=by
 refine gF (g:=nn 3 32) rfl ?_;have hr:dQ ((l.map gk).length+1) 32:=by have:=se (a:=l.length+1) (b:=32) (by omega) (by omega); simpa using this
 unfold nn;simp only[nth];rw[gb ⟨trivial,trivial,trivial,by simp,by omega,by simpa using hb,rfl,hr⟩]
 simp[j6,gk]
def amn(e:eD)(M:aL):aq c9 250 [.slice .c0 [],aG 0,kJ [.agg (ew e)]] M=some (.dk M.length 0 3 0 1,M++[.arr 3 0 [.agg (ew e)]]):=by
 refine gF (g:=nn 3 32) rfl ?_
 show cv ((0:Int)=0/\(ag.agg (ew e)).cells.length=3) _=_
 exact gb ⟨rfl,rfl⟩
def p84{l:List eD}{b:Nat}(hb:b<l.length)(hn:l.length<=100000)(c0 c1:cD) :
  aq c9 252 [.dk 2 0 3 0 l.length,aG b,aG ((b+1:Nat):Int)] [c0,c1,.arr 3 0 (l.map gk)]=some (.dk 2 1 3 0 (l.length-1),[c0,c1,.arr 3 1 ((l.take b++l.drop (b+1)).map gk)]):=by
 refine gF (g:=oz 3) rfl ?_;unfold oz;simp only[nth];rw[gb ⟨trivial,trivial,trivial,by simp,by omega,by simpa using hb,by omega,by simp; omega⟩]
 simp[j6]
def K9{ae:List Node}(h:nM ae){n:Node}(hf:find ae n.au=some n):eM ae n=ae:=by
 rcases rY h n.au with ⟨_,o,h2,h3,h4⟩|⟨_,h2⟩
 ·rw[hf] at h3; cases h3;rw[tC h h2 rfl];apply cS;intro i
  by_cases e:k8 ae n.au=i
  ·subst e; rw[eA (aC.1 h2).1,h2]
  ·rw[fz e]
 ·rw[hf] at h2; cases h2
def akp(ae:List Node)(next ai dir:Int)(s:Bytes)(au:Int)(h:nM ae)(hn:ae.length<=100000){n:Node}(hf:find ae dir=some n)(hE:oX n.aN)(hl:n.aN.length<=99999)(hs:eb n.aN s=none) :
  aq c9 224 [cL 0,aG dir,.str s,aG au] [cm [a8 ae,aG next,aG ai]]=some (.tuple [],[cm (bd (gN ⟨ae,next,ai⟩ dir s au))]):=by
 refine aJ ?_;have h0:ae≠[]:=by rintro rfl; simp[find] at hf
 have hnn:bE ae dir=n:=by simp[bE,hf]
 have hk:=fun M=>Gb ae next ai dir h hn 0 (cm [a8 ae,aG next,aG ai]::M) rfl
 have hk2:=fun a b c d u M=>QG a b c d n.aN u s _ (sa hE s) (by omega) M
 have hle:=(sa hE s).le
 have hres:gN ⟨ae,next,ai⟩ dir s au=⟨eM ae { n with aN:=n.aN.take (ly n.aN s)++⟨s,au,ai⟩::n.aN.drop (ly n.aN s) },next,mM (ai+1)⟩:=by
  have:=uV hE (e:=⟨s,au,ai⟩) hs;simp only[gN,hf,bA,this]
 rw[hres,bd];have hp:=fun a b c d e u M=>NS ae next (mM (ai+1)) a b c d e u h h0 hn 0 (cm [a8 ae,aG next,aG (mM (ai+1))]::M) rfl
 simp only[Qj,O9,hk,hnn,cn,aV,hk2,EN,seval]
 by_cases hne:n.aN=[]
 ·have hlow:ly n.aN s=0:=by rw[hne]; rfl
  have hi:=fun M=>amn ⟨s,au,ai⟩ M
  simp only[ew] at hi;have hlow0:ly [] s=0:=rfl;have hc0:((0:Nat):Int)=0:=rfl;simp only[O9,hne,hlow0,hc0,ij,ahU,hi,FZ,Af,EN,seval];rw[show ag.slice .sh [ag.agg [.str s,aG au,aG ai]]=ij [⟨s,au,ai⟩] from rfl]
  simp only[O9,hp,EN,seval]
 ·have hc:=fun M=>p58 hne (show n.aN.length<=100000 by omega) M
  have hi:=fun c0 c1=>p87 hle (show n.aN.length<=100000 by omega) ⟨s,au,ai⟩ c0 c1
  simp only[ew] at hi;simp only[O9,hc,hi,FZ,Af,EN,seval];have ht:List.take (n.aN.length+1) (List.map gk (List.take (ly n.aN s) n.aN++⟨s,au,ai⟩::List.drop (ly n.aN s) n.aN))=List.map gk (List.take (ly n.aN s) n.aN++⟨s,au,ai⟩::List.drop (ly n.aN s) n.aN):=ck (by simp; omega)
  rw[ht];simp only[O9,hp,EN,seval]
def VK(ae:List Node)(next ai dir:Int)(s:Bytes)(au:Int)(h:nM ae)(hn:ae.length<=100000){n:Node}(hf:find ae dir=some n)(hE:oX n.aN)(hl:n.aN.length<=99999)(hs:eb n.aN s=none)(p:Nat)(M:aL)(hM:nth M p=some (cm [a8 ae,aG next,aG ai])) :
  aM (aq c9) 224 [cL p,aG dir,.str s,aG au] M=some (.tuple [],j6 M p (cm (bd (gN ⟨ae,next,ai⟩ dir s au)))) :=
 pG hM (akp ae next ai dir s au h hn hf hE hl hs) rfl rfl rfl rfl rfl rfl rfl rfl rfl rfl
def akq(ae:List Node)(next ai dir:Int)(s:Bytes)(h:nM ae)(hn:ae.length<=100000){n:Node}(hf:find ae dir=some n)(hE:oX n.aN)(hl:n.aN.length<=99999) :
  aq c9 226 [cL 0,aG dir,.str s] [cm [a8 ae,aG next,aG ai]]=some (.tuple [],[cm [a8 (dx ae dir s),aG next,aG ai]]):=by
 refine aJ ?_;have h0:ae≠[]:=by rintro rfl; simp[find] at hf
 have hnn:bE ae dir=n:=by simp[bE,hf]
 have hino:n.au=dir:=(cj hf).2;have hk:=fun M=>Gb ae next ai dir h hn 0 (cm [a8 ae,aG next,aG ai]::M) rfl
 have hk2:=fun a b c d u M=>QG a b c d n.aN u s _ (sa hE s) (by omega) M
 have hp:=fun a b c d e u M=>NS ae next ai a b c d e u h h0 hn 0 (cm [a8 ae,aG next,aG ai]::M) rfl
 have hres:dx ae dir s=eM ae { n with aN:=fH n.aN s }:=by simp only[dx,hf,bA]
 rw[hres];simp only[Ql,UH,hk,hnn,cn,aV,hk2,EN,seval];rcases wy hE s with ⟨h1,o,h2,h3,h4⟩|⟨h1,h2⟩
 ·have cu:=(aC.1 h2).1;have hne:n.aN≠[]:=by intro hc; rw[hc] at h2; simp at h2
  have hc:=fun M=>p58 hne (show n.aN.length<=100000 by omega) M
  have hd:=fun c0 c1=>p84 cu (show n.aN.length<=100000 by omega) c0 c1
  have hw:IntKind.i64.wrap ((ly n.aN s:Int)+1)=((ly n.aN s+1:Nat):Int):=by rw[gD (by omega) (by omega)]; rfl
  simp only[UH,h1,hc,hd,hw,FZ,Af,EN,seval];have ht:List.take (n.aN.length-1) (List.map gk (List.take (ly n.aN s) n.aN++List.drop (ly n.aN s+1) n.aN))=List.map gk (List.take (ly n.aN s) n.aN++List.drop (ly n.aN s+1) n.aN):=ck (by simp; omega)
  rw[ht];simp only[UH,hp,EN,seval];rw[D6 hE h2 h4]
 ·simp only[UH,h1,EN,seval];rw[Cw h2];have:eM ae n=ae:=K9 h (by rw[hino]; exact hf)
  rw[show({ n with aN:=n.aN }:Node)=n from rfl,this]
def abb(ae:List Node)(next ai dir:Int)(s:Bytes)(h:nM ae)(hn:ae.length<=100000){n:Node}(hf:find ae dir=some n)(hE:oX n.aN)(hl:n.aN.length<=99999)(p:Nat)(M:aL)(hM:nth M p=some (cm [a8 ae,aG next,aG ai])) :
  aM (aq c9) 226 [cL p,aG dir,.str s] M=some (.tuple [],j6 M p (cm [a8 (dx ae dir s),aG next,aG ai])) :=
 pG hM (akq ae next ai dir s h hn hf hE hl) rfl rfl rfl rfl rfl rfl rfl rfl rfl rfl
def j7(ae:List Node)(n:Node):List Node:=if n.kind==2 then iT ae n.au else eM ae { n with dp:=mM (n.dp-1) }
def akr(ae:List Node)(next ai:Int)(n:Node)(h:nM ae)(h0:ae≠[])(hn:ae.length<=100000) :
  aq c9 227 [cL 0,cn n] [cm [a8 ae,aG next,aG ai]]=some (.tuple [],[cm [a8 (j7 ae n),aG next,aG ai]]):=by
 refine aJ ?_;have hp:=fun a b c d e u M=>NS ae next ai a b c d e u h h0 hn 0 (cm [a8 ae,aG next,aG ai]::M) rfl
 have hd:=fun M=>ag5 ae next ai n.au h hn 0 (cm [a8 ae,aG next,aG ai]::M) rfl
 simp only[YO,ZN,cn,aV,EN,seval];unfold j7;refine bL (fun hb=>?_) (fun hb=>?_)
 ·simp only[ZN,hb,hd,EN,seval]
 ·simp only[ZN,hb,hp,af,EN,seval]
def ahe(ae:List Node)(next ai a b c:Int)(d:Bytes)(e:List eD)(u:Int)(h:nM ae)(h0:ae≠[])(hn:ae.length<=100000)(p:Nat)(M:aL)(hM:nth M p=some (cm [a8 ae,aG next,aG ai])) :
  aM (aq c9) 227 [cL p,.agg [aG a,aG b,aG c,jt d,ij e,aG u]] M=some (.tuple [],j6 M p (cm [a8 (j7 ae ⟨a,b,c,d,e,u⟩),aG next,aG ai])) :=
 pG hM (akr ae next ai ⟨a,b,c,d,e,u⟩ h h0 hn) rfl rfl rfl rfl rfl rfl rfl rfl rfl rfl
def sf(ae:List Node)(au:Int):Nat:=(rX ae au).length-1
def oO(t:Tree)(dir:Int)(s:Bytes):Int :=
 if (gA t.ae dir).2 != 0 then (gA t.ae dir).2 else if !dE s then 60 else if (eb (gA t.ae dir).1.aN s).isSome=true then 71 else
 if decide ((64:Int)<=(gA t.ae dir).1.aN.length)||(decide ((12:Int)<=sf t.ae dir)||decide ((1099511627776:Int)<=t.ai)) then 76 else 0
def akn(ae:List Node)(next ai dir:Int)(s:Bytes)(ht:Small ⟨ae,next,ai⟩)(hr:wm ⟨ae,next,ai⟩)(hs:s.length<=100000)(ha:oD s) :
  aq c9 222 [cL 0,aG dir,.str s] [cm [a8 ae,aG next,aG ai]]=some (aG (oO ⟨ae,next,ai⟩ dir s),[cm [a8 ae,aG next,aG ai]]):=by
 have hn:ae.length<=100000:=ht.ae;have hd:(gA ae dir).1.aN.length<=100000:=tq ht dir;have hE:oX (gA ae dir).1.aN:=hr.dir dir;have hk:=fun M=>VJ ae next ai dir hr.jx hn 0 (cm [a8 ae,aG next,aG ai]::M) rfl
 have hk2:=fun a b c d u M=>QG a b c d (gA ae dir).1.aN u s _ (sa hE s) hd M
 have hk3:∀M,aM (aq c9) 248 [cL 0,aG dir] (cm [a8 ae,aG next,aG ai]::M)=some (aG (sf ae dir),cm [a8 ae,aG next,aG ai]::M):=fun M=>ahi ae next ai dir hr.jx hn 0 (cm [a8 ae,aG next,aG ai]::M) rfl
 refine aJ ?_;simp only[YN,GP,hk,cn,aV,EN,seval];refine bL (fun hb=>?_) (fun hb=>?_)
 ·simp only[GP,hb,EN,seval];clear hk hk2 hk3;simp_all only[oO,vp,↓reduceIte,reduceCtorEq,an]
 simp only[GP,hb,VE,hs,ha,EN,seval];refine bL (fun hb1=>?_) (fun hb1=>?_)
 ·simp only[GP,hb1,EN,seval];clear hk hk2 hk3;simp_all only[oO,vp,↓reduceIte,reduceCtorEq,an]
 simp only[GP,hb1,hk2,EN,seval];rcases wy hE s with ⟨h1,o,h2,h3,h4⟩|⟨h1,h2⟩
 ·simp only[GP,h1,EN,seval];clear hk hk2 hk3;simp_all only[oO,df,vp,↓reduceIte,reduceCtorEq,an]
 ·simp only[GP,h1,EN,seval]
  repeat' ((first|apply bL|apply cK|apply eZ)<;>intro hb<;>simp only[hb,EN,GP,hk3,seval])
  all_goals (clear hk hk2 hk3; simp_all only[oO,iZ,vp,↓reduceIte,reduceCtorEq,an]; done)
def ahd ae next ai dir s ht hr hs ha p M hM:=cM (p:=p) (M:=M) hM (akn ae next ai dir s ht hr hs ha)
def zp(x y:Node):Int:=if x.kind==2&&y.kind != 2 then 73 else if x.kind != 2&&y.kind==2 then 72 else if decide ((0:Int)<y.aN.length) then 74 else 0
def aku(x y:Node):aq c9 230 [cn x,cn y] []=some (aG (zp x y),[]):=by
 refine aJ ?_;simp only[YR,ad5,cn,aV,EN,seval]
 repeat' ((first|apply bL|apply cK|apply eZ)<;>intro hb<;>simp only[hb,EN,ad5,seval])
 all_goals (simp_all only[zp,vp,↓reduceIte,reduceCtorEq,an]; done)
def ajr(t:Tree)(au:Int)(ht:Small t)(hr:wm t):aq c9 104 [bK t,aG au] []=some (.tuple [bK (oT t au).1,aG (oT t au).2],[]):=by
 obtain⟨ae,next,ai⟩:=t
 have hn:ae.length<=100000:=ht.ae;refine aJ ?_;have hk:=fun b c M=>Gb ae next ai au hr.jx hn 2 (b::c :: cm [a8 ae,aG next,aG ai]::M) rfl
 have hd:=fun b c M=>ag5 ae next ai au hr.jx hn 2 (b::c :: cm [a8 ae,aG next,aG ai]::M) rfl
 simp only[XW,adV,bK,bd,hk,cn,aV,EN,seval]
 repeat' ((first|apply bL|apply cK|apply eZ)<;>intro hb<;>simp only[hb,EN,adV,hd,seval])
 all_goals (clear hk hd; simp_all only[oT,bK,bd,vp,↓reduceIte,reduceCtorEq,an]; done)
end
def JA{ae:List Node}(h:nM ae){a b:Node}(ha:a∈ae)(hb:b∈ae)(he:a.au=b.au):a=b:=by
 obtain⟨i,hi⟩:=bO ha;obtain⟨k,hk⟩:=bO hb;have hil:=(aC.1 hi).1;have hkl:=(aC.1 hk).1;have e1:ae[i]=a:=by rw[aj hil] at hi; injection hi
 have e2:ae[k]=b:=by rw[aj hkl] at hk; injection hk
 rcases iB i k with cu|heq|hgt
 ·have:=bU.1 h _ _ hil hkl cu;rw[e1,e2] at this; omega
 ·subst heq; rw[<-e1,<-e2]
 ·have:=bU.1 h _ _ hkl hil hgt;rw[e1,e2] at this; omega
def fy{ae:List Node}(h:nM ae){i:Int}{m:Node}:find ae i=some m↔m∈ae/\m.au=i:=by
 refine⟨cj,fun⟨h1,h2⟩=>?_⟩
 cases hf:find ae i with
 |none =>
  have:=eG.1 hf m h1;simp[h2] at this
 |some k =>
  obtain⟨k1,k2⟩:=cj hf;rw[JA h h1 k1 (by omega)]
def pW{ae:List Node}{i:Int}:find ae i=none↔∀m,m∈ae->m.au≠i:=by
 unfold find;rw[eG];simp
def xH{ae:List Node}{b:Nat}{o n:Node}(ho:ae[b]?=some o):ae=ae.take b++o::ae.drop (b+1)/\ae.set b n=ae.take b++n::ae.drop (b+1):=by
 have cu:=(aC.1 ho).1;constructor
 ·rw[aj cu] at ho; injection ho with ho
  conv=>lhs; rw[<-cF b ae]
  rw[cC cu,ho]
 ·rw[List.set_eq_take_append_cons_drop,az cu]
def u6{ae:List Node}(h:nM ae){n m:Node}:m∈eM ae n↔m=n\/(m∈ae/\m.au≠n.au):=by
 rcases rY h n.au with ⟨_,o,h2,h3,h4⟩|⟨_,h2⟩
 ·rw[tC h h2 h4];obtain⟨s1,s2⟩:=xH (n:=n) h2;have hon:o∈ae:=(cj h3).1;constructor
  ·intro hm;rw[s2] at hm;rcases bT.1 hm with hm|hm
   ·have hmn:=dn hm;have:=vm (uo h n.au) m hm;exact .inr ⟨hmn,by omega⟩
   ·rcases bc.1 hm with rfl|hm
    ·exact .inl rfl
    ·refine .inr ⟨dy hm,fun he=>?_⟩
     have hp:=h;unfold nM at hp;rw[s1,dz] at hp;have:=(bG.1 hp.2.1).1 m hm;omega
  ·rintro(rfl|⟨hm,hne⟩)
   ·rw[s2]; simp
   ·rw[s1] at hm;rw[s2];rcases bT.1 hm with hm|hm
    ·exact eR _ hm
    ·rcases bc.1 hm with rfl|hm
     ·exact absurd h4 hne
     ·exact hZ _ (aP _ hm)
 ·rw[xK h h2];rw[pW] at h2;constructor
  ·intro hm;rcases bT.1 hm with hm|hm
   ·have:=dn hm;exact .inr ⟨this,h2 m this⟩
   ·rcases bc.1 hm with rfl|hm
    ·exact .inl rfl
    ·have:=dy hm;exact .inr ⟨this,h2 m this⟩
  ·rintro(rfl|⟨hm,_⟩)
   ·simp
   ·rw[<-cF (k8 ae n.au) ae] at hm;rcases bT.1 hm with hm|hm
    ·exact eR _ hm
    ·exact hZ _ (aP _ hm)
def nK{ae:List Node}(h:nM ae)(n:Node):nM (eM ae n):=by
 have hl:=uo h n.au;rcases rY h n.au with ⟨_,o,h2,h3,h4⟩|⟨_,h2⟩
 ·rw[tC h h2 h4];obtain⟨s1,s2⟩:=xH (n:=n) h2;have hp:=h;unfold nM at hp ⊢;rw[s1,dz] at hp;obtain⟨p1,p2,p3⟩:=hp;obtain⟨p4,p5⟩:=bG.1 p2;rw[s2,dz];refine⟨p1,bG.2 ⟨fun m hm=>by have:=p4 m hm; omega,p5⟩,fun a ha c hc=>?_⟩
  rcases bc.1 hc with rfl|hc
  ·exact vm hl a ha
  ·exact p3 a ha c (aP _ hc)
 ·rw[xK h h2];have hp:=h;unfold nM at hp ⊢;rw[<-cF (k8 ae n.au) ae,dz] at hp;obtain⟨p1,p2,p3⟩:=hp;rw[pW] at h2;rw[dz];refine⟨p1,bG.2 ⟨fun m hm=>?_,p2⟩,fun a ha c hc=>?_⟩
  ·have k1:=D7 hl m hm;have k2:=h2 m (dy hm);omega
  ·rcases bc.1 hc with rfl|hc
   ·exact vm hl a ha
   ·exact p3 a ha c hc
def gP{ae:List Node}(h:nM ae)(n:Node)(i:Int):find (eM ae n) i=if i=n.au then some n else find ae i:=by
 split
 ·rename_i he;exact(fy (nK h n)).2 ⟨(u6 h).2 (.inl rfl),he.symm⟩
 ·rename_i hne;cases hf:find ae i with
  |none =>
   rw[pW] at hf ⊢;intro m hm;rcases(u6 h).1 hm with rfl|⟨hm,_⟩
   ·exact fun he=>hne he.symm
   ·exact hf m hm
  |some m =>
   obtain⟨h1,h2⟩:=cj hf;exact(fy (nK h n)).2 ⟨(u6 h).2 (.inr ⟨h1,by omega⟩),h2⟩
def ti{ae:List Node}(h:nM ae)(i:Int):nM (iT ae i):=nv _ h
def rZ{ae:List Node}(h:nM ae)(k i:Int):find (iT ae k) i=if i=k then none else find ae i:=by
 split
 ·rename_i he;rw[pW];intro m hm;have:=(eo.1 hm).2;simp at this;omega
 ·rename_i hne;cases hf:find ae i with
  |none =>
   rw[pW] at hf ⊢;exact fun m hm=>hf m (eo.1 hm).1
  |some m =>
   obtain⟨h1,h2⟩:=cj hf;exact(fy (ti h k)).2 ⟨eo.2 ⟨h1,by simp; omega⟩,h2⟩
def HL{l:List eD}(h:oX l){e:eD}(hf:eb l e.name=none):oX (sV l e):=by
 rw[uV h hf];have hl:=sa h e.name;have hp:=h;unfold oX at hp ⊢;rw[<-cF (ly l e.name) l,dz] at hp;obtain⟨p1,p2,p3⟩:=hp;rw[dz];refine⟨p1,bG.2 ⟨fun m hm=>?_,p2⟩,fun a ha c hc=>?_⟩
 ·have k1:=Cu hl m hm;have k2:¬m.name=e.name:=by simpa using eG.1 hf m (dy hm)
  rcases qN m.name e.name with h4|h4|h4
  ·rw[k1] at h4; cases h4
  ·exact absurd h4 k2
  ·exact h4
 ·rcases bc.1 hc with rfl|hc
  ·exact AZ hl a ha
  ·exact p3 a ha c hc
def uQ{l:List eD}(h:oX l)(s:Bytes):oX (fH l s):=nv _ h
def wm.with{t:Tree}(h:wm t){n:Node}(hn:oX n.aN)(next ai:Int):wm ⟨eM t.ae n,next,ai⟩ :=
 ⟨nK h.jx n,fun m hm=>by
  rcases(u6 h.jx).1 hm with rfl|⟨hm,_⟩
  ·exact hn
  ·exact h.aN m hm⟩
def wm.zH{t:Tree}(h:wm t)(i next ai:Int):wm ⟨iT t.ae i,next,ai⟩ :=
 ⟨ti h.jx i,fun m hm=>h.aN m (eo.1 hm).1⟩
def wm.node{t:Tree}(h:wm t)(i:Int):oX (bE t.ae i).aN:=by
 cases hf:find t.ae i with
 |none=>simp[bE,hf,Node.zero]; exact List.Pairwise.nil
 |some n=>simp[bE,hf]; exact h.aN n (cj hf).1
def wm.left{t:Tree}(h:wm t)(i:Int)(s:Bytes)(next ai:Int):wm ⟨dx t.ae i s,next,ai⟩ :=
 h.with (n:={ bE t.ae i with aN:=fH (bE t.ae i).aN s }) (uQ (h.node i) s) next ai
def wm.re{t:Tree}(h:wm t)(i:Int)(s:Bytes)(of:Int)(hf:eb (bE t.ae i).aN s=none):wm (gN t i s of) :=
 h.with (n:={ bE t.ae i with aN:=sV (bE t.ae i).aN ⟨s,of,t.ai⟩ }) (HL (h.node i) hf) t.next (mM (t.ai+1))
section
attribute [local irreducible] fS fp kH gK dv kr aq aM cv bJ
def yn{ae:List Node}{dir:Int}(h:(gA ae dir).2=0):∃d,find ae dir=some d/\d.kind=2/\gA ae dir=(d,0):=by
 unfold gA at h ⊢;split at h
 ·cases h
 ·rename_i d hd;split at h
  ·rename_i hk; exact⟨d,hd,hk,by simp[hd,hk]⟩
  ·cases h
def S7{t:Tree}{dir:Int}{s:Bytes}(h:(oO t dir s != 0)=false):∃d,find t.ae dir=some d/\d.kind=2/\dE s=true/\eb d.aN s=none/\d.aN.length<64/\sf t.ae dir<12/\t.ai<1099511627776:=by
 have h:oO t dir s=0:=by simpa using h
 unfold oO at h;split at h
 ·rename_i hc;rw[h] at hc; cases hc
 ·rename_i hc;obtain⟨d,h1,h2,h3⟩:=yn (by simpa using hc)
  rw[h3] at h;split at h
  ·cases h
  ·rename_i hk;split at h
   ·cases h
   ·rename_i hf;split at h
    ·cases h
    ·rename_i hm;simp at hk hf hm;exact⟨d,h1,h2,hk,hf,by omega,by omega,by omega⟩
def Jy(t:Tree)(au:Int)(s:Bytes)(kind:Int):Tree×Int×Int :=
 if kind != 1&&kind != 2 then (t,0,1) else if oO t au s != 0 then (t,0,oO t au s) else
 if decide ((200:Int)<=t.ae.length)||decide ((1099511627776:Int)<=t.next) then (t,0,76) else
 (gN ⟨eM t.ae ⟨t.next,kind,1,[],[],if kind==2 then au else 0⟩,mM (t.next+1),t.ai⟩ au s t.next,t.next,0)
def aj5(t:Tree)(dir:Int)(s:Bytes)(kind:Int)(hz:Sz 1000 t)(hr:wm t)(hs:s.length<=100000)(ha:oD s)(iv:∀m,m∈t.ae->m.au<t.next) :
  aq c9 171 [bK t,aG dir,.str s,aG kind] []=some (.tuple [bK (Jy t dir s kind).1,aG (Jy t dir s kind).2.1,aG (Jy t dir s kind).2.2],[]):=by
 obtain⟨ae,next,ai⟩:=t
 have ht:Small ⟨ae,next,ai⟩:=hz.small (by omega)
 have hn:ae.length<=100000:=ht.ae;have hk:=fun b c M=>ahd ae next ai dir s ht hr hs ha 2 (b::c :: cm [a8 ae,aG next,aG ai]::M) rfl
 have last:(oO ⟨ae,next,ai⟩ dir s != 0)=false->∀u,ae≠[]/\∀b c M,aM (aq c9) 224 [cL 2,aG dir,.str s,aG next] (b::c :: cm [a8 (eM ae ⟨next,kind,1,[],[],u⟩),aG (mM (next+1)),aG ai]::M) =
   some (.tuple [],b::c :: cm (bd (gN ⟨eM ae ⟨next,kind,1,[],[],u⟩,mM (next+1),ai⟩ dir s next))::M):=fun hm u=>by
  obtain⟨d,d1,d2,d3,d4,d5,d6,d7⟩:=S7 hm;have dm:=cj d1;have cu:=iv d dm.1;simp only at cu;refine⟨by rintro rfl; simp[find] at d1,fun b c M=>?_⟩
  have hz1:Sz 1001 ⟨eM ae ⟨next,kind,1,[],[],u⟩,mM (next+1),ai⟩:=hz.with (n:=⟨next,kind,1,[],[],u⟩) (by simp) (by simp) (mM (next+1)) ai
  have hf:find (eM ae ⟨next,kind,1,[],[],u⟩) dir=some d:=by rw[gP hr.jx,ak (by simp; omega)]; exact d1
  exact VK (eM ae ⟨next,kind,1,[],[],u⟩) (mM (next+1)) ai dir s next (nK hr.jx _) (hz1.small (by omega)).ae hf (hr.aN d dm.1) (by omega) d4 2 (b::c :: cm [a8 (eM ae ⟨next,kind,1,[],[],u⟩),aG (mM (next+1)),aG ai]::M) rfl
 refine aJ ?_;simp only[Yv,ZH,bK,bd,hk,EN,seval]
 repeat' ((first|apply bL|apply cK|apply eZ)<;>intro hb<;>simp only[hb,EN,ZH,hk,seval])
 all_goals try (clear hk last; simp_all only[Jy,bK,bd,vp,↓reduceIte,reduceCtorEq,an]; done)
 all_goals
  have hm:(oO ⟨ae,next,ai⟩ dir s != 0)=false:=by assumption
  have h0:=(last hm 0).1
  have hp:∀u b c M,aM (aq c9) 223 [cL 2,.agg [aG next,aG kind,aG 1,kJ [],kJ [],aG u]] (b::c :: cm [a8 ae,aG (mM (next+1)),aG ai]::M) =
    some (.tuple [],b::c :: cm [a8 (eM ae ⟨next,kind,1,[],[],u⟩),aG (mM (next+1)),aG ai]::M):=fun u b c M=>NS ae (mM (next+1)) ai next kind 1 [] [] u hr.jx h0 hn 2 (b::c :: cm [a8 ae,aG (mM (next+1)),aG ai]::M) rfl
  have hl:=fun u=>(last hm u).2
  simp only[ZH,hp,hl,bd,EN,seval];clear hk last hp hl;simp_all only[Jy,bK,bd,vp,↓reduceIte,reduceCtorEq,an]
def lnW(t:Tree)(au to:Int)(s:Bytes):Tree×Int :=
 if !(find t.ae au).isSome||((bE t.ae au).kind==1&&(bE t.ae au).dp==0) then (t,70) else if (bE t.ae au).kind==2 then (t,72) else
 if oO t to s != 0 then (t,oO t to s) else
 (gN ⟨eM t.ae { bE t.ae au with dp:=mM ((bE t.ae au).dp+1) },t.next,t.ai⟩ to s au,0)
def aj6(t:Tree)(au dir:Int)(s:Bytes)(hz:Sz 1000 t)(hr:wm t)(hs:s.length<=100000)(ha:oD s) :
  aq c9 172 [bK t,aG au,aG dir,.str s] []=some (.tuple [bK (lnW t au dir s).1,aG (lnW t au dir s).2],[]):=by
 obtain⟨ae,next,ai⟩:=t
 have ht:Small ⟨ae,next,ai⟩:=hz.small (by omega)
 have hn:ae.length<=100000:=ht.ae;have hg:=fun b c M=>Gb ae next ai au hr.jx hn 2 (b::c :: cm [a8 ae,aG next,aG ai]::M) rfl
 have hk:=fun b c M=>ahd ae next ai dir s ht hr hs ha 2 (b::c :: cm [a8 ae,aG next,aG ai]::M) rfl
 have last:(oO ⟨ae,next,ai⟩ dir s != 0)=false->(find ae au).isSome=true->((bE ae au).kind==2)=false->∀l,ae≠[]/\∀b c M,aM (aq c9) 224 [cL 2,aG dir,.str s,aG au] (b::c :: cm [a8 (eM ae { bE ae au with dp:=l }),aG next,aG ai]::M) =
   some (.tuple [],b::c :: cm (bd (gN ⟨eM ae { bE ae au with dp:=l },next,ai⟩ dir s au))::M):=fun hm hi hkd l=>by
  obtain⟨d,d1,d2,d3,d4,d5,d6,d7⟩:=S7 hm;have dm:=cj d1;refine⟨by rintro rfl; simp[find] at d1,fun b c M=>?_⟩
  have hfd:=hz.find au;have hz1:Sz 1001 ⟨eM ae { bE ae au with dp:=l },next,ai⟩:=hz.with (n:={ bE ae au with dp:=l }) (iA hfd.1) hfd.2 next ai
  obtain⟨n,hfn⟩:=lk.1 hi;have hnn:bE ae au=n:=by simp[bE,hfn]
  have hne:¬dir=(bE ae au).au:=fun he=>by
   rw[hnn] at he hkd;have h1:=(cj hfn).2;rw[he,h1,hfn] at d1;injection d1 with d1
   subst d1;simp[d2] at hkd
  have hf:find (eM ae { bE ae au with dp:=l }) dir=some d:=by rw[gP hr.jx,ak hne]; exact d1
  exact VK (eM ae { bE ae au with dp:=l }) next ai dir s au (nK hr.jx _) (hz1.small (by omega)).ae hf (hr.aN d dm.1) (by omega) d4 2 (b::c :: cm [a8 (eM ae { bE ae au with dp:=l }),aG next,aG ai]::M) rfl
 refine aJ ?_;simp only[Yw,ZI,bK,bd,hg,cn,aV,EN,seval]
 repeat' ((first|apply bL|apply cK|apply eZ)<;>intro hb<;>simp only[hb,EN,ZI,hk,seval])
 all_goals try (clear hk hg last; simp_all only[lnW,bK,bd,vp,↓reduceIte,reduceCtorEq,an]; done)
 all_goals
  have hm:(oO ⟨ae,next,ai⟩ dir s != 0)=false:=by assumption
  have h2:((bE ae au).kind==2)=false:=by assumption
  have h3:(!(find ae au).isSome)=false:=by assumption
  have h3:(find ae au).isSome=true:=by simpa using h3
  have h0:=(last hm h3 h2 0).1;have hp:=fun a b c d e u x y M=>NS ae next ai a b c d e u hr.jx h0 hn 2 (x::y :: cm [a8 ae,aG next,aG ai]::M) rfl
  have hl:=fun l=>(last hm h3 h2 l).2
  simp only[ZI,hp,hl,bd,EN,seval];clear hk hg last hp hl;simp_all only[lnW,bK,bd,vp,↓reduceIte,reduceCtorEq,an]
def look_ok{ae:List Node}{dir:Int}{s:Bytes}(h:((dV ae dir s).2 != 0)=false):∃d e,find ae dir=some d/\d.kind=2/\dE s=true/\eb d.aN s=some e/\dV ae dir s=(e.au,0):=by
 have h:(dV ae dir s).2=0:=by simpa using h
 have h':=h;unfold dV at h;split at h
 ·rename_i hc; exact absurd h hc
 ·rename_i hc;obtain⟨d,h1,h2,h3⟩:=yn (by simpa using hc)
  rw[h3] at h;split at h
  ·cases h
  ·rename_i hk;split at h
   ·cases h
   ·rename_i e he;have hk:dE s=true:=by simpa using hk
    refine⟨d,e,h1,h2,hk,he,?_⟩;unfold dV;rw[h3];simp[hk,he]
def ZC(t:Tree)(dir:Int)(s:Bytes):Tree×Int×Int :=
 if (dV t.ae dir s).2 != 0 then (t,0,(dV t.ae dir s).2) else if decide ((0:Int)<(bE t.ae (dV t.ae dir s).1).aN.length) then (t,0,74) else
 (⟨j7 (dx t.ae dir s) (bE t.ae (dV t.ae dir s).1),t.next,t.ai⟩,(dV t.ae dir s).1,0)
def H8{ae:List Node}(h:nM ae){dir:Int}{s:Bytes}{d:Node}(hf:find ae dir=some d):dx ae dir s≠[]:=by
 intro hc
 have:({ d with aN:=fH d.aN s }:Node)∈dx ae dir s:=by
  unfold dx;rw[hf];exact(u6 h).2 (.inl rfl)
 rw[hc] at this;cases this
def aj7(t:Tree)(dir:Int)(s:Bytes)(hz:Sz 1000 t)(hr:wm t)(hs:s.length<=100000)(ha:oD s) :
  aq c9 174 [bK t,aG dir,.str s] []=some (.tuple [bK (ZC t dir s).1,aG (ZC t dir s).2.1,aG (ZC t dir s).2.2],[]):=by
 obtain⟨ae,next,ai⟩:=t
 have ht:Small ⟨ae,next,ai⟩:=hz.small (by omega)
 have hn:ae.length<=100000:=ht.ae;have hg:=fun b c M=>Gb ae next ai (dV ae dir s).1 hr.jx hn 2 (b::c :: cm [a8 ae,aG next,aG ai]::M) rfl
 have hl:=fun M=>VH ae next ai dir s ht hr hs ha M
 refine aJ ?_;simp only[Yy,O7,bK,bd,hl,EN,seval];refine bL (fun hb=>?_) (fun hb=>?_)
 ·simp only[O7,hb,EN,seval];clear hg hl;simp_all only[ZC,bK,bd,vp,↓reduceIte,reduceCtorEq,an]
 obtain⟨d,e,d1,d2,d3,d4,d5⟩:=look_ok hb;have dm:=cj d1;have hde:d.aN.length<=1000:=hz.aN d dm.1;have hsz:Sz 1001 ⟨dx ae dir s,next,ai⟩:=hz.left dir s next ai
 have hv:=fun x y M=>abb ae next ai dir s hr.jx hn d1 (hr.aN d dm.1) (by omega) 2 (x::y :: cm [a8 ae,aG next,aG ai]::M) rfl
 have hu:=fun a b c d' e' u x y M=>ahe (dx ae dir s) next ai a b c d' e' u (hr.left dir s next ai).jx (H8 hr.jx d1) (hsz.small (by omega)).ae 2 (x::y :: cm [a8 (dx ae dir s),aG next,aG ai]::M) rfl
 simp only[O7,hb,hg,cn,aV,EN,seval];refine bL (fun hb1=>?_) (fun hb1=>?_)
 ·simp only[O7,hb1,EN,seval];clear hg hl hv hu;simp_all only[ZC,bK,bd,vp,↓reduceIte,reduceCtorEq,an]
 ·simp only[O7,hb1,hv,hu,EN,seval];clear hg hl hv hu d5;simp_all only[ZC,bK,bd,vp,↓reduceIte,reduceCtorEq,an]
def Ke(x:Int):List Int->Nat->Int
 | [],_ => -1
 |n::r,i=>if x==n then i else Ke x r (i+1)
def LU(x:Int):∀(l:List Int)(i:Nat),decide ((0:Int)<=Ke x l i)=l.contains x
 | [],i=>by simp[Ke]
 |n::r,i=>by
  unfold Ke
  by_cases h:x=n
  ·simp[h]
  ·simp only[dR,h,aw,LU x r (i+1),List.contains_cons];simp[h]
def WE{l0:List Int}{x:Int}(hl:l0.length<=100000){k:List K}{R:Int->Option (ag×aL)}
  (hx:∀e,kr (aq c9) [.tmp 4] 0 k ⟨.exit 0,e,[]⟩=R (-1)) (hr:∀(i:Nat),kr (aq c9) [.tmp 4] 0 k ⟨.ret,[(4,aG i)],[]⟩=R i) :
  ∀(l pre:List Int),l0=pre++l->fS (aq c9) [.tmp 4] 0 k (.loop [0,1,7,8] Wf) [(0,kJ (l0.map mr)),(1,aG x),(7,aG l0.length),(8,aG pre.length)] []=R (Ke x l pre.length):=by
 intro l;induction l with
 |nil =>
  intro pre h;rw[bZ];simp only[Jl,oy h,EN,seval];exact hx _
 |cons n r ih =>
  intro pre h;rw[bZ];have eY:pre.length+1<=100000:=by rw[h] at hl; simp at hl; omega
  have hw:=GI pre n;have hi:=ih (pre++[n]) (by rw[h]; simp)
  simp only[aK,av,aH,aQ] at hi;rw[Ke];simp only[Jl,mR h,ji h,EN,seval];refine bL (fun hb=>?_) (fun hb=>?_)
  ·simp only[Jl,hb,EN,seval];exact hr _
  ·simp only[Jl,hb,hw,af,EN,seval];exact hi
def akD(l:List Int)(x:Int)(hl:l.length<=100000):aq c9 255 [kJ (l.map mr),aG x] []=some (aG (Ke x l 0),[]):=by
 refine aJ ?_;simp only[YZ,Jl,EN,seval];exact WE (R:=fun z=>some (aG z,[])) hl (fun e=>by simp only[Jl,EN,seval]) (fun i=>by simp only[Jl,EN,seval]) l [] rfl
def alF l x hl:=cP (akD l x hl)
def akt(l:List Int)(x:Int)(hl:l.length<=100000):aq c9 229 [kJ (l.map mr),aG x] []=some (.bool (l.contains x),[]):=by
 refine aJ ?_;simp only[YQ,aiX,alF,hl,LU,EN,seval]
def ahf l x hl:=cP (akt l x hl)
def tH(ae:List Node)(at' own au:Int)(n:Node):Bool :=
 n.kind==2&&((rX ae n.au).contains au&&(decide ((12:Int)<mM (mM (mM (at'+(rX ae n.au).length)-1)-own))||(mM (mM (mM (at'+(rX ae n.au).length)-1)-own)==12&&decide ((0:Int)<n.aN.length))))
abbrev oG(ae:List Node)(next ai at' own au:Int):aL:=[.cells [.ptr 4 0],.cells [.int .i64 at'],.cells [.int .i64 own],.cells [.int .i64 au],.cells [a8 ae,.int .i64 next,.int .i64 ai]]
def akF(ae:List Node)(next ai at' own au:Int)(n:Node)(h:nM ae)(hn:ae.length<=99999) :
  aq c9 257 [cn n,cL 0,cL 1,cL 2,cL 3] (oG ae next ai at' own au)=some (.bool (tH ae at' own au n),oG ae next ai at' own au):=by
 refine aJ ?_;have hk:=fun a b c d M=>VI ae next ai n.au h (by omega) 4 (a::b::c::d :: cm [a8 ae,aG next,aG ai]::M) rfl
 have hl:=sv ae n.au;have hc:=fun M=>ahf (rX ae n.au) au (by omega) M
 simp only[Y1,ad6,oG,cn,aV,EN,seval]
 repeat' ((first|apply bL|apply cK|apply eZ)<;>intro hb<;>simp only[hb,EN,ad6,hk,hc,seval])
 all_goals (clear hk hc; simp_all only[tH,mM,bne,gW,Bool.not_eq_false',vp,↓reduceIte,reduceCtorEq,an]; done)
end
def lP{C:eO}{f:Nat}{args args':List ag}{M B:aL}{ids:List Nat}{r r':ag}{B' M':aL}(h1:args.all ag.flat=true)(h2:reach M (args.flatMap ag.ids)=ids)(h3:kh M (iH ids) ids=some B)(h4:lX M ids=ids)
  (h5:args.map (ag.ry (iH ids))=args') (h:C f args' B=some (r,B')) (h6:B'.length=B.length) (h7:r.wJ=true) (h8:B'.all cD.flat=true) (h9:r.BI (xk ids)=r') (h10:mF ids M ids B'=M'):aM C f args M=some (r',M'):=by
 unfold aM;rw[az h1,h2,h3];simp only[cd];rw[az h4,h5,h];simp only[cd];rw[az ⟨h6,h7,h8⟩,h9,h10]
def Zk(ae:List Node)(next ai at' own au:Int):kh (oG ae next ai at' own au) (iH [0,1,2,3,4]) [0,1,2,3,4]=some (oG ae next ai at' own au):=rfl
def ahV(ae:List Node)(next ai at' own au:Int):kh [cm [a8 ae,aG next,aG ai],cm [cL 0],cm [aG au],cm [aG at'],cm [aG own]] (iH [1,3,4,2,0]) [1,3,4,2,0]=some (oG ae next ai at' own au):=rfl
section
attribute [local irreducible] fS fp kH gK dv kr aq aM cv bJ
def alH(ae:List Node)(next ai at' own au:Int)(n:Node)(h:nM ae)(hn:ae.length<=99999) :
  aM (aq c9) 257 [.agg (aV n),cL 0,cL 1,cL 2,cL 3] (oG ae next ai at' own au)=some (.bool (tH ae at' own au n),oG ae next ai at' own au) :=
 lP (ids:=[0,1,2,3,4]) rfl rfl (Zk ..) rfl rfl (akF ae next ai at' own au n h hn) rfl rfl rfl rfl rfl
def HK(p:Node->Bool):List Node->Nat->Int
 | [],_ => -1
 |n::r,i=>if p n then i else HK p r (i+1)
def LS(p:Node->Bool):∀(l:List Node)(i:Nat),decide ((0:Int)<=HK p l i)=l.any p
 | [],i=>by simp[HK]
 |n::r,i=>by
  unfold HK;cases h:p n with
  |true=>simp[h]
  |false=>simp only[af,aw,LS p r (i+1),List.any_cons,h,dg]
def WH{ae:List Node}{next ai at' own au:Int}(h:nM ae)(hn:ae.length<=99999){k:List K}{R:Int->Option (ag×aL)}
  (hx:∀e,kr (aq c9) [.tmp 4] 5 k ⟨.exit 0,e,oG ae next ai at' own au⟩=R (-1)) (hr:∀(i:Nat),kr (aq c9) [.tmp 4] 5 k ⟨.ret,[(4,aG i)],oG ae next ai at' own au⟩=R i) :
  ∀(l pre:List Node),ae=pre++l->fS (aq c9) [.tmp 4] 5 k (.loop [0,1,7,8] Wh) [(0,a8 ae),(1,.func 257 [cL 0,cL 1,cL 2,cL 3]),(7,aG ae.length),(8,aG pre.length)] (oG ae next ai at' own au)=R (HK (tH ae at' own au) l pre.length):=by
 intro l;induction l with
 |nil =>
  intro pre h;rw[bZ];simp only[Jm,oy h,EN,seval];exact hx _
 |cons n r ih =>
  intro pre hp;rw[bZ];have eY:pre.length+1<=100000:=by rw[hp] at hn; simp at hn; omega
  have hw:=GI pre n;have hi:=ih (pre++[n]) (by rw[hp]; simp)
  have hk:=alH ae next ai at' own au n h hn
  simp only[aK,av,aH,aQ,oG] at hi;simp only[oG] at hk;rw[HK];simp only[Jm,oG,mR hp,ji hp,hk,tkN,shN,EN,seval];refine bL (fun hb=>?_) (fun hb=>?_)
  ·simp only[Jm,hb,EN,seval];exact hr _
  ·simp only[Jm,hb,hw,af,EN,seval];exact hi
def akJ(ae:List Node)(next ai at' own au:Int)(h:nM ae)(hn:ae.length<=99999):aq c9 278 [a8 ae,.func 257 [cL 0,cL 1,cL 2,cL 3]] (oG ae next ai at' own au) =
  some (aG (HK (tH ae at' own au) ae 0),oG ae next ai at' own au):=by
 refine aJ ?_;simp only[Y4,Jm,EN,seval];exact WH (R:=fun z=>some (aG z,oG ae next ai at' own au)) h hn (fun e=>by simp only[Jm,oG,EN,seval]) (fun i=>by simp only[Jm,oG,EN,seval]) ae [] rfl
def alJ(ae:List Node)(next ai at' own au:Int)(h:nM ae)(hn:ae.length<=99999):aM (aq c9) 278 [a8 ae,.func 257 [cL 0,cL 1,cL 2,cL 3]] (oG ae next ai at' own au) =
  some (aG (HK (tH ae at' own au) ae 0),oG ae next ai at' own au) :=
 lP (ids:=[0,1,2,3,4]) rfl rfl (Zk ..) rfl rfl (akJ ae next ai at' own au h hn) rfl rfl rfl rfl rfl
def akE(ae:List Node)(next ai at' own au:Int)(h:nM ae)(hn:ae.length<=99999):aq c9 256 [a8 ae,.func 257 [cL 0,cL 1,cL 2,cL 3]] (oG ae next ai at' own au) =
  some (.bool (ae.any (tH ae at' own au)),oG ae next ai at' own au):=by
 refine aJ ?_;have hk:=alJ ae next ai at' own au h hn
 simp only[oG] at hk;simp only[Y0,ai4,oG,hk,LS,EN,seval]
def alG(ae:List Node)(next ai at' own au:Int)(h:nM ae)(hn:ae.length<=99999) :
  aM (aq c9) 256 [a8 ae,.func 257 [cL 1,cL 3,cL 4,cL 2]] [cm [a8 ae,aG next,aG ai],cm [cL 0],cm [aG au],cm [aG at'],cm [aG own]] =
  some (.bool (ae.any (tH ae at' own au)),[cm [a8 ae,aG next,aG ai],cm [cL 0],cm [aG au],cm [aG at'],cm [aG own]]) :=
 lP (ids:=[1,3,4,2,0]) rfl rfl (ahV ..) rfl rfl (akE ae next ai at' own au h hn) rfl rfl rfl rfl rfl
def Ho(ae:List Node)(au at':Int):Bool:=ae.any (tH ae at' (sf ae au) au)
def akv(ae:List Node)(next ai au at':Int)(h:nM ae)(hn:ae.length<=99999):aq c9 231 [cL 0,aG au,aG at'] [cm [a8 ae,aG next,aG ai]] =
  some (.bool (Ho ae au at'),[cm [a8 ae,aG next,aG ai]]):=by
 refine aJ ?_;have hk:∀M,aM (aq c9) 248 [cL 0,aG au] (cm [a8 ae,aG next,aG ai]::M)=some (aG (sf ae au),cm [a8 ae,aG next,aG ai]::M):=fun M=>ahi ae next ai au h (by omega) 0 (cm [a8 ae,aG next,aG ai]::M) rfl
 have hd:=alG ae next ai at' (sf ae au) au h hn
 unfold Ho;simp only[YT,aiY,hk,hd,EN,seval]
def alB ae next ai au at' h hn p M hM:=cM (p:=p) (M:=M) hM (akv ae next ai au at' h hn)
def wI(l:List eD)(s:Bytes):eb (fH l s) s=none:=by
 unfold eb fH;rw[eG];intro e he;have:=(eo.1 he).2;simpa using this
def rO{l:List eD}{s r:Bytes}(h:eb l r=none):eb (fH l s) r=none:=by
 unfold eb fH at *;rw[eG] at *;exact fun e he=>h e (eo.1 he).1
def iW{ae:List Node}(h:nM ae){dir:Int}{s:Bytes}{d:Node}(hf:find ae dir=some d)(i:Int):find (dx ae dir s) i=if i=dir then some { d with aN:=fH d.aN s } else find ae i:=by
 have hd:=(cj hf).2;unfold dx;rw[hf];simp only[bA];rw[gP h,show({ d with aN:=fH d.aN s }:Node).au=dir from hd]
def GF{ae:List Node}(h:nM ae)(n:Node):nM (j7 ae n):=by
 unfold j7;split
 ·exact ti h _
 ·exact nK h _
def DM{ae:List Node}(h:nM ae)(n:Node){i:Int}(hi:i≠n.au):find (j7 ae n) i=find ae i:=by
 unfold j7;split
 ·rw[rZ h,ak hi]
 ·rw[gP h,ak hi]
def Sz.j7{b:Nat}{t:Tree}(h:Sz b t){n:Node}(h1:n.aN.length<=b+1)(h2:n.data.length<=100000)(next ai:Int):Sz (b+1) ⟨j7 t.ae n,next,ai⟩:=by
 unfold Go.Proofs.YtcbopkblmebjiaaGreatDoor.j7;split
 ·exact(h.zH _ next ai).up (by omega)
 ·exact h.with (n:={ n with dp:=mM (n.dp-1) }) h1 h2 next ai
def xZ(t:Tree)(dir:Int)(s:Bytes)(to:Int)(nm:Bytes)(au:Int)(x y:Node)(there:Bool):Tree :=
 gN ⟨if x.kind==2 then eM (if there then j7 (dx (dx t.ae dir s) to nm) y else dx t.ae dir s) { x with up:=to }
  else if there then j7 (dx (dx t.ae dir s) to nm) y else dx t.ae dir s,t.next,t.ai⟩ to nm au
set_option maxHeartbeats 1000000 in
def ads(ae:List Node)(next ai dir:Int)(s:Bytes)(to:Int)(nm:Bytes)(au:Int)(x y:Node)(there:Bool)(v5 v140:ag)(B0 Bd:cD)(yr:List ag)(hyr:there=true->AValiZq y.au::yr=aV y)(hz:Sz 1000 ⟨ae,next,ai⟩)(hr:wm ⟨ae,next,ai⟩){dd dt:Node}(hdir:find ae dir=some dd)(hto:find ae to=some dt)
  (hth:there=false->eb dt.aN nm=none) (hx:(x.kind==2)=true->x.au≠to) (hy:there=true->y.au≠to) (hx1:x.aN.length<=1000) (hx2:x.data.length<=100000) (hy1:y.aN.length<=1000) (hy2:y.data.length<=100000) :
  fS (aq c9) [.fG 10 3,.tmp 11,.tmp 12] 0 [] Mu [(1,aG dir),(2,.str s),(3,aG to),(4,.str nm),(5,v5),(10,cL 1),(13,aG au),(15,cL 2),(17,cL 4),(19,cL 5),(21,.bool there),(140,v140)]
   [B0,.cells zT,cm [a8 ae,aG next,aG ai],Bd,cm (aV x),cm (aG y.au::yr)]=some (.tuple [bK (xZ ⟨ae,next,ai⟩ dir s to nm au x y there),aG y.au,aG 0],[]):=by
 have hasc:nM ae:=hr.jx;have n1:=hz.left dir s next ai
 have a1:nM (dx ae dir s):=(hr.left dir s next ai).jx
 have e1:oX dd.aN:=hr.aN dd (cj hdir).1;have e2:oX dt.aN:=hr.aN dt (cj hto).1;have l1:dd.aN.length<=1000:=hz.aN dd (cj hdir).1;have l2:dt.aN.length<=1000:=hz.aN dt (cj hto).1
 obtain⟨d1,f1,g1,m1,q1⟩:∃d1,find (dx ae dir s) to=some d1/\oX d1.aN/\d1.aN.length<=1000/\(eb dt.aN nm=none->eb d1.aN nm=none):=by
  rw[iW hasc hdir];split
  ·rename_i he;subst he;rw[hdir] at hto; cases hto;exact⟨_,rfl,uQ e1 s,bj (z8 _ _) l1,rO⟩
  ·exact⟨dt,hto,e2,l2,id⟩
 have hv1:=fun a b M=>abb ae next ai dir s hasc (hz.small (by omega)).ae hdir e1 (by omega) 2 (a::b :: cm [a8 ae,aG next,aG ai]::M) rfl
 have fin:∀(n3:List Node)(d3:Node),nM n3->Sz 1003 ⟨n3,next,ai⟩->find n3 to=some d3->oX d3.aN->d3.aN.length<=1000->eb d3.aN nm=none ->
   (∀a b M,aM (aq c9) 224 [cL 2,aG to,.str nm,aG au] (a::b :: cm [a8 n3,aG next,aG ai]::M)=some (.tuple [],a::b :: cm (bd (gN ⟨n3,next,ai⟩ to nm au))::M)) /\
   ((x.kind==2)=true->(∀a b M,aM (aq c9) 223 [cL 2,.agg [aG x.au,aG x.kind,aG x.dp,jt x.data,ij x.aN,aG to]] (a::b :: cm [a8 n3,aG next,aG ai]::M) =
     some (.tuple [],a::b :: cm [a8 (eM n3 { x with up:=to }),aG next,aG ai]::M)) /\
    ∀a b M,aM (aq c9) 224 [cL 2,aG to,.str nm,aG au] (a::b :: cm [a8 (eM n3 { x with up:=to }),aG next,aG ai]::M)=some (.tuple [],a::b :: cm (bd (gN ⟨eM n3 { x with up:=to },next,ai⟩ to nm au))::M)):=by
  intro n3 d3 b1 b2 b3 b4 b5 b6;have h0:n3≠[]:=by rintro rfl; simp[find] at b3
  refine⟨fun a b M=>VK n3 next ai to nm au b1 (b2.small (by omega)).ae b3 b4 (by omega) b6 2 (a::b :: cm [a8 n3,aG next,aG ai]::M) rfl,fun hk=>⟨fun a b M=>NS n3 next ai x.au x.kind x.dp x.data x.aN to b1 h0 (b2.small (by omega)).ae 2 (a::b :: cm [a8 n3,aG next,aG ai]::M) rfl,fun a b M=>?_⟩⟩
  have b7:Sz 1004 ⟨eM n3 { x with up:=to },next,ai⟩:=b2.with (n:={ x with up:=to }) (bj hx1 (by omega)) hx2 next ai
  have b8:find (eM n3 { x with up:=to }) to=some d3:=by rw[gP b1,ak (fun he=>hx hk he.symm)]; exact b3
  exact VK (eM n3 { x with up:=to }) next ai to nm au (nK b1 _) (b7.small (by omega)).ae b8 b4 (by omega) b6 2 (a::b :: cm [a8 (eM n3 { x with up:=to }),aG next,aG ai]::M) rfl
 cases hth':there with
 |false =>
  obtain⟨w1,w2⟩:=fin (dx ae dir s) d1 a1 (n1.up (by omega)) f1 g1 m1 (q1 (hth hth'))
  cases hkx:(x.kind==2) with
  |false =>
   simp only[yb,hv1,zT,aV,hkx,w1,bd,EN,seval];simp only[xZ,hkx,bK,bd,vp,↓reduceIte,reduceCtorEq,an]
  |true =>
   obtain⟨w3,w4⟩:=w2 hkx;simp only[yb,hv1,zT,aV,hkx,w3,w4,bd,EN,seval];simp only[xZ,hkx,bK,bd,vp,↓reduceIte,reduceCtorEq,an]
 |true =>
  have hyr':yr=[aG y.kind,aG y.dp,jt y.data,ij y.aN,aG y.up]:=by have:=hyr hth'; simpa[aV] using this
  subst hyr';have a2:nM (dx (dx ae dir s) to nm):=(wm.left (t:=⟨dx ae dir s,next,ai⟩) (hr.left dir s next ai) to nm next ai).jx
  have n2:=n1.left to nm next ai
  have f2:find (dx (dx ae dir s) to nm) to=some { d1 with aN:=fH d1.aN nm }:=by rw[iW a1 f1,az rfl]
  have hv2:=fun a b M=>abb (dx ae dir s) next ai to nm a1 (n1.small (by omega)).ae f1 g1 (by omega) 2 (a::b :: cm [a8 (dx ae dir s),aG next,aG ai]::M) rfl
  have hu:=fun a b M=>ahe (dx (dx ae dir s) to nm) next ai y.au y.kind y.dp y.data y.aN y.up a2 (H8 a1 f1) (n2.small (by omega)).ae 2 (a::b :: cm [a8 (dx (dx ae dir s) to nm),aG next,aG ai]::M) rfl
  have f3:find (j7 (dx (dx ae dir s) to nm) y) to=some { d1 with aN:=fH d1.aN nm }:=by rw[DM a2 y (fun he=>hy hth' he.symm)]; exact f2
  obtain⟨w1,w2⟩:=fin (j7 (dx (dx ae dir s) to nm) y) { d1 with aN:=fH d1.aN nm } (GF a2 y) (n2.j7 (bj hy1 (by omega)) hy2 next ai) f3 (uQ g1 nm) (bj (z8 _ _) m1) (wI _ _)
  cases hkx:(x.kind==2) with
  |false =>
   simp only[yb,hv1,hv2,hu,zT,aV,hkx,w1,bd,EN,seval];simp only[xZ,hkx,bK,bd,vp,↓reduceIte,reduceCtorEq,an]
  |true =>
   obtain⟨w3,w4⟩:=w2 hkx;simp only[yb,hv1,hv2,hu,zT,aV,hkx,w3,w4,bd,EN,seval];simp only[xZ,hkx,bK,bd,vp,↓reduceIte,reduceCtorEq,an]
def lz(ae:List Node)(l:List eD)(s:Bytes):Node:=match eb l s with
 |none=>Node.zero
 |some e=>bE ae e.au
def C6(t:Tree)(dir to:Int)(aN:List eD)(there:Bool)(kind au:Int):Bool :=
 ((!there&&to != dir)&&decide ((64:Int)<=aN.length))||(decide ((12:Int)<(rX t.ae to).length)||((kind==2&&Ho t.ae au (rX t.ae to).length)||decide ((1099511627776:Int)<=t.ai)))
def Mg(t:Tree)(dir:Int)(s:Bytes)(to:Int)(nm:Bytes):Tree×Int×Int :=
 if (dV t.ae dir s).2 != 0 then (t,0,(dV t.ae dir s).2) else
 if (gA t.ae to).2 != 0 then (t,0,(gA t.ae to).2) else
 if !dE nm then (t,0,60) else
 if (lz t.ae (gA t.ae to).1.aN nm).au==(dV t.ae dir s).1 then (t,0,0) else
 if (bE t.ae (dV t.ae dir s).1).kind==2&&(rX t.ae to).contains (dV t.ae dir s).1 then (t,0,75) else
 if (eb (gA t.ae to).1.aN nm).isSome&&zp (bE t.ae (dV t.ae dir s).1) (lz t.ae (gA t.ae to).1.aN nm) != 0 then (t,0,zp (bE t.ae (dV t.ae dir s).1) (lz t.ae (gA t.ae to).1.aN nm)) else
 if C6 t dir to (gA t.ae to).1.aN (eb (gA t.ae to).1.aN nm).isSome (bE t.ae (dV t.ae dir s).1).kind (dV t.ae dir s).1 then (t,0,76) else
 (xZ t dir s to nm (dV t.ae dir s).1 (bE t.ae (dV t.ae dir s).1) (lz t.ae (gA t.ae to).1.aN nm) (eb (gA t.ae to).1.aN nm).isSome,(lz t.ae (gA t.ae to).1.aN nm).au,0)
def ahg(a b c:Int)(d:Bytes)(e:List eD)(u:Int)(a' b' c':Int)(d':Bytes)(e':List eD)(u':Int)(M:aL):aM (aq c9) 230 [.agg [aG a,aG b,aG c,jt d,ij e,aG u],.agg [aG a',aG b',aG c',jt d',ij e',aG u']] M=some (aG (zp ⟨a,b,c,d,e,u⟩ ⟨a',b',c',d',e',u'⟩),M) :=
 cO (aku ⟨a,b,c,d,e,u⟩ ⟨a',b',c',d',e',u'⟩) M
def Ur(ae:List Node)(to:Int):(rX ae to).contains to=true:=by
 have key:∀(m:Nat)(au:Int)(out:List Int),out.contains to=true->(rB ae m au out).contains to=true:=by
  intro m;induction m with
  |zero=>intro au out h; exact h
  |succ m ih =>
   intro au out h;rw[rB];split
   ·split
    ·exact h
    ·exact ih _ _ (by simp at h ⊢; exact .inl h)
   ·exact h
 exact key _ _ _ (by simp)
def Te{ae:List Node}{i:Int}(h:(bE ae i).kind=2):(bE ae i).au=i:=by
 cases hf:find ae i with
 |none=>simp[bE,hf,Node.zero] at h
 |some n=>simp[bE,hf]; exact(cj hf).2
set_option maxHeartbeats 4000000 in
def aj9(t:Tree)(dir:Int)(s:Bytes)(to:Int)(nm:Bytes)(hz:Sz 1000 t)(hr:wm t)(hs:s.length<=100000)(ha:oD s)(hs':nm.length<=100000)(ha':oD nm)
  (LR:∀e,eb (gA t.ae to).1.aN nm=some e->(bE t.ae e.au).au≠to) :
  aq c9 176 [bK t,aG dir,.str s,aG to,.str nm] []=some (.tuple [bK (Mg t dir s to nm).1,aG (Mg t dir s to nm).2.1,aG (Mg t dir s to nm).2.2],[]):=by
 obtain⟨Q,hQ⟩:∃Q,Mu=Q:=⟨_,rfl⟩;obtain⟨ae,next,ai⟩:=t
 have ht:Small ⟨ae,next,ai⟩:=hz.small (by omega)
 have hn:ae.length<=100000:=ht.ae;have hasc:nM ae:=hr.jx;have hl:=fun M=>VH ae next ai dir s ht hr hs ha M
 have hg:=fun i b c M=>Gb ae next ai i hasc hn 2 (b::c :: cm [a8 ae,aG next,aG ai]::M) rfl
 have hd:=fun b c M=>VJ ae next ai to hasc hn 2 (b::c :: cm [a8 ae,aG next,aG ai]::M) rfl
 have hup:=fun b c M=>VI ae next ai to hasc hn 2 (b::c :: cm [a8 ae,aG next,aG ai]::M) rfl
 have hul:=sv ae to;have hn1:ae.length<=1000:=hz.ae;have hc:=fun x M=>ahf (rX ae to) x (by omega) M
 have hdp:=fun i a b c M=>alB ae next ai i a hasc (by omega) 2 (b::c :: cm [a8 ae,aG next,aG ai]::M) rfl
 have hE:oX (gA ae to).1.aN:=hr.dir to;have hde:(gA ae to).1.aN.length<=100000:=tq ht to;have hen:=fun a b c d u M=>QG a b c d (gA ae to).1.aN u nm _ (sa hE nm) hde M
 refine aJ ?_;simp only[YA,yb,hQ,bK,bd,hl,EN,seval];refine bL (fun hb0=>?_) (fun hb0=>?_)
 ·simp only[yb,hQ,hb0,EN,seval];clear hl hg hd hup hc hdp hen LR;simp_all only[Mg,bK,bd,vp,↓reduceIte,reduceCtorEq,an]
 simp only[yb,hQ,hb0,hd,cn,aV,EN,seval];refine bL (fun hb1=>?_) (fun hb1=>?_)
 ·simp only[yb,hQ,hb1,EN,seval];clear hl hg hd hup hc hdp hen LR;simp_all only[Mg,bK,bd,vp,↓reduceIte,reduceCtorEq,an]
 simp only[yb,hQ,hb1,VE,hs',ha',EN,seval];refine bL (fun hb2=>?_) (fun hb2=>?_)
 ·simp only[yb,hQ,hb2,EN,seval];clear hl hg hd hup hc hdp hen LR;simp_all only[Mg,bK,bd,vp,↓reduceIte,reduceCtorEq,an]
 simp only[yb,hQ,hb2,hg,hen,cn,aV,EN,seval];obtain⟨dd,de,e1,e2,e3,e4,e5⟩:=look_ok hb0;obtain⟨dt,g1,g2,g3⟩:=yn (show(gA ae to).2=0 by simpa using hb1)
 have hx0:=hz.find (dV ae dir s).1;have tail:=fun there y yr hyr hth hy hy1 hy2 v5 v140 B0 Bd hxx=>ads ae next ai dir s to nm (dV ae dir s).1 (bE ae (dV ae dir s).1) y there v5 v140 B0 Bd yr hyr hz hr e1 g1 hth hxx hy hx0.1 hx0.2 hy1 hy2
 have hxne:((bE ae (dV ae dir s).1).kind==2)=true->(rX ae to).contains (dV ae dir s).1=false->(bE ae (dV ae dir s).1).au≠to:=fun h1 h2 h3=>by
  rw[Te (by simpa using h1)] at h3
  rw[h3,Ur] at h2; cases h2
 have hdte:dt.aN=(gA ae to).1.aN:=by rw[g3]
 rcases wy hE nm with ⟨h1,o,h2,h3,h4⟩|⟨h1,h2⟩
 ·have hnu:lz ae (gA ae to).1.aN nm=bE ae o.au:=by simp[lz,h3]
  have hy0:=hz.find o.au;have tl:=tail true (bE ae o.au) _ (fun _=>rfl) (by simp) (fun _=>LR o h3) hy0.1 hy0.2
  simp only[aV,zT] at tl;simp only[yb,hQ,h1,h2,hg,cn,aV,ew,EN,seval]
  repeat' ((first|apply bL|apply cK|apply eZ)<;>intro hb<;>simp only[hb,EN,yb,hQ,hup,hc,hdp,ahg,seval])
  all_goals try (clear hl hg hd hup hc hdp hen LR tail tl hxne e5 g3; simp_all only[Mg,C6,bK,bd,df,vp,↓reduceIte,reduceCtorEq,an]; done)
  all_goals
   subst hQ;refine(tl _ _ _ _ (fun hk=>by first|exact hxne hk (by assumption)|(exfalso; simp_all; done))).trans ?_
   have hmv:Mg ⟨ae,next,ai⟩ dir s to nm=(xZ ⟨ae,next,ai⟩ dir s to nm (dV ae dir s).1 (bE ae (dV ae dir s).1) (bE ae o.au) true,(bE ae o.au).au,0):=by
    clear hl hg hd hup hc hdp hen LR tail tl hxne e5 g3;simp_all only[Mg,C6,df,vp,↓reduceIte,reduceCtorEq,an]
   rw[hmv];rfl
 ·have hnu:lz ae (gA ae to).1.aN nm=Node.zero:=by simp[lz,h2]
  have tl:=tail false Node.zero [aG 0,aG 0,.slice .c0 [],.slice .c0 [],aG 0] (by simp) (fun _=>by rw[hdte]; exact h2) (by simp) (by simp[Node.zero]) (by simp[Node.zero])
  have hz0:Node.zero.au=0:=rfl;simp only[aV,zT,hz0] at tl;simp only[yb,hQ,h1,EN,seval]
  repeat' ((first|apply bL|apply cK|apply eZ)<;>intro hb<;>simp only[hb,EN,yb,hQ,hup,hc,hdp,ahg,seval])
  all_goals try (clear hl hg hd hup hc hdp hen LR tail tl hxne e5 g3; simp_all only[Mg,C6,bK,bd,iZ,vp,↓reduceIte,reduceCtorEq,an]; done)
  all_goals
   subst hQ;refine(tl _ _ _ _ (fun hk=>by first|exact hxne hk (by assumption)|(exfalso; simp_all; done))).trans ?_
   have hmv:Mg ⟨ae,next,ai⟩ dir s to nm=(xZ ⟨ae,next,ai⟩ dir s to nm (dV ae dir s).1 (bE ae (dV ae dir s).1) Node.zero false,0,0):=by
    clear hl hg hd hup hc hdp hen LR tail tl hxne e5 g3;simp_all only[Mg,C6,iZ,vp,↓reduceIte,reduceCtorEq,an]
   rw[hmv];rfl
end
def nb(l:List eD)(i:Int):Nat:=l.countP fun e=>e.au==i
def qR(ns:List Node)(i:Int):Nat:=(ns.map fun n=>nb n.aN i).sum
def uM(i:Int):nb [] i=0:=rfl
def zb(a b:List eD)(i:Int):nb (a++b) i=nb a i+nb b i:=List.countP_append
def rL(e:eD)(l:List eD)(i:Int):nb (e::l) i=nb l i+(if e.au=i then 1 else 0):=by simp[nb,List.countP_cons]
def xp(a b:List Node)(i:Int):qR (a++b) i=qR a i+qR b i:=by simp[qR]
def qY(n:Node)(l:List Node)(i:Int):qR (n::l) i=nb n.aN i+qR l i:=by simp[qR]
def uN{ns:List Node}(h:nM ns)(n:Node)(i:Int):qR (eM ns n) i+nb (bE ns n.au).aN i=qR ns i+nb n.aN i:=by
 rcases rY h n.au with ⟨_,o,h2,h3,h4⟩|⟨_,h2⟩
 ·rw[tC h h2 h4];obtain⟨s1,s2⟩:=xH (n:=n) h2
  have e1:qR ns i=qR (ns.take (k8 ns n.au)) i+(nb o.aN i+qR (ns.drop (k8 ns n.au+1)) i):=by
   rw[<-qY,<-xp,<-s1]
  rw[s2,xp,qY,e1];simp only[bE,h3,bA];omega
 ·rw[xK h h2]
  have e1:qR ns i=qR (ns.take (k8 ns n.au)) i+qR (ns.drop (k8 ns n.au)) i:=by
   rw[<-xp,cF]
  rw[xp,qY,e1];simp only[bE,h2,nh,Node.zero,uM];omega
def zc{ns:List Node}(h:nM ns)(k i:Int):qR (iT ns k) i+nb (bE ns k).aN i=qR ns i:=by
 rcases rY h k with ⟨_,o,h2,h3,h4⟩|⟨_,h2⟩
 ·rw[zI h h2 h4];obtain⟨s1,_⟩:=xH (n:=o) h2
  have e1:qR ns i=qR (ns.take (k8 ns k)) i+(nb o.aN i+qR (ns.drop (k8 ns k+1)) i):=by
   rw[<-qY,<-xp,<-s1]
  rw[xp,e1];simp only[bE,h3,bA];omega
 ·rw[x8 h2];simp only[bE,h2,nh,Node.zero,uM];omega
def Cq{l:List eD}{i:Int}:0<nb l i↔∃e,e∈l/\e.au=i:=by simp[nb,oe]
def qZ{i:Int}:∀ {ns:List Node},0<qR ns i↔∃n e,n∈ns/\e∈n.aN/\e.au=i
 | []=>by simp[qR]
 |n::ns=>by
  rw[qY];constructor
  ·intro h;rcases fE (nb n.aN i) with h0|h0
   ·obtain⟨m,e,h1,h2,h3⟩:=(qZ (i:=i) (ns:=ns)).1 (by omega)
    exact⟨m,e,aP _ h1,h2,h3⟩
   ·obtain⟨e,h1,h2⟩:=Cq.1 h0;exact⟨n,e,aD,h1,h2⟩
  ·rintro⟨m,e,h1,h2,h3⟩;rcases bc.1 h1 with rfl|h1
   ·have:=Cq.2 ⟨e,h2,h3⟩; omega
   ·have:=(qZ (i:=i) (ns:=ns)).2 ⟨m,e,h1,h2,h3⟩; omega
def wS{l:List eD}(h:oX l){e:eD}(hf:eb l e.name=none){x:eD}:x∈sV l e↔x=e\/x∈l:=by
 rw[uV h hf];have:x∈l↔x∈l.take (ly l e.name)\/x∈l.drop (ly l e.name):=by rw[<-bT,cF]
 rw[this,bT,bc];constructor
 ·rintro(h|h|h)
  ·exact .inr (.inl h)
  ·exact .inl h
  ·exact .inr (.inr h)
 ·rintro(h|h|h)
  ·exact .inr (.inl h)
  ·exact .inl h
  ·exact .inr (.inr h)
def Nh{l:List eD}(h:oX l){e:eD}(hf:eb l e.name=none)(i:Int):nb (sV l e) i=nb l i+(if e.au=i then 1 else 0):=by
 rw[uV h hf,zb,rL];have:nb l i=nb (l.take (ly l e.name)) i+nb (l.drop (ly l e.name)) i:=by rw[<-zb,cF]
 omega
def Av{l:List eD}{s:Bytes}{x:eD}:x∈fH l s↔x∈l/\x.name≠s:=by simp[fH,eo]
def KY{l:List eD}{b:Nat}{o:eD}(ho:l[b]?=some o):l=l.take b++o::l.drop (b+1):=by
 have cu:=(aC.1 ho).1;rw[aj cu] at ho; injection ho with ho
 conv=>lhs; rw[<-cF b l]
 rw[cC cu,ho]
def JO{l:List eD}(h:oX l){s:Bytes}{o:eD}(hf:eb l s=some o)(i:Int):nb (fH l s) i+(if o.au=i then 1 else 0)=nb l i:=by
 rcases wy h s with ⟨_,o',h2,h3,h4⟩|⟨_,h2⟩
 ·rw[hf] at h3; cases h3;rw[D6 h h2 h4]
  have e1:nb l i=nb (l.take (ly l s)) i+(nb (l.drop (ly l s+1)) i+(if o.au=i then 1 else 0)):=by
   rw[<-rL,<-zb,<-KY h2]
  rw[zb,e1];omega
 ·rw[hf] at h2; cases h2
def xx{ns:List Node}(h:nM ns){n o:Node}(hf:find ns n.au=some o):(eM ns n).length=ns.length:=by
 rcases rY h n.au with ⟨_,o,h2,h3,h4⟩|⟨_,h2⟩
 ·rw[tC h h2 h4,ei]
 ·rw[hf] at h2; cases h2
def Nm(s:Bytes):Prop:=dE s=true
structure cq(t:Tree)(cg:Int->Nat)(x:Int):Prop where
 jE:wm t
 root:∃r,find t.ae 1=some r/\r.kind=2/\r.up=1
 num:∀i n,find t.ae i=some n->1<=i/\i<t.next
 kind:∀i n,find t.ae i=some n->n.kind=1\/n.kind=2
 file:∀i n,find t.ae i=some n->n.kind=1->n.aN=[]/\n.up=0/\n.data.length<=4096
 dir:∀i n,find t.ae i=some n->n.kind=2->n.data=[]
 wF:∀i n e,find t.ae i=some n->e∈n.aN->1<=e.ai/\e.ai<t.ai/\e.au≠1/\Nm e.name/\∃m,find t.ae e.au=some m/\(m.kind=2->m.up=i)
 xN:∀i n,find t.ae i=some n->(n.aN.Pairwise fun a b=>a.ai≠b.ai)/\n.aN.length<=64
 dp:∀i n,find t.ae i=some n->n.dp=(qR t.ae i:Int)+(if i=x then 1 else 0)
 one:∀i n,find t.ae i=some n->n.kind=2->i≠1->n.dp=1
 zd:cg 1=0
 sH:∀i n,find t.ae i=some n->n.kind=2->i≠1->cg i=cg n.up+1/\∃p,find t.ae n.up=some p/\p.kind=2
 deep:∀i n,find t.ae i=some n->n.kind=2->cg i<=12/\(cg i=12->n.aN=[])
 ae:t.ae.length<=200
 next:t.next<=1099511627776
 ai:1<=t.ai/\t.ai<=1099511627776
def cq.au{t:Tree}{cg:Int->Nat}{x:Int}(_:cq t cg x){i:Int}{n:Node}(hf:find t.ae i=some n):n.au=i:=(cj hf).2
theorem cq.gy{t t':Tree}{cg:Int->Nat}{x x' d:Int}{n n':Node}(h:cq t cg x)(hs:wm t')(hd:find t.ae d=some n)
  (hf:∀i,find t'.ae i=if i=d then some n' else find t.ae i) (hk:n'.kind=n.kind) (hu:n'.up=n.up)
  (hfile:n.kind=1->n'.aN=[]/\n'.data.length<=4096) (hdir:n.kind=2->n'.data=[])
  (hent:∀e,e∈n'.aN->1<=e.ai/\e.ai<t'.ai/\e.au≠1/\Nm e.name/\∃m,find t.ae e.au=some m/\(m.kind=2->m.up=d))
  (hcook:(n'.aN.Pairwise fun a b=>a.ai≠b.ai)/\n'.aN.length<=64)
  (hc:∀i,1<=i->(qR t'.ae i:Int)+(if i=x' then 1 else 0)=qR t.ae i+(if i=x then 1 else 0)+(if i=d then n'.dp-n.dp else 0))
  (h1:n.kind=2->n'.dp=n.dp) (hdeep:cg d=12->n'.aN=[]) (hn:t'.ae.length<=200) (hnx:t'.next=t.next) (hck:t.ai<=t'.ai) (hck':t'.ai<=1099511627776):cq t' cg x':=by
 have ri:∀j m,find t.ae j=some m->∃m',find t'.ae j=some m'/\m'.kind=m.kind/\m'.up=m.up:=by
  intro j m hm;rw[hf];split
  ·rename_i he;subst he;rw[hd] at hm; cases hm;exact⟨n',rfl,hk,hu⟩
  ·exact⟨m,hm,rfl,rfl⟩
 have back:∀j m',find t'.ae j=some m'->(j=d/\m'=n')\/(j≠d/\find t.ae j=some m'):=by
  intro j m' hm;rw[hf] at hm;split at hm
  ·rename_i he; injection hm with hm; exact .inl ⟨he,hm.symm⟩
  ·rename_i he; exact .inr ⟨he,hm⟩
 refine⟨hs,?_,?_,?_,?_,?_,?_,?_,?_,?_,h.zd,?_,?_,hn,by rw[hnx]; exact h.next,⟨by have:=h.ai.1; omega,hck'⟩⟩
 ·obtain⟨r,h1,h2,h3⟩:=h.root;obtain⟨r',k1,k2,k3⟩:=ri _ _ h1;exact⟨r',k1,by omega,by omega⟩
 ·intro i m hm;rw[hnx];rcases back i m hm with ⟨rfl,rfl⟩|⟨_,hm⟩
  ·exact h.num _ _ hd
  ·exact h.num _ _ hm
 ·intro i m hm;rcases back i m hm with ⟨rfl,rfl⟩|⟨_,hm⟩
  ·rw[hk]; exact h.kind _ _ hd
  ·exact h.kind _ _ hm
 ·intro i m hm hk1;rcases back i m hm with ⟨rfl,rfl⟩|⟨_,hm⟩
  ·rw[hk] at hk1;exact⟨(hfile hk1).1,by rw[hu]; exact(h.file _ _ hd hk1).2.1,(hfile hk1).2⟩
  ·exact h.file _ _ hm hk1
 ·intro i m hm hk1;rcases back i m hm with ⟨rfl,rfl⟩|⟨_,hm⟩
  ·rw[hk] at hk1;exact hdir hk1
  ·exact h.dir _ _ hm hk1
 ·intro i m e hm he
  have key:∀m,find t.ae e.au=some m/\(m.kind=2->m.up=i)->∃m,find t'.ae e.au=some m/\(m.kind=2->m.up=i):=by
   rintro m ⟨k1,k2⟩;obtain⟨m',j1,j2,j3⟩:=ri _ _ k1;exact⟨m',j1,fun hk=>by rw[j3]; exact k2 (by omega)⟩
  rcases back i m hm with ⟨rfl,rfl⟩|⟨_,hm⟩
  ·obtain⟨a1,a2,a3,a4,k,a5⟩:=hent e he;exact⟨a1,a2,a3,a4,key k a5⟩
  ·obtain⟨a1,a2,a3,a4,k,a5⟩:=h.wF _ _ e hm he;exact⟨a1,by omega,a3,a4,key k a5⟩
 ·intro i m hm;rcases back i m hm with ⟨rfl,rfl⟩|⟨_,hm⟩
  ·exact hcook
  ·exact h.xN _ _ hm
 ·intro i m hm;rcases back i m hm with ⟨rfl,rfl⟩|⟨hne,hm⟩
  ·have:=hc i (h.num _ _ hd).1;have:=h.dp _ _ hd;simp only[↓reduceIte] at *;omega
  ·have:=hc i (h.num _ _ hm).1;have:=h.dp _ _ hm;simp only[hne,↓reduceIte] at *;omega
 ·intro i m hm hk1 hi;rcases back i m hm with ⟨rfl,rfl⟩|⟨_,hm⟩
  ·rw[hk] at hk1;rw[h1 hk1]; exact h.one _ _ hd hk1 hi
  ·exact h.one _ _ hm hk1 hi
 ·intro i m hm hk1 hi;rcases back i m hm with ⟨rfl,rfl⟩|⟨_,hm⟩
  ·rw[hk] at hk1;obtain⟨a,p,b,c⟩:=h.sH _ _ hd hk1 hi;obtain⟨p',k1,k2,_⟩:=ri _ _ b;rw[hu]; exact⟨a,p',k1,by omega⟩
  ·obtain⟨a,p,b,c⟩:=h.sH _ _ hm hk1 hi;obtain⟨p',k1,k2,_⟩:=ri _ _ b;exact⟨a,p',k1,by omega⟩
 ·intro i m hm hk1;rcases back i m hm with ⟨rfl,rfl⟩|⟨_,hm⟩
  ·rw[hk] at hk1;exact⟨(h.deep _ _ hd hk1).1,hdeep⟩
  ·exact h.deep _ _ hm hk1
def cq.left{t:Tree}{cg:Int->Nat}{d:Int}{n:Node}{s:Bytes}{e:eD}(h:cq t cg 0)(hd:find t.ae d=some n)(he:eb n.aN s=some e):cq ⟨dx t.ae d s,t.next,t.ai⟩ cg e.au:=by
 have hE:oX n.aN:=h.jE.aN n (cj hd).1;have hi:n.au=d:=h.au hd;have hem:=eB he;have hw:dx t.ae d s=eM t.ae { n with aN:=fH n.aN s }:=by simp[dx,hd]
 have hc:∀i,qR (dx t.ae d s) i+(if e.au=i then 1 else 0)=qR t.ae i:=by
  intro i;have h1:=uN h.jE.jx { n with aN:=fH n.aN s } i
  have h2:=JO hE he i;rw[hw];have h3:bE t.ae n.au=n:=by simp only[bE,hi,hd,bA]
  simp only[h3] at h1;omega
 refine h.gy (h.jE.left d s t.next t.ai) hd (iW h.jE.jx hd) rfl rfl ?_ ?_ ?_ ?_ ?_ (fun _=>rfl) ?_ ?_ rfl (fJ _) h.ai.2
 ·intro hk;obtain⟨h1,_,h3⟩:=h.file _ _ hd hk;exact⟨by simp[h1,fH],h3⟩
 ·exact h.dir _ _ hd
 ·intro x hx;exact h.wF _ _ x hd (Av.1 hx).1
 ·exact⟨nv _ (h.xN _ _ hd).1,bj (fg _ _) (h.xN _ _ hd).2⟩
 ·intro i h0;have h1:=hc i;rw[ak (show i≠0 by omega)]
  have e1:(if i=d then (n.dp-n.dp:Int) else 0)=0:=by split<;>omega
  simp only[e1]
  by_cases h0:i=e.au
  ·subst h0;simp only[↓reduceIte] at h1 ⊢;omega
  ·rw[ak (fun hh=>h0 hh.symm)] at h1
   rw[ak h0];omega
 ·intro h12;have:=(h.deep _ _ hd ?_).2 h12
  ·simp[this,fH]
  ·rcases h.kind _ _ hd with hk|hk
   ·have:=(h.file _ _ hd hk).1;rw[this] at hem; cases hem.1
   ·exact hk
 ·show(dx t.ae d s).length<=200
  rw[hw,xx h.jE.jx (o:=n) (by simp only[hi]; exact hd)]
  exact h.ae
def cq.re{t:Tree}{cg:Int->Nat}{x d:Int}{n m:Node}{s:Bytes}(h:cq t cg x)(hd:find t.ae d=some n)(hk:n.kind=2)(he:eb n.aN s=none)(h64:n.aN.length<64)(hnm:Nm s)
  (hx:find t.ae x=some m) (hx1:x≠1) (hup:m.kind=2->m.up=d) (hdp:cg d<12) (hck:t.ai<1099511627776):cq (gN t d s x) cg 0:=by
 have hE:oX n.aN:=h.jE.aN n (cj hd).1;have hi:n.au=d:=h.au hd;have hcw:mM (t.ai+1)=t.ai+1:=gD (by have:=h.ai; omega) (by omega)
 have hw:gN t d s x=⟨eM t.ae { n with aN:=sV n.aN ⟨s,x,t.ai⟩ },t.next,t.ai+1⟩:=by simp only[gN,hd,bA,hcw]
 have hfn:eb n.aN (eD.mk s x t.ai).name=none:=he
 have hc:∀i,qR (gN t d s x).ae i=qR t.ae i+(if x=i then 1 else 0):=by
  intro i;have h1:=uN h.jE.jx { n with aN:=sV n.aN ⟨s,x,t.ai⟩ } i
  have h2:=Nh hE hfn i;rw[hw];have h3:bE t.ae n.au=n:=by simp only[bE,hi,hd,bA]
  simp only[h3] at h1 h2 ⊢;omega
 have hff:∀i,find (gN t d s x).ae i=if i=d then some { n with aN:=sV n.aN ⟨s,x,t.ai⟩ } else find t.ae i:=by
  intro i;rw[hw];have:=gP h.jE.jx { n with aN:=sV n.aN ⟨s,x,t.ai⟩ } i
  rw[this];simp only[hi]
 refine h.gy (h.jE.re d s x (by simp[bE,hd,he])) hd hff rfl rfl ?_ ?_ ?_ ?_ ?_ (fun _=>rfl) ?_ ?_ ?_ ?_ ?_
 ·intro hk1; omega
 ·exact h.dir _ _ hd
 ·intro e hem;rw[hw];rcases(wS hE hfn).1 hem with rfl|hem
  ·exact⟨h.ai.1,by simp only; omega,hx1,hnm,m,hx,hup⟩
  ·obtain⟨a1,a2,a3,a4,a5⟩:=h.wF _ _ e hd hem;exact⟨a1,by simp only; omega,a3,a4,a5⟩
 ·refine⟨?_,by simp only[uV hE hfn,aK,av,gi,iU]; omega⟩
  rw[uV hE hfn];have hp:=(h.xN _ _ hd).1;rw[<-cF (ly n.aN s) n.aN,dz] at hp;obtain⟨p1,p2,p3⟩:=hp;rw[dz];refine⟨p1,bG.2 ⟨fun a ha=>?_,p2⟩,fun a ha c hc=>?_⟩
  ·have:=(h.wF _ _ a hd (dy ha)).2.1;simp only; omega
  ·rcases bc.1 hc with rfl|hc
   ·have:=(h.wF _ _ a hd (dn ha)).2.1;simp only; omega
   ·exact p3 a ha c hc
 ·intro i h0;have h1:=hc i;rw[ak (show i≠0 by omega)]
  have e1:(if i=d then (n.dp-n.dp:Int) else 0)=0:=by split<;>omega
  simp only[e1]
  by_cases h0:i=x
  ·subst h0;simp only[↓reduceIte] at h1 ⊢;omega
  ·rw[ak (fun hh=>h0 hh.symm)] at h1
   rw[ak h0];omega
 ·intro h12; omega
 ·rw[hw];simp only;rw[xx h.jE.jx (o:=n) (by simp only[hi]; exact hd)]
  exact h.ae
 ·rw[hw]
 ·rw[hw]; simp only; omega
 ·rw[hw]; simp only; omega
def cq.XU{t:Tree}{cg:Int->Nat}{x x' d:Int}{n n':Node}(h:cq t cg x)(hd:find t.ae d=some n)(hk:n.kind=1)(hi':n'.au=d)(hk':n'.kind=1)(hu:n'.up=n.up)(he:n'.aN=n.aN)(hda:n'.data.length<=4096)
  (hx:∀i:Int,1<=i->(if i=x' then 1 else 0:Int)=(if i=x then 1 else 0)+(if i=d then n'.dp-n.dp else 0)):cq ⟨eM t.ae n',t.next,t.ai⟩ cg x':=by
 have hi:n.au=d:=h.au hd;have hE:oX n'.aN:=by rw[he]; exact h.jE.aN n (cj hd).1
 have hff:∀i,find (eM t.ae n') i=if i=d then some n' else find t.ae i:=by
  intro i;rw[gP h.jE.jx n' i,hi']
 obtain⟨f1,f2,f3⟩:=h.file _ _ hd hk;refine h.gy (h.jE.with hE t.next t.ai) hd hff (by omega) hu ?_ ?_ ?_ ?_ ?_ ?_ ?_ ?_ rfl (fJ _) h.ai.2
 ·intro _; exact⟨by rw[he]; exact f1,hda⟩
 ·intro h2; omega
 ·intro e hem; rw[he,f1] at hem; cases hem
 ·rw[he,f1]; exact⟨List.Pairwise.nil,by simp⟩
 ·intro i h0;have h1:=uN h.jE.jx n' i;have h2:=hx i h0;simp only[bE,hi',hd,bA,he] at h1;simp only;omega
 ·intro h2; omega
 ·intro _; rw[he,f1]
 ·simp only;rw[xx h.jE.jx (o:=n) (by simp only[hi']; exact hd)]
  exact h.ae
def cq.named{t:Tree}{cg:Int->Nat}{x:Int}(h:cq t cg x){i:Int}{n:Node}(hi:find t.ae i=some n)(hk:n.kind=2)(h1:i≠1)(hx:i≠x):∃p e,find t.ae n.up=some p/\p.kind=2/\e∈p.aN/\e.au=i:=by
 have a:=h.dp _ _ hi;have b:=h.one _ _ hi hk h1;rw[ak hx] at a;obtain⟨m,e,e1,e2,e3⟩:=qZ.1 (show 0<qR t.ae i by omega)
 have hm:find t.ae m.au=some m:=(fy h.jE.jx).2 ⟨e1,rfl⟩;obtain⟨_,_,_,_,k,k1,k2⟩:=h.wF _ _ e hm e2;rw[e3,hi] at k1; cases k1;obtain⟨_,p,p1,p2⟩:=h.sH _ _ hi hk h1;rw[k2 hk] at p1 ⊢;rw[hm] at p1; cases p1;exact⟨m,e,hm,p2,e2,e3⟩
def cq.drop{t:Tree}{cg:Int->Nat}{x k:Int}{n:Node}(h:cq t cg x)(hx:x=k\/x=0)(hk:find t.ae k=some n)(he:n.aN=[])(h1:k≠1)(hc:qR t.ae k=0):cq ⟨iT t.ae k,t.next,t.ai⟩ cg 0:=by
 have hff:∀i m,find (iT t.ae k) i=some m↔i≠k/\find t.ae i=some m:=by
  intro i m;rw[rZ h.jE.jx];split<;>simp_all
 have hcn:∀i,qR (iT t.ae k) i=qR t.ae i:=by
  intro i;have:=zc h.jE.jx k i;simp only[bE,hk,bA,he,uM] at this;omega
 have hno:∀i m e,find t.ae i=some m->e∈m.aN->e.au≠k:=by
  intro i m e hm hem hh;have:=qZ.2 ⟨m,e,(cj hm).1,hem,hh⟩;omega
 refine⟨h.jE.zH k t.next t.ai,?_,?_,?_,?_,?_,?_,?_,?_,?_,h.zd,?_,?_,?_,h.next,h.ai⟩
 ·obtain⟨r,r1,r2⟩:=h.root;exact⟨r,(hff _ _).2 ⟨fun hh=>h1 hh.symm,r1⟩,r2⟩
 ·intro i m hm; exact h.num _ _ ((hff _ _).1 hm).2
 ·intro i m hm; exact h.kind _ _ ((hff _ _).1 hm).2
 ·intro i m hm; exact h.file _ _ ((hff _ _).1 hm).2
 ·intro i m hm; exact h.dir _ _ ((hff _ _).1 hm).2
 ·intro i m e hm hem;have hm':=((hff _ _).1 hm).2;obtain⟨a1,a2,a3,a4,q,a5,a6⟩:=h.wF _ _ e hm' hem;exact⟨a1,a2,a3,a4,q,(hff _ _).2 ⟨hno _ _ e hm' hem,a5⟩,a6⟩
 ·intro i m hm; exact h.xN _ _ ((hff _ _).1 hm).2
 ·intro i m hm;obtain⟨m1,m2⟩:=(hff _ _).1 hm;have:=h.dp _ _ m2;have h0:=(h.num _ _ m2).1;rw[ak (show i≠0 by omega)]
  rw[ak (by rcases hx with rfl|rfl<;>omega)] at this
  simp only[hcn];exact this
 ·intro i m hm; exact h.one _ _ ((hff _ _).1 hm).2
 ·intro i m hm hk2 hi1;obtain⟨m1,m2⟩:=(hff _ _).1 hm;obtain⟨a,p,b,c⟩:=h.sH _ _ m2 hk2 hi1;refine⟨a,p,(hff _ _).2 ⟨fun hh=>?_,b⟩,c⟩
  have h0:=(h.num _ _ m2).1;obtain⟨q,e,q1,_,q3,_⟩:=h.named m2 hk2 hi1 (by rcases hx with rfl|rfl<;>omega)
  rw[hh,hk] at q1; cases q1;rw[he] at q3; cases q3
 ·intro i m hm; exact h.deep _ _ ((hff _ _).1 hm).2
 ·exact bj (fg _ _) h.ae
def cq.ah7{t:Tree}{cg dep':Int->Nat}{x to:Int}{n p:Node}(h:cq t cg x)(hx:find t.ae x=some n)(hk:n.kind=2)(hx1:x≠1)(hp:find t.ae to=some p)(hpk:p.kind=2)
  (h1:dep' 1=0) (hds:∀i m,find t.ae i=some m->m.kind=2->i≠1->i≠x->dep' i=dep' m.up+1) (hdx:dep' x=dep' to+1)
  (hdeep:∀i m,find t.ae i=some m->m.kind=2->dep' i<=12/\(dep' i=12->m.aN=[])):cq ⟨eM t.ae { n with up:=to },t.next,t.ai⟩ dep' x:=by
 have hi:n.au=x:=h.au hx
 have hff:∀i,find (eM t.ae { n with up:=to }) i=if i=x then some { n with up:=to } else find t.ae i:=by
  intro i;rw[gP h.jE.jx { n with up:=to } i]
  simp only[hi]
 have ri:∀j m,find t.ae j=some m->∃m',find (eM t.ae { n with up:=to }) j=some m'/\m'.kind=m.kind/\(j≠x->m'.up=m.up):=by
  intro j m hm;rw[hff];split
  ·rename_i he;subst he;rw[hx] at hm; cases hm;exact⟨_,rfl,rfl,fun hh=>absurd rfl hh⟩
  ·exact⟨m,hm,rfl,fun _=>rfl⟩
 have back:∀j m',find (eM t.ae { n with up:=to }) j=some m'->(j=x/\m'={ n with up:=to })\/(j≠x/\find t.ae j=some m'):=by
  intro j m' hm;rw[hff] at hm;split at hm
  ·rename_i he; injection hm with hm; exact .inl ⟨he,hm.symm⟩
  ·rename_i he; exact .inr ⟨he,hm⟩
 have hcn:∀i,qR (eM t.ae { n with up:=to }) i=qR t.ae i:=by
  intro i;have:=uN h.jE.jx { n with up:=to } i
  have h3:bE t.ae n.au=n:=by simp only[bE,hi,hx,bA]
  simp only[h3] at this;omega
 have hc0:qR t.ae x=0:=by
  have a:=h.dp _ n hx;have b:=h.one _ n hx hk hx1;simp only[↓reduceIte] at a;omega
 have hno:∀i m e,find t.ae i=some m->e∈m.aN->e.au≠x:=by
  intro i m e hm hem hh;have:=qZ.2 ⟨m,e,(cj hm).1,hem,hh⟩;omega
 have hent:∀i m e,find t.ae i=some m->e∈m.aN->1<=e.ai/\e.ai<t.ai/\e.au≠1/\Nm e.name/\∃m,find (eM t.ae { n with up:=to }) e.au=some m/\(m.kind=2->m.up=i):=by
  intro i m e hm hem;obtain⟨a1,a2,a3,a4,q,a5,a6⟩:=h.wF _ _ e hm hem;obtain⟨q',j1,j2,j3⟩:=ri _ _ a5;exact⟨a1,a2,a3,a4,q',j1,fun hk=>by rw[j3 (hno _ _ e hm hem)]; exact a6 (by omega)⟩
 refine⟨h.jE.with (n:={ n with up:=to }) (h.jE.aN n (cj hx).1) t.next t.ai,?_,?_,?_,?_,?_,?_,?_,?_,?_,h1,?_,?_,?_,h.next,h.ai⟩
 ·obtain⟨r,r1,r2,r3⟩:=h.root;obtain⟨r',k1,k2,k3⟩:=ri _ _ r1;exact⟨r',k1,by omega,by rw[k3 (fun hh=>hx1 hh.symm)]; exact r3⟩
 ·intro i m hm;rcases back i m hm with ⟨rfl,rfl⟩|⟨_,hm⟩
  ·exact h.num _ n hx
  ·exact h.num _ _ hm
 ·intro i m hm;rcases back i m hm with ⟨rfl,rfl⟩|⟨_,hm⟩
  ·exact h.kind _ n hx
  ·exact h.kind _ _ hm
 ·intro i m hm hk1;rcases back i m hm with ⟨rfl,rfl⟩|⟨_,hm⟩
  ·simp only at hk1; omega
  ·exact h.file _ _ hm hk1
 ·intro i m hm hk1;rcases back i m hm with ⟨rfl,rfl⟩|⟨_,hm⟩
  ·exact h.dir _ n hx hk
  ·exact h.dir _ _ hm hk1
 ·intro i m e hm hem;rcases back i m hm with ⟨rfl,rfl⟩|⟨_,hm⟩
  ·exact hent _ n e hx hem
  ·exact hent _ _ e hm hem
 ·intro i m hm;rcases back i m hm with ⟨rfl,rfl⟩|⟨_,hm⟩
  ·exact h.xN _ n hx
  ·exact h.xN _ _ hm
 ·intro i m hm;simp only[hcn];rcases back i m hm with ⟨rfl,rfl⟩|⟨_,hm⟩
  ·exact h.dp _ n hx
  ·exact h.dp _ _ hm
 ·intro i m hm hk1 hi1;rcases back i m hm with ⟨rfl,rfl⟩|⟨_,hm⟩
  ·exact h.one _ n hx hk hi1
  ·exact h.one _ _ hm hk1 hi1
 ·intro i m hm hk1 hi1;rcases back i m hm with ⟨rfl,rfl⟩|⟨hne,hm⟩
  ·obtain⟨p',k1,k2,_⟩:=ri _ _ hp;exact⟨hdx,p',k1,by omega⟩
  ·obtain⟨_,q,b,c⟩:=h.sH _ _ hm hk1 hi1;obtain⟨q',k1,k2,_⟩:=ri _ _ b;exact⟨hds _ _ hm hk1 hi1 hne,q',k1,by omega⟩
 ·intro i m hm hk1;rcases back i m hm with ⟨rfl,rfl⟩|⟨_,hm⟩
  ·exact hdeep _ n hx hk
  ·exact hdeep _ _ hm hk1
 ·simp only;rw[xx h.jE.jx (o:=n) (by simp only[hi]; exact hx)]
  exact h.ae
def cq.made{t:Tree}{cg:Int->Nat}{d kind:Int}{p:Node}(h:cq t cg 0)(hp:find t.ae d=some p)(hpk:p.kind=2)(hk:kind=1\/kind=2)(hdp:cg d<12)(hl:t.ae.length<200)(hn:t.next<1099511627776) :
  cq ⟨eM t.ae ⟨t.next,kind,1,[],[],if kind==2 then d else 0⟩,t.next+1,t.ai⟩ (fun i=>if i=t.next then cg d+1 else cg i) t.next:=by
 have iv:find t.ae t.next=none:=by
  cases hz:find t.ae t.next with
  |none=>rfl
  |some m=>have:=h.num _ _ hz; omega
 have hnx:2<=t.next:=by
  obtain⟨r,r1,_⟩:=h.root;have:=(h.num _ _ r1).2; omega
 generalize hn':Node.mk t.next kind 1 [] [] (if kind==2 then d else 0)=n'
 have i1:n'.au=t.next:=by rw[<-hn']
 have i2:n'.kind=kind:=by rw[<-hn']
 have i3:n'.dp=1:=by rw[<-hn']
 have i4:n'.data=[]:=by rw[<-hn']
 have i5:n'.aN=[]:=by rw[<-hn']
 have i6:n'.up=if kind==2 then d else 0:=by rw[<-hn']
 have hff:∀i,find (eM t.ae n') i=if i=t.next then some n' else find t.ae i:=by
  intro i;rw[gP h.jE.jx n' i,i1]
 have ri:∀j m,find t.ae j=some m->find (eM t.ae n') j=some m/\j≠t.next:=by
  intro j m hm;have:=(h.num _ _ hm).2;rw[hff,ak (by omega)]
  exact⟨hm,by omega⟩
 have back:∀j m',find (eM t.ae n') j=some m'->(j=t.next/\m'=n')\/(j≠t.next/\find t.ae j=some m'):=by
  intro j m' hm;rw[hff] at hm;split at hm
  ·rename_i he; injection hm with hm; exact .inl ⟨he,hm.symm⟩
  ·rename_i he; exact .inr ⟨he,hm⟩
 have hcn:∀i,qR (eM t.ae n') i=qR t.ae i:=by
  intro i;have:=uN h.jE.jx n' i;simp only[bE,i1,iv,nh,Node.zero,i5,uM] at this;omega
 have hc0:qR t.ae t.next=0:=by
  rcases fE (qR t.ae t.next) with h0|h0
  ·exact h0
  ·obtain⟨m,e,e1,e2,e3⟩:=qZ.1 h0;obtain⟨_,_,_,_,k,k1,_⟩:=h.wF _ _ e ((fy h.jE.jx).2 ⟨e1,rfl⟩) e2;rw[e3,iv] at k1; cases k1
 refine⟨h.jE.with (n:=n') (by rw[i5]; exact List.Pairwise.nil) _ _,?_,?_,?_,?_,?_,?_,?_,?_,?_,?_,?_,?_,?_,?_,h.ai⟩
 ·obtain⟨r,r1,r2⟩:=h.root;exact⟨r,(ri _ _ r1).1,r2⟩
 ·intro i m hm;simp only;rcases back i m hm with ⟨rfl,rfl⟩|⟨_,hm⟩
  ·omega
  ·have:=h.num _ _ hm; omega
 ·intro i m hm;rcases back i m hm with ⟨rfl,rfl⟩|⟨_,hm⟩
  ·rw[i2]; exact hk
  ·exact h.kind _ _ hm
 ·intro i m hm hk1;rcases back i m hm with ⟨rfl,rfl⟩|⟨_,hm⟩
  ·rw[i2] at hk1;exact⟨i5,by rw[i6,hk1]; rfl,by rw[i4]; simp⟩
  ·exact h.file _ _ hm hk1
 ·intro i m hm hk1;rcases back i m hm with ⟨rfl,rfl⟩|⟨_,hm⟩
  ·exact i4
  ·exact h.dir _ _ hm hk1
 ·intro i m e hm hem;rcases back i m hm with ⟨rfl,rfl⟩|⟨_,hm⟩
  ·rw[i5] at hem; cases hem
  ·obtain⟨a1,a2,a3,a4,q,a5,a6⟩:=h.wF _ _ e hm hem;exact⟨a1,a2,a3,a4,q,(ri _ _ a5).1,a6⟩
 ·intro i m hm;rcases back i m hm with ⟨rfl,rfl⟩|⟨_,hm⟩
  ·rw[i5]; exact⟨List.Pairwise.nil,by simp⟩
  ·exact h.xN _ _ hm
 ·intro i m hm;simp only[hcn];rcases back i m hm with ⟨rfl,rfl⟩|⟨hne,hm⟩
  ·rw[hc0,i3]; simp
  ·rw[ak hne];have:=h.dp _ _ hm;rw[ak (by have:=(h.num _ _ hm).1; omega)] at this
   exact this
 ·intro i m hm hk1 hi1;rcases back i m hm with ⟨rfl,rfl⟩|⟨_,hm⟩
  ·exact i3
  ·exact h.one _ _ hm hk1 hi1
 ·show(if (1:Int)=t.next then cg d+1 else cg 1)=0
  rw[ak (by omega)]; exact h.zd
 ·intro i m hm hk1 hi1
  show(if i=t.next then cg d+1 else cg i)=(if m.up=t.next then cg d+1 else cg m.up)+1/\_
  rcases back i m hm with ⟨rfl,rfl⟩|⟨hne,hm⟩
  ·rw[i2] at hk1;have hu:m.up=d:=by rw[i6,hk1]; rfl
   rw[hu,az rfl,ak (ri _ _ hp).2];exact⟨rfl,p,(ri _ _ hp).1,hpk⟩
  ·obtain⟨a,q,b,c⟩:=h.sH _ _ hm hk1 hi1;rw[ak hne,ak (ri _ _ b).2];exact⟨a,q,(ri _ _ b).1,c⟩
 ·intro i m hm hk1
  show(if i=t.next then cg d+1 else cg i)<=12/\((if i=t.next then cg d+1 else cg i)=12->_)
  rcases back i m hm with ⟨rfl,rfl⟩|⟨hne,hm⟩
  ·rw[az rfl]; exact⟨by omega,fun _=>i5⟩
  ·rw[ak hne]; exact h.deep _ _ hm hk1
 ·have:=Fw t.ae n';simp only; omega
 ·simp only; omega
def cover:∀(k:Nat)(l:List Nat),(∀j,j<k->j∈l)->k<=l.length
 |0,_,_=>cA _
 |k+1,l,h=>by
  have hk:=h k (by omega)
  have:=cover k (l.erase k) (fun j hj=>(List.mem_erase_of_ne (by omega)).2 (h j (by omega)))
  rw[List.length_erase_of_mem hk] at this;have:=List.length_pos_of_mem hk;omega
def cq.aii{t:Tree}{cg:Int->Nat}{x:Int}(h:cq t cg x):∀(m:Nat)(i:Int)(n:Node),find t.ae i=some n->n.kind=2->cg i=m->∀k,k<=m->∃j p,find t.ae j=some p/\cg j=k:=by
 intro m;induction m with
 |zero=>intro i n hi _ hm k hk; exact⟨i,n,hi,by omega⟩
 |succ m ih =>
  intro i n hi hk2 hm k hk;rcases Nat.eq_or_lt_of_le hk with rfl|cu
  ·exact⟨i,n,hi,hm⟩
  ·have h1:i≠1:=fun hh=>by subst hh; have:=h.zd; omega
   obtain⟨a,p,b,c⟩:=h.sH _ _ hi hk2 h1;exact ih _ p b c (by omega) k (by omega)
def cq.ym{t:Tree}{cg:Int->Nat}{x:Int}(h:cq t cg x){i:Int}{n:Node}(hi:find t.ae i=some n)(hk:n.kind=2):cg i<t.ae.length:=by
 have:=cover (cg i+1) (t.ae.map fun n=>cg n.au) (fun j hj=>by
  obtain⟨a,p,h1,h2⟩:=h.aii _ _ _ hi hk rfl j (by omega)
  rw[bS];exact⟨p,(cj h1).1,by rw[(cj h1).2,h2]⟩)
 rw[aI] at this;omega
def cq.JT{t:Tree}{cg:Int->Nat}{x:Int}(h:cq t cg x):∀(m:Nat)(i:Int)(d:Nat)(n:Node),find t.ae i=some n->n.kind=2->cg i<=m->vy t.ae m i d=d+cg i:=by
 intro m;induction m with
 |zero=>intro i d n _ _ hd; simp only[vy]; omega
 |succ m ih =>
  intro i d n hi hk hd;simp only[vy];split
  ·rename_i h1; subst h1; have:=h.zd; omega
  ·rename_i h1;obtain⟨a,p,b,c⟩:=h.sH _ _ hi hk h1;have hu:OI t.ae i=n.up:=by simp[OI,hi]
   rw[hu,ih _ _ p b c (by omega)]
   omega
def cq.pH{t:Tree}{cg:Int->Nat}{x:Int}(h:cq t cg x){i:Int}{n:Node}(hi:find t.ae i=some n)(hk:n.kind=2):po t.ae i=cg i:=by
 have:=h.JT 201 i 0 n hi hk (by have:=(h.deep _ _ hi hk).1; omega)
 simp only[po,this]; omega
def cq.xI{t:Tree}{cg:Int->Nat}{x:Int}(h:cq t cg x):∀(m:Nat)(i:Int)(out:List Int)(n:Node),find t.ae i=some n->n.kind=2->cg i<=m->(rB t.ae m i out).length=out.length+cg i:=by
 intro m;induction m with
 |zero=>intro i out n _ _ hd; simp only[rB]; omega
 |succ m ih =>
  intro i out n hi hk hd;simp only[rB]
  by_cases h1:i=1
  ·subst h1; have:=h.zd; simp; omega
  ·obtain⟨a,p,b,c⟩:=h.sH _ _ hi hk h1;simp only[gj,ne_eq,h1,mj,↓reduceIte,bE,hi,df,cX,bA,hk,an,dI,af];rw[ih _ _ p b c (by omega)]
   simp only[aK,av,aH];omega
def cq.sv{t:Tree}{cg:Int->Nat}{x:Int}(h:cq t cg x){i:Int}{n:Node}(hi:find t.ae i=some n)(hk:n.kind=2):(rX t.ae i).length=cg i+1:=by
 have:=h.xI t.ae.length i [i] n hi hk (by have:=h.ym hi hk; omega)
 simp only[rX,this,av,aH]; omega
def cq.Uo{t:Tree}{cg:Int->Nat}{x:Int}(_:cq t cg x){i:Int}{n:Node}(hi:find t.ae i=some n):OI t.ae i=n.up:=by simp[OI,hi]
def cq.Cm{t:Tree}{cg:Int->Nat}{x:Int}(h:cq t cg x)(of:Int):∀(m:Nat)(i:Int)(n:Node),find t.ae i=some n->n.kind=2->cg i<m->mn t.ae of m i=mn t.ae of (cg i+1) i:=by
 intro m;induction m with
 |zero=>intro i n _ _ hd; omega
 |succ m ih =>
  intro i n hi hk hd
  by_cases h1:i=1
  ·subst h1; simp only[mn]; split<;>rfl
  ·obtain⟨a,p,b,c⟩:=h.sH _ _ hi hk h1;simp only[mn,h1,↓reduceIte,h.Uo hi];rw[ih _ p b c (by omega),a]
def cq.rG{t:Tree}(i:Int):iV t.ae i i=true:=by simp[iV,mn]
def cq.yg{t:Tree}{of:Int}(h1:of≠1):iV t.ae 1 of=false:=by
 simp only[iV,mn];rw[ak (fun hh=>h1 hh.symm)]
 rfl
def cq.yY{t:Tree}{cg:Int->Nat}{x:Int}(h:cq t cg x){of i:Int}{n:Node}(hi:find t.ae i=some n)(hk:n.kind=2)(h1:i≠1)(ho:i≠of):iV t.ae i of=iV t.ae n.up of:=by
 obtain⟨a,p,b,c⟩:=h.sH _ _ hi hk h1;have d1:=h.ym b c;have d2:=h.ym hi hk;simp only[iV];rw[h.Cm of _ _ p b c (by omega)]
 rw[h.Cm of _ _ n hi hk (by omega)]
 conv=>lhs; rw[mn]
 simp only[ho,h1,↓reduceIte,h.Uo hi];rw[a]
def cq.zU{t:Tree}{cg:Int->Nat}{x:Int}(h:cq t cg x){of:Int}:∀(m:Nat)(i:Int)(n:Node),find t.ae i=some n->n.kind=2->cg i=m->iV t.ae i of=true->cg of<=cg i:=by
 intro m;induction m with
 |zero =>
  intro i n hi hk hm hb
  by_cases h1:i=1
  ·by_cases h2:of=1
   ·subst h1; subst h2; exact ar _
   ·subst h1; rw[cq.yg h2] at hb; cases hb
  ·obtain⟨a,_⟩:=h.sH _ _ hi hk h1;omega
 |succ m ih =>
  intro i n hi hk hm hb;have h1:i≠1:=fun hh=>by subst hh; have:=h.zd; omega
  obtain⟨a,p,b,c⟩:=h.sH _ _ hi hk h1
  by_cases ho:i=of
  ·subst ho; exact ar _
  ·rw[h.yY hi hk h1 ho] at hb;have:=ih _ p b c (by omega) hb
   omega
def tW{α:Type}[DecidableEq α]:∀(l k:List α),l.Nodup->(∀x,x∈l->x∈k)->l.length<=k.length
 | [],_,_,_=>cA _
 |a::l,k,h,hs=>by
  have ha:=hs a aD;obtain⟨h1,h2⟩:=gZ.1 h;have:=tW l (k.erase a) h2 (fun x hx=>(List.mem_erase_of_ne (by rintro rfl; exact h1 hx)).2 (hs x (aP _ hx)))
  rw[List.length_erase_of_mem ha] at this;have:=List.length_pos_of_mem ha;simp only[av];omega
def cq.few{t:Tree}{cg:Int->Nat}{x:Int}(h:cq t cg x){i:Int}{n:Node}(hi:find t.ae i=some n):n.aN.length<=64:=(h.xN _ _ hi).2
def PC(i:Int):∀(ns:List Node),(∀n,n∈ns->n.aN.length<=64)->qR ns i<=64*ns.length
 | [],_=>cA _
 |n::ns,h=>by
  have h1:=PC i ns (fun m hm=>h m (aP _ hm))
  have h2:nb n.aN i<=n.aN.length:=ki;have h3:=h n aD;rw[qY,av];omega
def cq.JP{t:Tree}{cg:Int->Nat}{x:Int}(h:cq t cg x)(i:Int):qR t.ae i<=12800:=by
 have:=PC i t.ae (fun n hn=>h.few ((fy h.jE.jx).2 ⟨hn,rfl⟩))
 have:=h.ae;omega
def cq.vA{t:Tree}{cg:Int->Nat}{x:Int}(h:cq t cg x){i:Int}{n:Node}(hi:find t.ae i=some n){e:eD}(he:e∈n.aN):e.au≠i:=by
 intro hh;obtain⟨_,_,h1,_,m,hm,hu⟩:=h.wF _ _ e hi he;rw[hh,hi] at hm; cases hm
 have hk:n.kind=2:=by
  rcases h.kind _ _ hi with hk|hk
  ·rw[(h.file _ _ hi hk).1] at he; cases he
  ·exact hk
 have:=(h.sH _ _ hi hk (by omega)).1
 rw[hu hk] at this;omega
def CA{t:Tree}{au:Int}{s:Bytes}(h:(mw t au s != 0)=false):∃d,find t.ae au=some d/\d.kind=2/\dE s=true/\eb d.aN s=none/\d.aN.length<64/\po t.ae au<12/\t.ai<1099511627776:=by
 have h0:mw t au s=0:=by simpa using h
 unfold mw at h0;split at h0
 ·rename_i h1; exact absurd h0 h1
 ·rename_i h1;obtain⟨d,d1,d2,d3⟩:=yn (show(gA t.ae au).2=0 by omega)
  rw[d3] at h0;split at h0
  ·cases h0
  ·rename_i h2;split at h0
   ·cases h0
   ·rename_i h3;split at h0
    ·cases h0
    ·rename_i h4;simp only[CN,(cj d1).2,cN,bu,kL] at h4;refine⟨d,d1,d2,by simpa using h2,by simpa using h3,by omega,by omega,by omega⟩
def cq.cw{t:Tree}{cg:Int->Nat}{x:Int}(h:cq t cg x)(hn:t.next<1099511627776):mM (t.next+1)=t.next+1:=gD (by
 obtain⟨r,r1,_⟩:=h.root;have:=h.num _ _ r1; omega) (by omega)
def Cb{t:Tree}{cg:Int->Nat}(h:cq t cg 0)(au:Int)(s:Bytes)(kind:Int)(hs:dE s=true->Nm s):∃dep',cq (nu t au s kind).1 dep' 0:=by
 unfold nu;split
 ·exact⟨cg,h⟩
 ·rename_i hk;split
  ·exact⟨cg,h⟩
  ·rename_i he;split
   ·exact⟨cg,h⟩
   ·rename_i hb;obtain⟨d,d1,d2,d3,d4,d5,d6,d7⟩:=CA (by simpa using he)
    simp only[cN,bu,kL] at hb;have hn:t.next<1099511627776:=by omega
    rw[h.pH d1 d2] at d6
    have hk':kind=1\/kind=2:=by
     simp only[bn,gj,ne_eq,not_and,mg] at hk
     by_cases h1:kind=1
     ·exact .inl h1
     ·exact .inr (hk h1)
    have hm:=h.made d1 d2 hk' d6 (by omega) hn
    rw[h.cw hn];have cu:=(h.num _ _ d1).2;have hne:au≠t.next:=by omega
    refine⟨_,hm.re (d:=au) (n:=d) (m:=⟨t.next,kind,1,[],[],if kind==2 then au else 0⟩) ?_ d2 d4 (by simpa using d5) (hs d3) ?_ ?_ ?_ ?_ d7⟩
    ·simp only; rw[gP h.jE.jx]; simp only[hne,↓reduceIte]; exact d1
    ·simp only; rw[gP h.jE.jx]; simp only[↓reduceIte]
    ·have:=(h.num _ _ d1).1; omega
    ·intro h2;simp only at h2;simp[h2]
    ·simp only[hne,↓reduceIte]; exact d6
def L4{t:Tree}{cg:Int->Nat}(h:cq t cg 0)(au to:Int)(s:Bytes)(hs:dE s=true->Nm s):cq (BG t au to s).1 cg 0:=by
 unfold BG;split
 ·exact h
 ·rename_i hf;split
  ·exact h
  ·rename_i hk;split
   ·exact h
   ·rename_i he;obtain⟨d,d1,d2,d3,d4,d5,d6,d7⟩:=CA (by simpa using he)
    rw[h.pH d1 d2] at d6;cases hi:find t.ae au with
    |none=>simp[hi] at hf
    |some n =>
     simp only[bE,hi,bA] at hk ⊢
     have hk1:n.kind=1:=by
      rcases h.kind _ _ hi with h1|h1
      ·exact h1
      ·simp[h1] at hk
     have hlk:=h.dp _ _ hi;rw[ak (by have:=(h.num _ _ hi).1; omega)] at hlk
     have hcl:=h.JP au;have hw:mM (n.dp+1)=n.dp+1:=gD (by omega) (by omega)
     rw[hw];obtain⟨f1,f2,f3⟩:=h.file _ _ hi hk1
     have hg:=h.XU (n':={ n with dp:=n.dp+1 }) (x':=au) hi hk1 (cj hi).2 hk1 rfl rfl f3 (fun i h0=>by
      simp only;rw[ak (show i≠0 by omega)]
      split<;>omega)
     have hne:to≠au:=fun hh=>by subst hh; rw[hi] at d1; cases d1; omega
     refine hg.re (d:=to) (n:=d) (m:={ n with dp:=n.dp+1 }) ?_ d2 d4 (by simpa using d5) (hs d3) ?_ ?_ ?_ d6 d7
     ·simp only; rw[gP h.jE.jx]; simp only[h.au hi,hne,↓reduceIte]; exact d1
     ·simp only; rw[gP h.jE.jx]; simp only[h.au hi,↓reduceIte]
     ·intro hh; subst hh;obtain⟨r,r1,r2,_⟩:=h.root;rw[hi] at r1; cases r1; omega
     ·intro h2; simp only at h2; omega
def cq.unnamed{t:Tree}{cg:Int->Nat}{k:Int}{n:Node}(h:cq t cg k)(hk:find t.ae k=some n)(he:n.aN=[])(h1:k≠1):cq ⟨gm t.ae k,t.next,t.ai⟩ cg 0:=by
 unfold gm;simp only[bE,hk,bA];have hl:=h.dp _ _ hk;simp only[↓reduceIte] at hl;split
 ·rename_i h2;have:=h.one _ _ hk (by simpa using h2) h1
  exact h.drop (.inl rfl) hk he h1 (by omega)
 ·rename_i h2
  have hk1:n.kind=1:=by
   rcases h.kind _ _ hk with h1|h1
   ·exact h1
   ·simp[h1] at h2
  have hcl:=h.JP k;have hw:mM (n.dp-1)=n.dp-1:=gD (by omega) (by omega)
  rw[hw];obtain⟨f1,f2,f3⟩:=h.file _ _ hk hk1
  exact h.XU (n':={ n with dp:=n.dp-1 }) (x':=0) hk hk1 (cj hk).2 hk1 rfl rfl f3 (fun i h0=>by
   simp only;rw[ak (show i≠0 by omega)]
   split<;>omega)
def cq.un{t:Tree}{cg:Int->Nat}(h:cq t cg 0){d:Int}{n m:Node}{s:Bytes}{e:eD}(hd:find t.ae d=some n)(he:eb n.aN s=some e)(hm:find t.ae e.au=some m)(hm0:m.aN=[]):cq ⟨gm (dx t.ae d s) e.au,t.next,t.ai⟩ cg 0:=by
 have hem:=(eB he).1;have hl:=h.left hd he;refine hl.unnamed (n:=m) ?_ hm0 (h.wF _ _ e hd hem).2.2.1;simp only;rw[iW h.jE.jx hd,ak (h.vA hd hem)];exact hm
def GD{t:Tree}{cg:Int->Nat}(h:cq t cg 0)(au:Int)(s:Bytes):cq (vJ t au s).1 cg 0:=by
 unfold vJ;split
 ·exact h
 ·rename_i hl;obtain⟨d,e,d1,d2,d3,d4,d5⟩:=look_ok (by simpa using hl)
  rw[d5];split
  ·exact h
  ·rename_i h0;obtain⟨_,_,_,_,m,hm,_⟩:=h.wF _ _ e d1 (eB d4).1;simp only[bE,hm,bA,bu] at h0;exact h.un d1 d4 hm (ct.1 (by omega))
def Eg{t:Tree}{cg:Int->Nat}(h:cq t cg 0)(au:Int):cq (oT t au).1 cg 0:=by
 unfold oT;split
 ·exact h
 ·rename_i hf;split
  ·exact h
  ·rename_i hk;split
   ·exact h
   ·rename_i hd;cases hi:find t.ae au with
    |none=>simp[hi] at hf
    |some n =>
     simp only[bE,hi,bA] at hk hd
     have hk1:n.kind=1:=by
      rcases h.kind _ _ hi with h1|h1
      ·exact h1
      ·simp[h1] at hk
     simp only[bu] at hd;have hl:=h.dp _ _ hi;rw[ak (by have:=(h.num _ _ hi).1; omega)] at hl
     refine h.drop (.inr rfl) hi (h.file _ _ hi hk1).1 ?_ (by omega)
     intro hh; subst hh;obtain⟨r,r1,r2,_⟩:=h.root;rw[hi] at r1; cases r1; omega
def BN:∀ {a b:List Node},nM a->nM b->(∀m,m∈a↔m∈b)->a=b
 | [],[],_,_,_=>rfl
 | [],y::b,_,_,h=>by have:=(h y).2 aD; cases this
 |x::a,[],_,_,h=>by have:=(h x).1 aD; cases this
 |x::a,y::b,ha,hb,h=>by
  obtain⟨a1,a2⟩:=bG.1 ha;obtain⟨b1,b2⟩:=bG.1 hb
  have hxy:x=y:=by
   rcases bc.1 ((h x).1 aD) with h1|h1
   ·exact h1
   ·rcases bc.1 ((h y).2 aD) with h2|h2
    ·exact h2.symm
    ·have:=b1 x h1; have:=a1 y h2; omega
  subst hxy;rw[BN a2 b2 (fun m=>?_)]
  constructor
  ·intro hm;rcases bc.1 ((h m).1 (aP _ hm)) with h1|h1
   ·subst h1; have:=a1 m hm; omega
   ·exact h1
  ·intro hm;rcases bc.1 ((h m).2 (aP _ hm)) with h1|h1
   ·subst h1; have:=b1 m hm; omega
   ·exact h1
def P2{a b:List Node}(ha:nM a)(hb:nM b)(h:∀i,find a i=find b i):a=b :=
 BN ha hb fun m=>by
  constructor
  ·intro hm;have:=(fy ha).2 ⟨hm,rfl⟩;rw[h] at this;exact(cj this).1
  ·intro hm;have:=(fy hb).2 ⟨hm,rfl⟩;rw[<-h] at this;exact(cj this).1
def vK{ae:List Node}(h:nM ae)(k:Int):nM (gm ae k):=by
 unfold gm;split
 ·exact ti h _
 ·exact nK h _
def lx{ae:List Node}(h:nM ae)(k:Int)(s:Bytes):nM (dx ae k s):=nK h _
def xY(n:Node):Option Node:=if n.kind==2 then none else some { n with dp:=mM (n.dp-1) }
def pX{ae:List Node}(h:nM ae){k:Int}{n:Node}(hk:find ae k=some n)(i:Int):find (gm ae k) i=if i=k then xY n else find ae i:=by
 unfold gm xY;simp only[bE,hk,bA];split
 ·rw[rZ h]
 ·rw[gP h];simp only[(cj hk).2]
def JW(l:List eD)(a b:Bytes):fH (fH l a) b=fH (fH l b) a:=by
 simp only[fH,List.filter_filter];congr 1;funext e;rw[Bool.and_comm]
def Un{ae:List Node}(h:nM ae){f to y:Int}{s nm:Bytes}{dF dT m:Node}(hF:find ae f=some dF)(hT:find ae to=some dT)(hy:find ae y=some m)(h1:y≠f)(h2:y≠to) :
  gm (dx (dx ae f s) to nm) y=dx (gm (dx ae to nm) y) f s:=by
 have a1:=lx h f s;have a2:=lx h to nm;have a3:=lx a1 to nm;have a4:=vK a2 y;have f1:=iW h hF (s:=s);have f2:=iW h hT (s:=nm);have hy1:find (dx ae to nm) y=some m:=by rw[f2,ak h2]; exact hy
 have f4:=pX a2 hy1;obtain⟨dT',hT'⟩:∃dT',find (dx ae f s) to=some dT':=by rw[f1]; split<;>simp_all
 have f3:=iW a1 hT' (s:=nm);have hy3:find (dx (dx ae f s) to nm) y=some m:=by rw[f3,ak h2,f1,ak h1]; exact hy
 have f5:=pX a3 hy3;obtain⟨dF',hF'⟩:∃dF',find (gm (dx ae to nm) y) f=some dF':=by rw[f4,ak (fun hh=>h1 hh.symm),f2]; split<;>simp_all
 have f6:=iW a4 hF' (s:=s);refine P2 (vK a3 y) (lx a4 f s) (fun i=>?_)
 rw[f5,f6,f4,f3];rw[f1] at hT';rw[f4,ak (fun hh=>h1 hh.symm),f2] at hF'
 by_cases i1:i=y
 ·subst i1; simp[h1]
 ·simp only[i1,↓reduceIte]
  by_cases i2:i=to
  ·subst i2;simp only[↓reduceIte]
   by_cases i3:i=f
   ·subst i3;simp only[↓reduceIte] at hT' hF' ⊢;injection hT' with hT'; injection hF' with hF'
    rw[<-hT',<-hF'];rw[hF] at hT; cases hT;simp only[JW]
   ·simp only[i3,↓reduceIte] at hT' ⊢;rw[f2]; simp only[↓reduceIte];rw[hT] at hT'; injection hT' with hT'; rw[hT']
  ·simp only[i2,↓reduceIte];rw[f1,f2]
   by_cases i3:i=f
   ·subst i3;simp only[↓reduceIte,i2] at hF' ⊢;rw[hF] at hF'; injection hF' with hF'; rw[hF']
   ·simp only[i3,i2,↓reduceIte]
def Hq{l:List eD}{s:Bytes}{e:eD}(h:eb l s=some e):(fH l s).length<l.length:=by
 obtain⟨h1,h2⟩:=eB h;refine Nat.lt_of_le_of_ne (fg _ _) fun hh=>?_
 have:=List.length_filter_eq_length_iff.1 hh e h1;simp[h2] at this
def cq.Zc{t:Tree}{cg dep':Int->Nat}{f to:Int}{s nm:Bytes}{dF dT m:Node}{e:eD}(h:cq t cg 0)(hF:find t.ae f=some dF)(he:eb dF.aN s=some e)(hT:find t.ae to=some dT)(hTk:dT.kind=2)(hfree:eb dT.aN nm=none)(hroom:to≠f->dT.aN.length<64)(hnm:Nm nm)
  (hm:find t.ae e.au=some m) (hne:e.au≠to) (hd12:dep' to<12) (hck:t.ai<1099511627776)
  (hcase:(m.kind=1/\dep'=cg)\/(m.kind=2/\dep' 1=0/\(∀i n,find t.ae i=some n->n.kind=2->i≠1->i≠e.au->dep' i=dep' n.up+1)/\dep' e.au=dep' to+1 /\
   ∀i n,find t.ae i=some n->n.kind=2->dep' i<=12/\(dep' i=12->n.aN=[]))):cq (nZ t f s to nm e.au 0) dep' 0:=by
 have hem:=(eB he).1;have hnf:e.au≠f:=h.vA hF hem;have h1:e.au≠1:=(h.wF _ _ e hF hem).2.2.1;have hl:=h.left hF he;have fl:=iW h.jE.jx hF (s:=s);have hmx:find (dx t.ae f s) e.au=some m:=by rw[fl,ak hnf]; exact hm
 obtain⟨d1,g1,g2,g3,g4⟩:∃d1,find (dx t.ae f s) to=some d1/\d1.kind=2/\eb d1.aN nm=none/\d1.aN.length<64:=by
  rw[fl];split
  ·rename_i hh;subst hh;rw[hF] at hT; cases hT;exact⟨_,rfl,hTk,rO hfree,bq (Hq he) (h.few hF)⟩
  ·rename_i hh;exact⟨dT,hT,hTk,hfree,hroom hh⟩
 have hnode:bE t.ae e.au=m:=by simp[bE,hm]
 unfold nZ;simp only[hnode,an,af,↓reduceIte];rcases hcase with ⟨hk,rfl⟩|⟨hk,c1,c2,c3,c4⟩
 ·rw[ak (by simp[hk])]
  exact hl.re g1 g2 g3 g4 hnm hmx h1 (fun h2=>by omega) hd12 hck
 ·rw[az (by simp[hk])]
  have hs:=hl.ah7 (dep':=dep') hmx hk h1 g1 g2 c1 (fun i n hi hk2 hi1 hie=>by
    simp only[fl] at hi;split at hi
    ·rename_i hh; subst hh;cases hi;exact c2 i dF hF hk2 hi1 hie
    ·exact c2 _ _ hi hk2 hi1 hie) c3 (fun i n hi hk2=>by
    simp only[fl] at hi;split at hi
    ·rename_i hh; subst hh;cases hi;obtain⟨q1,q2⟩:=c4 i dF hF hk2;exact⟨q1,fun h12=>by simp[q2 h12,fH]⟩
    ·exact c4 _ _ hi hk2)
  have hmi:m.au=e.au:=(cj hm).2;have fw:=gP (lx h.jE.jx f s) { m with up:=to }
  refine hs.re (n:=d1) (m:={ m with up:=to }) ?_ g2 g3 g4 hnm ?_ h1 (fun _=>rfl) hd12 hck
  ·simp only;rw[fw];rw[ak (show ¬to=m.au from fun hh=>hne (by omega))]
   exact g1
  ·simp only;rw[fw];simp only[hmi,↓reduceIte]
def uA(ae:List Node)(at' d:Int)(n:Node):Int :=
 if decide ((0:Int)<n.aN.length) then mM (mM (mM (at'+po ae n.au)-d)+1) else mM (mM (at'+po ae n.au)-d)
def HI(ae:List Node)(au at' d:Int)(n:Node)(most:Int):most<=sr ae au at' d n most/\((n.kind==2&&iV ae n.au au)=true->uA ae at' d n<=sr ae au at' d n most):=by
 have e:sr ae au at' d n most=if n.kind==2&&iV ae n.au au then (if uA ae at' d n>most then uA ae at' d n else most) else most:=rfl
 rw[e];split
 ·split
  ·exact⟨by omega,fun _=>fJ _⟩
  ·exact⟨fJ _,fun _=>by omega⟩
 ·rename_i h; exact⟨fJ _,fun hh=>absurd hh h⟩
def Ai(ae:List Node)(au at' d:Int):∀(l:List Node)(most:Int),most<=vD ae au at' d l most/\∀n,n∈l->(n.kind==2&&iV ae n.au au)=true->uA ae at' d n<=vD ae au at' d l most
 | [],most=>⟨fJ _,fun n hn=>by cases hn⟩
 |m::l,most=>by
  obtain⟨h1,h2⟩:=Ai ae au at' d l (sr ae au at' d m most);obtain⟨h3,h4⟩:=HI ae au at' d m most;rw[vD];refine⟨by omega,fun n hn hb=>?_⟩
  rcases bc.1 hn with rfl|hn
  ·have:=h4 hb; omega
  ·exact h2 n hn hb
def rq(ae:List Node)(cg:Int->Nat)(x to:Int):Int->Nat:=fun i=>if iV ae i x then cg i+(cg to+1)-cg x else cg i
def cq.Ej{t:Tree}{cg:Int->Nat}(h:cq t cg 0){x to i:Int}{m n:Node}(hx:find t.ae x=some m)(hk:m.kind=2)(hd:cg to<12)(hi:find t.ae i=some n)(hk2:n.kind=2)(hb:iV t.ae i x=true) :
  uA t.ae (((cg to+1:Nat):Int)) (cg x) n=((rq t.ae cg x to i+(if 0<n.aN.length then 1 else 0):Nat):Int):=by
 have d1:=(h.deep _ _ hi hk2).1;have d2:=(h.deep _ _ hx hk).1;have d3:=h.zU _ i n hi hk2 rfl hb;have hdn:po t.ae n.au=cg i:=by rw[h.au hi]; exact h.pH hi hk2
 have w1:mM ((((cg to+1:Nat):Int))+(cg i:Nat))=(((cg to+1:Nat):Int))+(cg i:Nat):=gD (by omega) (by omega)
 have w2:mM ((((cg to+1:Nat):Int))+(cg i:Nat)-(cg x:Nat))=(((cg to+1:Nat):Int))+(cg i:Nat)-(cg x:Nat):=gD (by omega) (by omega)
 have w3:mM ((((cg to+1:Nat):Int))+(cg i:Nat)-(cg x:Nat)+1)=(((cg to+1:Nat):Int))+(cg i:Nat)-(cg x:Nat)+1:=gD (by omega) (by omega)
 unfold uA rq;rw[az hb,hdn,w1,w2,w3]
 by_cases hl:0<n.aN.length
 ·rw[az (by simpa using hl),az hl]; omega
 ·rw[ak (by simpa using hl),ak hl]; omega
def cq.adm{t:Tree}{cg:Int->Nat}(h:cq t cg 0){x to:Int}{m dT:Node}(hx:find t.ae x=some m)(hk:m.kind=2)(hx1:x≠1)(hT:find t.ae to=some dT)(hTk:dT.kind=2)(hnb:iV t.ae to x=false)(hd:cg to<12)
  (hh:Bh t.ae x (((cg to+1:Nat):Int))<=12) :
  rq t.ae cg x to 1=0/\(∀i n,find t.ae i=some n->n.kind=2->i≠1->i≠x->rq t.ae cg x to i=rq t.ae cg x to n.up+1)/\rq t.ae cg x to x=rq t.ae cg x to to+1 /\
   (∀i n,find t.ae i=some n->n.kind=2->rq t.ae cg x to i<=12/\(rq t.ae cg x to i=12->n.aN=[]))/\rq t.ae cg x to to=cg to:=by
 have hto:rq t.ae cg x to to=cg to:=by unfold rq; rw[ak (by simp[hnb])]
 refine⟨?_,?_,?_,?_,hto⟩
 ·unfold rq;rw[ak (by simp[cq.yg hx1])]
  exact h.zd
 ·intro i n hi hk2 hi1 hix;obtain⟨a,p,b,c⟩:=h.sH _ _ hi hk2 hi1;have hb:=h.yY hi hk2 hi1 hix;unfold rq;rw[hb];split
  ·rename_i hb2;have:=h.zU _ _ p b c rfl hb2;omega
  ·exact a
 ·rw[hto];unfold rq;rw[az (cq.rG x)];omega
 ·intro i n hi hk2
  by_cases hb:iV t.ae i x=true
  ·have h1:=(Ai t.ae x (((cg to+1:Nat):Int)) (po t.ae x) t.ae 0).2 n (cj hi).1 (by rw[hk2,h.au hi,hb]; rfl)
   rw[h.pH hx hk,h.Ej hx hk hd hi hk2 hb] at h1;unfold Bh at hh;rw[h.pH hx hk] at hh;have h2:=Int.le_trans h1 hh;split at h2
   ·rename_i hl;exact⟨by omega,fun h12=>by omega⟩
   ·rename_i hl;exact⟨by omega,fun _=>ct.1 (by omega)⟩
  ·have:rq t.ae cg x to i=cg i:=by unfold rq; rw[ak hb]
   rw[this];exact h.deep _ _ hi hk2
def pr{l:List eD}{s r:Bytes}(h:r≠s):eb (fH l s) r=eb l r:=by
 unfold eb fH;rw[List.find?_filter];congr 1;funext e
 by_cases he:e.name=r
 ·have hn:e.name≠s:=he▸h;simp[he,h]
 ·simp[he]
structure wc(t:Tree)(cg:Int->Nat)(f:Int)(s:Bytes)(to:Int)(nm:Bytes)(dF dT m:Node)(e:eD):Prop where
 hF:find t.ae f=some dF
 kF:dF.kind=2
 he:eb dF.aN s=some e
 hT:find t.ae to=some dT
 kT:dT.kind=2
 hn:dE nm=true
 hm:find t.ae e.au=some m
 ne:e.au≠to
 nf:e.au≠f
 loop:m.kind=2->iV t.ae to e.au=false
 deep:cg to<12
 high:m.kind=2->Bh t.ae e.au (((cg to+1:Nat):Int))<=12
 ai:t.ai<1099511627776
 room:eb dT.aN nm=none->to≠f->dT.aN.length<64
 KH:∀e2,eb dT.aN nm=some e2->e2.au≠e.au/\∃y,find t.ae e2.au=some y/\y.aN=[]/\(m.kind=2↔y.kind=2)/\e2.au≠f/\e2.au≠to
def cq.mv{t:Tree}{cg:Int->Nat}(h:cq t cg 0){f:Int}{s:Bytes}{to:Int}{nm:Bytes}{dF dT m:Node}{e:eD}(hs:dE nm=true->Nm nm)(k:wc t cg f s to nm dF dT m e):∃dep',cq (nZ t f s to nm e.au (ec dT.aN nm)) dep' 0:=by
 have hem:=(eB k.he).1;have hx1:=(h.wF _ _ e k.hF hem).2.2.1
 have hcase:∃dep':Int->Nat,dep' to<12/\((m.kind=1/\dep'=cg)\/(m.kind=2/\dep' 1=0/\(∀i n,find t.ae i=some n->n.kind=2->i≠1->i≠e.au->dep' i=dep' n.up+1)/\dep' e.au=dep' to+1 /\
   ∀i n,find t.ae i=some n->n.kind=2->dep' i<=12/\(dep' i=12->n.aN=[]))):=by
  rcases h.kind _ _ k.hm with hk|hk
  ·exact⟨cg,k.deep,.inl ⟨hk,rfl⟩⟩
  ·obtain⟨c1,c2,c3,c4,c5⟩:=h.adm k.hm hk hx1 k.hT k.kT (k.loop hk) k.deep (k.high hk);exact⟨rq t.ae cg e.au to,by rw[c5]; exact k.deep,.inr ⟨hk,c1,c2,c3,c4⟩⟩
 obtain⟨dep',hd12,hcase⟩:=hcase;refine⟨dep',?_⟩;cases hfr:eb dT.aN nm with
 |none =>
  have hu:ec dT.aN nm=0:=by simp[ec,hfr]
  rw[hu];exact h.Zc k.hF k.he k.hT k.kT hfr (k.room hfr) (hs k.hn) k.hm k.ne hd12 k.ai hcase
 |some e2 =>
  have hu:ec dT.aN nm=e2.au:=by simp[ec,hfr]
  rw[hu];obtain⟨q1,y,q2,q3,q4,q5,q6⟩:=k.KH e2 hfr;have h1:=h.un k.hT hfr q2 q3;have a2:=lx h.jE.jx to nm;have f2:=iW h.jE.jx k.hT (s:=nm);have hy1:find (dx t.ae to nm) e2.au=some y:=by rw[f2,ak q6]; exact q2
  have f4:∀i,find (gm (dx t.ae to nm) e2.au) i=if i=e2.au then xY y else if i=to then some { dT with aN:=fH dT.aN nm } else find t.ae i:=by
   intro i;rw[pX a2 hy1,f2]
  have hnn:bE (gm (dx t.ae to nm) e2.au) e.au=bE t.ae e.au:=by
   simp only[bE];rw[f4,ak (fun hh=>q1 hh.symm),ak k.ne]
  have hy0:=(h.num _ _ q2).1
  have hmv:nZ t f s to nm e.au e2.au=nZ ⟨gm (dx t.ae to nm) e2.au,t.next,t.ai⟩ f s to nm e.au 0:=by
   unfold nZ;simp only[hnn];rw[Un h.jE.jx k.hF k.hT q2 q5 q6];have e1:(e2.au != 0)=true:=by simp; omega
   simp only[e1,an,af,↓reduceIte]
  rw[hmv]
  have hsn:to=f->s≠nm:=fun hh hsn=>by
   subst hh; subst hsn;have:=k.hF; rw[k.hT] at this; cases this;have:=k.he; rw[hfr] at this; cases this;exact q1 rfl
  obtain⟨dF',g1,g2⟩:∃dF',find (gm (dx t.ae to nm) e2.au) f=some dF'/\eb dF'.aN s=some e:=by
   rw[f4,ak (fun hh=>q5 hh.symm)]
   split
   ·rename_i hh;refine⟨_,rfl,?_⟩;rw[pr (hsn hh.symm)];subst hh;have:=k.hF; rw[k.hT] at this; cases this;exact k.he
   ·exact⟨dF,k.hF,k.he⟩
  have back:∀i n,find (gm (dx t.ae to nm) e2.au) i=some n->n.kind=2->∃n0,find t.ae i=some n0/\n0.kind=2/\n0.up=n.up/\(n0.aN=[]->n.aN=[]):=by
   intro i n hi hk;rw[f4] at hi;split at hi
   ·unfold xY at hi;split at hi
    ·cases hi
    ·rename_i hh;cases hi;simp only at hk;simp[hk] at hh
   ·split at hi
    ·rename_i hh; subst hh;cases hi;exact⟨dT,k.hT,hk,rfl,fun h0=>by simp[h0,fH]⟩
    ·exact⟨n,hi,hk,rfl,fun h0=>h0⟩
  refine h1.Zc (dep':=dep') g1 g2 (dT:={ dT with aN:=fH dT.aN nm }) ?_ k.kT (wI _ _) (fun _=>bq (Hq hfr) (h.few k.hT)) (hs k.hn) (m:=m) ?_ k.ne hd12 k.ai ?_
  ·simp only; rw[f4,ak (fun hh=>q6 hh.symm),az rfl]
  ·simp only; rw[f4,ak (fun hh=>q1 hh.symm),ak k.ne]; exact k.hm
  ·rcases hcase with hc|⟨hk,c1,c2,c3,c4⟩
   ·exact .inl hc
   ·refine .inr ⟨hk,c1,?_,c3,?_⟩
    ·intro i n hi hk2 hi1 hie;obtain⟨n0,b1,b2,b3,_⟩:=back i n hi hk2;rw[<-b3]; exact c2 i n0 b1 b2 hi1 hie
    ·intro i n hi hk2;obtain⟨n0,b1,b2,_,b4⟩:=back i n hi hk2;exact⟨(c4 i n0 b1 b2).1,fun h12=>b4 ((c4 i n0 b1 b2).2 h12)⟩
def cq.zero{t:Tree}{cg:Int->Nat}{x:Int}(h:cq t cg x):find t.ae 0=none:=by
 cases hz:find t.ae 0 with
 |none=>rfl
 |some m=>have:=h.num _ _ hz; omega
def EO{t:Tree}{cg:Int->Nat}(h:cq t cg 0)(f:Int)(s:Bytes)(to:Int)(nm:Bytes) :
  ((wg t f s to nm).1=t/\(wg t f s to nm).2.1=0/\(wg t f s to nm).2.2≠0) \/
  (wg t f s to nm=(t,0,0)/\∃dF dT e e2,find t.ae f=some dF/\dF.kind=2/\dE s=true/\eb dF.aN s=some e/\dV t.ae f s=(e.au,0)/\find t.ae to=some dT/\dT.kind=2/\dE nm=true/\eb dT.aN nm=some e2/\e2.au=e.au) \/
  ∃dF dT m e,wc t cg f s to nm dF dT m e/\dE s=true/\dV t.ae f s=(e.au,0)/\wg t f s to nm=(nZ t f s to nm e.au (ec dT.aN nm),ec dT.aN nm,0):=by
 unfold wg;split
 ·rename_i c1; exact .inl ⟨rfl,rfl,by simpa using c1⟩
 rename_i c1;split
 ·rename_i c2; exact .inl ⟨rfl,rfl,by simpa using c2⟩
 rename_i c2;split
 ·exact .inl ⟨rfl,rfl,by simp⟩
 rename_i c3;obtain⟨dF,e,e1,e2,e3,e4,e5⟩:=look_ok (by simpa using c1)
 obtain⟨dT,g1,g2,g3⟩:=yn (show(gA t.ae to).2=0 by simpa using c2)
 have hem:=(eB e4).1;obtain⟨_,_,x1,_,m,hm,hup⟩:=h.wF _ _ e e1 hem;have hnode:bE t.ae e.au=m:=by simp[bE,hm]
 simp only[e5,g3,hnode];split
 ·rename_i c4;right; left;refine⟨rfl,dF,dT,e,?_⟩;have c4':ec dT.aN nm=e.au:=by simpa using c4
  cases hfr:eb dT.aN nm with
  |none=>simp only[ec,hfr] at c4'; have:=(h.num _ _ hm).1; omega
  |some e2'=>simp only[ec,hfr] at c4'; exact⟨e2',e1,e2,e3,e4,rfl,g1,g2,by simpa using c3,rfl,c4'⟩
 rename_i c4;split
 ·exact .inl ⟨rfl,rfl,by simp⟩
 rename_i c5;split
 ·rename_i c6; exact .inl ⟨rfl,rfl,by simpa using c6⟩
 rename_i c6;split
 ·exact .inl ⟨rfl,rfl,by simp⟩
 rename_i c7;right; right;have hdt:=h.pH g1 g2;simp only[manyN,hdt,cN,bn,dR,bu,kL,not_and,gj] at c7;obtain⟨r1,r2,r3,r4⟩:=c7
 have hw:mM (((cg to:Nat):Int)+1)=((cg to+1:Nat):Int):=by
  have:=(h.deep _ _ g1 g2).1;rw[show(((cg to:Nat):Int)+1)=((cg to+1:Nat):Int) by omega]
  exact gD (by omega) (by omega)
 rw[hw] at r3;have hnf:=h.vA e1 hem
 have hne:e.au≠to:=fun hh=>by
  rw[hh,g1] at hm; cases hm;simp only[g2,eu,bQ] at c5;rw[hh,cq.rG] at c5;exact c5 rfl
 refine⟨dF,dT,m,e,⟨e1,e2,e4,g1,g2,by simpa using c3,hm,hne,hnf,?_,by omega,?_,by omega,?_,?_⟩,e3,rfl,rfl⟩
 ·intro hk;simpa[hk] using c5
 ·intro hk;have:=r3 hk; omega
 ·intro hfr hne;have hu:ec dT.aN nm=0:=by simp[ec,hfr]
  have:=r1 ⟨hu,hne⟩;omega
 ·intro e2' hfr;have hu:ec dT.aN nm=e2'.au:=by simp[ec,hfr]
  rw[hu] at c4 c6;obtain⟨_,_,_,_,y,hy,_⟩:=h.wF _ _ e2' g1 (eB hfr).1;have hny:bE t.ae e2'.au=y:=by simp[bE,hy]
  have hto:=h.vA g1 (eB hfr).1;simp only[sF,hy,df,cX,af,↓reduceIte,hny,gj,ne_eq,mg] at c6;split at c6
  ·cases c6
  ·rename_i k1;split at c6
   ·cases c6
   ·rename_i k2;split at c6
    ·cases c6
    ·rename_i k3;have hy0:y.aN=[]:=ct.1 (by simpa using k3)
     refine⟨by simpa using c4,y,hy,hy0,?_,?_,hto⟩
     ·simp at k1 k2;constructor
      ·exact k1
      ·intro hy2;rcases h.kind _ _ hm with hk|hk
       ·exact absurd hy2 (k2 (by omega))
       ·exact hk
     ·intro hh;rw[hh,e1] at hy; cases hy;rw[hy0] at hem; cases hem
def Mf{t:Tree}{cg:Int->Nat}(h:cq t cg 0)(f:Int)(s:Bytes)(to:Int)(nm:Bytes)(hs:dE nm=true->Nm nm):∃dep',cq (wg t f s to nm).1 dep' 0:=by
 rcases EO h f s to nm with ⟨h1,_⟩|⟨h1,_⟩|⟨dF,dT,m,e,k,_,_,hk⟩
 ·rw[h1]; exact⟨cg,h⟩
 ·rw[h1]; exact⟨cg,h⟩
 ·rw[hk]; exact h.mv hs k
def Iy:cq oU (fun _=>0) 0:=by
 have hf:∀i n,find oU.ae i=some n->i=1/\n=⟨1,2,0,[],[],1⟩:=by
  intro i n hi;obtain⟨h1,h2⟩:=cj hi;simp[oU] at h1;subst h1;exact⟨h2.symm,rfl⟩
 refine⟨⟨?_,?_⟩,⟨_,rfl,rfl,rfl⟩,?_,?_,?_,?_,?_,?_,?_,?_,rfl,?_,?_,by simp[oU],by simp[oU],by simp[oU]⟩
 ·simp[oU,nM]
 ·intro n hn; simp[oU] at hn; subst hn; exact List.Pairwise.nil
 ·intro i n hi; obtain⟨rfl,rfl⟩:=hf i n hi; simp[oU]
 ·intro i n hi; obtain⟨rfl,rfl⟩:=hf i n hi; simp
 ·intro i n hi; obtain⟨rfl,rfl⟩:=hf i n hi; simp
 ·intro i n hi; obtain⟨rfl,rfl⟩:=hf i n hi; simp
 ·intro i n e hi he; obtain⟨rfl,rfl⟩:=hf i n hi; cases he
 ·intro i n hi; obtain⟨rfl,rfl⟩:=hf i n hi; exact⟨List.Pairwise.nil,by simp⟩
 ·intro i n hi; obtain⟨rfl,rfl⟩:=hf i n hi; simp[oU,qR,nb]
 ·intro i n hi _ h1; exact absurd (hf i n hi).1 h1
 ·intro i n hi _ h1; exact absurd (hf i n hi).1 h1
 ·intro i n hi; obtain⟨rfl,rfl⟩:=hf i n hi; simp
section
attribute [local irreducible] fS fp kH gK dv kr aq aM cv bJ
def yZ:∀(d:Bytes),bytesOf (d.map mL)=some d
 | []=>rfl
 |b::d=>by
  rw[aW]
  show bJ (bytesOf (d.map mL)) (fun l=>some (UInt8.ofNat ((b.toNat:Int)).toNat::l))=some (b::d)
  rw[yZ d,cd];simp
def ajN(a b:Bytes):aq c9 134 [jt a,jt b] []=some (.bool (a==b),[]):=by
 refine aJ ?_;simp only[Yc,aiC,yZ,EN,seval]
def ak9 a b:=cP (ajN a b)
def akL(x y:eD):decide (x=y)=(x.name==y.name&&(x.au==y.au&&(x.ai==y.ai&&true))):=by
 cases x; cases y;simp only[eD.mk.injEq,eX];rw[eh];simp
def PR(x y:eD):kO [.s,.i,.i] (ew x) (ew y)=some (decide (x=y)):=by
 rw[akL];simp only[ew,kO,il,cd,↓reduceIte]
def UT(x:eD):(ew x).all ag.k6=true:=rfl
def ajd(x:Node):(aV x).all ag.k6=true:=rfl
def Ws{a b:List eD}(ha:a.length<=100000){k:List K}{R:Bool->Option (ag×aL)}
  (hx:∀e,kr (aq c9) [.tmp 4] 0 k ⟨.exit 0,e,[]⟩=R true) (hr:kr (aq c9) [.tmp 4] 0 k ⟨.ret,[(4,.bool false)],[]⟩=R false) :
  ∀(l m pre pre':List eD),a=pre++l->b=pre'++m->pre.length=pre'.length->l.length=m.length->fS (aq c9) [.tmp 4] 0 k (.loop [0,1,12,13] V0) [(0,ij a),(1,ij b),(12,aG a.length),(13,aG pre.length)] []=R (decide (l=m)):=by
 intro l;induction l with
 |nil =>
  intro m pre pre' h h' hp hl;have hm:m=[]:=ct.1 hl.symm;subst hm;rw[bZ];simp only[FL,oy h,EN,seval];exact hx _
 |cons n r ih =>
  intro m pre pre' h h' hp hl;cases m with
  |nil=>cases hl
  |cons n' m =>
  rw[bZ];have eY:pre.length+1<=100000:=by rw[h] at ha; simp at ha; omega
  have hw:=GI pre n;have hi:=ih m (pre++[n]) (pre'++[n']) (by rw[h]; simp) (by rw[h']; simp) (by simp[hp]) (by simpa using hl)
  have ha2:b[pre.length]?=some n':=by rw[hp]; exact ji h'
  have hdc:decide (n::r=n'::m)=(decide (n=n')&&decide (r=m)):=by
   rw[eh]; simp
  rw[hdc];simp only[aK,av,aH] at hi;simp only[FL,mR h,ji h,ha2,tkE,shE,PR,UT,EN,seval];refine bL (fun hb=>?_) (fun hb=>?_)
  ·have hb':decide (n=n')=false:=by simpa using hb
   simp only[FL,hb',cf,EN,seval];exact hr
  ·have hb':decide (n=n')=true:=by simpa using hb
   simp only[FL,hb',bQ,hw,EN,seval];exact hi
def ajO(a b:List eD)(ha:a.length<=100000):aq c9 135 [ij a,ij b] []=some (.bool (decide (a=b)),[]):=by
 refine aJ ?_;simp only[Yd,FL,EN,seval];refine bL (fun hb=>?_) (fun hb=>?_)
 ·have:decide (a=b)=false:=by
   simp at hb ⊢;rintro rfl; exact hb rfl
  simp only[FL,this,EN,seval]
 ·simp only[FL,EN,seval];exact Ws (R:=fun z=>some (.bool z,[])) ha (fun e=>by simp only[FL,EN,seval]) (by simp only[FL,EN,seval]) a b [] [] rfl rfl rfl (by simp at hb; omega)
def ala a b ha:=cP (ajO a b ha)
def Ze(x y:Node):decide (x=y)=(x.au==y.au&&(x.kind==y.kind&&(x.dp==y.dp&&(x.up==y.up&&(x.data==y.data&&decide (x.aN=y.aN)))))):=by
 cases x; cases y;simp only[Node.mk.injEq];rw[eh];simp only[bu,bn,dR];constructor
 ·rintro⟨h1,h2,h3,h4,h5,h6⟩; exact⟨h1,h2,h3,h6,h4,h5⟩
 ·rintro⟨h1,h2,h3,h6,h4,h5⟩; exact⟨h1,h2,h3,h4,h5,h6⟩
def ajM(x y:Node)(hx:x.aN.length<=100000):aq c9 133 [.agg (aV x),.agg (aV y)] []=some (.bool (decide (x=y)),[]):=by
 rw[Ze];refine aJ ?_;simp only[Yb,adY,cn,aV,EN,seval]
 repeat' ((first|apply bL|apply cK|apply eZ)<;>intro hb<;>simp only[hb,EN,adY,ak9,ala,hx,seval])
 all_goals simp_all only[vp,↓reduceIte,reduceCtorEq,an]
def ak8 x y hx:=cP (ajM x y hx)
def Wu{a b:List Node}(ha:a.length<=100000)(he:∀n,n∈a->n.aN.length<=100000){k:List K}{R:Bool->Option (ag×aL)}
  (hx:∀e,kr (aq c9) [.tmp 6] 0 k ⟨.exit 0,e,[]⟩=R true) (hr:∀M,kr (aq c9) [.tmp 6] 0 k ⟨.ret,[(6,.bool false)],M⟩=R false) :
  ∀(l m pre pre':List Node),a=pre++l->b=pre'++m->pre.length=pre'.length->l.length=m.length->fS (aq c9) [.tmp 6] 0 k (.loop [1,2,15,16,17] V1) [(1,a8 b),(2,.func 133 []),(15,a8 a),(16,aG a.length),(17,aG pre.length)] []=R (decide (l=m)):=by
 intro l;induction l with
 |nil =>
  intro m pre pre' h h' hp hl;have hm:m=[]:=ct.1 hl.symm;subst hm;rw[bZ];simp only[FM,oy h,EN,seval];exact hx _
 |cons n r ih =>
  intro m pre pre' h h' hp hl;cases m with
  |nil=>cases hl
  |cons n' m =>
  rw[bZ];have eY:pre.length+1<=100000:=by rw[h] at ha; simp at ha; omega
  have hw:=GI pre n;have hi:=ih m (pre++[n]) (pre'++[n']) (by rw[h]; simp) (by rw[h']; simp) (by simp[hp]) (by simpa using hl)
  have ha2:b[pre.length]?=some n':=by rw[hp]; exact ji h'
  have hen:=he n (by rw[h]; simp)
  have hdc:decide (n::r=n'::m)=(decide (n=n')&&decide (r=m)):=by
   rw[eh]; simp
  have hfl:List.flatMap ag.mQ (aV n)=[]:=rfl;have hfl':List.flatMap ag.mQ (aV n')=[]:=rfl;rw[hdc];simp only[aK,av,aH] at hi;simp only[FM,mR h,ji h,ha2,tkN,shN,ajd,ak8,hen,hfl,hfl',EN,seval];refine bL (fun hb=>?_) (fun hb=>?_)
  ·have hb':decide (n=n')=false:=by simpa using hb
   simp only[FM,hb',cf,EN,seval];exact hr _
  ·have hb':decide (n=n')=true:=by simpa using hb
   simp only[FM,hb',bQ,hw,EN,seval];exact hi
def ajP(a b:List Node)(ha:a.length<=100000)(he:∀n,n∈a->n.aN.length<=100000):aq c9 136 [a8 a,a8 b,.func 133 []] []=some (.bool (decide (a=b)),[]):=by
 refine aJ ?_;simp only[Ye,FM,EN,seval];refine bL (fun hb=>?_) (fun hb=>?_)
 ·have:decide (a=b)=false:=by
   simp at hb ⊢;rintro rfl; exact hb rfl
  simp only[FM,this,EN,seval]
 ·simp only[FM,EN,seval];exact Wu (R:=fun z=>some (.bool z,[])) ha he (fun e=>by simp only[FM,EN,seval]) (fun M=>by simp only[FM,EN,seval]) a b [] [] rfl rfl rfl (by simp at hb; omega)
def alb a b ha he:=cP (ajP a b ha he)
def aih(x y:Tree):decide (x=y)=(x.next==y.next&&(x.ai==y.ai&&decide (x.ae=y.ae))):=by
 cases x; cases y;simp only[Tree.mk.injEq];rw[eh];simp only[bu,bn,dR];constructor
 ·rintro⟨h1,h2,h3⟩; exact⟨h2,h3,h1⟩
 ·rintro⟨h2,h3,h1⟩; exact⟨h1,h2,h3⟩
def c71(a b:Tree)(ha:Small a):aq c9 71 [bK a,bK b] []=some (.bool (decide (a=b)),[]):=by
 rw[aih];have h1:=ha.ae;have h2:=ha.aN;refine aJ ?_;simp only[agA,E71,bK,bd,EN,seval]
 repeat' ((first|apply bL|apply cK|apply eZ)<;>intro hb<;>simp only[hb,EN,E71,alb _ _ h1 h2,seval])
 all_goals simp_all only[vp,↓reduceIte,reduceCtorEq,an]
end
structure Jo where
 jz:Int
 handle:Int
 au:Int
 deriving DecidableEq,Inhabited
structure B8 where
 au:Int
 ae:Int
 bytes:Int
 deriving DecidableEq,Inhabited
structure Jr where
 mX:Int
 amu:Int
 node:Node
 deriving DecidableEq,Inhabited
structure Jt where
 id:Int
 au:Int
 at':Int
 deriving DecidableEq,Inhabited
structure oW where
 kind:Int
 jz:Int
 aU:Bytes
 rz:Bytes
 n:Int
 m:Int
 handle:Int
 data:Bytes
 deriving DecidableEq,Inhabited
structure OV where
 err:Int
 au:Int
 kind:Int
 n:Int
 m:Int
 names:List Bytes
 data:Bytes
 deriving DecidableEq,Inhabited
structure Js where
 jz:Int
 seq:Int
 ans:OV
 deriving DecidableEq,Inhabited
def yp(h:Jo):List ag:=[.int .i64 h.jz,.int .i64 h.handle,.int .i64 h.au]
def PM(h:Jo):ag := .agg (yp h)
def vz(q:B8):List ag:=[.int .i64 q.au,.int .i64 q.ae,.int .i64 q.bytes]
def JX(q:B8):ag := .agg (vz q)
def yq(p:Jr):List ag := .int .i64 p.mX :: .int .i64 p.amu::aV p.node
def PN(p:Jr):ag := .agg (yq p)
def yu(s:Jt):List ag:=[.int .i64 s.id,.int .i64 s.au,.int .i64 s.at']
def PQ(s:Jt):ag := .agg (yu s)
abbrev lQ(l:List Int):ag := .slice .sh (l.map mr)
abbrev fO(l:List Bytes):ag := .slice .sh (l.map ag.str)
def dP(o:oW):List ag:=[.int .i64 o.kind,.int .i64 o.jz,.str o.aU,.str o.rz,.int .i64 o.n,.int .i64 o.m,.int .i64 o.handle,jt o.data]
def ue(o:oW):ag := .agg (dP o)
def eE(a:OV):List ag:=[.int .i64 a.err,.int .i64 a.au,.int .i64 a.kind,.int .i64 a.n,.int .i64 a.m,fO a.names,jt a.data]
def sk(a:OV):ag := .agg (eE a)
def yt(s:Js):List ag := .int .i64 s.jz :: .int .i64 s.seq::eE s.ans
def PO(s:Js):ag := .agg (yt s)
def Hg(n:Jo):(PM n).cells=yp n:=rfl
def FY(n:B8):(JX n).cells=vz n:=rfl
def Hi(n:Jr):(PN n).cells=yq n:=rfl
def Hk(n:Jt):(PQ n).cells=yu n:=rfl
def Hj(n:Js):(PO n).cells=yt n:=rfl
def Kn(n:Jo):(yp n).length=3:=rfl
def Ia(n:B8):(vz n).length=3:=rfl
def Kr(n:Jr):(yq n).length=8:=rfl
def Kt(n:Jt):(yu n).length=3:=rfl
def Ks(n:Js):(yt n).length=9:=rfl
def mG{α:Type}(f:α->ag)(k:Nat)(h:∀a,(f a).cells.length=k)(l:List α):wid (l.map f) k=True:=by
 simp only[fi,jQ];intro x hx;obtain⟨n,_,rfl⟩:=bS.1 hx;exact h n
def OO(l:List Jo):wid (l.map PM) 3=True:=mG PM _ (fun _=>rfl) l
def K8(l:List B8):wid (l.map JX) 3=True:=mG JX _ (fun _=>rfl) l
def OQ(l:List Jr):wid (l.map PN) 8=True:=mG PN _ (fun _=>rfl) l
def OT(l:List Jt):wid (l.map PQ) 3=True:=mG PQ _ (fun _=>rfl) l
def OS(l:List Js):wid (l.map PO) 9=True:=mG PO _ (fun _=>rfl) l
def DF(l:List Bytes):wid (l.map ag.str) 1=True:=mG ag.str _ (fun _=>rfl) l
def tkH(n:Jo):List.take 3 (yp n)=yp n:=rfl
def shH(n:Jo):List.map ag.shut (yp n)=yp n:=rfl
def tkQ(n:B8):List.take 3 (vz n)=vz n:=rfl
def shQ(n:B8):List.map ag.shut (vz n)=vz n:=rfl
def tkP(n:Jr):List.take 8 (yq n)=yq n:=rfl
def shP(n:Jr):List.map ag.shut (yq n)=yq n:=rfl
def tkS(n:Jt):List.take 3 (yu n)=yu n:=rfl
def shS(n:Jt):List.map ag.shut (yu n)=yu n:=rfl
def tkU(n:Js):List.take 9 (yt n)=yt n:=rfl
def shU(n:Js):List.map ag.shut (yt n)=yt n:=rfl
def afK:((2:Nat):Int)=2:=rfl
def adv:Int.toNat 0=0:=rfl
def adw:Int.toNat 1=1:=rfl
def akM(a b c d:Int):kO [FK.i,FK.i] [aG a,aG b] [aG c,aG d]=some (a==c&&b==d):=by
 simp[kO,il]
def akN(a b c a' b' c':Int):kO [FK.i,FK.i,FK.i] [aG a,aG b,aG c] [aG a',aG b',aG c']=some (a==a'&&(b==b'&&c==c')):=by
 simp[kO,il]
set_option linter.defProp false in
def EVF:=bR @akM$ bR @akN$ bR @dX.{0}$ bR @dB.{0}$ bR @afK$ bR @adv$ bR @adw$ bR @je$ bR @fK$ bR @Hg$ bR @FY$ bR @Hi$ bR @Hk$ bR @Hj$ bR @Kn$ bR @Ia$ bR @Kr$ bR @Kt$ bR @Ks$ bR @OO$ bR @K8$ bR @OQ$ bR @OT$ bR @OS$ bR @DF$ bR @tkH$ bR @shH$ bR @tkQ$ bR @shQ$ bR @tkP$ bR @shP$ bR @tkS$ bR @shS$ bR @tkU$ bR @shU$ bR @tkN$ bR @shN$ bR @tkE (@shE)
set_option linter.defProp false in
def EW:=And.intro EVF EN
section
attribute [local irreducible] fS fp kH gK dv kr aq aM cv bJ
def jy(n:Node):Bool:=n.kind==1&&n.dp==0
end
section
def Vx{α:Type}(p:α->Bool):List α->Nat->Int
 | [],_ => -1
 |x::r,i=>if p x then (i:Int) else Vx p r (i+1)
theorem NJ{α:Type}(p:α->Bool):∀(l:List α)(i:Nat),(Vx p l i = -1/\l.find? p=none)\/∃(m:Nat) (x:α),Vx p l i=((i+m:Nat):Int)/\l[m]?=some x/\l.find? p=some x/\l.eraseIdx m=l.eraseP p
 | [],i => .inl ⟨rfl,rfl⟩
 |x::r,i=>by
  rw[Vx]
  by_cases h:p x=true
  ·grind
  ·rcases NJ p r (i+1) with ⟨h1,h2⟩|⟨m,y,h1,h2,h3,h4⟩
   ·exact .inl ⟨by simp[h,h1],by simp[h,h2]⟩
   ·grind
structure Low{α:Type}(lt:α->Bool)(l:List α)(b:Nat):Prop where
 le:b<=l.length
 lt:∀h n,l[h]?=some n->(lt n=true↔h<b)
def Ma{α:Type}(lt:α->Bool)(l:List α):Nat:=(l.takeWhile lt).length
theorem SZ{α:Type}{lt:α->Bool}:∀ {l:List α},l.Pairwise (fun a b=>lt b=true->lt a=true)->Low lt l (Ma lt l)
 | [],_=>⟨ar _,fun h n hn=>by simp_all⟩
 |a::r,h=>by
  obtain⟨h1,h2⟩:=bG.1 h;obtain⟨i1,i2⟩:=SZ h2;unfold Ma at i1 i2 ⊢
  by_cases ha:lt a=true
  ·rw[fh,az ha];refine⟨by grind,fun k n hn=>?_⟩
   grind
  ·rw[fh,ak ha];refine⟨by simp,fun k n hn=>?_⟩
   grind
def uk{α:Type}(eq:α->Bool)(l:List α)(b:Nat):Bool:=match l[b]? with
 |some n=>eq n
 |none=>false
def Lr{C:eO}{f p:Nat}{vs:List ag}{r:ag}{M:aL}{cs:List ag}(hM:nth M p=some (.cells cs))(h:C f (vs++[cL 0]) [.cells cs]=some (r,[.cells cs]))(h1:vs.all ag.flat=true)(h2:vs.flatMap ag.ids=[])(h3:r.wJ=true)
  (h4:vs.map (ag.ry (iH [p]))=vs) (h5:r.BI (xk [p])=r) (h6:cs.all ag.vT=true) (h7:cs.flatMap ag.mQ=[]) (h8:cs.map (ag.td (iH [p]))=cs) (h10:cs.map (ag.td (xk [p]))=cs) :
  aM C f (vs++[cL p]) M=some (r,M):=by
 have hids:(vs++[ag.ptr p 0]).flatMap ag.ids=[p]:=by simp[ag.ids,ag.mQ,ag.ia,h2]
 have hi:sQ M [p]=[]:=by simp_all [sQ,cD.ids]
 have e0:lX M [p]=[p]:=by simp[lX,hi,lV]
 have e1:reach M [p]=[p]:=by
  have ea:lV [] [p]=[p]:=rfl;simp only[reach,ea,e0]
 have hfl:(vs++[ag.ptr p 0]).all ag.flat=true:=by rw[List.all_append,h1]; rfl
 simp_all [aM,kh,iH,cD.flat,cD.ry,cd,ag.ry,bC,ag.td,ag.tZ,mF,uu]
attribute [local irreducible] fS fp kH gK dv kr aq aM cv bJ
end
section
section
variable {α:Type} (enc:α->ag) {f sz bytes:Nat}
def LL(hp:c9.sO f=some (pR sz bytes))(hw:∀a,(enc a).cells.length=sz)(hb:bytes<=1000){l:List α}(h0:l≠[])(hn:l.length<=100000)(M:aL) :
  aq c9 f [kJ (l.map enc)] M=some (.dk M.length 0 sz 0 l.length,M++[.arr sz 0 (l.map enc)]):=by
 refine gF (g:=pR sz bytes) hp ?_;obtain⟨a,r,rfl⟩:=ft h0;have hw:wid ((a::r).map enc) sz:=by have:=mG enc sz hw (a::r); simpa using this
 have hr:dQ ((a::r).map enc).length bytes:=by have:=se (a:=(a::r).length) (b:=bytes) (by omega) (by omega); simpa using this
 unfold pR;simp only[aW] at hw hr ⊢;rw[gb ⟨hw,hr⟩];simp
def Qr(hp:c9.sO f=some (nn sz bytes))(hb:bytes<=1000){l:List α}{b id v:Nat}(h:b<=l.length)(hn:l.length<=100000)(x:ag)(hx:x.cells.length=sz)(M:aL)(hM:nth M id=some (.arr sz v (l.map enc))) :
  aq c9 f [.dk id v sz 0 l.length,aG b,kJ [x]] M=some (.dk id (v+1) sz 0 (l.length+1),j6 M id (.arr sz (v+1) ((l.map enc).take b++x::(l.map enc).drop b))):=by
 refine gF (g:=nn sz bytes) hp ?_;have hr:dQ ((l.map enc).length+1) bytes:=by have:=se (a:=l.length+1) (b:=bytes) (by omega) (by omega); simpa using this
 unfold nn;simp only[hM];rw[gb ⟨trivial,trivial,trivial,by simp,by omega,by simpa using h,hx,hr⟩]
 simp
def Qq(hp:c9.sO f=some (oz sz)){l:List α}{b id v:Nat}(h:b<l.length)(hn:l.length<=100000)(M:aL)(hM:nth M id=some (.arr sz v (l.map enc))) :
  aq c9 f [.dk id v sz 0 l.length,aG b,aG ((b+1:Nat):Int)] M=some (.dk id (v+1) sz 0 (l.length-1),j6 M id (.arr sz (v+1) ((l.map enc).take b++(l.map enc).drop (b+1)))):=by
 refine gF (g:=oz sz) hp ?_;unfold oz;simp only[hM];rw[gb ⟨trivial,trivial,trivial,by simp,by omega,by simpa using h,by omega,by simp; omega⟩]
 simp
def Ve{l:List α}{b:Nat}(h:b<l.length):List.take (l.length-1) ((l.map enc).take b++(l.map enc).drop (b+1))=(l.eraseIdx b).map enc:=by
 rw[ck (by simp; omega),List.eraseIdx_eq_take_drop_succ]
 simp
def Vz{l:List α}{b:Nat}(h:b<=l.length)(x:α):List.take (l.length+1) ((l.map enc).take b++enc x::(l.map enc).drop b)=(l.take b++x::l.drop b).map enc:=by
 rw[ck (by simp; omega)]
 simp
end
attribute [local irreducible] fS fp kH gK dv kr aq aM cv bJ
def VB(t:Tree)(au:Int)(ht:Small t)(hr:wm t)(M:aL):aM (aq c9) 106 [.agg [a8 t.ae,aG t.next,aG t.ai],aG au] M=some (.tuple [.agg (aV (bE t.ae au)),.bool (find t.ae au).isSome],M) :=
 cO (ajt t au ht hr) M
def ak0(t:Tree)(au:Int)(ht:Small t)(hr:wm t)(M:aL):aM (aq c9) 104 [.agg [a8 t.ae,aG t.next,aG t.ai],aG au] M=some (.tuple [.agg (bd (oT t au).1),aG (oT t au).2],M) :=
 cO (ajr t au ht hr) M
end
section
attribute [local irreducible] fS fp kH gK dv kr aq aM cv bJ
def cq.sz{t:Tree}{cg:Int->Nat}{x:Int}(h:cq t cg x):Sz 200 t where
 ae:=h.ae
 aN:=fun n hn=>by have:=(h.xN _ _ ((fy h.jE.jx).2 ⟨hn,rfl⟩)).2; omega
 data:=fun n hn=>by
  have hi:=(fy h.jE.jx).2 ⟨hn,rfl⟩;rcases h.kind _ _ hi with h1|h1
  ·have:=(h.file _ _ hi h1).2.2; omega
  ·rw[h.dir _ _ hi h1]; simp
def Sz.KZ{b:Nat}{t:Tree}(h:Sz b t)(hb:b<=100000:=by omega):Small t:=h.small hb
def Rt(t:Tree):Prop:=∃cg,cq t cg 0
def Rt.jE{t:Tree}(h:Rt t):wm t:=let ⟨_,g⟩:=h; g.jE
def Rt.sz{t:Tree}(h:Rt t):Sz 200 t:=let ⟨_,g⟩:=h; g.sz
def Rt.small{t:Tree}(h:Rt t):Small t:=h.sz.small (by omega)
def Rt.free{t:Tree}(h:Rt t)(au:Int):Rt (oT t au).1:=let ⟨_,g⟩:=h; ⟨_,Eg g au⟩
def b0T(n:Tree)(B:Nat)(M:aL):List.map (ag.jC B M) (bd n)=bd n:=rfl
end
abbrev AM(α:Type):=List (Int×α)
section
variable {α:Type}
def wE(l:AM α):List ag:=l.map fun p => .int .i64 p.1
def qT(enc:α->ag)(l:AM α):List ag:=l.map fun p=>enc p.2
def dw:AM α->Int->Option α
 | [],_=>none
 |(k',v)::l,k=>if k=k' then some v else dw l k
def kq:AM α->Int->α->AM α
 | [],k,v=>[(k,v)]
 |(k',v')::l,k,v=>if k=k' then (k,v)::l else (k',v')::kq l k v
def ga:∀(l:AM α)(k:Int)(v:α)(j:Int),dw (kq l k v) j=if j=k then some v else dw l j
 | [],k,v,j=>by simp only[kq,dw]
 |(k',v')::l,k,v,j=>by
  simp only[kq];split
  ·rename_i h;subst h;simp only[dw];split<;>rfl
  ·rename_i h;simp only[dw];split
   ·rename_i h2;rw[ak (fun hh=>h (hh.symm.trans h2))]
   ·exact ga l k v j
def C9:∀(l:AM α)(k:Int)(v:α),dw l k=some v->(k,v)∈l
 |(k',v')::l,k,v,h=>by
  simp only[dw] at h;split at h
  ·rename_i hk;injection h with h
   subst h; subst hk;exact aD
  ·exact aP _ (C9 l k v h)
def Tb:∀(l:AM α)(k:Int)(v:α),(kq l k v).length<=l.length+1
 | [],_,_=>by simp[kq]
 |(k',v')::l,k,v=>by
  simp only[kq];split
  ·simp
  ·have:=Tb l k v;simp; omega
def mD(enc:α->ag):∀(l:AM α)(k:Int),uD .i (aG k) (wE l) (qT enc l)=some ((dw l k).map enc)
 | [],k=>rfl
 |(k',v)::l,k=>by
  show bJ (il .i (aG k) (aG k')) (fun b=>zo b (some (some (enc v))) (uD .i (aG k) (wE l) (qT enc l)))=_
  rw[mD enc l k];simp only[il,↓reduceIte,cd,dw]
  by_cases h:k=k'
  ·rw[az h,show(k==k')=true by simpa using h,va]; rfl
  ·rw[ak h,show(k==k')=false by simpa using h,nF]
end
section
variable {α:Type}
def tU(enc:α->ag):∀(l:AM α)(k:Int)(v:α),sM .i (aG k) (enc v) (wE l) (qT enc l)=some (wE (kq l k v),qT enc (kq l k v))
 | [],k,v=>by
  show bJ (il .i (aG k) (aG k)) (fun _=>some ([AValiZq k],[enc v]))=_
  simp only[il,↓reduceIte,cd];rfl
 |(k',v')::l,k,v=>by
  show bJ (il .i (aG k) (aG k')) (fun b=>zo b (some (AValiZq k::wE l,enc v::qT enc l)) (bJ (sM .i (aG k) (enc v) (wE l) (qT enc l)) fun x=>some (AValiZq k'::x.1,enc v'::x.2)))=_
  rw[tU enc l k v];simp only[il,↓reduceIte,cd,kq]
  by_cases h:k=k'
  ·rw[az h,show(k==k')=true by simpa using h,va]; rfl
  ·rw[ak h,show(k==k')=false by simpa using h,nF]; rfl
def aas(enc:α->ag)(B:Nat)(M:aL)(h:∀a,(enc a).jR B M=enc a)(l:AM α):List.map (ag.jR B M) (qT enc l)=qT enc l:=by
 unfold qT;rw[fW];exact bX (fun p _=>h p.2)
def Y7(enc:α->ag)(h:∀a,(enc a).ids=[])(l:AM α):(qT enc l).flatMap ag.ids=[]:=by
 unfold qT;rw[List.flatMap_map];exact jH.2 fun p _=>h p.2
def P5(enc:α->ag)(h:∀a,(enc a).flat=true)(l:AM α):(qT enc l).all ag.flat=true:=bw.2 fun x hx=>by
 obtain⟨p,_,rfl⟩:=bS.1 hx;exact h p.2
def Zy(enc:α->ag)(ρ:Nat->Nat)(h:∀a,(enc a).ry ρ=enc a)(l:AM α):(qT enc l).map (ag.ry ρ)=qT enc l:=by
 unfold qT;rw[fW];exact bX (fun p _=>h p.2)
def Vf(l:AM α):(wE l).length=l.length:=by simp[wE]
def Ii(o:Option Bool):mC (.bool false) false (o.map ag.bool) = .bool (o.getD false):=by cases o<;>rfl
end
noncomputable def nL(T:BD)(f0:Nat)(g:List ag->aL->Option (ag×aL)):BD:=⟨T.code,fun f=>if f=f0 then some g else T.sO f⟩
def xd{P:Program}{T:BD}(hT:xV P T){f0:Nat}{g:List ag->aL->Option (ag×aL)}(he:kN P f0=true)(hg:∀ {args:List ag} {M:aL} {x:ag×aL},g args M=some x->eP P f0 args M x):xV P (nL T f0 g):=by
 refine⟨hT.code,fun f g' h args M x hx=>?_⟩
 simp only[nL] at h;split at h
 ·rename_i hf;cases h; subst hf;exact⟨he,hg hx⟩
 ·exact hT.sO f g' h args M x hx
def zG{T:BD}{f0:Nat}{g:List ag->aL->Option (ag×aL)}(h1:T.code f0=none)(h2:T.sO f0=none):∀n,x9 (kU T n) (kU (nL T f0 g) n)
 |0,f,a,M,x,h=>by
  by_cases hf:f=f0
  ·subst hf;rw[kU,h2] at h;cases h
  ·have hp:(nL T f0 g).sO f=T.sO f:=by simp[nL,hf]
   rw[kU] at h ⊢;rw[hp];exact h
 |n+1,f,a,M,x,h=>by
  by_cases hf:f=f0
  ·subst hf;rw[kU,h2,h1] at h;cases h
  ·have hp:(nL T f0 g).sO f=T.sO f:=by simp[nL,hf]
   rw[kU] at h ⊢;rw[hp];split at h
   ·rename_i g hg; exact h
   ·rename_i hg;have hc:(nL T f0 g).code f=T.code f:=rfl;rw[hc];split at h
    ·cases h
    ·rename_i fn hfn;split at h
     ·rename_i hl;simp only[az hl];obtain⟨o,ho,h⟩:=bo h;rw[j8 (zG h1 h2 n) _ ho,cd];exact h
     ·cases h
def xc{T:BD}{f0:Nat}{g:List ag->aL->Option (ag×aL)}(h1:T.code f0=none)(h2:T.sO f0=none){f:Nat}{a:List ag}{M:aL}{x:ag×aL}(h:aq T f a M=some x):aq (nL T f0 g) f a M=some x:=by
 obtain⟨n,hn⟩:=uC h;exact p8 (fun n x h=>uI _ n f a M x h) (zG h1 h2 n f a M x hn)
noncomputable def aid:BD:=nL c9 158 (KS (aq c9) LF 1)
def Xn:xV Tryz.prog aid:=xd Uk (by kernel_rfl) (fun h=>(NK (by kernel_rfl) (uh (by kernel_rfl) Uk) func158 ahH h).2)
noncomputable def fR:BD:=nL aid 63 Dj
def MD:xV Tryz.prog fR:=xd Xn (by kernel_rfl) (fun h=>Uh h)
def Ue:pj Tryz.prog (aq fR):=uh (by kernel_rfl) MD
def MF{f:Nat}{a:List ag}{M:aL}{x:ag×aL}(h:aq c9 f a M=some x):aq fR f a M=some x:=xc rfl rfl (xc rfl rfl h)
def lS'{f:Nat}{a:List ag}{M:aL}{x:ag×aL}(h:aq c9 f a M=some x):aq fR f a M=some x:=MF h
def lS{f:Nat}{vs:List ag}{M:aL}{x:ag×aL}(h:aM (aq c9) f vs M=some x):aM (aq fR) f vs M=some x:=by
 obtain⟨a,B,y,h1,h2⟩:=tG h;exact h2 _ (MF h1)
def k63(s:Bytes)(hs:s.length<=100000)(M:aL):aM (aq fR) 63 [.str s] M=some (.tuple [fO (bz s).1,aG (bz s).2],M):=by
 have h:aq fR 63 [.str s] []=some (.tuple [fO (bz s).1,aG (bz s).2],[]):=by
  refine gF (g:=Dj) rfl ?_;unfold Dj;simp only[];rw[az ⟨trivial,hs⟩]
 exact cO h M
end
section
open Go Go.RowKit Go.Extern.Stop Go.Stop Go.Extern
def KC (h:Value) (w:World):(Go.method 442 248 (.agg #[h]) "Kind").run Tryz.prog w = .ok (301,h) w:=by kernel_rfl
def KB (h:Value) (w:World):(Go.method 442 248 (.agg #[h]) "Elem").run Tryz.prog w = .ok (312,.agg #[h]) w:=by kernel_rfl
def Ax (h:Value) (w:World):(Go.method 442 248 (.agg #[h]) "Implements").run Tryz.prog w = .ok (313,.agg #[h]) w:=by kernel_rfl
def yE (h:Value) (w:World):(Go.method 442 248 (.agg #[h]) "AssignableTo").run Tryz.prog w = .ok (310,.agg #[h]) w:=by kernel_rfl
def rlm(z:Sem Value)(f:TypeId->Addr->Nat->Nat->Sem Value)(v:Value) :
  ReflectliteValue.method z f #[v]=(do match <-ReflectliteValue.parts v with|none=>z|some (t,a,fl)=>f t a fl (fl % 32)):=rfl
def rls(v x:Value):ReflectliteValue.set #[v,x]=(do
  let (some (dst,a,fl),some (src,b,_)):=(<-ReflectliteValue.parts v,<-ReflectliteValue.parts x)
   |unsupported (.noEntry "extern/(internal/reflectlite.Value).Set.zeroValue")
  if fl / ReflectliteValue.flagAddr % 2==0 then unsupported (.noEntry "extern/(internal/reflectlite.Value).Set.unaddressable")
  let val <-loadVar src b
  if <-Rtype.directlyAssignable dst src then storeVar dst a val
  else if <-Rtype.implements dst src then
   if (<-Rtype.kind src)==20 then
    match val with
    | .nilIface=>unsupported (.noEntry "extern/reflectlite: a nil value of one interface type handed on as a value of another")
    |_=>storeVar dst a val
   else storeVar dst a (.iface src val)
  else panicString ("reflectlite.Set: value of type " ++ (<-Rtype.spelt src) ++ " is not assignable to type " ++ (<-Rtype.spelt dst))
  pure (.tuple #[])):=rfl
def J3(t:Addr)(w:World):(ReflectliteValue.unpack (.iface 140 (.pointer (some t)))).run Tryz.prog w
  = .ok (.agg #[.pointer (some ⟨2,140,none⟩),.pointer (some ⟨w.heap.size,0,none⟩),.int .u64 150]) (w.alloc (.cells #[.pointer (some t)] 140)):=by kernel_rfl
def Vo (a:Addr) (w:World):(ReflectliteValue.methodAny (ReflectliteValue.valueError "reflectlite.Value.Type" 0) (fun t _ _ _=>ReflectliteType.toType t) #[.agg #[.pointer (some ⟨2,140,none⟩),.pointer (some a),.int .u64 150]]).run Tryz.prog w
  = .ok (.iface 248 (.agg #[.pointer (some ⟨2,140,none⟩)])) w:=by kernel_rfl
def Vm(w:World):((ReflectliteType.abiMethod fun t=>Functor.map (fun a:Nat=>Value.int IntKind.u8 (a:Int)) (Rtype.kind t)) #[.pointer (some ⟨2,140,none⟩)]).run Tryz.prog w = .ok (.int .u8 22) w:=by kernel_rfl
def Vn(w:World):((ReflectliteType.abiMethod fun t=>Functor.map (fun a:Nat=>Value.int IntKind.u8 (a:Int)) (Rtype.kind t)) #[.pointer (some ⟨2,34,none⟩)]).run Tryz.prog w = .ok (.int .u8 2) w:=by kernel_rfl
def Hr(a:Addr)(w:World):(ReflectliteValue.parts (.agg #[.pointer (some ⟨2,140,none⟩),.pointer (some a),.int .u64 150])).run Tryz.prog w = .ok (some (140,a,150)) w:=by kernel_rfl
def PT(a p:Addr)(W:World)(ha:W.cell? a=some (.pointer (some p))) :
  (ReflectliteValue.method (ReflectliteValue.valueError "reflectlite.Value.IsNil" 0) ReflectliteValue.isNil #[.agg #[.pointer (some ⟨2,140,none⟩),.pointer (some a),.int .u64 150]]).run Tryz.prog W = .ok (.bool false) W:=by
 rw[rlm];simp only[Sem.run_bind,Hr,Result.andThen];simp[ReflectliteValue.isNil,loadVar,isAgg,underlying,underlying140,ha,Result.andThen]
def Vl(w:World):(ReflectliteType.method ReflectliteType.elem #[.agg #[.pointer (some ⟨2,140,none⟩)]]).run Tryz.prog w = .ok (.iface 248 (.agg #[.pointer (some ⟨2,34,none⟩)])) w:=by kernel_rfl
def DL (w:World):(ReflectliteType.relation "Implements" ReflectliteType.implements_ #[.agg #[.pointer (some ⟨2,34,none⟩)],.iface 248 (.agg #[.pointer (some ⟨2,137,none⟩)])]).run Tryz.prog w = .ok (.bool true) w:=by kernel_rfl
def Nt(v:Value)(w:World):(ReflectliteType.typeOf #[.iface 34 v]).run Tryz.prog w = .ok (.iface 248 (.agg #[.pointer (some ⟨2,34,none⟩)])) w:=by kernel_rfl
def DK (w:World):(ReflectliteType.relation "AssignableTo" ReflectliteType.assignableTo #[.agg #[.pointer (some ⟨2,34,none⟩)],.iface 248 (.agg #[.pointer (some ⟨2,34,none⟩)])]).run Tryz.prog w = .ok (.bool true) w:=by kernel_rfl
def J4(e:Int)(w:World):(ReflectliteValue.unpack (.iface 34 (.int .i64 e))).run Tryz.prog w
  = .ok (.agg #[.pointer (some ⟨2,34,none⟩),.pointer (some ⟨w.heap.size,0,none⟩),.int .u64 130]) (w.alloc (.cells #[.int .i64 e] 34)):=by kernel_rfl
def Nr(w:World):(Rtype.elem? 140).run Tryz.prog w = .ok (some 34) w:=by kernel_rfl
def af0(p:Addr)(w:World):(ReflectliteValue.mk 34 p ReflectliteValue.flagAddr).run Tryz.prog w = .ok (.agg #[.pointer (some ⟨2,34,none⟩),.pointer (some p),.int .u64 386]) w:=by kernel_rfl
def PS(a p:Addr)(W:World)(ha:W.cell? a=some (.pointer (some p))) :
  (ReflectliteValue.method (ReflectliteValue.valueError "reflectlite.Value.Elem" 0) ReflectliteValue.elem #[.agg #[.pointer (some ⟨2,140,none⟩),.pointer (some a),.int .u64 150]]).run Tryz.prog W
   = .ok (.agg #[.pointer (some ⟨2,34,none⟩),.pointer (some p),.int .u64 386]) W:=by
 rw[rlm];simp only[Sem.run_bind,Hr,Result.andThen];simp[ReflectliteValue.elem,loadVar,isAgg,underlying,underlying140,ha,Result.andThen,Nr,af0]
def Ns(a:Addr)(w:World):(ReflectliteValue.parts (.agg #[.pointer (some ⟨2,34,none⟩),.pointer (some a),.int .u64 386])).run Tryz.prog w = .ok (some (34,a,386)) w:=by kernel_rfl
def PU(a:Addr)(w:World):(ReflectliteValue.parts (.agg #[.pointer (some ⟨2,34,none⟩),.pointer (some a),.int .u64 130])).run Tryz.prog w = .ok (some (34,a,130)) w:=by kernel_rfl
def Nq(w:World):(Rtype.directlyAssignable 34 34).run Tryz.prog w = .ok true w:=by kernel_rfl
def aax(ta b:Addr)(e:Int)(ur:Value)(W:World)(hb:W.cell? b=some (.int .i64 e))(ht:W.cell? ta=some ur)(hf:W.frozen? ta=false) :
  (ReflectliteValue.set #[.agg #[.pointer (some ⟨2,34,none⟩),.pointer (some ta),.int .u64 386],.agg #[.pointer (some ⟨2,34,none⟩),.pointer (some b),.int .u64 130]]).run Tryz.prog W
   = .ok (.tuple #[]) (W.setCell ta (.int .i64 e)):=by
 have hz:=sizeOf34;have hadd:∀a:Addr,a.add 0=a:=fun a=>by simp[Addr.add]
 rw[rls];simp only[Sem.run_bind,Ns,PU,Result.andThen];simp[ReflectliteValue.flagAddr,loadVar,isAgg,underlying,underlying34,hb,Result.andThen,Nq,storeVar,Value.cells,storeCells,loadCells,loadCellsFrom,hz,hadd];rw[run_store Tryz.prog W ta _ _ (by rfl)]
 simp[ht,hf]
set_option maxHeartbeats 4000000 in
set_option maxRecDepth 40000 in
def afZ(e:Int)(t:Addr)(ur:Value)(w:World)(hg:w.cell? ⟨0,0,none⟩=some (.iface 248 (.agg #[.pointer (some ⟨2,137,none⟩)])))(ht0:w.cell? t=some ur)(hf0:w.frozen? t=false) :
  Calls Tryz.prog 96 #[.iface 34 (.int .i64 e),.iface 140 (.pointer (some t))] w fun ev w'=>ev = .returned (.bool true)/\w'=((((w.alloc (.cells #[.pointer (some t)] 140)).alloc (.cells #[.pointer (some ⟨2,140,none⟩),.pointer (some ⟨w.heap.size,0,none⟩),.int .u64 150] 200)).alloc (.cells #[.pointer (some ⟨2,140,none⟩),.pointer (some ⟨w.heap.size,0,none⟩),.int .u64 150] 200)).alloc (.cells #[.int .i64 e] 34)).setCell t (.int .i64 e):=by
 have h6:=@run_callFunc_extern Tryz.prog 164 _ (fun args=>ReflectliteValue.unpack (args.getD 0 (.tuple #[]))) func164 (by kernel_rfl) (by kernel_rfl) (by kernel_rfl) (by kernel_rfl)
 have h7:=@run_callFunc_extern Tryz.prog 165 _ (ReflectliteValue.methodAny (ReflectliteValue.valueError "reflectlite.Value.Type" 0) (fun t _ _ _=>ReflectliteType.toType t)) func165 (by kernel_rfl) (by kernel_rfl) (by kernel_rfl) (by kernel_rfl)
 have h8:=@run_callFunc_extern Tryz.prog 166 _ (ReflectliteValue.method (ReflectliteValue.valueError "reflectlite.Value.IsNil" 0) ReflectliteValue.isNil) func166 (by kernel_rfl) (by kernel_rfl) (by kernel_rfl) (by kernel_rfl)
 have h27:=@run_callFunc_extern Tryz.prog 301 _ (ReflectliteType.abiMethod fun t=>do pure (.int .u8 (<-Rtype.kind t))) func301 (by kernel_rfl) (by kernel_rfl) (by kernel_rfl) (by kernel_rfl)
 have h37:=@run_callFunc_extern Tryz.prog 312 _ (ReflectliteType.method ReflectliteType.elem) func312 (by kernel_rfl) (by kernel_rfl) (by kernel_rfl) (by kernel_rfl)
 have h38:=@run_callFunc_extern Tryz.prog 313 _ (ReflectliteType.relation "Implements" ReflectliteType.implements_) func313 (by kernel_rfl) (by kernel_rfl) (by kernel_rfl) (by kernel_rfl)
 have h10:=@run_callFunc_extern Tryz.prog 213 _ ReflectliteType.typeOf func213 (by kernel_rfl) (by kernel_rfl) (by kernel_rfl) (by kernel_rfl)
 have h35:=@run_callFunc_extern Tryz.prog 310 _ (ReflectliteType.relation "AssignableTo" ReflectliteType.assignableTo) func310 (by kernel_rfl) (by kernel_rfl) (by kernel_rfl) (by kernel_rfl)
 have h11:=@run_callFunc_extern Tryz.prog 214 _ (ReflectliteValue.method (ReflectliteValue.valueError "reflectlite.Value.Elem" 0) ReflectliteValue.elem) func214 (by kernel_rfl) (by kernel_rfl) (by kernel_rfl) (by kernel_rfl)
 have h12:=@run_callFunc_extern Tryz.prog 215 _ ReflectliteValue.set func215 (by kernel_rfl) (by kernel_rfl) (by kernel_rfl) (by kernel_rfl)
 have tO:=Nt;have mA:=yE;have a25:=DK;have v25:=J4;have f6:=J3;have f7:=Vo;have mK:=KC;have mE:=KB;have mI:=Ax;have k27:=Vm;have k25:=Vn;have e27:=Vl;have i25:=DL;have n8:=PT ⟨w.heap.size,0,none⟩ t ((w.alloc (.cells #[.pointer (some t)] 140)).alloc (.cells #[.pointer (some ⟨2,140,none⟩),.pointer (some ⟨w.heap.size,0,none⟩),.int .u64 150] 200)) (by simp)
 have cu:0<w.heap.size:=by
  rcases fE w.heap.size with h0|h
  ·simp[World.cell?,h0] at hg
  ·exact h
 have hg2:((w.alloc (.cells #[.pointer (some t)] 140)).alloc (.cells #[.pointer (some ⟨2,140,none⟩),.pointer (some ⟨w.heap.size,0,none⟩),.int .u64 150] 200)).cell? ⟨0,0,none⟩=some (.iface 248 (.agg #[.pointer (some ⟨2,137,none⟩)])):=by
  rw[World.cell?_alloc_lt _ _ ⟨0,0,none⟩ (by simp),World.cell?_alloc_lt _ _ ⟨0,0,none⟩ cu]; exact hg
 have htl:t.block<w.heap.size:=by
  rcases bH t.block w.heap.size with h|h
  ·exact h
  ·simp[World.cell?,gX h] at ht0
 have el:=PS ⟨w.heap.size,0,none⟩ t (((w.alloc (.cells #[.pointer (some t)] 140)).alloc (.cells #[.pointer (some ⟨2,140,none⟩),.pointer (some ⟨w.heap.size,0,none⟩),.int .u64 150] 200)).alloc (.cells #[.pointer (some ⟨2,140,none⟩),.pointer (some ⟨w.heap.size,0,none⟩),.int .u64 150] 200)) (by rw[World.cell?_alloc_lt _ _ ⟨w.heap.size,0,none⟩ (by simp; omega)]; simp)
 have st:=aax t ⟨w.heap.size+1+1+1,0,none⟩ e ur ((((w.alloc (.cells #[.pointer (some t)] 140)).alloc (.cells #[.pointer (some ⟨2,140,none⟩),.pointer (some ⟨w.heap.size,0,none⟩),.int .u64 150] 200)).alloc (.cells #[.pointer (some ⟨2,140,none⟩),.pointer (some ⟨w.heap.size,0,none⟩),.int .u64 150] 200)).alloc (.cells #[.int .i64 e] 34))
  (by rw[World.cell?_alloc_at _ _ _ _ (by simp)]; rfl)
  (by rw[World.cell?_alloc_lt _ _ t (by simp; omega),World.cell?_alloc_lt _ _ t (by simp; omega),World.cell?_alloc_lt _ _ t (by simp; omega),World.cell?_alloc_lt _ _ t htl]; exact ht0)
  (by rw[World.frozen?_alloc_old _ _ t (by simp; omega),World.frozen?_alloc_old _ _ t (by simp; omega),World.frozen?_alloc_old _ _ t (by simp; omega),World.frozen?_alloc_old _ _ t (gr htl)]; exact hf0)
 go_enter func96,ntmps96
 go_wp2
 refine wp_loop_rounds 1 ?_;rw[rounds_succ]
 go_wp2
 go_ret
 exact⟨rfl,rfl⟩
end
section
open Go Go.Abs
def JC(w:World):(Instr.typeAssert .nilIface 20 137 true).run Tryz.prog w = .ok (.tuple #[.nilIface,.bool false]) w:=by kernel_rfl
def JB(v:Value)(w:World):(Instr.typeAssert (.iface 34 v) 20 137 true).run Tryz.prog w = .ok (.tuple #[.iface 34 v,.bool true]) w:=by kernel_rfl
set_option maxRecDepth 40000 in
def OG(p:Value)(w:World) :
  CallsD Tryz.prog 95 #[p] .returning w fun e u' w'=>e = .returned (.tuple #[])/\u' = .returning/\w'=w:=by
 refine callsD_of_wpS func95 rfl fun c₀ cs hu=>?_
 simp only[ntmps95,cJ,av,aH,Nat.reduceAdd,Nat.reduceSub,jk,jl,kC,jF,aX,aY];apply wpS_seq;apply wpS_region;simp[wpOpsS,go_sem,recoverD,hu,Exit.thenS,JC];apply wpS_seq;apply wpS_region;simp[wpOpsS,go_sem,Exit.thenS];refine wpS_cond (t:=false) (by simp[Act.eval]) ?_
 simp only[af,aw];refine wpS_of_wp (wp_skip ?_);cases c₀;simp_all [bodyPostS,results,Tryz.results95]
def FU(w:World)(o:Obj):(w.alloc o).heap=w.heap.push o:=rfl
def Xh{e:Int}{j:J}{M:aL}{w W:World}{k b:Nat}{c:ag}(hr:Rel j M w)(hM:M[k]?=some (.cells [c]))(hj:j k=some b){vs:Array Value}{t:TypeId}(hw:w.heap[b]?=some (.cells vs t (0,0)))(hv:vs.size=1)
  (hsz:w.heap.size<=W.heap.size) (hos:W.os=w.os) (ht:W.tape=w.tape) (hou:W.output=w.output) (hq:∀b',b'≠b->b'<w.heap.size->W.heap[b']?=w.heap[b']?) (hs:W.heap[b]?=some (.cells (vs.setIfInBounds 0 (.int .i64 e)) t (0,0))) :
  Rel j (M.set k (.cells [.int .i64 e])) W/\Ext j M w j (M.set k (.cells [.int .i64 e])) W:=by
 have hg:∀(vs':Array Value)(t':TypeId)(fr:Nat×Nat),w.heap[b]?=some (.cells vs' t' fr)->∃us fr',W.heap[b]?=some (.cells us t' fr')/\us.size=vs'.size:=fun vs' t' fr h=>by
  rw[hw] at h;injection h with h
  injection h with h1 h2 h3
  subst h1; subst h2;exact⟨_,_,hs,by simp⟩
 have q:Quiet w W:=⟨hsz,hos,ht,hou⟩;refine⟨Rel.store hM rfl rfl hj hr q hq hg fun j' M' _=>⟨_,_,hs,by simp[hv],fun i c v hc hv=>?_⟩,Ext.store hM rfl rfl hj hr q hq hg⟩
 match i with
 |0 =>
  have h0:(vs.setIfInBounds 0 (.int .i64 e))[0]?=some (.int .i64 e):=Array.getElem?_setIfInBounds_self_of_lt (by omega)
  rw[h0] at hv;simp at hc;injection hv with hv
  subst hc; subst hv;exact .plain (.int _ _)
 |i+1=>simp at hc
def Ul{e:Int}{j:J}{M:aL}{w:World}(hr:Rel j M w)(hG:sE j M w){k b:Nat}{c:ag}(hM:M[k]?=some (.cells [c]))(hj:j k=some b){vs:Array Value}{t:TypeId}(hw:w.heap[b]?=some (.cells vs t (0,0)))(hv:vs.size=1) :
  CallsD Tryz.prog 95 #[.pointer (some ⟨b,0,none⟩)] (.panicking [{ v := .iface 34 (.int .i64 e),recovered:=false }]) w fun ed u' w' =>
   ed = .returned (.tuple #[])/\u' = .panicking [{ v := .iface 34 (.int .i64 e),recovered:=true }]/\Rel j (M.set k (.cells [.int .i64 e])) w'/\Ext j M w j (M.set k (.cells [.int .i64 e])) w':=by
 have hg:=(hG.g 0 [Hs] 0 Hs rfl rfl).2;have cu:0<w.heap.size:=(hG.g 0 [Hs] 0 Hs rfl rfl).1.lt;have hk:k<M.length:=aF hM;have hb:=hr.lt _ _ hk hj;refine callsD_of_wpS func95 rfl fun c₀ cs hu=>?_
 simp only[ntmps95,cJ,av,aH,Nat.reduceAdd,Nat.reduceSub,jk,jl,kC,jF,aX,aY];apply wpS_seq;apply wpS_region;simp[wpOpsS,go_sem,recoverD,hu,Exit.thenS,JB];refine wpS_of_wp ?_;refine wp_seq (wp_region ?_);simp[wpOps,go_sem,Exit.then]
 repeat' refine Or.inl ?_
 refine(afZ e ⟨b,0,none⟩ vs[0] _ hg (by simp[World.cell?,hw,hv]) (by simp[World.frozen?,hw])).mono ?_
 rintro ev w' ⟨rfl,rfl⟩;simp[go_sem]
 repeat' refine Or.inl ?_
 refine wp_cond (t:=false) ?_ ?_
 ·simp[Act.eval]
 simp only[af,aw];refine wp_skip ?_
 have hR:=Xh (e:=e) (W:=((((w.alloc (.cells #[.pointer (some ⟨b,0,none⟩)] 140)).alloc (.cells #[.pointer (some ⟨2,140,none⟩),.pointer (some ⟨w.heap.size,0,none⟩),.int .u64 150] 200)).alloc (.cells #[.pointer (some ⟨2,140,none⟩),.pointer (some ⟨w.heap.size,0,none⟩),.int .u64 150] 200)).alloc (.cells #[.int .i64 e] 34)).setCell ⟨b,0,none⟩ (.int .i64 e)) hr hM hj hw hv (by simp[World.setCell,FU]; omega) rfl rfl rfl (fun b' h1 h2=>by
   have h3:b'≠w.heap.size:=by omega
   have h4:b'≠w.heap.size+1:=by omega
   have h5:b'≠w.heap.size+1+1:=by omega
   have h6:b'≠w.heap.size+1+1+1:=by omega
   simp[World.setCell,fb,dD h1,FU,fL,h3,h4,h5,h6]) (by
   have h3:b≠w.heap.size:=by omega
   have h4:b≠w.heap.size+1:=by omega
   have h5:b≠w.heap.size+1+1:=by omega
   have h6:b≠w.heap.size+1+1+1:=by omega
   simp[World.setCell,fb,FU,fL,hw,h3,h4,h5,h6])
 simp[bodyPostS,results,Tryz.results95];exact hR
end
end Go.Proofs.YtcbopkblmebjiaaGreatDoor
set_option linter.defProp false
namespace Go.Proofs.YtcbopkblmebjiaaGreatDoor
open Go Go.Abs
def TX:cz :=
 (.seq (.region [
 ox (.store 1 (.tmp 2) (.ll (.int .i64 0)))] false [2]) (.ret))
noncomputable def XL:Code:=match Tryz.f44.body with|some (.seq _ (.seq _ r))=>r|_ => .skip
def Pm:B5:={ n:=6,own:=[],lv:=[(2,[2]),(3,[2])],lp:=[] }
def D2:cz :=
 (.seq (.region [
 ob 4 (.mv (.tmp 0)),
 ob 5 (.vR (.tmp 4) [])] false [2]) TX)
def ahS:comp Tryz.prog Pm XL=some D2:=by kernel_rfl
-- 95 "catacomb/fed.told$1": not aoq: tuple index out of range
noncomputable def XK:Code:=match Tryz.f44.body with|some (.seq r _)=>r|_ => .skip
def ZZ:B5:={ n:=6,own:=[],lv:=[(0,[0,2,3])],lp:=[] }
def Ls:cz :=
 (.region [
 ob 2 (.sU [(.int .i64 0)])] false [0,2,3])
def ahR:comp Tryz.prog ZZ XK=some Ls:=by kernel_rfl
end Go.Proofs.YtcbopkblmebjiaaGreatDoor
namespace Go.Abs
open Go
variable [kg]
def TJ{a:Act}{d:Option Nat}{v:Value}{t:Nat}(h:d≠some t):(a.put d v).tmps.getD t undef=a.tmps.getD t undef:=by
 cases d with
 |none=>rfl
 |some s =>
  have hne:s≠t:=fun e=>h (by rw[e])
  simp[Act.put,cW,eW hne]
def QH{F:Fence}{n:Nat}{P:Program}{ops:Array Oper}{Q:Exit->Act->World->Prop}{ks:List Nat}{v0:Nat->Value}:∀(l:List Nat)(a:Act)(w:World),
  (∀i o,i∈l->ops[i]?=some o->∀t,t∈ks->o.dst≠some t)->(∀t,t∈ks->a.tmps.getD t undef=v0 t)->wpOpsIn F n P ops Q l a w->wpOpsIn F n P ops (fun e a' w'=>Q e a' w'/\(e = .outgrown\/∀t,t∈ks->a'.tmps.getD t undef=v0 t)) l a w:=by
 intro l;induction l with
 |nil=>exact fun a w _ hv h=>⟨h,.inr hv⟩
 |cons i rest ih =>
  intro a w hd hv h;have hd':∀i o,i∈rest->ops[i]?=some o->∀t,t∈ks->o.dst≠some t:=fun i o hi=>hd i o (aP _ hi)
  simp only[wpOpsIn] at h ⊢;cases ho:ops[i]? with
  |none=>rw[ho] at h; exact ih a w hd' hv h
  |some o =>
   rw[ho] at h;have hdo:=hd i o aD ho;have hp:∀(a:Act) v,(∀t,t∈ks->a.tmps.getD t undef=v0 t)->∀t,t∈ks->(a.put o.dst v).tmps.getD t undef=v0 t:=fun a v h t ht=>(TJ (hdo t ht)).trans (h t ht)
   simp only at h ⊢;split at h
   ·rename_i hw;rw[az hw];refine⟨h.1,?_⟩;have h:=h.2;unfold Oper.uponIn at h ⊢;split at h
    ·exact ih _ _ hd' (hp _ _ hv) h
    ·exact ih _ _ hd' (hp _ _ hv) h
    ·exact ih _ _ hd' (hp _ _ hv) h
    ·refine⟨h.1,h.2.mono fun e w' h=>?_⟩
     cases e with
     |returned v=>exact ih _ _ hd' (hp _ _ hv) h
     |panicked c=>exact⟨h,.inr hv⟩
     |outgrown=>obtain⟨a1,w1,h⟩:=h; exact⟨a1,w1,h,.inl rfl⟩
    ·exact⟨h.1,h.2.mono fun v w' h=>ih _ _ hd' (hp _ _ hv) h⟩
    ·refine⟨h.1,h.2.mono fun e w' h=>?_⟩
     cases e with
     |returned v=>exact ih _ _ hd' (hp _ _ hv) h
     |panicked c=>exact⟨h,.inr hv⟩
     |outgrown=>obtain⟨a1,w1,h⟩:=h; exact⟨a1,w1,h,.inl rfl⟩
    ·exact⟨h,.inr hv⟩
    ·exact h.elim
   ·rename_i hw;rw[ak hw];exact⟨h.1,ih _ _ hd' (hp _ _ hv) h.2⟩
def BH(ks:List Nat)(bt:Env)(o:Out):Out:=match o.e with
 | .oC v=>⟨.oC v,ju bt ks,o.mem⟩
 |_=>o
noncomputable def w8(C:eO)(ks:List Nat):cz->Env->aL->Option Out
 | .seq x y,bt,M=>bJ (w8 C ks x bt M) fun o=>uz o (w8 C ks y)
 | .region ops d live,bt,M=>bJ (fm C (.region ops d live) bt M) fun o=>some (if d then o else BH ks bt o)
 |c,bt,M=>fm C c bt M
def HH(ks:List Nat):Code->Bool
 | .seq x y=>HH ks x&&HH ks y
 | .region _ ops _=>ops.toList.all fun o=>match o.dst with|some d => !ks.contains d|none=>true
 |_=>true
def IQ{P:Program}{C:eO}{A:B5}(hmix:P.follows .mixedOrders=true)(hC:pj P C){rd:Option Nat}{nd:Nat}{ks:List Nat}:∀(c:Code){ac:cz},comp P A c=some ac->HH ks c=true->∀ {bt:Env} {M:aL} {o:Out},w8 C ks ac bt M=some o ->
  ∀ {j:J} {w:World} {a:Act},Rel j M w->sE j M w->cy j M w bt a->a.tmps.size=A.n->c.wpIn (Wd rd) nd P (UO A j M w a o) a w:=by
 intro c;induction c with
 |seq x y ihx ihy =>
  intro ac hc hf bt M o h j w a hr hG he hs;simp only[comp] at hc;obtain⟨ax,hx,hc⟩:=ba hc;obtain⟨ay,hy,hc⟩:=ba hc;cases hc;simp only[HH,bn] at hf;simp only[w8] at h;obtain⟨o1,h1,h⟩:=bo h;refine wpIn_seq (wpIn_mono (ihx hx hf.1 h1 hr hG he hs) ?_);rintro e a1 w1 ⟨he1,hs1,hd1,j1,r1,e1,x1⟩;rcases tJ h with ⟨hn,h2⟩|⟨hn,h2⟩
  ·rw[hn] at he1;subst he1;refine wpIn_mono (ihy hy hf.2 h2 r1 (hG.mono x1) e1 hs1) ?_;rintro e a2 w2 ⟨he2,hs2,hd2,j2,r2,e2,x2⟩;exact⟨he2,hs2,hd2.trans hd1,j2,r2,e2,x1.trans x2⟩
  ·subst h2;have:rN o.e ≠ .normal:=by cases ho:o.e<;>simp_all [rN]
   subst he1
   cases hx:rN o.e<;>first
    |exact absurd hx this
    |exact⟨hx.symm,hs1,hd1,j1,r1,e1,x1⟩
 |region id ops draw =>
  intro ac hc hf bt M o h j w a hr hG he hs;cases draw with
  |true =>
   have hc0:=hc;simp only[comp,aE] at hc;obtain⟨l0,hl0,hc⟩:=ba hc;obtain⟨l,hl,hc⟩:=ba hc;cases hc;simp only[w8,aE] at h;obtain⟨o1,h1,h⟩:=bo h;cases h;exact mP hmix hC _ hc0 h1 hr hG he hs
  |false =>
   have hc0:=hc;simp only[comp,af,aw] at hc;obtain⟨l,hl,hc⟩:=ba hc;cases hc;simp only[w8,af,aw] at h;obtain⟨o1,h1,h⟩:=bo h;cases h;simp only[fm] at h1;obtain⟨x,hx,h1⟩:=bo h1;cases h1
   have hdst:∀i o,i∈List.range ops.size->ops[i]?=some o->∀t,t∈ks->o.dst≠some t:=by
    intro i o _ hio t ht hd;simp only[HH,bw] at hf;have:=hf o (Array.mem_toList_iff.2 (Array.mem_of_getElem? hio));rw[hd] at this;simp[ht] at this
   refine wpIn_mono (wpIn_region (QH (v0:=fun t=>a.tmps.getD t undef) _ a w hdst (fun _ _=>rfl) (by
    rw[ny];exact xC hC (grow:=[]) ops.toList 0 (by simp) hl hx hr hG he hs fun a' w' j' h1 h2 h3 h4 h5=>AG (live:=find A.lv id) h1 h2 h3 h4 h5))) ?_
   rintro e a1 w1 ⟨⟨he1,hs1,hd1,j1,r1,e1,x1⟩,hk⟩;clear hx;generalize x.ri (find A.lv id)=y at he1 r1 e1 x1 ⊢;cases hye:y.e with
   |oC v =>
    have hp:BH ks bt y=⟨.oC v,ju bt ks,y.mem⟩:=by unfold BH; rw[hye]
    rw[hp];have hk':=hk.resolve_left (by rw[he1,hye]; simp[rN])
    refine⟨by rw[he1,hye],hs1,hd1,j1,r1,⟨fun t=>?_,hG.mono x1⟩,x1⟩
    rw[yx];split
    ·rename_i ht;rw[hk' t ht];exact(he.at' t).mono x1
    ·exact .any _
   |normal =>
    have hp:BH ks bt y=y:=by unfold BH; rw[hye]
    rw[hp]; exact⟨he1,hs1,hd1,j1,r1,e1,x1⟩
   |ret =>
    have hp:BH ks bt y=y:=by unfold BH; rw[hye]
    rw[hp]; exact⟨he1,hs1,hd1,j1,r1,e1,x1⟩
   |exit i =>
    have hp:BH ks bt y=y:=by unfold BH; rw[hye]
    rw[hp]; exact⟨he1,hs1,hd1,j1,r1,e1,x1⟩
 |_ =>
  intro ac hc hf bt M o h j w a hr hG he hs;refine mP hmix hC _ hc (o:=o) ?_ hr hG he hs;simp only[comp] at hc
  first
   |(cases hc; exact h)
   |(obtain⟨_,_,hc⟩:=ba hc; injection hc with hc; unfold L9 at hc; split at hc<;>subst hc<;>exact h)
   |(obtain⟨_,_,hc⟩:=ba hc; cases hc; exact h)
   |(obtain⟨_,_,hc⟩:=ba hc; obtain⟨_,_,hc⟩:=ba hc; obtain⟨_,_,hc⟩:=ba hc; cases hc; exact h)
   |cases hc
end Go.Abs
namespace Go.Proofs.YtcbopkblmebjiaaGreatDoor
open Go Go.Abs
def Zz:List sy:=[.Px 2]
noncomputable def BQ(n k:Nat)(o:Out):Option (ag×aL) :=
 match o.e with
 | .ret=>bJ (pS o.bt o.mem Zz) fun l=>some ((Abs.one l).ml n o.mem,jS n o.mem)
 | .oC (.iface 34 (.int .i64 e)) =>
  match o.mem[k]? with
  |some (.cells [_])=>bJ (pS o.bt (o.mem.set k (.cells [.int .i64 e])) Zz) fun l=>some ((Abs.one l).ml n (o.mem.set k (.cells [.int .i64 e])),jS n (o.mem.set k (.cells [.int .i64 e])))
  |_=>none
 |_=>none
noncomputable def EY:List ag->aL->Option (ag×aL):=fun args M =>
 if args.length=1 then
  bJ (fm (aq fR) Ls (j5 0 args) M) fun o1 =>
  match o1.e,ir o1.bt 2 with
  | .normal,.ptr k 0=>bJ (w8 (aq fR) [2] D2 (ju o1.bt [0,2]) o1.mem) fun o2=>BQ M.length k o2
  |_,_=>none
 else none
def K7{args:List ag}{M:aL}{x:ag×aL}(h:EY args M=some x):eP Tryz.prog 44 args M x:=by
 unfold EY at h;split at h
 rotate_left
 ·cases h
 rename_i eY;obtain⟨o1,ho1,h⟩:=bo h;split at h
 rotate_left
 ·cases h
 rename_i k hn1 hk1;obtain⟨o2,ho2,h⟩:=bo h;intro j w vs hr hG hvl hv;refine calls_of_wp_defers func44 rfl ?_;refine wp_seq ?_;have hsz:(vs++Array.replicate (Tryz.f44.ntmps-vs.size) undef).size=6:=by rw[ntmps44]; simp; omega
 have he:cy j M w (j5 0 args) { tmps:=vs++Array.replicate (Tryz.f44.ntmps-vs.size) undef,defers:=[] }:=by
  refine⟨fun t=>?_,hG⟩
  rw[Ah,az (cA _),bV];rcases bH t args.length with ht|ht
  ·have h1:=aj ht;have cu:t<vs.size:=by omega
   have h2:=bb cu;rw[h1];have h3:=hv t _ _ h1 h2
   have:(vs++Array.replicate (Tryz.f44.ntmps-vs.size) undef).getD t undef=vs[t]:=by
    simp[cW,cr cu,h2]
   rw[this];exact h3
  ·rw[eJ ht]; exact .any _
 refine wp_mono (wpIn_wide.1 (mP (rd:=none) (nd:=0) (by kernel_rfl) Ue XK ahR ho1 hr hG he hsz)) ?_
 rintro ex a1 w1 ⟨h1,h2,h3,j1,r1,e1,x1⟩;rw[hn1] at h1;simp only[rN] at h1;subst h1;simp only[Exit.then]
 refine wp_seq (wp_region ?_);obtain⟨t1,d1⟩:=a1;simp only at h2 h3;subst h3;have hmf:∀(fn:Fn)(first cap:Array Value)(w:World),(Instr.makeFunc fn first cap).run Tryz.prog w = .ok (.func fn first cap) w:=fun _ _ _ _=>rfl
 have h2':t1.size=6:=h2;have h9:3<t1.size:=by omega
 simp[wpOps,go_sem,Exit.then,hmf,h9,Array.getElem?_setIfInBounds,gJ]
 repeat' refine Or.inl ?_
 have key:∀d:List Deferred,cy j1 o1.mem w1 (ju o1.bt [0,2]) { tmps:=t1.setIfInBounds 3 (.func (.func 95) #[] #[t1[2]?.getD undef]),defers:=d }:=fun d=>by
  refine⟨fun t=>?_,e1.gl⟩
  rw[yx];split
  ·rename_i hm;have hne:3≠t:=by rintro rfl; simp at hm
   have:=e1.at' t;simp only[cW] at this ⊢;rw[eW hne];exact this
  ·exact .any _
 refine wp_mono (wpIn_wide.1 (IQ (rd:=none) (nd:=0) (by kernel_rfl) Ue XL ahS (by kernel_rfl) ho2 r1 e1.gl (key _) (by simpa[Pm] using h2'))) ?_
 rintro ex a2 w2 ⟨g1,g2,g3,j2,r2,e2,x2⟩;have hp:=(e1.at' 2).mono x2;simp only[cW] at hp;rw[hk1] at hp
 have fin:∀(j3:J)(M3:aL)(w3:World)(y:ag×aL),Rel j3 M3 w3->cy j3 M3 w3 o2.bt a2->Ext j M w j3 M3 w3->(bJ (pS o2.bt M3 Zz) fun l=>some ((Abs.one l).ml M.length M3,jS M.length M3))=some y ->
   ∃v,(results f44 a2.tmps).run Tryz.prog w3 = .ok v w3/\vr j M w y (.returned v) w3:=by
  intro j3 M3 w3 y r3 e3 x3 hy;obtain⟨l,hl,hy⟩:=bo hy;cases hy;obtain⟨us,u1,u2,u3⟩:=BW (P:=Tryz.prog) (rs:=Tryz.f44.results.toList) r3 e3 (by kernel_rfl:He Tryz.prog Tryz.f44.results.toList=some Zz) hl
  have hres:(results f44 a2.tmps).run Tryz.prog w3 = .ok (if h:us.toArray.size=1 then us.toArray[0] else .tuple us.toArray) w3:=by
   unfold results;rw[kV,Sem.run_bind,Sem.run_map];refine cZ (congrArg (fun r:Result (List Value)=>Result.andThen (r.andThen fun a w' => .ok a.toArray w') _) (cZ ?_ u1)) rfl
   rfl
  exact⟨_,hres,.inl ⟨_,rfl,j3,yX x3.len r3,wz x3.len (ar _) x3,DX x3.len r3 (Ml u2 u3)⟩⟩
 unfold BQ at h;split at h
 ·rename_i hret;rw[hret] at g1;simp only[rN] at g1;subst g1;simp only[bodyPostD,g3];refine leaves_cons (f:=95) (args := #[t1[2]?.getD undef]) (by simp) (by simp[go_sem]) ?_
  refine(OG _ _).mono ?_;rintro ed u' w'' ⟨rfl,rfl,rfl⟩;simp only[Leaves,settle];exact fin _ _ _ _ r2 e2 (x1.trans x2) h
 ·rename_i e hpan;split at h
  rotate_left
  ·cases h
  rename_i c hM;rw[hpan] at g1;simp only[rN] at g1;subst g1;simp only[bodyPostD,g3];generalize t1[2]?.getD undef=pv at hp ⊢;cases hp with
  |plain hh=>cases hh
  | @ptr id off b hid hc hj =>
   obtain⟨b',hj',us,t,hw,hrc⟩:=r2.fix _ _ hM rfl;rw[hj] at hj';injection hj' with hj'
   subst hj';refine leaves_cons (f:=95) (args := #[.pointer (some ⟨b,0,none⟩)]) (by simp) (by simp[go_sem]) ?_
   refine(Ul r2 e2.gl hM hj hw (by have:=hrc.1; simpa using this.symm)).mono ?_
   rintro ed u' w'' ⟨rfl,rfl,r3,x3⟩;simp only[Leaves,settle];exact fin _ _ _ _ r3 (e2.mono x3) ((x1.trans x2).trans x3) h
 ·cases h
noncomputable def iR:BD:=nL fR 44 EY
def Xm:xV Tryz.prog iR:=xd MD (by kernel_rfl) (fun h=>K7 h)
def yL:pj Tryz.prog (aq iR):=uh (by kernel_rfl) Xm
def lF'{f:Nat}{a:List ag}{M:aL}{x:ag×aL}(h:aq fR f a M=some x):aq iR f a M=some x:=xc rfl rfl h
def lF{f:Nat}{vs:List ag}{M:aL}{x:ag×aL}(h:aM (aq fR) f vs M=some x):aM (aq iR) f vs M=some x:=by
 obtain⟨a,B,y,h1,h2⟩:=tG h;exact h2 _ (lF' h1)
section
def rS{s:Bytes}(h:dE s=true):s.length<=32:=by
 unfold dE at h;simp only[bn,gW,jm,dq] at h;omega
def IY:∀(x:List (Bytes×Bool)) (n:Nat) (l:List Bytes),nI x n=some l->n<=12->(∀s,s∈l->dE s=true)/\l.length+n<=12
 | [],n,l,h,hn=>by
  simp only[nI,iC] at h;subst h;exact⟨fun s hs=>by simp at hs,by simp; omega⟩
 |x::r,n,l,h,hn=>by
  rw[nI] at h;split at h
  ·cases h
  ·rename_i hb;cases hr:nI r (n+1) with
   |none=>rw[hr] at h; cases h
   |some k =>
    rw[hr] at h;simp only[cB,iC] at h;subst h;have hb':zP x n=false:=by simpa using hb
    unfold zP at hb';simp only[jm,Bool.not_eq_false',bM] at hb';obtain⟨g1,g2⟩:=IY r (n+1) k hr (by omega)
    refine⟨fun s hs=>?_,by simp; omega⟩
    rcases bc.1 hs with h1|h1
    ·subst h1; exact hb'.1.2
    ·exact g1 s h1
def lB(s:Bytes):(∀x,x∈(bz s).1->dE x=true)/\(bz s).1.length<=12:=by
 unfold bz;split
 ·exact⟨fun s hs=>by simp at hs,by simp⟩
 ·split
  ·exact⟨fun s hs=>by simp at hs,by simp⟩
  ·exact⟨fun s hs=>by simp at hs,by simp⟩
  ·rename_i l hl;obtain⟨g1,g2⟩:=IY _ 0 _ hl (by omega)
   exact⟨g1,by omega⟩
def Dy:∀l:List Bytes,AW (l.map ag.str)=some l
 | []=>rfl
 |s::r=>by
  show bJ (AW (r.map ag.str)) (fun l=>some (s::l))=_
  rw[Dy r]; rfl
def CX(l:List Bytes)(h:∀x,x∈l->dE x=true):(Lib.join l [47]).length<=33*l.length:=by
 induction l with
 |nil=>simp[Lib.join]
 |cons a r ih =>
  have h1:=rS (h a (by simp))
  have h2:=ih (fun x hx=>h x (by simp[hx]))
  cases r with
  |nil=>simp[Lib.join]; omega
  |cons b r=>simp[Lib.join] at h2 ⊢; omega
def px(l:List Bytes):Bytes:=if (l.length:Int)==0 then [47] else [47]++Lib.join l [47]
def uY(l:List Bytes)(h:∀x,x∈l->dE x=true)(hl:l.length<=12):(px l).length<=1000:=by
 unfold px;have:=CX l h;split<;>simp<;>omega
def ak6(l:List Bytes)(h:∀x,x∈l->dE x=true)(hl:l.length<=12)(M:aL):aM (aq c9) 131 [fO l,.str [47]] M=some (.str (Lib.join l [47]),M):=by
 have hq:aq c9 131 [fO l,.str [47]] []=some (.str (Lib.join l [47]),[]):=by
  refine gF (g:=IB) rfl ?_;unfold IB;simp only[];rw[Dy,cd,az];have:=CX l h;omega
 exact cO hq M
attribute [local irreducible] fS fp kH gK dv kr aq aM cv bJ
def c65(l:List Bytes)(h:∀x,x∈l->dE x=true)(hl:l.length<=12):aq c9 65 [fO l] []=some (.str (px l),[]):=by
 refine aJ ?_;have q:=ak6 l h hl;have hm:(IntKind.i64.max<((1+(Lib.join l [47]).length:Nat):Int))=False:=max_lt _ (by have:=CX l h; omega)
 unfold px;simp only[agw,E65,q,EW,seval];cases h0:(l.length:Int)==0<;>simp only[E65,h0,af,aE,aw,q,hm,EW,seval]
def k65 l h hl:=cP (c65 l h hl)
def fC(s:Bytes):Bytes×Bytes×Int :=
 if (bz s).2 != 0||(((bz s).1.length:Int)==0) then ([],[],60)
 else ((bz s).1.getD ((bz s).1.length-1) [],px ((bz s).1.take ((bz s).1.length-1)),0)
def aj1(s:Bytes)(hs:s.length<=100000):aq fR 161 [.str s] []=some (.tuple [.str (fC s).1,.str (fC s).2.1,aG (fC s).2.2],[]):=by
 refine aJ ?_;have q:=k63 s hs;obtain⟨h1,h2⟩:=lB s;unfold fC;generalize bz s=l at q h1 h2 ⊢;obtain⟨l,e⟩:=l;simp only at h1 h2;have q2:=fun M=>lS (k65 (l.take (l.length-1)) (fun x hx=>h1 x (dn hx)) (by simp; omega) M)
 simp only[fO,ka] at q2;simp only[Yr,UC,q,EW,seval];cases he:e != 0
 ·cases h0:(l.length:Int)==0
  ·have hne:0<l.length:=by
    have:¬((l.length:Int)=0):=by simpa using h0
    omega
   have hw:IntKind.i64.wrap ((l.length:Int)-1)=((l.length-1:Nat):Int):=by rw[gD (by omega) (by omega)]; omega
   have hx:=aj (show l.length-1<l.length by omega)
   have hg:l.getD (l.length-1) []=l[l.length-1]:=by simp[List.getD,hx]
   have hle:((l.length-1:Nat):Int)<=(l.length:Int):=by omega
   have hz:((0:Int)<=((l.length-1:Nat):Int))=True:=by simp
   simp only[UC,he,h0,hw,hx,q2,hg,hle,hz,dI,af,aw,EW,seval]
  ·simp only[UC,he,h0,dJ,aE,EW,seval]
 ·simp only[UC,he,dK,aE,EW,seval]
def aa9 s hs:=cP (aj1 s hs)
def tv(s:Bytes)(_hs:s.length<=100000):(fC s).1.length<=1000/\(fC s).2.1.length<=1000:=by
 obtain⟨h1,h2⟩:=lB s;unfold fC;split
 ·exact⟨by simp,by simp⟩
 ·refine⟨?_,uY _ (fun x hx=>h1 x (dn hx)) (by simp; omega)⟩
  simp only[List.getD];cases hx:(bz s).1[(bz s).1.length-1]? with
  |none=>simp
  |some x=>have:=rS (h1 x (aR hx)); simp; omega
def pT(ae:List Node):List Bytes->Int->Int×Int
 | [],au=>(au,0)
 |s::r,au=>if (dV ae au s).2 != 0 then (0,(dV ae au s).2) else pT ae r (dV ae au s).1
def eF(t:Tree)(aU:Bytes):Int×Int:=if (bz aU).2 != 0 then (0,(bz aU).2) else pT t.ae (bz aU).1 1
def Wv{t:Tree}(ht:Small t)(hr:wm t){xs:List Bytes}(hxs:∀x,x∈xs->x.length<=100000)(hn:xs.length<=100000) :
  ∀(l pre:List Bytes)(au:Int),xs=pre++l->fS (aq fR) [.tmp 4,.tmp 5] 0 [.block 0,.seq adl] (.loop [2,8,19,20,21] V6) [(2,cL 0),(8,aG au),(19,fO xs),(20,aG xs.length),(21,aG pre.length)] [cm (bd t)] =
   some (.tuple [aG (pT t.ae l au).1,aG (pT t.ae l au).2],[]):=by
 intro l;induction l with
 |nil =>
  intro pre au h;rw[bZ];simp only[Jh,oy h,bd,pT,EW,seval]
 |cons s rest ih =>
  intro pre au h;rw[bZ];have eY:pre.length+1<=100000:=by rw[h] at hn; simp at hn; omega
  have hw:=GI pre s;have hi1:=ih (pre++[s]) (dV t.ae au s).1 (by rw[h]; simp)
  have q:=fun M=>lS (VH t.ae t.next t.ai au s ht hr (hxs s (by rw[h]; simp)) trivial M)
  rw[pT];generalize dV t.ae au s=v at q hi1 ⊢;simp only[aK,av,aH,aQ,bd] at hi1;simp only[Jh,mR h,ji h,bd,q,EW,seval];cases he:v.2 != 0
  ·simp only[Jh,he,hw,af,aw,EW,seval];exact hi1
  ·simp only[Jh,he,aE,EW,seval]
def ajY(t:Tree)(aU:Bytes)(ht:Small t)(hr:wm t)(hp:aU.length<=100000):aq fR 156 [bK t,.str aU] []=some (.tuple [aG (eF t aU).1,aG (eF t aU).2],[]):=by
 refine aJ ?_;have q:=k63 aU hp;obtain⟨h1,h2⟩:=lB aU;have hl:=Wv ht hr (xs:=(bz aU).1) (fun x hx=>by have:=rS (h1 x hx); omega) (by omega) (bz aU).1 [] 1 rfl
 unfold eF;generalize bz aU=v at q hl ⊢;simp only[bd,aH] at hl;simp only[Yo,Jh,bK,bd,q,EW,seval];cases he:v.2 != 0
 ·simp only[Jh,he,af,aw,EW,seval];exact hl
 ·simp only[Jh,he,aE,EW,seval]
def VF(t:Tree)(aU:Bytes)(ht:Small t)(hr:wm t)(hp:aU.length<=100000)(M:aL):aM (aq fR) 156 [.agg [a8 t.ae,aG t.next,aG t.ai],.str aU] M=some (.tuple [aG (eF t aU).1,aG (eF t aU).2],M) :=
 cO (ajY t aU ht hr hp) M
def iY(e:Int):ag := .oC (.iface 34 (.int .i64 e))
end
section
attribute [local irreducible] fS fp kH gK dv kr aq aM cv bJ
def cq.iv{t:Tree}{cg:Int->Nat}{x:Int}(h:cq t cg x):∀m,m∈t.ae->m.au<t.next:=fun m hm=>(h.num _ _ ((fy h.jE.jx).2 ⟨hm,rfl⟩)).2
end
end Go.Proofs.YtcbopkblmebjiaaGreatDoor
