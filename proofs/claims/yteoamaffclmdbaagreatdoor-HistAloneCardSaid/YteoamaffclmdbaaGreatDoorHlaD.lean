import Derived.OwnWalkIn
import Derived.TacticsInMore
import Derived.LoopIn
import Derived.Maps.AppendAt
import Derived.RangeFuncNested
import Derived.Test.YteoamaffclmdbaaGreatDoorHlaC
set_option linter.all false
open Go.Proofs.Tryz
namespace Go.Proofs.YteoamaffclmdbaaGreatDoor
open Go Go.Abs
def Sa:Nat->Option eE
 |252=>some adZ
 |253=>some ad0
 |254=>some ad1
 |257=>some ad2
 |258=>some ad3
 |259=>some S0
 |262=>some ad4
 |263=>some amb
 |264=>some ad5
 |265=>some ad6
 |266=>some ad7
 |267=>some amc
 |268=>some ad8
 |271=>some Nt
 |273=>some ame
 |275=>some Nu
 |278=>some ad9
 |284=>some aea
 |285=>some aeb
 |287=>some amf
 |299=>some amg
 |302=>some Nv
 |325=>some Jk
 |_=>none
def R9:Nat->Option eE
 |166=>some ac9
 |167=>some ada
 |168=>some adb
 |169=>some ade
 |170=>some adf
 |171=>some adg
 |172=>some adh
 |173=>some Np
 |174=>some Nq
 |175=>some SL
 |176=>some Jh
 |177=>some Ji
 |178=>some adi
 |179=>some adj
 |180=>some adk
 |181=>some adl
 |182=>some SN
 |183=>some SO
 |184=>some SP
 |185=>some SQ
 |186=>some adm
 |187=>some adn
 |190=>some ado
 |191=>some adp
 |192=>some adq
 |193=>some adr
 |194=>some ads
 |195=>some SS
 |196=>some adt
 |197=>some adu
 |198=>some Jj
 |199=>some adv
 |200=>some SU
 |201=>some adw
 |202=>some adx
 |203=>some ady
 |204=>some adz
 |206=>some adA
 |208=>some al0
 |209=>some adB
 |210=>some adC
 |211=>some adE
 |212=>some adF
 |213=>some adG
 |216=>some al4
 |217=>some adH
 |219=>some adI
 |221=>some adJ
 |222=>some adK
 |223=>some adL
 |224=>some adM
 |225=>some adN
 |226=>some adO
 |230=>some SV
 |232=>some SX
 |233=>some adP
 |234=>some SY
 |235=>some adQ
 |236=>some Nr
 |237=>some Ns
 |238=>some adR
 |239=>some adS
 |240=>some adT
 |244=>some SZ
 |245=>some adU
 |246=>some adV
 |247=>some adW
 |249=>some al8
 |250=>some adX
 |251=>some adY
 |f=>Sa f
def R8:Nat->Option eE
 |86=>some amB
 |87=>some amC
 |88=>some amD
 |93=>some afX
 |94=>some S3
 |95=>some PG
 |96=>some S4
 |97=>some LP
 |98=>some ZC
 |99=>some afY
 |100=>some Nb
 |101=>some Sx
 |102=>some Jc
 |103=>some yG
 |104=>some Nc
 |105=>some Jd
 |106=>some Nd
 |107=>some Nf
 |108=>some Sy
 |109=>some acH
 |110=>some acI
 |111=>some acJ
 |112=>some acK
 |113=>some alU
 |114=>some alV
 |116=>some Ng
 |117=>some acL
 |118=>some SA
 |119=>some SC
 |120=>some Je
 |121=>some acM
 |122=>some SD
 |123=>some acN
 |124=>some acO
 |125=>some acP
 |126=>some acQ
 |127=>some acR
 |128=>some acS
 |129=>some acT
 |130=>some acU
 |131=>some acV
 |132=>some acW
 |133=>some acX
 |134=>some Nh
 |135=>some Ni
 |136=>some acY
 |137=>some acZ
 |138=>some Nj
 |139=>some Jf
 |140=>some SE
 |141=>some SF
 |145=>some ac0
 |146=>some ac1
 |147=>some ac2
 |148=>some SG
 |149=>some ac3
 |150=>some ac4
 |151=>some ac5
 |152=>some ac6
 |153=>some yH
 |154=>some SH
 |155=>some ac7
 |156=>some SI
 |157=>some Nk
 |158=>some SJ
 |159=>some Nl
 |161=>some Nn
 |162=>some Jg
 |163=>some SK
 |164=>some ac8
 |f=>R9 f
def code:Nat->Option eE
 |4=>some fn4
 |5=>some fn5
 |6=>some fn6
 |7=>some fn7
 |8=>some fn8
 |9=>some fn9
 |10=>some alT
 |11=>some afP
 |13=>some Zz
 |17=>some alX
 |18=>some alY
 |19=>some alZ
 |21=>some al3
 |22=>some al5
 |23=>some al6
 |24=>some al7
 |25=>some al9
 |26=>some ama
 |27=>some amd
 |28=>some uK
 |30=>some afQ
 |32=>some amh
 |33=>some ami
 |34=>some amj
 |35=>some amk
 |37=>some asM
 |38=>some aml
 |39=>some amm
 |40=>some amn
 |41=>some amo
 |42=>some amp
 |43=>some Hl
 |44=>some zU
 |45=>some CR
 |46=>some LN
 |47=>some S1
 |48=>some ZA
 |49=>some PC
 |52=>some amq
 |53=>some amr
 |54=>some asN
 |55=>some ams
 |56=>some amt
 |57=>some asO
 |58=>some asP
 |59=>some asQ
 |60=>some asR
 |61=>some asS
 |62=>some asT
 |63=>some asU
 |66=>some amu
 |67=>some afS
 |68=>some amv
 |69=>some ZB
 |70=>some amw
 |71=>some amx
 |72=>some amy
 |73=>some amz
 |74=>some amA
 |75=>some afT
 |76=>some Hm
 |77=>some afU
 |78=>some Fi
 |79=>some LO
 |80=>some PD
 |81=>some afV
 |82=>some PE
 |83=>some afW
 |84=>some S2
 |85=>some PF
 |f=>R8 f
noncomputable def o4:Nat->Option (List ag->aC->Option (ag×aC))
 |207=>some (wL 3 2 208)
 |272=>some (wL 6 0 273)
 |276=>some (zo)
 |277=>some (J3)
 |286=>some (Aj)
 |205=>some (mO 3 32)
 |241=>some (mO 6 80)
 |215=>some (mO 3 24)
 |189=>some (mO 3 24)
 |220=>some (sv 8 96)
 |229=>some (sv 3 24)
 |160=>some (pCC 1 1)
 |283=>some (lJ 6)
 |248=>some (lJ 3)
 |218=>some (sM 3)
 |227=>some (sM 3)
 |242=>some (lf 6 80)
 |243=>some (lf 3 32)
 |214=>some (lf 3 24)
 |228=>some (lf 3 24)
 |_=>none
noncomputable def bX:zA:=⟨code,o4⟩
set_option maxRecDepth 100000 in
def uD{f:Nat}{c fn:eE}{func:Func}{A:BX}(h:some c=some fn)(h1:Tryz.prog.funcs[f]?=some func)(h2:oW Tryz.prog A func=some c):∃ A func,Tryz.prog.funcs[f]?=some func/\oW Tryz.prog A func=some fn:=by
 cases h; exact⟨_,_,h1,h2⟩
def gz{f:Nat}{c fn:eE}{func:Func}(h:some c=some fn)(h1:Tryz.prog.funcs[f]?=some func)(h2:sS [] func c):∃ A func,Tryz.prog.funcs[f]?=some func/\oW Tryz.prog A func=some fn:=uD h h1 h2
def R7(f:Nat)(fn:eE)(h:Sa f=some fn):∃A func,Tryz.prog.funcs[f]?=some func/\oW Tryz.prog A func=some fn:=by
 unfold Sa at h;split at h
 ·exact gz h func252 fp
 ·exact gz h func253 fp
 ·exact gz h func254 fp
 ·exact gz h func257 fp
 ·exact gz h func258 fp
 ·exact gz h func259 fp
 ·exact gz h func262 fp
 ·exact gz h func263 fp
 ·exact gz h func264 fp
 ·exact gz h func265 fp
 ·exact gz h func266 fp
 ·exact gz h func267 fp
 ·exact gz h func268 fp
 ·exact gz h func271 fp
 ·exact gz h func273 fp
 ·exact gz h func275 fp
 ·exact gz h func278 fp
 ·exact gz h func284 fp
 ·exact gz h func285 fp
 ·exact gz h func287 fp
 ·exact gz h func299 fp
 ·exact gz h func302 fp
 ·exact gz h func325 fp
 ·cases h
set_option maxRecDepth 100000 in
def R6(f:Nat)(fn:eE)(h:R9 f=some fn):∃A func,Tryz.prog.funcs[f]?=some func/\oW Tryz.prog A func=some fn:=by
 unfold R9 at h;split at h
 ·exact gz h func166 fp
 ·exact gz h func167 fp
 ·exact gz h func168 fp
 ·exact gz h func169 fp
 ·exact gz h func170 fp
 ·exact gz h func171 fp
 ·exact gz h func172 fp
 ·exact gz h func173 fp
 ·exact gz h func174 fp
 ·exact uD h func175 an4
 ·exact uD h func176 an5
 ·exact uD h func177 an6
 ·exact gz h func178 fp
 ·exact gz h func179 fp
 ·exact gz h func180 fp
 ·exact gz h func181 fp
 ·exact uD h func182 an7
 ·exact uD h func183 an8
 ·exact uD h func184 an9
 ·exact gz h func185 fp
 ·exact gz h func186 fp
 ·exact gz h func187 fp
 ·exact gz h func190 fp
 ·exact gz h func191 fp
 ·exact gz h func192 fp
 ·exact gz h func193 fp
 ·exact gz h func194 fp
 ·exact uD h func195 aob
 ·exact gz h func196 fp
 ·exact gz h func197 fp
 ·exact gz h func198 fp
 ·exact gz h func199 fp
 ·exact uD h func200 aoc
 ·exact gz h func201 fp
 ·exact gz h func202 fp
 ·exact gz h func203 fp
 ·exact gz h func204 fp
 ·exact gz h func206 fp
 ·exact gz h func208 fp
 ·exact gz h func209 fp
 ·exact gz h func210 fp
 ·exact gz h func211 fp
 ·exact gz h func212 fp
 ·exact gz h func213 fp
 ·exact gz h func216 fp
 ·exact gz h func217 fp
 ·exact gz h func219 fp
 ·exact gz h func221 fp
 ·exact gz h func222 fp
 ·exact gz h func223 fp
 ·exact gz h func224 fp
 ·exact gz h func225 fp
 ·exact gz h func226 fp
 ·exact uD h func230 aod
 ·exact uD h func232 aoe
 ·exact gz h func233 fp
 ·exact uD h func234 aof
 ·exact gz h func235 fp
 ·exact gz h func236 fp
 ·exact gz h func237 fp
 ·exact gz h func238 fp
 ·exact gz h func239 fp
 ·exact gz h func240 fp
 ·exact uD h func244 aog
 ·exact gz h func245 fp
 ·exact gz h func246 fp
 ·exact gz h func247 fp
 ·exact gz h func249 fp
 ·exact gz h func250 fp
 ·exact gz h func251 fp
 ·exact R7 _ _ h
set_option maxRecDepth 100000 in
def R5(f:Nat)(fn:eE)(h:R8 f=some fn):∃A func,Tryz.prog.funcs[f]?=some func/\oW Tryz.prog A func=some fn:=by
 unfold R8 at h;split at h
 ·exact gz h func86 fp
 ·exact gz h func87 fp
 ·exact gz h func88 fp
 ·exact gz h func93 fp
 ·exact gz h func94 fp
 ·exact gz h func95 fp
 ·exact gz h func96 fp
 ·exact gz h func97 fp
 ·exact gz h func98 fp
 ·exact gz h func99 fp
 ·exact gz h func100 fp
 ·exact gz h func101 fp
 ·exact gz h func102 fp
 ·exact uD h func103 anO
 ·exact gz h func104 fp
 ·exact gz h func105 fp
 ·exact gz h func106 fp
 ·exact gz h func107 fp
 ·exact gz h func108 fp
 ·exact gz h func109 fp
 ·exact gz h func110 fp
 ·exact gz h func111 fp
 ·exact gz h func112 fp
 ·exact gz h func113 fp
 ·exact gz h func114 fp
 ·exact gz h func116 fp
 ·exact gz h func117 fp
 ·exact uD h func118 anP
 ·exact uD h func119 anQ
 ·exact uD h func120 anR
 ·exact gz h func121 fp
 ·exact uD h func122 anS
 ·exact gz h func123 fp
 ·exact gz h func124 fp
 ·exact gz h func125 fp
 ·exact gz h func126 fp
 ·exact gz h func127 fp
 ·exact gz h func128 fp
 ·exact gz h func129 fp
 ·exact gz h func130 fp
 ·exact gz h func131 fp
 ·exact gz h func132 fp
 ·exact gz h func133 fp
 ·exact gz h func134 fp
 ·exact gz h func135 fp
 ·exact gz h func136 fp
 ·exact gz h func137 fp
 ·exact gz h func138 fp
 ·exact uD h func139 anT
 ·exact gz h func140 fp
 ·exact gz h func141 fp
 ·exact gz h func145 fp
 ·exact gz h func146 fp
 ·exact gz h func147 fp
 ·exact uD h func148 anU
 ·exact gz h func149 fp
 ·exact gz h func150 fp
 ·exact gz h func151 fp
 ·exact gz h func152 fp
 ·exact uD h func153 anV
 ·exact uD h func154 anW
 ·exact gz h func155 fp
 ·exact uD h func156 anX
 ·exact uD h func157 anZ
 ·exact uD h func158 an0
 ·exact gz h func159 fp
 ·exact gz h func161 fp
 ·exact uD h func162 an1
 ·exact uD h func163 an3
 ·exact gz h func164 fp
 ·exact R6 _ _ h
set_option maxRecDepth 100000 in
def M5(f:Nat)(fn:eE)(h:code f=some fn):∃A func,Tryz.prog.funcs[f]?=some func/\oW Tryz.prog A func=some fn:=by
 unfold code at h;split at h
 ·exact uD h func4 ok4
 ·exact uD h func5 ok5
 ·exact uD h func6 ok6
 ·exact uD h func7 ok7
 ·exact uD h func8 ok8
 ·exact gz h func9 fp
 ·exact gz h func10 fp
 ·exact gz h func11 fp
 ·exact gz h func13 fp
 ·exact gz h func17 fp
 ·exact gz h func18 fp
 ·exact uD h func19 auv
 ·exact gz h func21 fp
 ·exact gz h func22 fp
 ·exact gz h func23 fp
 ·exact gz h func24 fp
 ·exact gz h func25 fp
 ·exact gz h func26 fp
 ·exact gz h func27 fp
 ·exact gz h func28 fp
 ·exact uD h func30 auy
 ·exact gz h func32 fp
 ·exact gz h func33 fp
 ·exact gz h func34 fp
 ·exact gz h func35 fp
 ·exact gz h func37 fp
 ·exact gz h func38 fp
 ·exact gz h func39 fp
 ·exact gz h func40 fp
 ·exact gz h func41 fp
 ·exact gz h func42 fp
 ·exact gz h func43 fp
 ·exact uD h func44 auA
 ·exact gz h func45 fp
 ·exact uD h func46 auB
 ·exact uD h func47 auC
 ·exact gz h func48 fp
 ·exact uD h func49 auD
 ·exact gz h func52 fp
 ·exact gz h func53 fp
 ·exact gz h func54 fp
 ·exact gz h func55 fp
 ·exact gz h func56 fp
 ·exact gz h func57 fp
 ·exact gz h func58 fp
 ·exact gz h func59 fp
 ·exact gz h func60 fp
 ·exact gz h func61 fp
 ·exact gz h func62 fp
 ·exact gz h func63 fp
 ·exact gz h func66 fp
 ·exact gz h func67 fp
 ·exact gz h func68 fp
 ·exact gz h func69 fp
 ·exact gz h func70 fp
 ·exact gz h func71 fp
 ·exact gz h func72 fp
 ·exact gz h func73 fp
 ·exact gz h func74 fp
 ·exact gz h func75 fp
 ·exact uD h func76 auE
 ·exact uD h func77 auF
 ·exact uD h func78 auG
 ·exact uD h func79 auH
 ·exact uD h func80 auI
 ·exact gz h func81 fp
 ·exact uD h func82 auJ
 ·exact uD h func83 auK
 ·exact uD h func84 auL
 ·exact uD h func85 auM
 ·exact R5 _ _ h
def N4(f:Nat)(g:List ag->aC->Option (ag×aC))(h:o4 f=some g)(args:List ag)(M:aC)(x:ag×aC)(hx:g args M=some x):lG Tryz.prog f=true/\dp Tryz.prog f args M x:=by
 unfold o4 at h;split at h
 ·cases h; exact⟨ft,XT hx⟩
 ·cases h; exact⟨ft,XU hx⟩
 ·cases h; exact⟨ft,LW hx⟩
 ·cases h; exact⟨ft,amX hx⟩
 ·cases h; exact⟨ft,IU hx⟩
 ·cases h; exact⟨ft,Pe hx⟩
 ·cases h; exact⟨ft,Pg hx⟩
 ·cases h; exact⟨ft,Pf hx⟩
 ·cases h; exact⟨ft,Pd hx⟩
 ·cases h; exact⟨ft,Lf hx⟩
 ·cases h; exact⟨ft,Lg hx⟩
 ·cases h; exact⟨ft,afA hx⟩
 ·cases h; exact⟨ft,Pr hx⟩
 ·cases h; exact⟨ft,Pq hx⟩
 ·cases h; exact⟨ft,Lr hx⟩
 ·cases h; exact⟨ft,Ls hx⟩
 ·cases h; exact⟨ft,PR hx⟩
 ·cases h; exact⟨ft,PS hx⟩
 ·cases h; exact⟨ft,PO hx⟩
 ·cases h; exact⟨ft,PQ hx⟩
 ·cases h
def aiy:uQ Tryz.prog bX:=⟨M5,N4⟩
abbrev Bytes:=List UInt8
structure gN where
 name:Bytes
 ar:Int
 ak:Int
 deriving DecidableEq,Inhabited
structure Node where
 ar:Int
 kind:Int
 eG:Int
 data:Bytes
 bc:List gN
 up:Int
 deriving DecidableEq,Inhabited
structure Tree where
 ae:List Node
 next:Int
 ak:Int
 deriving DecidableEq,Inhabited
def Node.zero:Node:=⟨0,0,0,[],[],0⟩
def gj(e:gN):List ag:=[.str e.name,.int .i64 e.ar,.int .i64 e.ak]
def iG(e:gN):ag := .agg (gj e)
abbrev ja(l:List gN):ag := .slice .sh (l.map iG)
abbrev df(d:Bytes):ag := .slice .sh (d.map qB)
def aL(n:Node):List ag:=[.int .i64 n.ar,.int .i64 n.kind,.int .i64 n.eG,df n.data,ja n.bc,.int .i64 n.up]
def bL(n:Node):ag := .agg (aL n)
abbrev ba(l:List Node):ag := .slice .sh (l.map bL)
def aM(t:Tree):List ag:=[ba t.ae,.int .i64 t.next,.int .i64 t.ak]
def br(t:Tree):ag := .agg (aM t)
structure Small(t:Tree):Prop where
 ae:t.ae.length<=100000
 bc:∀n,n∈t.ae->n.bc.length<=100000
 data:∀n,n∈t.ae->n.data.length<=100000
def IK(n:Node):(bL n).cells=aL n:=rfl
def Lb(e:gN):(iG e).cells=gj e:=rfl
def L5(n:Node):(aL n).length=6:=rfl
def P1(e:gN):(gj e).length=3:=rfl
def GP(l:List Node):wid (l.map bL) 6=True:=by
 simp only[fT,jx];intro x hx;obtain⟨n,_,rfl⟩:=eJ.1 hx;rfl
def Ky(l:List gN):wid (l.map iG) 3=True:=by
 simp only[fT,jx];intro x hx;obtain⟨n,_,rfl⟩:=eJ.1 hx;rfl
theorem sk(l:Bytes):wid (l.map qB) 1=True:=by
 simp only[fT,jx];intro x hx;obtain⟨n,_,rfl⟩:=eJ.1 hx;rfl
structure Step where
 kind:Nat
 a:Nat
 b:Nat
 n:Nat
 m:Nat
 data:Bytes
def EVN:=bR @IK (bR @Lb (bR @L5 (bR @P1 (bR @GP (bR @Ky @sk)))))
def EN:=And.intro EVN EV
section
attribute [local irreducible] eS fI lx gK dZ kr aq aR cu bJ
def gQ{α:Type}{l:List α}{pre r:List α}{n:α}(h:l=pre++n::r):l[pre.length]?=some n:=by rw[h]; simp
def iP{α:Type}{l:List α}{pre r:List α}{n:α}(h:l=pre++n::r):((pre.length:Int)<(l.length:Int))=True:=by rw[h]; simp; omega
def jP{α:Type}{l:List α}{pre:List α}(h:l=pre++[]):((pre.length:Int)<(l.length:Int))=False:=by rw[h]; simp
def XY{α:Type}{pre:List α}{n:α}:((pre.length:Int)+1)=((pre++[n]).length:Int):=dw
def zB{T:Type}(l:List T)(x:T)(h:(l.length:Int)+1<9223372036854775808:=by omega):IntKind.i64.wrap ((l.length:Int)+1)=((l++[x]).length:Int):=by rw[gx aH aH]; exact XY
def find(ae:List Node)(ar:Int):Option Node:=ae.find? fun n=>n.ar==ar
def gW(ae:List Node)(ar:Int):Node×Int:=match find ae ar with
 |none=>(Node.zero,70)
 |some n=>if n.kind=2 then (n,0) else (Node.zero,73)
def gw(l:List gN)(s:Bytes):Option gN:=l.find? fun e=>e.name==s
def td(b:UInt8):Bool := !(decide ((b.toNat:Int)<32)||((b.toNat:Int)==47))
def fX(s:Bytes):Bool := !(decide ((s.length:Int)<1)||(decide ((s.length:Int)>32)||(s==[46]||s==[46,46])))&&s.all td
def fg(ae:List Node)(ar:Int)(s:Bytes):Int×Int :=
 if (gW ae ar).2≠0 then (0,(gW ae ar).2) else if fX s=false then (0,60) else match gw (gW ae ar).1.bc s with
  |none=>(0,70)
  |some e=>(e.ar,0)
theorem cJ{ae:List Node}{ar:Int}{n:Node}(h:find ae ar=some n):n∈ae/\n.ar=ar:=by
 unfold find at h;exact⟨iz h,by simpa using List.find?_some h⟩
def tM{t:Tree}(hs:Small t)(ar:Int):(gW t.ae ar).1.bc.length<=100000:=by
 unfold gW;split
 ·simp[Node.zero]
 ·rename_i n hn;split
  ·exact hs.bc n (cJ hn).1
  ·simp[Node.zero]
def zT:List ag:=[.slice .c0 [],.int .i64 0,.int .i64 0]
def oz(n:Node):List Node->List Node->Bool->List Node×Bool
 | [],out,done=>(out,done)
 |m::r,out,done =>
  oz n r ((if !done&&decide (m.ar>=n.ar) then out++[n] else out)++(if m.ar=n.ar then [] else [m])) (done||decide (m.ar>=n.ar))
def eT(ae:List Node)(n:Node):List Node:=(oz n ae [] false).1++(if (oz n ae [] false).2=true then [] else [n])
def fS(ae:List Node)(ar:Int):List Node:=ae.filter fun n=>n.ar != ar
def kb(l:List gN)(s:Bytes):List gN:=l.filter fun e=>e.name != s
def dE(ae:List Node)(ar:Int)(s:Bytes):List Node:=eT ae { (find ae ar).getD Node.zero with bc:=kb ((find ae ar).getD Node.zero).bc s }
abbrev nw(n:Int):Int:=IntKind.i64.wrap n
def gtB(a b:Bytes):Bool := !(strLt a b||a==b)
def vK(e:gN):List gN->List gN->Bool->List gN×Bool
 | [],out,done=>(out,done)
 |m::r,out,done=>vK e r ((if !done&&gtB m.name e.name then out++[e] else out)++[m]) (done||gtB m.name e.name)
def zg(l:List gN)(e:gN):List gN:=(vK e l [] false).1++(if (vK e l [] false).2=true then [] else [e])
def il(t:Tree)(ar:Int)(s:Bytes)(of:Int):Tree :=
 ⟨eT t.ae { (find t.ae ar).getD Node.zero with bc:=zg ((find t.ae ar).getD Node.zero).bc ⟨s,of,t.ak⟩ },t.next,nw (t.ak+1)⟩
def QQ(ae:List Node)(ar:Int):Int:=((find ae ar).getD Node.zero).up
def wj(ae:List Node):Nat->Int->Nat->Nat
 |0,_,d=>d
 |m+1,ar,d=>if ar=1 then d else wj ae m (QQ ae ar) (d+1)
def pR(ae:List Node)(ar:Int):Nat:=wj ae 201 ar 0
def ni(ae:List Node)(of:Int):Nat->Int->Bool
 |0,_=>false
 |m+1,ar=>if ar=of then true else if ar=1 then false else ni ae of m (QQ ae ar)
def iM(ae:List Node)(ar of:Int):Bool:=ni ae of (ae.length+1) ar
structure Sz(b:Nat)(t:Tree):Prop where
 ae:t.ae.length<=b
 bc:∀n,n∈t.ae->n.bc.length<=b
 data:∀n,n∈t.ae->n.data.length<=100000
def Sz.small{b:Nat}{t:Tree}(h:Sz b t)(hb:b<=100000):Small t:=⟨aY h.ae hb,fun n hn=>aY (h.bc n hn) hb,h.data⟩
def GQ(n:Node):∀(l out:List Node)(d:Bool),(oz n l out d).1.length+(if (oz n l out d).2=true then 0 else 1)<=out.length+l.length+(if d then 0 else 1)
 | [],out,d=>by simp only[oz,az,dj]; exact av _
 |m::r,out,d=>by
  rw[oz];refine aY (GQ n r _ _) ?_;cases d<;>by_cases h1:n.ar<=m.ar<;>by_cases h2:m.ar=n.ar<;>simp[h1,h2]<;>omega
def GR(n:Node):∀(l out:List Node)(d:Bool)(x:Node),x∈(oz n l out d).1->x=n\/x∈out\/x∈l
 | [],out,d,x,h=>by simp[oz] at h; exact .inr (.inl h)
 |m::r,out,d,x,h=>by
  rw[oz] at h;rcases GR n r _ _ x h with h|h|h
  ·exact .inl h
  ·rcases bo.1 h with h|h
   ·split at h
    ·rcases bo.1 h with h|h
     ·exact .inr (.inl h)
     ·exact .inl (by simpa using h)
    ·exact .inr (.inl h)
   ·split at h
    ·cases h
    ·exact .inr (.inr (by simp at h; simp[h]))
  ·exact .inr (.inr (bu _ h))
def GS(ae:List Node)(n:Node):(eT ae n).length<=ae.length+1:=by
 have:=GQ n ae [] false;unfold eT;split at this<;>simp_all
def GU{ae:List Node}{n x:Node}(h:x∈eT ae n):x=n\/x∈ae:=by
 unfold eT at h;rcases bo.1 h with h|h
 ·rcases GR n ae [] false x h with h|h|h
  ·exact .inl h
  ·cases h
  ·exact .inr h
 ·split at h
  ·cases h
  ·exact .inl (by simpa using h)
def Sz.with{b:Nat}{t:Tree}(h:Sz b t){n:Node}(h1:n.bc.length<=b+1)(h2:n.data.length<=100000)(next ak:Int):Sz (b+1) ⟨eT t.ae n,next,ak⟩ :=
 ⟨aY (GS _ _) (by have:=h.ae; simp; omega),fun x hx=>by
  rcases GU hx with rfl|hx
  ·exact h1
  ·exact iZ (h.bc x hx),fun x hx=>by
  rcases GU hx with rfl|hx
  ·exact h2
  ·exact h.data x hx⟩
def Sz.up{b c:Nat}{t:Tree}(h:Sz b t)(hbc:b<=c):Sz c t:=⟨aY h.ae hbc,fun n hn=>aY (h.bc n hn) hbc,h.data⟩
def Sz.find{b:Nat}{t:Tree}(h:Sz b t)(ar:Int):((find t.ae ar).getD Node.zero).bc.length<=b/\((find t.ae ar).getD Node.zero).data.length<=100000:=by
 cases hf:Go.Proofs.YteoamaffclmdbaaGreatDoor.find t.ae ar with
 |none=>simp[Node.zero]
 |some n=>exact⟨h.bc n (cJ hf).1,h.data n (cJ hf).1⟩
def A3(l:List gN)(s:Bytes):(kb l s).length<=l.length:=bU _ _
def Sz.left{b:Nat}{t:Tree}(h:Sz b t)(ar:Int)(s:Bytes)(next ak:Int):Sz (b+1) ⟨dE t.ae ar s,next,ak⟩ :=
 h.with (n:={ (Go.Proofs.YteoamaffclmdbaaGreatDoor.find t.ae ar).getD Node.zero with bc:=kb ((Go.Proofs.YteoamaffclmdbaaGreatDoor.find t.ae ar).getD Node.zero).bc s }) (aY (A3 _ _) (iZ (h.find ar).1)) (h.find ar).2 next ak
def Sz.ve{b:Nat}{t:Tree}(h:Sz b t)(ar:Int)(next ak:Int):Sz b ⟨fS t.ae ar,next,ak⟩ :=
 ⟨aY (bU _ _) h.ae,fun x hx=>h.bc x ((dP.1 hx).1),fun x hx=>h.data x ((dP.1 hx).1)⟩
def DQ(t:Tree)(n:Node):Bool:=decide ((64:Int)<=n.bc.length)||(decide ((12:Int)<=pR t.ae n.ar)||decide ((1099511627776:Int)<=t.ak))
def o8(t:Tree)(ar:Int)(s:Bytes):Int :=
 if (gW t.ae ar).2≠0 then (gW t.ae ar).2 else if fX s=false then 60 else if (gw (gW t.ae ar).1.bc s).isSome=true then 71 else if DQ t (gW t.ae ar).1 then 76 else 0
def rX(t:Tree)(ar:Int)(s:Bytes)(kind:Int):Tree×Int×Int :=
 if kind != 1&&kind != 2 then (t,0,1) else if o8 t ar s != 0 then (t,0,o8 t ar s) else
 if decide ((200:Int)<=t.ae.length)||decide ((1099511627776:Int)<=t.next) then (t,0,76) else
 (il ⟨eT t.ae ⟨t.next,kind,1,[],[],if kind==2 then ar else 0⟩,nw (t.next+1),t.ak⟩ ar s t.next,t.next,0)
abbrev bl(ae:List Node)(ar:Int):Node:=(find ae ar).getD Node.zero
def CS(t:Tree)(ar to:Int)(s:Bytes):Tree×Int :=
 if !(find t.ae ar).isSome||((bl t.ae ar).kind==1&&(bl t.ae ar).eG==0) then (t,70) else if (bl t.ae ar).kind==2 then (t,72) else
 if o8 t to s != 0 then (t,o8 t to s) else
 (il ⟨eT t.ae { bl t.ae ar with eG:=nw ((bl t.ae ar).eG+1) },t.next,t.ak⟩ to s ar,0)
def fm(ae:List Node)(ar:Int):List Node :=
 if (bl ae ar).kind==2 then fS ae ar else eT ae { bl ae ar with eG:=nw ((bl ae ar).eG-1) }
def BT(t:Tree)(ar:Int)(s:Bytes):Tree×Int×Int :=
 if (fg t.ae ar s).2 != 0 then (t,0,(fg t.ae ar s).2) else if decide ((0:Int)<(bl t.ae (fg t.ae ar s).1).bc.length) then (t,0,74) else
 (⟨fm (dE t.ae ar s) (fg t.ae ar s).1,t.next,t.ak⟩,(fg t.ae ar s).1,0)
def vh(ae:List Node)(kind:Int)(y:Int):Int :=
 if !(find ae y).isSome then 0 else if kind==2&&(bl ae y).kind != 2 then 73 else if kind != 2&&(bl ae y).kind==2 then 72 else if decide ((0:Int)<(bl ae y).bc.length) then 74 else 0
def rT(t:Tree)(ar:Int)(data:Bytes):Tree×Int :=
 if !(find t.ae ar).isSome then (t,70) else if (bl t.ae ar).kind==2 then (t,72) else if decide ((4096:Int)<data.length) then (t,2) else
 (⟨eT t.ae { bl t.ae ar with data:=data },t.next,t.ak⟩,0)
def kL(t:Tree)(ar:Int):Tree×Int :=
 if !(find t.ae ar).isSome then (t,70) else if (bl t.ae ar).kind==2 then (t,72) else if decide ((0:Int)<(bl t.ae ar).eG) then (t,71) else
 (⟨fS t.ae ar,t.next,t.ak⟩,0)
def wR:Tree:=⟨[⟨1,2,0,[],[],1⟩],2,1⟩
def sG(ae:List Node)(ar at' d:Int)(n:Node)(fR:Int):Int :=
 if n.kind==2&&iM ae n.ar ar then
  (if (if decide ((0:Int)<n.bc.length) then nw (nw (nw (at'+pR ae n.ar)-d)+1) else nw (nw (at'+pR ae n.ar)-d))>fR
   then (if decide ((0:Int)<n.bc.length) then nw (nw (nw (at'+pR ae n.ar)-d)+1) else nw (nw (at'+pR ae n.ar)-d)) else fR)
 else fR
def wo(ae:List Node)(ar at' d:Int):List Node->Int->Int
 | [],fR=>fR
 |n::r,fR=>wo ae ar at' d r (sG ae ar at' d n fR)
def Ci(ae:List Node)(ar at':Int):Int:=wo ae ar at' (pR ae ar) ae 0
def jf(l:List gN)(s:Bytes):Int:=match gw l s with
 |none=>0
 |some e=>e.ar
def manyN(t:Tree)(ku to:Int)(bc:List gN)(kind y ar:Int):Bool :=
 ((y==0&&to != ku)&&decide ((64:Int)<=bc.length))||(decide ((12:Int)<=pR t.ae to)||((kind==2&&decide ((12:Int)<Ci t.ae ar (nw (pR t.ae to+1))))||decide ((1099511627776:Int)<=t.ak)))
def tn(t:Tree)(ku:Int)(s:Bytes)(to:Int)(nm:Bytes)(ar y:Int):Tree :=
 il ⟨if (bl t.ae ar).kind==2 then
   eT (if y != 0 then fm (dE (dE t.ae ku s) to nm) y else dE t.ae ku s) { bl t.ae ar with up:=to }
  else if y != 0 then fm (dE (dE t.ae ku s) to nm) y else dE t.ae ku s,t.next,t.ak⟩ to nm ar
def wT(t:Tree)(ku:Int)(s:Bytes)(to:Int)(nm:Bytes):Tree×Int×Int :=
 if (fg t.ae ku s).2 != 0 then (t,0,(fg t.ae ku s).2) else
 if (gW t.ae to).2 != 0 then (t,0,(gW t.ae to).2) else
 if !fX nm then (t,0,60) else
 if jf (gW t.ae to).1.bc nm==(fg t.ae ku s).1 then (t,0,0) else
 if (bl t.ae (fg t.ae ku s).1).kind==2&&iM t.ae to (fg t.ae ku s).1 then (t,0,75) else
 if vh t.ae (bl t.ae (fg t.ae ku s).1).kind (jf (gW t.ae to).1.bc nm) != 0 then (t,0,vh t.ae (bl t.ae (fg t.ae ku s).1).kind (jf (gW t.ae to).1.bc nm)) else
 if manyN t ku to (gW t.ae to).1.bc (bl t.ae (fg t.ae ku s).1).kind (jf (gW t.ae to).1.bc nm) (fg t.ae ku s).1 then (t,0,76) else
 (tn t ku s to nm (fg t.ae ku s).1 (jf (gW t.ae to).1.bc nm),jf (gW t.ae to).1.bc nm,0)
def Sz.unnamed{b:Nat}{t:Tree}(h:Sz b t)(ar next ak:Int):Sz (b+1) ⟨fm t.ae ar,next,ak⟩:=by
 unfold fm;split
 ·exact(h.ve ar next ak).up aH
 ·exact h.with (n:={ bl t.ae ar with eG:=nw ((bl t.ae ar).eG-1) }) (iZ (h.find ar).1) (h.find ar).2 next ak
structure Step.Ok(s:Step):Prop where
 kind:s.kind<256
 a:s.a<256
 b:s.b<256
 n:s.n<256
 m:s.m<256
 data:s.data.length<=100000
def nameOf(n:Nat):Bytes:=match n % 6 with
 |0=>[97]
 |1=>[98]
 |2=>[99]
 |3=>[100]
 |4=>[101]
 |_=>[46,46]
def wI(t:Tree)(n:Nat):Int:=match t.ae[n % (t.ae.length+1)]? with
 |some m=>m.ar
 |none=>t.next
def acz(t:Tree)(s:Step):Tree×Int×Int :=
 if ((s.kind % 8:Nat):Int)==0||((s.kind % 8:Nat):Int)==1 then rX t (wI t s.a) (nameOf s.n) (((s.m % 2:Nat):Int)+1) else
 if ((s.kind % 8:Nat):Int)==2 then ((CS t (wI t s.b) (wI t s.a) (nameOf s.n)).1,0,(CS t (wI t s.b) (wI t s.a) (nameOf s.n)).2) else
 if ((s.kind % 8:Nat):Int)==3 then BT t (wI t s.a) (nameOf s.n) else
 if ((s.kind % 8:Nat):Int)==4||((s.kind % 8:Nat):Int)==5 then wT t (wI t s.a) (nameOf s.n) (wI t s.b) (nameOf s.m) else
 if ((s.kind % 8:Nat):Int)==6 then ((rT t (wI t s.a) s.data).1,0,(rT t (wI t s.a) s.data).2) else
 ((kL t (wI t s.a)).1,0,(kL t (wI t s.a)).2)
def Jv(e:gN):∀(l out:List gN)(d:Bool),(vK e l out d).1.length+(if (vK e l out d).2=true then 0 else 1)<=out.length+l.length+(if d then 0 else 1)
 | [],out,d=>by simp only[vK,az,dj]; exact av _
 |m::r,out,d=>by
  rw[vK];refine aY (Jv e r _ _) ?_;cases d<;>cases h1:gtB m.name e.name<;>simp<;>omega
def Tm(l:List gN)(e:gN):(zg l e).length<=l.length+1:=by
 have:=Jv e l [] false;unfold zg;split at this<;>simp_all
def Sz.nL{b:Nat}{t:Tree}(h:Sz b t)(ar:Int)(s:Bytes)(of:Int):Sz (b+1) (il t ar s of) :=
 h.with (n:={ bl t.ae ar with bc:=zg (bl t.ae ar).bc ⟨s,of,t.ak⟩ }) (aY (Tm _ _) (Nat.succ_le_succ (h.find ar).1)) (h.find ar).2 t.next (nw (t.ak+1))
def Sz.add{b:Nat}{t:Tree}(h:Sz b t)(ar:Int)(s:Bytes)(kind:Int):Sz (b+5) (rX t ar s kind).1:=by
 unfold rX;split
 ·exact h.up aH
 ·split
  ·exact h.up aH
  ·split
   ·exact h.up aH
   ·exact((h.with (n:=⟨t.next,kind,1,[],[],if kind==2 then ar else 0⟩) dw dw (nw (t.next+1)) t.ak).nL ar s t.next).up aH
def Sz.ln{b:Nat}{t:Tree}(h:Sz b t)(ar to:Int)(s:Bytes):Sz (b+5) (CS t ar to s).1:=by
 unfold CS;split
 ·exact h.up aH
 ·split
  ·exact h.up aH
  ·split
   ·exact h.up aH
   ·exact((h.with (n:={ bl t.ae ar with eG:=nw ((bl t.ae ar).eG+1) }) (iZ (h.find ar).1) (h.find ar).2 t.next t.ak).nL to s ar).up aH
def Sz.un{b:Nat}{t:Tree}(h:Sz b t)(ar:Int)(s:Bytes):Sz (b+5) (BT t ar s).1:=by
 unfold BT;split
 ·exact h.up aH
 ·split
  ·exact h.up aH
  ·exact((h.left ar s t.next t.ak).unnamed _ t.next t.ak).up aH
def Sz.put{b:Nat}{t:Tree}(h:Sz b t)(ar:Int)(data:Bytes)(hd:data.length<=100000):Sz (b+5) (rT t ar data).1:=by
 unfold rT;split
 ·exact h.up aH
 ·split
  ·exact h.up aH
  ·split
   ·exact h.up aH
   ·exact(h.with (n:={ bl t.ae ar with data:=data }) (iZ (h.find ar).1) hd t.next t.ak).up aH
def Sz.free{b:Nat}{t:Tree}(h:Sz b t)(ar:Int):Sz (b+5) (kL t ar).1:=by
 unfold kL;split
 ·exact h.up aH
 ·split
  ·exact h.up aH
  ·split
   ·exact h.up aH
   ·exact(h.ve ar t.next t.ak).up aH
def Sz.move{b:Nat}{t:Tree}(h:Sz b t)(ku:Int)(s:Bytes)(to:Int)(nm:Bytes)(ar y:Int):Sz (b+5) (tn t ku s to nm ar y):=by
 unfold tn;have z1:=h.left ku s t.next t.ak
 have z3:=(z1.left to nm t.next t.ak).unnamed y t.next t.ak
 have z:Sz (b+3) ⟨if y != 0 then fm (dE (dE t.ae ku s) to nm) y else dE t.ae ku s,t.next,t.ak⟩:=by
  split
  ·exact z3
  ·exact z1.up aH
 split
 ·exact((z.with (n:={ bl t.ae ar with up:=to }) (aY (h.find ar).1 aH) (h.find ar).2 t.next t.ak).nL to nm ar).up aH
 ·exact(z.nL to nm ar).up aH
def Sz.mv{b:Nat}{t:Tree}(h:Sz b t)(ku:Int)(s:Bytes)(to:Int)(nm:Bytes):Sz (b+5) (wT t ku s to nm).1:=by
 unfold wT
 repeat' split
 all_goals first
  |exact h.up aH
  |exact h.move ku s to nm _ _
def Sz.done{b:Nat}{t:Tree}(h:Sz b t)(s:Step)(hs:s.Ok):Sz (b+5) (acz t s).1:=by
 unfold acz
 repeat' split
 all_goals first
  |exact h.add _ _ _
  |exact h.ln _ _ _
  |exact h.un _ _
  |exact h.mv _ _ _ _
  |exact h.put _ _ hs.data
  |exact h.free _
def Sz.wR:Sz 1 wR:=⟨by simp[Go.Proofs.YteoamaffclmdbaaGreatDoor.wR],fun n hn=>by simp[Go.Proofs.YteoamaffclmdbaaGreatDoor.wR] at hn; subst hn; simp,fun n hn=>by simp[Go.Proofs.YteoamaffclmdbaaGreatDoor.wR] at hn; subst hn; simp⟩
end
end Go.Proofs.YteoamaffclmdbaaGreatDoor
namespace Go.Abs
open Go
def A8{C:eL}{fn:List sV}{bS:Nat}{k:List K}{live:List Nat}{body:cG}{α σ ρ:Type}{xs:List α}(hn:xs.length<=1000000)(go:List α->σ->ρ)(E:σ->Int->Env)(M:σ->aC)(R:ρ->Option (ag×aC))
  (hend:∀s,eS C fn bS (.loop live (M s).length body::k) body (jI (E s xs.length) live) (M s)=R (go [] s))
  (hstep:∀(pre:List α)(x:α)(post:List α)(s:σ),xs=pre++x::post->xs[pre.length]?=some x->((pre.length:Int)<xs.length)=True->IntKind.i64.wrap ((pre.length:Int)+1)=(pre.length:Int)+1->((pre.length:Int)<0)=False->x∈xs ->
   (∀s',eS C fn bS k (.loop live body) (E s' ((pre.length:Int)+1)) (M s')=R (go post s'))->eS C fn bS (.loop live (M s).length body::k) body (jI (E s pre.length) live) (M s)=R (go (x::post) s)) :
  ∀s,eS C fn bS k (.loop live body) (E s 0) (M s)=R (go xs s):=by
 have key:∀(l pre:List α)(s:σ),xs=pre++l->eS C fn bS k (.loop live body) (E s pre.length) (M s)=R (go l s):=by
  intro l;induction l with
  |nil =>
   intro pre s h;rw[bI,show pre.length=xs.length by rw[h]; simp]
   exact hend s
  |cons x r ih =>
   intro pre s h;rw[bI];have hl:pre.length+1<=1000000:=by rw[h] at hn; simp at hn; omega
   refine hstep pre x r s h (by rw[h]; simp) (by rw[h]; simp; omega) (gx aH aH) dw (by rw[h]; simp) fun s'=>?_
   have:=ih (pre++[x]) s' (by rw[h]; simp)
   simpa using this
 intro s;exact key xs [] s rfl
def jc{C:eL}{fn:List sV}{bS:Nat}{k:List K}{live:List Nat}{body:cG}{α σ:Type}{xs:List α}(hn:xs.length<=1000000)(I:Nat->σ->Prop)(E:σ->Int->Env)(M:σ->aC)(Q:ag×aC->Prop)
  (hend:∀s,I xs.length s->∃r,Q r/\eS C fn bS (.loop live (M s).length body::k) body (jI (E s xs.length) live) (M s)=some r)
  (hstep:∀(pre:List α)(x:α)(post:List α)(s:σ),xs=pre++x::post->xs[pre.length]?=some x->((pre.length:Int)<xs.length)=True->IntKind.i64.wrap ((pre.length:Int)+1)=(pre.length:Int)+1->((pre.length:Int)<0)=False->x∈xs->I pre.length s ->
   (∀s',I (pre.length+1) s'->∃r,Q r/\eS C fn bS k (.loop live body) (E s' ((pre.length:Int)+1)) (M s')=some r)->∃r,Q r/\eS C fn bS (.loop live (M s).length body::k) body (jI (E s pre.length) live) (M s)=some r) :
  ∀s,I 0 s->∃r,Q r/\eS C fn bS k (.loop live body) (E s 0) (M s)=some r:=by
 have key:∀(l pre:List α)(s:σ),xs=pre++l->I pre.length s->∃r,Q r/\eS C fn bS k (.loop live body) (E s pre.length) (M s)=some r:=by
  intro l;induction l with
  |nil =>
   intro pre s h hI;have e:pre.length=xs.length:=by rw[h]; simp
   rw[bI,e];exact hend s (by rw[<-e]; exact hI)
  |cons x r ih =>
   intro pre s h hI;rw[bI];have hl:pre.length+1<=1000000:=by rw[h] at hn; simp at hn; omega
   refine hstep pre x r s h (by rw[h]; simp) (by rw[h]; simp; omega) (gx aH aH) dw (by rw[h]; simp) hI fun s' hI'=>?_
   have:=ih (pre++[x]) s' (by rw[h]; simp) (by simpa using hI')
   simpa using this
 intro s hI;exact key xs [] s rfl hI
def yq{α:Type}{a b:List α}{m:Nat}(h:a.take m=b.take m){x:α}(hx:a[m]?=some x)(hy:b[m]?=some x):a.take (m+1)=b.take (m+1):=by
 rw[cD,cD,h,hx,hy]
def AA{α:Type}{a b:List α}(hl:a.length=b.length)(h:a.take a.length=b.take a.length):a=b:=by
 rw[bE,hl,bE] at h; exact h
def GI(ds:List Bool)(b:Nat)(d:Bool):jo (ds.map ag.bool) b (putCells (.bool d) 0 [.bool true])=(ds.set b true).map ag.bool:=by
 have:putCells (.bool d) 0 [.bool true] = .bool true:=rfl;rw[this,fH,jg]
def abV(ds:List UInt8)(b:Nat)(d x:UInt8):jo (ds.map qB) b (putCells (qB d) 0 [qB x])=(ds.set b x).map qB:=by
 have:putCells (qB d) 0 [qB x]=qB x:=rfl;rw[this,fH,jg]
def pq{C:eL}{fn:List sV}{bS:Nat}{k:List K}{live:List Nat}{body:cG}{α σ ρ:Type}{xs:List α}(hn:xs.length<=1000000)(I:Nat->σ->Prop)(go:List α->σ->ρ)(E:σ->Int->Env)(M:σ->aC)(R:ρ->Option (ag×aC))
  (hend:∀s,I xs.length s->eS C fn bS (.loop live (M s).length body::k) body (jI (E s xs.length) live) (M s)=R (go [] s))
  (hstep:∀(pre:List α)(x:α)(post:List α)(s:σ),xs=pre++x::post->xs[pre.length]?=some x->((pre.length:Int)<xs.length)=True->IntKind.i64.wrap ((pre.length:Int)+1)=(pre.length:Int)+1->((pre.length:Int)<0)=False->x∈xs->I pre.length s ->
   (∀s',I (pre.length+1) s'->eS C fn bS k (.loop live body) (E s' ((pre.length:Int)+1)) (M s')=R (go post s'))->eS C fn bS (.loop live (M s).length body::k) body (jI (E s pre.length) live) (M s)=R (go (x::post) s)) :
  ∀s,I 0 s->eS C fn bS k (.loop live body) (E s 0) (M s)=R (go xs s):=by
 have key:∀(l pre:List α)(s:σ),xs=pre++l->I pre.length s->eS C fn bS k (.loop live body) (E s pre.length) (M s)=R (go l s):=by
  intro l;induction l with
  |nil =>
   intro pre s h hI;have e:pre.length=xs.length:=by rw[h]; simp
   rw[bI,e];exact hend s (by rw[<-e]; exact hI)
  |cons x r ih =>
   intro pre s h hI;rw[bI];have hl:pre.length+1<=1000000:=by rw[h] at hn; simp at hn; omega
   refine hstep pre x r s h (by rw[h]; simp) (by rw[h]; simp; omega) (gx aH aH) dw (by rw[h]; simp) hI fun s' hI'=>?_
   have:=ih (pre++[x]) s' (by rw[h]; simp) (by simpa using hI')
   simpa using this
 intro s hI;exact key xs [] s rfl hI
def qF{α:Type}(p:α->Bool):List α->Nat->Int
 | [],_ => -1
 |x::r,i=>if p x then (i:Int) else qF p r (i+1)
structure Yh{α:Type}(lt:α->Bool)(l:List α)(b:Nat):Prop where
 le:b<=l.length
 lt:∀h n,l[h]?=some n->(lt n=true↔h<b)
def pr{α:Type}(eq:α->Bool)(l:List α)(b:Nat):Bool:=match l[b]? with
 |some n=>eq n
 |none=>false
def WE(i j:Nat)(hj:j<=100000)(hi:i<=j):IntKind.i64.wrap ((i:Int)+(j:Int))=((i+j:Nat):Int)/\IntKind.u64.wrap ((i+j:Nat):Int)=((i+j:Nat):Int) /\
  (((i+j:Nat):Int)).fdiv (2 ^ min 1 IntKind.u64.bits)=(((i+j) / 2:Nat):Int)/\IntKind.i64.wrap (((i+j) / 2:Nat):Int)=(((i+j) / 2:Nat):Int)/\IntKind.i64.wrap ((((i+j) / 2:Nat):Int)+1)=(((i+j) / 2+1:Nat):Int):=by
 refine⟨?_,?_,?_,?_,?_⟩
 ·rw[gx aH aH]; rfl
 ·have:IntKind.u64.wrap ((i+j:Nat):Int)=((i+j:Nat):Int) % 18446744073709551616:=by simp[IntKind.wrap,IntKind.bits,IntKind.signed]
  rw[this]; omega
 ·have:(2:Int) ^ min 1 IntKind.u64.bits=2:=mw;rw[this,Int.fdiv_eq_ediv_of_nonneg _ aH]; omega
 ·exact gx aH aH
 ·rw[gx aH aH]; rfl
def ajj(C:eL)(fv:ag)(M:aC)(vs:List ag)(r:ag):Prop:=(∃g caps,fv = .func g caps/\aR C g (vs++caps) M=some (r,M))\/∃g fs,fv = .rb g fs/\aR C g (fs++vs) M=some (r,M)
def u7{M:aC}{p:Nat}{b:cV}(h:nth M p=some b):jo M p b=M:=by
 rw[fe] at h; rw[fH];apply ct;intro i
 by_cases e:p=i
 ·subst e; rw[ei (aN h),h]
 ·rw[cX e]
def cM{C:eL}{f p:Nat}{vs:List ag}{r:ag}{M:aC}{cs:List ag}(hM:nth M p=some (.cells cs))(h:C f (.ptr 0 0::vs) [.cells cs]=some (r,[.cells cs]))(h1:vs.all ag.flat=true:=by exact rfl)(h2:vs.flatMap ag.ids=[]:=by exact rfl)(h3:r.wH=true:=by exact rfl)(h4:vs.map (ag.pv (iw [p]))=vs:=by exact rfl)(h5:r.Ax (wC [p])=r:=by exact rfl)(h6:cs.all ag.vH=true:=by exact rfl)(h7:cs.flatMap ag.nG=[]:=by exact rfl)(h8:cs.map (ag.si (iw [p]))=cs:=by exact rfl)(h10:cs.map (ag.si (wC [p]))=cs:=by exact rfl):aR C f (.ptr p 0::vs) M=some (r,M):=by
 have:=tx hM h h1 h2 h3 h4 h5 h6 h7 h8 h6 h10;rwa[u7 hM] at this
def lk{C:eL}{f:Nat}{args args':List ag}{M B:aC}{ids:List Nat}{r r':ag}{B' M':aC}(h1:args.all ag.flat=true)(h2:reach M (args.flatMap ag.ids)=ids)(h3:j7 M (iw ids) ids=some B)(h4:kE M ids=ids)
  (h5:args.map (ag.pv (iw ids))=args') (h:C f args' B=some (r,B')) (h6:B'.length=B.length) (h7:r.wH=true) (h8:B'.all cV.flat=true) (h9:r.Ax (wC ids)=r') (h10:mc ids M ids B'=M'):aR C f args M=some (r',M'):=by
 unfold aR;rw[aZ h1,h2,h3];simp only[bN];rw[aZ h4,h5,h];simp only[bN];rw[aZ ⟨h6,h7,h8⟩,h9,h10]
theorem F4{α:Type}(p:α->Bool):∀(l:List α)(i:Nat),decide (0<=qF p l i)=l.any p
 | [],_=>rfl
 |x::r,i=>by
  rw[qF,jV]
  by_cases h:p x=true
  ·grind
  ·simp[h];exact F4 p r _
def xl{α:Type}(p:α->Bool)(l:List α):decide (0<=qF p l 0)=l.any p:=F4 p l 0
def uR{C:eL}{f p:Nat}{vs:List ag}{r:ag}{M:aC}{cs:List ag}(hM:nth M p=some (.cells cs))(h:C f (vs++[cC 0]) [.cells cs]=some (r,[.cells cs]))(h1:vs.all ag.flat=true)(h2:vs.flatMap ag.ids=[])(h3:r.wH=true)
  (h4:vs.map (ag.pv (iw [p]))=vs) (h5:r.Ax (wC [p])=r) (h6:cs.all ag.vH=true) (h7:cs.flatMap ag.nG=[]) (h8:cs.map (ag.si (iw [p]))=cs) (h10:cs.map (ag.si (wC [p]))=cs) :
  aR C f (vs++[cC p]) M=some (r,M):=by
 have hids:(vs++[ag.ptr p 0]).flatMap ag.ids=[p]:=by simp[ag.ids,ag.nG,ag.iH,h2]
 have hi:qy M [p]=[]:=by simp_all [qy,cV.ids]
 have e0:kE M [p]=[p]:=by simp[kE,hi,ke]
 have e1:reach M [p]=[p]:=by
  have ea:ke [] [p]=[p]:=rfl;simp only[reach,ea,e0]
 have hfl:(vs++[ag.ptr p 0]).all ag.flat=true:=by rw[oI,h1]; rfl
 simp_all [aR,j7,iw,cV.flat,cV.pv,bN,ag.pv,aW,ag.si,ag.uw,mc,u7]
def Tf(sz:Nat):cG := .seq (.region [ob 9 (.bin .lss (.tmp 8) (.tmp 7))] false [0,1,7,8,9]) (.seq (.cond (.tmp 9) .skip (.exit 0)) (.seq (.block 1 (.seq (.region [ob 10 (.mv (.tmp 8)),ob 5 (.mv (.tmp 10))] false [0,1,5,7,8])
 (.seq (.region [ob 11 (.mv (.tmp 1)),ob 12 (.mv (.tmp 0)),ob 13 (.mv (.tmp 5)),ob 14 (.ui sz (.tmp 12) (.tmp 13)),ob 15 (.mM sz (.tmp 14)),ob 16 (.sB (.tmp 11) [.tmp 15])] false [0,1,5,7,8,16]) (.cond (.tmp 16) (.seq (.region [ob 17 (.mv (.tmp 5)),ob 4 (.mv (.tmp 17))] false [4]) .ret) .skip))))
 (.region [ob 18 (.bin .add (.tmp 8) (.ti (.int .i64 1))),ob 8 (.mv (.tmp 18))] false [0,1,7,8])))
def Tg(sz:Nat):eE:=⟨2,[.tmp 4],.seq (.region [ob 4 (.mv (.ti (.int .i64 0)))] false [0,1]) (.seq (.seq (.region [ob 6 (.mv (.tmp 0)),ob 7 (.Aa (.tmp 6)),ob 8 (.mv (.ti (.int .i64 0)))] false [0,1,7,8]) (.block 0 (.loop [0,1,7,8] (Tf sz))))
 (.seq (.region [ob 4 (.mv (.ti (.int .i64 (-1))))] false [4]) .ret))⟩
section
variable {T:zA} {f sz:Nat} {α:Type} {e:α->List ag} {xs:List α} {fv:ag} {M:aC}
attribute [local irreducible] eS fI lx gK dZ kr aq aR cu bJ
def DT{p:α->Bool}{N:Nat}(hc:T.code f=some (Tg sz))(hp:T.o4 f=none)(hn:xs.length<=N)(hz:∀x,(e x).length=sz)(hs:∀x,(e x).map ag.shut=e x)(hf:fv.mG M.length M=fv)(hM:M.map (cV.back M.length M)=M)
  (hk:∀x,x∈xs->ajj (aq T) fv M [.agg (e x)] (.bool (p x))) (hN:N<=900000:=by omega):aq T f [gv (xs.map fun x => .agg (e x)),fv] M=some (aD (qF p xs 0),M):=by
 refine aB ?_ hp hc rfl;have ht:∀x,(e x).take sz=e x:=fun x=>bt (by rw[hz]; exact av _)
 simp only[Tg,EV,seval];refine pq (xs:=xs) aH (fun m s=>s=m) (fun l (s:Nat)=>qF p l s) (fun _ i=>[(0,gv (xs.map fun x => .agg (e x))),(1,fv),(7,aD xs.length),(8,aD i)]) (fun _=>M) (fun r=>some (aD r,M)) (fun s hs'=>?_) (fun pre x post s h hx cQ hw h0 hm hI hi=>?_) 0 rfl
 ·simp only[nn (Tf.eq_1 sz),qF,bq,hM,bE,EV,seval]
 ·have i1:=hi (pre.length+1) rfl;rw[hI,qF];rcases hk x hm with ⟨g,caps,rfl,hq⟩|⟨g,caps,rfl,hq⟩
  all_goals
   simp only[aG,aP,ag.mG,ag.j4,ag.jH] at hq hf;simp only[nn (Tf.eq_1 sz),cQ,hx,hw,h0,hz,ht,hs,hq,EV,seval];refine bB (fun hb=>?_) (fun hb=>?_)
   ·simp only[hb,hM,bE,EV,seval]
   ·simp only[hb,hw,hf,hM,bE,af,EV,seval];exact i1
def bsB(sz:Nat):cG := .seq (.seq (.region [ob 15 (.mv (.tmp 9)),ob 16 (.mv (.tmp 10)),ob 17 (.bin .lss (.tmp 15) (.tmp 16))] false [0,1,2,8,9,10,17]) (.cond (.tmp 17) .skip (.exit 0)))
 (.block 1 (.seq (.region [ob 18 (.mv (.tmp 9)),ob 19 (.mv (.tmp 10)),ob 20 (.bin .add (.tmp 18) (.tmp 19)),ob 21 (.conv .u64 (.tmp 20)),ob 22 (.bin .shr (.tmp 21) (.ti (.int .u64 1))),ob 23 (.conv .i64 (.tmp 22)),ob 11 (.mv (.tmp 23))] false [0,1,2,8,9,10,11])
  (.seq (.region [ob 24 (.mv (.tmp 2)),ob 25 (.mv (.tmp 0)),ob 26 (.mv (.tmp 11)),ob 27 (.ui sz (.tmp 25) (.tmp 26)),ob 28 (.mM sz (.tmp 27)),ob 29 (.mv (.tmp 1)),ob 30 (.sB (.tmp 24) [.tmp 28,.tmp 29]),ob 31 (.bin .lss (.tmp 30) (.ti (.int .i64 0)))] false [0,1,2,8,9,10,11,31])
   (.cond (.tmp 31) (.region [ob 32 (.mv (.tmp 11)),ob 33 (.bin .add (.tmp 32) (.ti (.int .i64 1))),ob 9 (.mv (.tmp 33))] false [0,1,2,8,9,10]) (.region [ob 34 (.mv (.tmp 11)),ob 10 (.mv (.tmp 34))] false [0,1,2,8,9,10])))))
def bsE(sz:Nat):cG := .seq (.region [ob 35 (.mv (.tmp 9)),ob 36 (.mv (.tmp 9)),ob 37 (.mv (.tmp 8)),ob 38 (.bin .lss (.tmp 36) (.tmp 37)),ob 39 (.mv (.tmp 38)),og 40 39 true (.mv (.tmp 2)),og 41 39 true (.mv (.tmp 0)),og 42 39 true (.mv (.tmp 9)),og 43 39 true (.ui sz (.tmp 41) (.tmp 42)),
 og 44 39 true (.mM sz (.tmp 43)),og 45 39 true (.mv (.tmp 1)),og 46 39 true (.sB (.tmp 40) [.tmp 44,.tmp 45]),og 47 39 true (.bin .eql (.tmp 46) (.ti (.int .i64 0))),ob 48 (.pick (.tmp 39) (.tmp 47) (.ti (.bool false))),ob 6 (.mv (.tmp 35)),ob 7 (.mv (.tmp 48))] false [6,7]) .ret
def bsF(sz:Nat):eE:=⟨3,[.tmp 6,.tmp 7],.seq (.region [ob 6 (.mv (.ti (.int .i64 0))),ob 7 (.mv (.ti (.bool false)))] false [0,1,2]) (.seq (.region [ob 12 (.mv (.tmp 0)),ob 13 (.Aa (.tmp 12)),ob 8 (.mv (.tmp 13))] false [0,1,2,8])
 (.seq (.region [ob 14 (.mv (.tmp 8)),ob 9 (.mv (.ti (.int .i64 0))),ob 10 (.mv (.tmp 14))] false [0,1,2,8,9,10]) (.seq (.block 0 (.loop [0,1,2,8,9,10] (bsB sz))) (bsE sz))))⟩
def ZI{c:α->Int}{key:ag}{b:Nat}(hc:T.code f=some (bsF sz))(hp:T.o4 f=none)(hb:Yh (fun x=>decide (c x<0)) xs b)(hn:xs.length<=100000)(hz:∀x,(e x).length=sz)(hs:∀x,(e x).map ag.shut=e x)(hf0:(∃g caps,fv = .func g caps)\/∃g fs,fv = .rb g fs)(hf:fv.mG M.length M=fv)
  (hM:M.map (cV.back M.length M)=M) (hk1:key.fU=key) (hk2:key.mG M.length M=key) (hk3:key.jr=false) (hk:∀x,x∈xs->ajj (aq T) fv M [.agg (e x),key] (aD (c x))) :
  aq T f [gv (xs.map fun x => .agg (e x)),key,fv] M=some (.tuple [aD b,.bool (pr (fun x=>c x==0) xs b)],M):=by
 refine aB ?_ hp hc rfl;have ht:∀x,(e x).take sz=e x:=fun x=>bt (by rw[hz]; exact av _)
 have hfp:fv.jr=false:=by rcases hf0 with ⟨g,caps,rfl⟩|⟨g,caps,rfl⟩<;>rfl
 simp only[bsF,hk3,hfp,EV,seval]
 have key:∀(n i j:Nat),j-i<=n->i<=b->b<=j->j<=xs.length->eS (aq T) [.tmp 6,.tmp 7] M.length [.block 0,.seq (bsE sz)] (.loop [0,1,2,8,9,10] (bsB sz)) [(0,gv (xs.map fun x => .agg (e x))),(1,key),(2,fv),(8,aD xs.length),(9,aD i),(10,aD j)] M =
   some (.tuple [aD b,.bool (pr (fun x=>c x==0) xs b)],M):=by
  have fin:∀j:Nat,j<=b->eS (aq T) [.tmp 6,.tmp 7] M.length [.block 0,.seq (bsE sz)] (.loop [0,1,2,8,9,10] (bsB sz)) [(0,gv (xs.map fun x => .agg (e x))),(1,key),(2,fv),(8,aD xs.length),(9,aD b),(10,aD j)] M =
    some (.tuple [aD b,.bool (pr (fun x=>c x==0) xs b)],M):=by
   intro j hj;rw[bI];have cQ:((b:Int)<(j:Int))=False:=gr;simp only[nn (bsB.eq_1 sz),bsE,cQ,hk3,hfp,EV,seval];unfold pr
   by_cases cQ:b<xs.length
   ·have hx:=ai cQ;have h1:((b:Int)<(xs.length:Int))=True:=gr;rcases hk _ (aJ hx) with ⟨g,caps,rfl,hq⟩|⟨g,caps,rfl,hq⟩
    all_goals
     try simp only[aG,aP] at hq
     simp only[hx,h1,hz,ht,hs,hk1,hk3,hq,hM,bE,EV,seval]
   ·have hx:xs[b]?=none:=fj aH;have h1:((b:Int)<(xs.length:Int))=False:=gr;simp only[hx,h1,hM,bE,EV,seval]
  intro n;induction n with
  |zero =>
   intro i j h1 h2 h3 h4;obtain rfl:i=b:=aH;exact fin j aH
  |succ n ih =>
   intro i j h1 h2 h3 h4
   by_cases hij:i<j
   case neg =>
    obtain rfl:i=b:=aH;exact fin j aH
   rw[bI]
   ·have cQ:((i:Int)<(j:Int))=True:=gr;obtain⟨m1,m2,m3,m4,m5⟩:=WE i j aH aH;have hmid:(i+j) / 2<xs.length:=aH;have hx:=ai hmid;have hl:=hb.lt _ _ hx;rcases hk _ (aJ hx) with ⟨g,caps,rfl,hq⟩|⟨g,caps,rfl,hq⟩
    all_goals
     simp only[aG,aP,ag.mG,ag.j4,ag.jH] at hq hf;simp only[nn (bsB.eq_1 sz),cQ,m1,m2,m3,m4,hx,hz,ht,hs,hk1,hk2,hk3,hf,hq,EV,seval];refine bB (fun hq=>?_) (fun hq=>?_)
     ·simp only[m5,hk1,hk2,hk3,hf,hM,bE,EV,seval];exact ih ((i+j) / 2+1) j aH (hl.1 (by simpa using hq)) h3 h4
     ·simp only[hk1,hk2,hk3,hf,hM,bE,EV,seval];exact ih i ((i+j) / 2) aH h2 (Nat.not_lt.1 fun h=>by have:=hl.2 h; simp_all) aH
 exact key xs.length 0 xs.length aH aH hb.le aH
def afN(sz:Nat)(ld:fY->kG)(ne:fY->fY->kG):cG := .seq (.region [ob 14 (.bin .lss (.tmp 13) (.tmp 12))] false [0,1,12,13,14]) (.seq (.cond (.tmp 14) .skip (.exit 0)) (.seq (.block 1 (.seq (.region [ob 15 (.mv (.tmp 13)),ob 5 (.mv (.tmp 15))] false [0,1,5,12,13])
 (.seq (.region [ob 16 (.mv (.tmp 0)),ob 17 (.mv (.tmp 5)),ob 18 (.ui sz (.tmp 16) (.tmp 17)),ob 19 (ld (.tmp 18)),ob 20 (.mv (.tmp 1)),ob 21 (.mv (.tmp 5)),ob 22 (.ui sz (.tmp 20) (.tmp 21)),ob 23 (ld (.tmp 22)),ob 24 (ne (.tmp 19) (.tmp 23))] true [0,1,12,13,24])
  (.cond (.tmp 24) (.seq (.region [ob 4 (.mv (.ti (.bool false)))] false [4]) .ret) .skip))))
 (.region [ob 25 (.bin .add (.tmp 13) (.ti (.int .i64 1))),ob 13 (.mv (.tmp 25))] false [0,1,12,13])))
def alP(sz:Nat)(ld:fY->kG)(ne:fY->fY->kG):eE:=⟨2,[.tmp 4],.seq (.region [ob 4 (.mv (.ti (.bool false)))] false [0,1])
 (.seq (.seq (.region [ob 6 (.mv (.tmp 0)),ob 7 (.Aa (.tmp 6)),ob 8 (.mv (.tmp 1)),ob 9 (.Aa (.tmp 8)),ob 10 (.bin .neq (.tmp 7) (.tmp 9))] false [0,1,10]) (.cond (.tmp 10) (.seq (.region [ob 4 (.mv (.ti (.bool false)))] false [4]) .ret) .skip))
 (.seq (.seq (.region [ob 11 (.mv (.tmp 0)),ob 12 (.Aa (.tmp 11)),ob 13 (.mv (.ti (.int .i64 0)))] false [0,1,12,13]) (.block 0 (.loop [0,1,12,13] (afN sz ld ne)))) (.seq (.region [ob 4 (.mv (.ti (.bool true)))] false [4]) .ret)))⟩
def DS[DecidableEq α]{e:α->ag}{ld:fY->kG}{ne:fY->fY->kG}{a b:List α}(hc:T.code f=some (alP sz ld ne))(hp:T.o4 f=none)(ha:a.length<=100000)(hz:∀x,(e x).cells.length=sz)(hpn:∀x,(e x).jr=false)
  (hb:∀x,(e x).mG 0 []=e x)
  (hl:∀(bp:Env)(M:aC)(t:Nat)(x:α),hZ bp t = .jF (e x).cells->eo (aq T) bp M (ld (.tmp t))=some (e x,M))
  (hn:∀(bp:Env)(M:aC)(t u:Nat)(x y:α),hZ bp t=e x->hZ bp u=e y->eo (aq T) bp M (ne (.tmp t) (.tmp u))=some (.bool (!decide (x=y)),M)) :
  aq T f [gv (a.map e),gv (b.map e)] []=some (.bool (decide (a=b)),[]):=by
 refine aB ?_ hp hc rfl;simp only[alP,EV,seval];refine bB (fun hq=>?_) (fun hq=>?_)
 ·have:decide (a=b)=false:=by
   simp at hq ⊢;rintro rfl; exact hq rfl
  simp only[this,EV,seval]
 have dN:a.length=b.length:=by simp at hq; omega
 simp only[EV,seval];refine pq (xs:=a) aH (fun m (_:Unit)=>a.take m=b.take m) (fun _ _=>()) (fun _ i=>[(0,gv (a.map e)),(1,gv (b.map e)),(12,aD a.length),(13,aD i)]) (fun _=>[]) (fun _=>some (.bool (decide (a=b)),[])) (fun _ hI=>?_) (fun pre x post s h hx cQ hw h0 hm hI hi=>?_) () rfl
 ·have:a=b:=AA dN hI;simp only[nn (afN.eq_1 sz ld ne),iR this,bq,EV,seval]
 ·have hlt2:pre.length<b.length:=by rw[<-dN,h]; simp
  obtain⟨y,hy⟩:∃y,b[pre.length]?=some y:=⟨_,ai hlt2⟩;simp only[nn (afN.eq_1 sz ld ne),cQ,hx,hy,h0,hz,EV,seval];rw[hl _ _ _ x rfl];simp only[hpn,hy,h0,hz,EV,seval];rw[hl _ _ _ y rfl];simp only[hpn,EV,seval];rw[hn _ _ _ _ x y rfl rfl];simp only[EV,seval];refine bB (fun hq=>?_) (fun hq=>?_)
  ·have:decide (a=b)=false:=gn fun hab=>by
    rw[hab,hy] at hx; injection hx with hx; simp[hx] at hq
   simp only[this,EV,seval]
  ·have hxy:x=y:=by simpa using hq
   subst hxy;simp only[hw,EV,seval];exact hi () (yq hI hx hy)
def afM(sz:Nat)(z:List ag):cG := .seq (.region [ob 18 (.bin .lss (.tmp 17) (.tmp 16))] false [1,2,15,16,17,18]) (.seq (.cond (.tmp 18) .skip (.exit 0)) (.seq (.block 1 (.seq
 (.region [ob 19 (.mv (.tmp 17)),ob 20 (.ui sz (.tmp 15) (.tmp 17)),ob 21 (.mM sz (.tmp 20)),ob 8 (.yX z),ob 7 (.mv (.tmp 19)),ox (.store sz (.tmp 8) (.tmp 21))] false [1,2,7,8,15,16,17])
 (.seq (.region [ob 22 (.mv (.tmp 1)),ob 23 (.mv (.tmp 7)),ob 24 (.ui sz (.tmp 22) (.tmp 23)),ob 25 (.mM sz (.tmp 24)),ob 9 (.yX z),ox (.store sz (.tmp 9) (.tmp 25))] false [1,2,8,9,15,16,17])
  (.seq (.region [ob 26 (.mv (.tmp 2)),ob 27 (.mM sz (.tmp 8)),ob 28 (.mM sz (.tmp 9)),ob 29 (.sB (.tmp 26) [.tmp 27,.tmp 28]),ob 30 (.not (.tmp 29))] false [1,2,15,16,17,30]) (.cond (.tmp 30) (.seq (.region [ob 6 (.mv (.ti (.bool false)))] false [6]) .ret) .skip)))))
 (.region [ob 31 (.bin .add (.tmp 17) (.ti (.int .i64 1))),ob 17 (.mv (.tmp 31))] false [1,2,15,16,17])))
def alO(sz:Nat)(z:List ag):eE:=⟨3,[.tmp 6],.seq (.region [ob 6 (.mv (.ti (.bool false)))] false [0,1,2])
 (.seq (.seq (.region [ob 10 (.mv (.tmp 0)),ob 11 (.Aa (.tmp 10)),ob 12 (.mv (.tmp 1)),ob 13 (.Aa (.tmp 12)),ob 14 (.bin .neq (.tmp 11) (.tmp 13))] false [0,1,2,14]) (.cond (.tmp 14) (.seq (.region [ob 6 (.mv (.ti (.bool false)))] false [6]) .ret) .skip))
 (.seq (.seq (.region [ob 15 (.mv (.tmp 0)),ob 16 (.Aa (.tmp 15)),ob 17 (.mv (.ti (.int .i64 0)))] false [1,2,15,16,17]) (.block 0 (.loop [1,2,15,16,17] (afM sz z)))) (.seq (.region [ob 6 (.mv (.ti (.bool true)))] false [6]) .ret)))⟩
def aee[DecidableEq α]{z:List ag}{g:Nat}{a b:List α}(hc:T.code f=some (alO sz z))(hp:T.o4 f=none)(ha:a.length<=100000)(hz:∀x,(e x).length=sz)(hz0:z.length=sz)(hs:∀x,(e x).map ag.shut=e x)
  (hcl:∀x,(e x).all ag.je=true) (hk:∀x y M,x∈a->aR (aq T) g [.agg (e x),.agg (e y)] M=some (.bool (decide (x=y)),M)) :
  aq T f [gv (a.map fun x => .agg (e x)),gv (b.map fun x => .agg (e x)),.func g []] []=some (.bool (decide (a=b)),[]):=by
 refine aB ?_ hp hc rfl;have ht:∀x,(e x).take sz=e x:=fun x=>bt (by rw[hz]; exact av _)
 have hzd:z.drop sz=[]:=ir aH;simp only[alO,EV,seval];refine bB (fun hq=>?_) (fun hq=>?_)
 ·have:decide (a=b)=false:=by
   simp at hq ⊢;rintro rfl; exact hq rfl
  simp only[this,EV,seval]
 have dN:a.length=b.length:=by simp at hq; omega
 simp only[EV,seval];refine pq (xs:=a) aH (fun m (_:Unit)=>a.take m=b.take m) (fun _ _=>()) (fun _ i=>[(1,gv (b.map fun x => .agg (e x))),(2,.func g []),(15,gv (a.map fun x => .agg (e x))),(16,aD a.length),(17,aD i)]) (fun _=>[]) (fun _=>some (.bool (decide (a=b)),[])) (fun _ hI=>?_) (fun pre x post s h hx cQ hw h0 hm hI hi=>?_) () rfl
 ·have:a=b:=AA dN hI;simp only[nn (afM.eq_1 sz z),iR this,bq,EV,seval]
 ·have hlt2:pre.length<b.length:=by rw[<-dN,h]; simp
  obtain⟨y,hy⟩:∃y,b[pre.length]?=some y:=⟨_,ai hlt2⟩;simp only[nn (afM.eq_1 sz z),cQ,hx,hy,h0,hz,ht,hs,hcl,hz0,hzd,hk x y _ hm,EV,seval];refine bB (fun hq=>?_) (fun hq=>?_)
  ·have:decide (a=b)=false:=gn fun hab=>by
    rw[hab,hy] at hx; injection hx with hx; simp[hx] at hq
   simp only[this,EV,seval]
  ·have hxy:x=y:=by simpa using hq
   subst hxy;simp only[hw,EV,seval];exact hi () (yq hI hx hy)
structure Stl(b:cV):Prop where
 back:∀B M,b.back B M=b
 flat:b.flat=true
 pv:∀ρ,b.pv ρ=b
 ids:b.ids=[]
def F5{p:α->Bool}:∀ {l:List α} {i:Nat},qF p l i = -1->l.filter (fun x => !p x)=l
 | [],_,_=>rfl
 |x::l,i,h=>by
  rw[qF] at h;split at h
  ·omega
  ·rename_i hx;rw[mB (by simpa using hx),F5 h]
def F6{p:α->Bool}:∀ {l:List α} {i:Nat},qF p l i ≠ -1->∃A x U,l=A++x::U/\qF p l i=((i+A.length:Nat):Int)/\l.filter (fun x => !p x)=A++U.filter fun x => !p x
 | [],_,h=>absurd rfl h
 |x::l,i,h=>by
  rw[qF] at h ⊢;split
  ·rename_i hx; exact⟨[],x,l,rfl,rfl,by rw[List.filter_cons_of_neg (by simpa using hx)]; rfl⟩
  ·rename_i hx;rw[aQ hx] at h;obtain⟨A,y,U,h1,h2,h3⟩:=F6 h;exact⟨x::A,y,U,by rw[h1]; rfl,by rw[h2]; simp; omega,by rw[mB (by simpa using hx),h3]; rfl⟩
def dlB(sz:Nat)(z:List ag):cG := .seq (.seq (.region [ob 16 (.mv (.tmp 6)),ob 17 (.mv (.tmp 0)),ob 18 (.Aa (.tmp 17)),ob 19 (.bin .lss (.tmp 16) (.tmp 18))] false [0,1,5,6,19]) (.cond (.tmp 19) .skip (.exit 0)))
 (.seq (.block 1 (.seq (.region [ob 22 (.mv (.tmp 0)),ob 23 (.mv (.tmp 6)),ob 24 (.ui sz (.tmp 22) (.tmp 23)),ob 25 (.mM sz (.tmp 24)),ob 7 (.yX z),ox (.store sz (.tmp 7) (.tmp 25))] false [0,1,5,6,7])
  (.seq (.region [ob 26 (.mv (.tmp 1)),ob 27 (.mM sz (.tmp 7)),ob 28 (.sB (.tmp 26) [.tmp 27]),ob 29 (.not (.tmp 28))] false [0,1,5,6,7,29])
   (.cond (.tmp 29) (.seq (.region [ob 30 (.mv (.tmp 0)),ob 31 (.mv (.tmp 5)),ob 32 (.mM sz (.tmp 7)),ob 33 (.ui sz (.tmp 30) (.tmp 31)),ox (.store sz (.tmp 33) (.tmp 32))] false [0,1,5,6]) (.region [ob 34 (.mv (.tmp 5)),ob 35 (.bin .add (.tmp 34) (.ti (.int .i64 1))),ob 5 (.mv (.tmp 35))] false [0,1,5,6])) .skip))))
 (.region [ob 20 (.mv (.tmp 6)),ob 21 (.bin .add (.tmp 20) (.ti (.int .i64 1))),ob 6 (.mv (.tmp 21))] false [0,1,5,6]))
def dlF(sz:Nat)(z zc:List ag)(gi:Nat):eE:=⟨2,[.tmp 4],.seq (.region [ob 4 (.mv (.ti (.slice .c0 [])))] false [0,1])
 (.seq (.region [ob 8 (.mv (.tmp 0)),ob 9 (.mv (.tmp 1)),ob 10 (.call gi [.tmp 8,.tmp 9]),ob 5 (.mv (.tmp 10))] false [0,1,5])
 (.seq (.seq (.region [ob 11 (.mv (.tmp 5)),ob 12 (.bin .eql (.tmp 11) (.ti (.int .i64 (-1))))] false [0,1,5,12]) (.cond (.tmp 12) (.seq (.region [ob 13 (.mv (.tmp 0)),ob 4 (.mv (.tmp 13))] false [4]) .ret) .skip))
 (.seq (.seq (.region [ob 14 (.mv (.tmp 5)),ob 15 (.bin .add (.tmp 14) (.ti (.int .i64 1))),ob 6 (.mv (.tmp 15))] false [0,1,5,6]) (.block 0 (.loop [0,1,5,6] (dlB sz z))))
 (.seq (.region [ob 36 (.mv (.tmp 0)),ob 37 (.mv (.tmp 5)),ob 38 (.uA sz (.tmp 36) (some (.tmp 37)) none none),ox (.xe sz zc (.tmp 38))] false [0,5])
 (.seq (.region [ob 39 (.mv (.tmp 0)),ob 40 (.mv (.tmp 5)),ob 41 (.uA sz (.tmp 39) none (some (.tmp 40)) none),ob 4 (.mv (.tmp 41))] false [4]) .ret)))))⟩
def afZ{p:α->Bool}{X:cV}{g:Nat}(hc:T.code f=some (Tg sz))(hp:T.o4 f=none)(hn:xs.length<=100000)(hz:∀x,(e x).length=sz)(hs:∀x,(e x).map ag.shut=e x)(hX:Stl X)
  (hk:∀x b M,aR (aq T) g [.agg (e x),cC 1] (b::X::M)=some (.bool (p x),b::X::M)) :
  aq T f [.cE 0 0 sz 0 xs.length,.func g [cC 1]] [.arr sz 0 (xs.map fun x => .agg (e x)),X]=some (aD (qF p xs 0),[.arr sz 0 (xs.map fun x => .agg (e x)),X]):=by
 refine aB ?_ hp hc rfl;have ht:∀x,(e x).take sz=e x:=fun x=>bt (by rw[hz]; exact av _)
 simp only[Tg,bO,EV,seval];refine pq (xs:=xs) aH (fun m s=>s=m) (fun l (s:Nat)=>qF p l s) (fun _ i=>[(0,.cE 0 0 sz 0 xs.length),(1,.func g [cC 1]),(7,aD xs.length),(8,aD i)]) (fun _=>[.arr sz 0 (xs.map fun x => .agg (e x)),X]) (fun r=>some (aD r,[.arr sz 0 (xs.map fun x => .agg (e x)),X])) (fun s hs'=>?_) (fun pre x post s h hx cQ hw h0 hm hI hi=>?_) 0 rfl
 ·simp only[nn (Tf.eq_1 sz),qF,bq,hX.back,EV,seval]
 ·have i1:=hi (pre.length+1) rfl;rw[hI,qF];have hl2:((pre.length:Int)<((xs.length-0:Nat):Int))=True:=cQ;simp only[nn (Tf.eq_1 sz),cQ,hl2,hx,hw,h0,hz,ht,hs,hk,hX.back,EV,seval];refine bB (fun hb=>?_) (fun hb=>?_)
  ·simp only[hb,hX.back,EV,seval]
  ·simp only[hb,hw,hX.back,af,EV,seval];exact i1
def aft{C:eL}{X:cV}(hX:Stl X){g n:Nat}{row:List ag}{r:Int}(h:C f [.cE 0 0 sz 0 n,.func g [cC 1]] [.arr sz 0 row,X]=some (aD r,[.arr sz 0 row,X])) :
  aR C f [.cE 0 0 sz 0 n,.func g [cC 1]] [.arr sz 0 row,X]=some (aD r,[.arr sz 0 row,X]):=by
 have a1:(cV.arr sz 0 row).ids=[]:=rfl;have a2:(cV.arr sz 0 row).flat=true:=rfl;have a3:∀ρ,(cV.arr sz 0 row).pv ρ = .arr sz 0 row:=fun _=>rfl
 have e1:qy [.arr sz 0 row,X] [0,1]=[]:=by simp[qy,nth,a1,hX.ids]
 have e2:kE [.arr sz 0 row,X] [0,1]=[0,1]:=by simp[kE,e1,ke]
 have e3:reach [.arr sz 0 row,X] [0,1]=[0,1]:=by
  have ea:ke [] [0,1]=[0,1]:=rfl;simp only[reach,ea,e2]
 have e4:[ag.cE 0 0 sz 0 n,.func g [cC 1]].flatMap ag.ids=[0,1]:=rfl;have e5:j7 [.arr sz 0 row,X] (iw [0,1]) [0,1]=some [.arr sz 0 row,X]:=by simp[j7,nth,hX.flat,hX.pv,a2,a3]
 have e6:[ag.cE 0 0 sz 0 n,.func g [cC 1]].map (ag.pv (iw [0,1]))=[.cE 0 0 sz 0 n,.func g [cC 1]]:=rfl;unfold aR;rw[aZ (show[ag.cE 0 0 sz 0 n,.func g [cC 1]].all ag.flat=true from rfl),e4,e3,e5,bN,aZ e2,e6,h,bN,aZ ⟨rfl,rfl,by simp[a2,hX.flat]⟩]
 simp[mc,jo,hX.pv,a3,ag.Ax,ag.pv,ag.si,ag.uw]
def afG{p:α->Bool}{X:cV}{g N:Nat}{z:List ag}{k:List K}{R:List α->List α->Option (ag×aC)}(hN:N<=100000)(hz:∀x,(e x).length=sz)(hz0:z.length=sz)(hs:∀x,(e x).map ag.shut=e x)(hpl:∀x,(e x).all ag.plainCell=true)(hcl:∀x,(e x).all ag.je=true)(hX:Stl X)
  (hk:∀x b M,aR (aq T) g [.agg (e x),cC 1] (b::X::M)=some (.bool (p x),b::X::M))
  (hx:∀(A G:List α) v q,A.length+G.length=N->G≠[]->kr (aq T) [.tmp 4] 2 k ⟨.exit 0,[(0,.cE 0 0 sz 0 N),(1,.func g [cC 1]),(5,aD A.length),(6,v),(19,q)],[.arr sz 0 ((A++G).map fun x => .agg (e x)),X]⟩=R A G) :
  ∀(U A G:List α),A.length+G.length+U.length=N->G≠[]->∃G',A.length+(U.filter fun x => !p x).length+G'.length=N/\eS (aq T) [.tmp 4] 2 k (.loop [0,1,5,6] (dlB sz z)) [(0,.cE 0 0 sz 0 N),(1,.func g [cC 1]),(5,aD A.length),(6,aD ((A.length+G.length:Nat):Int))] [.arr sz 0 ((A++G++U).map fun x => .agg (e x)),X] =
   R (A++U.filter fun x => !p x) G':=by
 have ht:∀x,(e x).take sz=e x:=fun x=>bt (by rw[hz]; exact av _)
 have hzd:z.drop sz=[]:=ir aH;intro U;induction U with
 |nil =>
  intro A G hl hg;have cQ:(((A.length+G.length:Nat):Int)<((N-0:Nat):Int))=False:=by simp only[fT,iff_false]; simp at hl ⊢; omega
  refine⟨G,by simpa using hl,?_⟩
  rw[bI];simp only[nn (dlB.eq_1 sz z),cQ,dz,kO,EV,seval];exact hx A G _ _ (by simpa using hl) hg
 |cons x U ih =>
  intro A G hl hg;simp only[au] at hl;have cQ:(((A.length+G.length:Nat):Int)<((N-0:Nat):Int))=True:=sL;have hnn:((0:Int)<=((A.length+G.length:Nat):Int))=True:=sL
  have hat:(A++G++x::U)[A.length+G.length]?=some x:=by
   rw[bj dw]; simp
  have hw:IntKind.i64.wrap (((A.length+G.length:Nat):Int)+1)=((A.length+G.length+1:Nat):Int):=by rw[gx aH aH]; omega
  have hw1:IntKind.i64.wrap ((A.length:Int)+1)=((A.length+1:Nat):Int):=by rw[gx aH aH]; omega
  obtain⟨g0,G0,hG⟩:=fi hg;have hga:(A++G++x::U)[A.length]?=some g0:=by rw[hG]; simp
  have hset:(A++G++x::U).set A.length x=(A++[x])++(G0++[x])++U:=by rw[hG]; simp
  have hlt2:((A.length:Int)<((N-0:Nat):Int))=True:=sL
  have hput:jo ((A++G++x::U).map fun x=>ag.agg (e x)) A.length (putCells (.agg (e g0)) 0 (e x))=((A++[x])++(G0++[x])++U).map fun x=>ag.agg (e x):=by
   have:putCells (.agg (e g0)) 0 (e x) = .agg (e x):=by simp[putCells,mQ,hz,ir]
   rw[this,fH,<-hset,jg]
  rw[bI];cases hb:p x
  ·obtain⟨G',h0,h1⟩:=ih (A++[x]) (G0++[x]) (by rw[hG] at hl; simp at hl ⊢; omega) dw
   have hl1:(((A++[x]).length+(G0++[x]).length:Nat):Int)=((A.length+G.length+1:Nat):Int):=by rw[hG]; simp; omega
   have hl3:((A++[x]).length:Int)=((A.length+1:Nat):Int):=dw;have hf:(x::U).filter (fun x => !p x)=x::U.filter fun x => !p x:=mB (by simpa using hb)
   rw[hl1,hl3] at h1;refine⟨G',by rw[hf]; simp at h0 ⊢; omega,?_⟩
   rw[hf,show A++x::U.filter (fun x => !p x)=A++[x]++U.filter fun x => !p x by simp,<-h1]
   simp only[nn (dlB.eq_1 sz z),cQ,hnn,hat,hz,hz0,hzd,ht,hs,hcl,hk,hb,hlt2,hga,hput,hpl,hw,hw1,hX.back,EV,seval]
   done
  ·obtain⟨G',h0,h1⟩:=ih A (G++[x]) gr dw;have hl2:((A.length+(G++[x]).length:Nat):Int)=((A.length+G.length+1:Nat):Int):=gr;have hf:(x::U).filter (fun x => !p x)=U.filter fun x => !p x:=List.filter_cons_of_neg (by simpa using hb)
   rw[hl2,show A++(G++[x])++U=A++G++x::U by simp] at h1
   refine⟨G',by rw[hf]; exact h0,?_⟩
   rw[hf,<-h1];simp only[nn (dlB.eq_1 sz z),cQ,hnn,hat,hz,hz0,hzd,ht,hs,hcl,hk,hb,hw,hX.back,EV,seval]
   done
def DC(sz m:Nat):ag:=if m=0 then .slice .sh [] else .cE 0 0 sz 0 m
def aed{p:α->Bool}{X:cV}{g gi:Nat}{z zc:List ag}{zx:α}(hc:T.code f=some (dlF sz z zc gi))(hp:T.o4 f=none)(hci:T.code gi=some (Tg sz))(hpi:T.o4 gi=none)(hzx:e zx=zc)(hn:xs.length<=100000)(hz:∀x,(e x).length=sz)(hz0:z.length=sz)(h1:1<sz)(hs:∀x,(e x).map ag.shut=e x)
  (hpl:∀x,(e x).all ag.plainCell=true) (hcl:∀x,(e x).all ag.je=true) (hX:Stl X) (hk:∀x b M,aR (aq T) g [.agg (e x),cC 1] (b::X::M)=some (.bool (p x),b::X::M)) (h0:xs≠[]) :
  aq T f [.cE 0 0 sz 0 xs.length,.func g [cC 1]] [.arr sz 0 (xs.map fun x => .agg (e x)),X] =
   some (DC sz (xs.filter fun x => !p x).length,[.arr sz 0 (((xs.filter fun x => !p x)++List.replicate (xs.length-(xs.filter fun x => !p x).length) zx).map fun x => .agg (e x)),X]):=by
 have qi:=aft hX (afZ hci hpi hn hz hs hX hk);refine aB ?_ hp hc rfl
 by_cases hi:qF p xs 0 = -1
 ·have hl:xs.length≠0:=fun hh=>h0 (dU.1 hh)
  have hb:(qF p xs 0 == -1)=true:=by simpa using hi
  rw[F5 hi];simp only[dlF,qi,hb,hX.back,EV,seval];simp[DC,hl]
 ·obtain⟨A,x,U,q1,q2,q3⟩:=F6 hi;have hb:(qF p xs 0 == -1)=false:=by simpa using hi
  simp only[aI] at q2;have dN:xs.length=A.length+(U.length+1):=by rw[q1]; simp
  have hw:IntKind.i64.wrap ((A.length:Int)+1)=((A.length+[x].length:Nat):Int):=by rw[gx aH aH]; simp
  have e1:A++[x]++U=xs:=by rw[q1]; simp
  rw[q2] at hb qi;rw[q3];simp only[dlF,qi,hb,hw,hX.back,EV,seval]
  have hx:∀(A' G:List α) v q,A'.length+G.length=xs.length->G≠[]->kr (aq T) [.tmp 4] 2 [.block 0,.seq (.seq (.region [ob 36 (.mv (.tmp 0)),ob 37 (.mv (.tmp 5)),ob 38 (.uA sz (.tmp 36) (some (.tmp 37)) none none),ox (.xe sz zc (.tmp 38))] false [0,5]) (.seq (.region [ob 39 (.mv (.tmp 0)),ob 40 (.mv (.tmp 5)),ob 41 (.uA sz (.tmp 39) none (some (.tmp 40)) none),ob 4 (.mv (.tmp 41))] false [4]) .ret))] ⟨.exit 0,[(0,.cE 0 0 sz 0 xs.length),(1,.func g [cC 1]),(5,aD A'.length),(6,v),(19,q)],[.arr sz 0 ((A'++G).map fun x => .agg (e x)),X]⟩ =
    some (DC sz A'.length,[.arr sz 0 ((A'++List.replicate (xs.length-A'.length) zx).map fun x => .agg (e x)),X]):=by
   intro A' G v q hl hg;have hgl:G.length≠0:=fun hh=>hg (dU.1 hh)
   have b1:(((A'.length:Nat):Int)<=(xs.length:Int))=True:=sL;have b2:(((A'.length:Nat):Int)==(xs.length:Int))=false:=gr;have hN:(A'++G).length=xs.length:=gr;have hd:xs.length-A'.length=G.length:=aH;have hz0:Int.toNat ((0:Nat):Int)=0:=rfl;have hb0:((0:Int)<=((A'.length:Nat):Int))=True:=dw;have hzl:zc.length=sz:=by rw[<-hzx]; exact hz zx
   have hzp:zc.all ag.plainCell=true:=by rw[<-hzx]; exact hpl zx
   have hcl2:((A'++G).map fun x=>ag.agg (e x)).take A'.length++(List.replicate G.length (ag.agg zc)++((A'++G).map fun x=>ag.agg (e x)).drop xs.length)=(A'++List.replicate G.length zx).map fun x=>ag.agg (e x):=by
    rw[<-hN,ir dw];simp[fQ,gX,hzx]
   by_cases hA:A'.length=0
   ·have b3:((0:Int)==((A'.length:Nat):Int))=true:=by simp[hA]
    simp only[gA,bO,dS,b1,b2,hd,hcl2,b3,hz0,hb0,hzl,hzp,hX.back,EV,seval];simp[DC,hA]
   ·have b3:((0:Int)==((A'.length:Nat):Int))=false:=gr;simp only[gA,bO,dS,b1,b2,hd,hcl2,b3,hz0,hb0,hzl,hzp,hX.back,EV,seval];simp[DC,hA]
  obtain⟨G',g1,g2⟩:=afG (R:=fun A' G=>some (DC sz A'.length,[.arr sz 0 ((A'++List.replicate (xs.length-A'.length) zx).map fun x => .agg (e x)),X])) hn hz hz0 hs hpl hcl hX hk hx U A [x] gr dw
  rw[e1] at g2;simp only[ob,ox,aA,au,az,aI] at g2;exact g2
end
end Go.Abs
namespace Go.Proofs.YteoamaffclmdbaaGreatDoor
section
open Go Go.Abs
attribute [local irreducible] eS fI lx gK dZ kr aq aR cu bJ
def tkN(n:Node):List.take 6 (aL n)=aL n:=rfl
def shN(n:Node):List.map ag.shut (aL n)=aL n:=rfl
def tkE(n:gN):List.take 3 (gj n)=gj n:=rfl
def shE(n:gN):List.map ag.shut (gj n)=gj n:=rfl
def asn(a:Int):aq bX 257 [aD a] []=some (.bool false,[]):=by
 refine aB ?_;simp only[ad2,apN,aw,EN,seval]
def atQ a:=cP (asn a)
def qR(a b:Int):Int:=if decide (a<b) then -1 else if decide (b<a) then 1 else 0
def arP(a b:Int):aq bX 209 [aD a,aD b] []=some (aD (qR a b),[]):=by
 refine aB ?_;simp only[adB,aja,atQ,EN,seval]
 repeat' ((first|apply bB|apply bW|apply dM)<;>intro hb<;>simp only[hb,EN,aja,seval])
 all_goals (simp_all only[qR,qC,↓reduceIte,reduceCtorEq,aw]; done)
def ZR a b:=cP (arP a b)
def x6(a b:Int):(qR a b<0)=(a<b):=by
 unfold qR
 by_cases h1:a<b
 ·simp[h1]
 ·by_cases h2:b<a<;>simp[h1,h2]
theorem Ha(a b:Int):(qR a b==0)=(a==b):=by
 unfold qR
 by_cases h1:a<b
 ·have:¬a=b:=aH;simp[h1,this]
 ·by_cases h2:b<a
  ·have:¬a=b:=aH;simp[h1,h2,this]
  ·have:a=b:=aH;simp[this]
def asz(n:Node)(ar:Int):aq bX 278 [.agg (aL n),aD ar] []=some (aD (qR n.ar ar),[]):=by
 refine aB ?_;simp only[ad9,apV,bL,aL,ZR,EN,seval]
def atX n ar:=cP (asz n ar)
structure YJ(ae:List Node)(ar:Int)(b:Nat):Prop where
 le:b<=ae.length
 lt:∀h n,ae[h]?=some n->(n.ar<ar↔h<b)
def JA(ae:List Node)(ar:Int)(b:Nat):Bool:=match ae[b]? with
 |some n=>n.ar==ar
 |none=>false
def ass(ae:List Node)(ar:Int)(b:Nat)(hb:YJ ae ar b)(hn:ae.length<=100000):aq bX 263 [ba ae,aD ar,.func 278 []] []=some (.tuple [aD b,.bool (JA ae ar b)],[]):=by
 have h:=ZI (f:=263) (sz:=6) (T:=bX) (c:=fun n:Node=>qR n.ar ar) (e:=aL) (fv := .func 278 []) (key := aD ar) (M:=[]) ft rfl ⟨hb.le,fun h n hn=>by simp only[x6,bh]; exact hb.lt h n hn⟩ hn (fun _=>rfl) (fun _=>rfl) (.inl ⟨_,_,rfl⟩) rfl rfl rfl rfl rfl fun _ _ => .inl ⟨_,_,rfl,atX _ _ _⟩
 simp only[Ha] at h;rw[show JA ae ar b=pr (fun x=>x.ar==ar) ae b by unfold JA pr; cases ae[b]?<;>rfl]
 exact h
def atT ae ar b hb hn:=cP (ass ae ar b hb hn)
def o6(ae:List Node):Prop:=ae.Pairwise fun a b=>a.ar<b.ar
def mh(ae:List Node)(ar:Int):Nat:=(ae.takeWhile fun n=>decide (n.ar<ar)).length
def uZ{ae:List Node}(h:o6 ae)(ar:Int):YJ ae ar (mh ae ar):=by
 unfold mh;induction ae with
 |nil=>exact⟨dw,fun h n hn=>by simp at hn⟩
 |cons a r ih =>
  obtain⟨h1,h2⟩:=du.1 h;obtain⟨i1,i2⟩:=ih h2
  by_cases ha:a.ar<ar
  ·rw[iu,aZ (by simpa using ha)]
   refine⟨by simpa using i1,fun k n hn=>?_⟩
   cases k with
   |zero=>simp at hn; subst hn; simp[ha]
   |succ k=>rw[i2 k n (by simpa using hn)]; simp
  ·rw[iu,aQ (by simpa using ha)]
   refine⟨dw,fun k n hn=>?_⟩
   simp only[az,jL,iff_false];cases k with
   |zero=>simp at hn; subst hn; exact ha
   |succ k =>
    have:=h1 n (aJ (by simpa using hn))
    omega
def tw{ae:List Node}(h:o6 ae)(ar:Int):(JA ae ar (mh ae ar)=true/\∃n,ae[mh ae ar]?=some n/\find ae ar=some n/\n.ar=ar)\/(JA ae ar (mh ae ar)=false/\find ae ar=none):=by
 obtain⟨l1,l2⟩:=uZ h ar;cases hf:find ae ar with
 |some n =>
  left;obtain⟨hm,he⟩:=cJ hf;obtain⟨k,hk⟩:=bV hm;have hkb:¬k<mh ae ar:=fun hc=>by have:=(l2 k n hk).2 hc; omega
  have hb:mh ae ar<ae.length:=by have:=(aj.1 hk).1; omega
  have hx:=ai hb;have hnl:¬ae[mh ae ar].ar<ar:=fun hc=>ia _ ((l2 _ _ hx).1 hc)
  have hke:k=mh ae ar:=by
   rcases bA (mh ae ar) k with cQ|hge
   ·have hkl:=(aj.1 hk).1;have h3:=cn.1 h _ _ hb hkl cQ;have h4:ae[k]=n:=by rw[ai hkl] at hk; injection hk
    rw[h4] at h3;omega
   ·omega
  subst hke;exact⟨by unfold JA; rw[hk]; simp[he],n,hk,rfl,he⟩
 |none =>
  right;refine⟨?_,rfl⟩;unfold JA;split
  ·rename_i n hn;have:=fy.1 hf n (aJ hn);simpa using this
  ·rfl
def asb(ae:List Node)(next ak ar:Int)(h:o6 ae)(hn:ae.length<=100000):aq bX 240 [cC 0,aD ar] [cF [ba ae,aD next,aD ak]] =
  some (.tuple [aD (mh ae ar),.bool (JA ae ar (mh ae ar))],[cF [ba ae,aD next,aD ak]]):=by
 refine aB ?_;have hk:=atT ae ar _ (uZ h ar) hn;simp only[adT,apH,hk,EN,seval]
def agk ae next ak ar h hn p M hM:=cM (p:=p) (M:=M) hM (asb ae next ak ar h hn)
def c194(ae:List Node)(next ak ar:Int)(h:o6 ae)(hn:ae.length<=100000):aq bX 194 [cC 0,aD ar] [cF [ba ae,aD next,aD ak]] =
  some (.tuple [bL (bl ae ar),.bool (find ae ar).isSome],[cF [ba ae,aD next,aD ak]]):=by
 refine aB ?_;have hk:=fun M=>agk ae next ak ar h hn 0 (cF [ba ae,aD next,aD ak]::M) rfl
 simp only[ads,aeN,hk,EN,seval];rcases tw h ar with ⟨h1,n,h2,h3,h4⟩|⟨h1,h2⟩
 ·simp only[aeN,h1,h2,h3,bl,aL,EN,seval];rfl
 ·simp only[aeN,h1,h2,bl,EN,seval];rfl
def Fm ae next ak ar h hn p M hM:=cM (p:=p) (M:=M) hM (c194 ae next ak ar h hn)
def arI(ae:List Node)(next ak ar:Int)(h:o6 ae)(hn:ae.length<=100000):aq bX 197 [cC 0,aD ar] [cF [ba ae,aD next,aD ak]] =
  some (.tuple [bL (gW ae ar).1,aD (gW ae ar).2],[cF [ba ae,aD next,aD ak]]):=by
 refine aB ?_;have hk:=fun M=>Fm ae next ak ar h hn 0 (cF [ba ae,aD next,aD ak]::M) rfl
 simp only[adu,YC,hk,bL,aL,EN,seval];unfold gW;cases hf:find ae ar with
 |none=>simp only[YC,bl,hf,Option.isSome,EN,seval]; first|done|rfl
 |some n =>
  simp only[YC,bl,hf,Option.isSome,bC,EN,seval]
  repeat' ((first|apply bB|apply bW|apply dM)<;>intro hb<;>simp only[hb,EN,YC,seval])
  all_goals (clear hk; simp_all [Node.zero])
def ZQ ae next ak ar h hn p M hM:=cM (p:=p) (M:=M) hM (arI ae next ak ar h hn)
end
section
open Go
set_option maxRecDepth 100000 in
def M6{s pre r:List UInt8}{n:UInt8}(h:s=pre++n::r) :
  (n.toNat<128/\Utf8.decode ⟨s.toArray⟩ pre.length=(n.toNat,1)) \/
  ∃c m r',n::r=m++r'/\m≠[]/\(∀b,b∈m->128<=b.toNat)/\128<=c/\c<2147483648/\Utf8.decode ⟨s.toArray⟩ pre.length=(c,m.length):=by
 have hg:∀k,(⟨s.toArray⟩:ByteArray).get! (pre.length+k)=(n::r).getD k 0:=fun k=>by
  subst h
  show((pre++n::r).toArray)[pre.length+k]! = _
  simp only[List.getElem!_toArray,List.getElem!_eq_getElem?_getD,lg];rw[bj aH,iY];rfl
 have hsz:(⟨s.toArray⟩:ByteArray).size=pre.length+(n::r).length:=by
  show s.toArray.size=_
  subst h; simp
 by_cases hn:n.toNat<128
 ·refine .inl ⟨hn,?_⟩;have h0:=hg 0;simp only[dj,List.getD_cons_zero] at h0;simp[Utf8.decode,h0,hn]
 ·refine .inr ?_;have hn':128<=n.toNat:=aH;have h0:=hg 0;have h1:=hg 1;have h2:=hg 2;have h3:=hg 3;simp only[dj,List.getD_cons_zero,List.getD_cons_succ] at h0 h1 h2 h3
  have one:∀c,128<=c->c<2147483648->Utf8.decode ⟨s.toArray⟩ pre.length=(c,1)->∃c m r',n::r=m++r'/\m≠[]/\(∀b,b∈m->128<=b.toNat)/\128<=c/\c<2147483648/\Utf8.decode ⟨s.toArray⟩ pre.length=(c,m.length) :=
   fun c hc hc2 hd=>⟨c,[n],r,rfl,dw,by simpa using hn',hc,hc2,hd⟩
  have big:∀k,k<r.length->128<=(r.getD k 0).toNat->∃b,r[k]?=some b/\128<=b.toNat:=fun k hk hb=>by
   refine⟨r[k],ai hk,?_⟩;simpa[lg,ai hk] using hb
  have cQ:¬n.toNat<0x80:=aH;have hN:n.toNat<256:=n.toNat_lt;unfold Utf8.decode at one ⊢;simp only[dj,h0,h1,h2,h3,hsz,au,cQ,aE] at one ⊢
  by_cases hA:(n.toNat / 32==6&&(decide (pre.length+1<pre.length+(r.length+1))&&(r.getD 0 0).toNat / 64==2))=true
  ·simp only[hA,aF] at one ⊢;simp only[bz,eH,bh] at hA;obtain⟨hA1,hA2,hA3⟩:=hA
   by_cases hc:n.toNat % 32*64+(r.getD 0 0).toNat % 64>=0x80
   ·simp only[hc,aF] at one ⊢;obtain⟨b0,g0,g1⟩:=big 0 aH aH
    match r,g0 with
    |_::r',g0 =>
     cases g0;exact⟨_,[n,_],r',rfl,dw,by simp[hn',g1],hc,aH,rfl⟩
   ·simp only[hc,aE] at one ⊢;exact one _ mw mw rfl
  ·simp only[hA,aE] at one ⊢
   by_cases hB:(n.toNat / 16==14&&(decide (pre.length+1<pre.length+(r.length+1))&&(r.getD 0 0).toNat / 64==2)&&(decide (pre.length+2<pre.length+(r.length+1))&&(r.getD 1 0).toNat / 64==2))=true
   ·simp only[hB,aF] at one ⊢;simp only[bz,eH,bh] at hB;obtain⟨⟨hB1,hB2,hB3⟩,hB4,hB5⟩:=hB
    by_cases hc:((n.toNat % 16*4096+(r.getD 0 0).toNat % 64*64+(r.getD 1 0).toNat % 64>=0x800:Bool)&&Utf8.valid ((n.toNat % 16*4096+(r.getD 0 0).toNat % 64*64+(r.getD 1 0).toNat % 64:Nat):Int))=true
    ·simp only[hc,aF] at one ⊢;simp only[bz,bh] at hc;obtain⟨b0,g0,g1⟩:=big 0 aH aH;obtain⟨b1,k0,k1⟩:=big 1 aH aH
     match r,g0,k0 with
     |_::_::r',g0,k0 =>
      cases g0;cases k0;exact⟨_,[n,_,_],r',rfl,dw,by simp[hn',g1,k1],aH,aH,rfl⟩
    ·simp only[hc,aE] at one ⊢;exact one _ mw mw rfl
   ·simp only[hB,aE] at one ⊢
    by_cases hC:(n.toNat / 8==30&&(decide (pre.length+1<pre.length+(r.length+1))&&(r.getD 0 0).toNat / 64==2)&&(decide (pre.length+2<pre.length+(r.length+1))&&(r.getD 1 0).toNat / 64==2)&&(decide (pre.length+3<pre.length+(r.length+1))&&(r.getD 2 0).toNat / 64==2))=true
    ·simp only[hC,aF] at one ⊢;simp only[bz,eH,bh] at hC;obtain⟨⟨⟨hB1,hB2,hB3⟩,hB4,hB5⟩,hB6,hB7⟩:=hC
     by_cases hc:((n.toNat % 8*262144+(r.getD 0 0).toNat % 64*4096+(r.getD 1 0).toNat % 64*64+(r.getD 2 0).toNat % 64>=0x10000:Bool)&&Utf8.valid ((n.toNat % 8*262144+(r.getD 0 0).toNat % 64*4096+(r.getD 1 0).toNat % 64*64+(r.getD 2 0).toNat % 64:Nat):Int))=true
     ·simp only[hc,aF] at one ⊢;simp only[bz,bh] at hc;obtain⟨b0,g0,g1⟩:=big 0 aH aH;obtain⟨b1,k0,k1⟩:=big 1 aH aH;obtain⟨b2,l0,l1⟩:=big 2 aH aH
      match r,g0,k0,l0 with
      |_::_::_::r',g0,k0,l0 =>
       cases g0;cases k0;cases l0;exact⟨_,[n,_,_,_],r',rfl,dw,by simp[hn',g1,k1,l1],aH,aH,rfl⟩
     ·simp only[hc,aE] at one ⊢;exact one _ mw mw rfl
    ·simp only[hC,aE] at one ⊢;exact one _ mw mw rfl
end
section
open Go Go.Abs
section
attribute [local irreducible] eS fI lx gK dZ kr aq aR cu bJ
def po(_:Bytes):Prop:=True
def all_true{m:Bytes}(h:∀b,b∈m->128<=b.toNat):m.all td=true:=by
 rw[bK];intro b hb;have:=h b hb;have h1:¬((b.toNat:Int)<32):=aH;have h2:¬((b.toNat:Int)=47):=aH;simp[td,h1,h2]
def aaY{s:Bytes}(hs:s.length<=100000)(ha:po s){k:List K}{R:Bool->Option (ag×aC)}
  (hx:∀e p,kr (aq bX) [.tmp 2] 0 k ⟨.exit 0,e,[.nY s p]⟩=R true) (hr:∀p,kr (aq bX) [.tmp 2] 0 k ⟨.ret,[(2,.bool false)],[.nY s p]⟩=R false) :
  ∀(q:Nat)(l pre:Bytes),l.length<=q->s=pre++l->eS (aq bX) [.tmp 2] 0 k (.loop [21] NK) [(21,.ka 0)] [.nY s pre.length]=R (l.all td):=by
 intro q;induction q with
 |zero =>
  intro l pre hq h;have h0:l=[]:=dI aH;subst h0;rw[bI];have cQ:(pre.length<s.length)=False:=by rw[h]; simp
  simp only[wN,cQ,EN,seval];exact hx _ _
 |succ q ih =>
  intro l pre hq h;cases l with
  |nil =>
   rw[bI];have cQ:(pre.length<s.length)=False:=by rw[h]; simp
   simp only[wN,cQ,EN,seval];exact hx _ _
  |cons n r =>
   rw[bI];have cQ:(pre.length<s.length)=True:=by rw[h]; simp
   rcases M6 h with ⟨hn,hd⟩|⟨c,m,r',hm,hne,hb,hc,hc2,hd⟩
   ·have hi:=ih r (pre++[n]) (by simp at hq; omega) (by rw[h]; simp)
    simp only[aA,au,az,aI] at hi;simp only[wN,cQ,hd,EN,seval]
    repeat' ((first|apply bB|apply bW|apply dM)<;>intro hb<;>simp only[hb,wN,hd,EV,seval])
    all_goals first
     |(refine(hr _).trans ?_; congr 1; symm; clear hi ih hx hr hd h; simp_all [td]; done)
     |(refine hi.trans ?_; congr 1; symm; clear hi ih hx hr hd h; simp_all [td]; done)
   ·have hml:0<m.length:=gP.2 hne;have hl2:(n::r).length=m.length+r'.length:=by rw[hm]; simp
    have hi:=ih r' (pre++m) (by simp at hq hl2; omega) (by rw[h,hm]; simp)
    simp only[aA] at hi;have h32:decide ((c:Int)<32)=false:=gr;have h47:((c:Int)==47)=false:=by rw[jm]; omega
    rw[hm,oI,all_true hb,cW];simp only[wN,cQ,hd,h32,h47,EN,seval];exact hi
def c198(s:Bytes)(hs:s.length<=100000)(ha:po s):aq bX 198 [.str s] []=some (.bool (fX s),[]):=by
 refine aB ?_;simp only[Jj,wN,EN,seval];have hl:=fun k hx hr=>aaY (k:=k) (R:=fun b=>some (ag.bool b,[])) hs ha hx hr s.length s [] (av _) rfl
 have he:(s==[])=decide ((s.length:Int)<1):=by cases s<;>simp; omega
 rw[he]
 repeat' ((first|apply bB|apply bW|apply dM)<;>intro hb<;>simp only[hb,EN,wN,seval])
 all_goals first
  |(clear hl he; simp_all [fX]; done)
  |(refine(hl _ (fun e p=>by simp only[wN,EN,seval]) (fun p=>by simp only[wN,EN,seval])).trans ?_; clear hl he; simp_all [fX]; done)
def agh s hs ha:=cP (c198 s hs ha)
def atY(a b:Bytes)(M:aC):aR (aq bX) 286 [.str a,.str b] M=some (aD (Lib.compareBytes a b),M) :=
 cO (eP (g:=Aj) rfl rfl) M
def asi(a b:Bytes):aq bX 251 [.str a,.str b] []=some (aD (Lib.compareBytes a b),[]):=by
 refine aB ?_;simp only[adY,apL,atY,EN,seval]
def atL a b:=cP (asi a b)
def M4:∀(a b:Bytes),(Lib.compareBytes a b<0)=(strLt a b=true)
 | [],[]=>by simp[Lib.compareBytes,strLt]
 | [],_::_=>by simp[Lib.compareBytes,strLt]
 |_::_,[]=>by simp[Lib.compareBytes,strLt]
 |a::x,b::y=>by
  rw[Lib.compareBytes,strLt]
  by_cases h1:a<b
  ·simp[h1]
  ·by_cases h2:b<a
   ·have h3:¬a=b:=by rintro rfl; exact oT _ h2
    simp[h1,h2,h3]
   ·have h3:a=b:=by rw[<-kP]; simp only[kY] at h1 h2; omega
    subst h3;simp[h1,M4 x y]
def M1:∀(a b:Bytes),(Lib.compareBytes a b==0)=(a==b)
 | [],[]=>by simp[Lib.compareBytes]
 | [],_::_=>by simp[Lib.compareBytes]
 |_::_,[]=>by simp[Lib.compareBytes]
 |a::x,b::y=>by
  rw[Lib.compareBytes]
  by_cases h1:a<b
  ·have h3:¬a=b:=by rintro rfl; exact oT _ h1
   simp[h1,h3]
  ·by_cases h2:b<a
   ·have h3:¬a=b:=by rintro rfl; exact oT _ h2
    simp[h1,h2,h3]
   ·have h3:a=b:=by rw[<-kP]; simp only[kY] at h1 h2; omega
    subst h3;simp only[h1,aE,M1 x y];simp
def ash(e:gN)(s:Bytes):aq bX 250 [.agg (gj e),.str s] []=some (aD (Lib.compareBytes e.name s),[]):=by
 refine aB ?_;simp only[adX,apK,iG,gj,atL,EN,seval]
def atK e s:=cP (ash e s)
structure OT(bc:List gN)(s:Bytes)(b:Nat):Prop where
 le:b<=bc.length
 lt:∀h n,bc[h]?=some n->(strLt n.name s=true↔h<b)
def z7(bc:List gN)(s:Bytes)(b:Nat):Bool:=match bc[b]? with
 |some n=>n.name==s
 |none=>false
def asg(bc:List gN)(s:Bytes)(b:Nat)(hb:OT bc s b)(hn:bc.length<=100000):aq bX 249 [ja bc,.str s,.func 250 []] []=some (.tuple [aD b,.bool (z7 bc s b)],[]):=by
 have h:=ZI (f:=249) (sz:=3) (T:=bX) (c:=fun n:gN=>Lib.compareBytes n.name s) (e:=gj) (fv := .func 250 []) (key := .str s) (M:=[]) ft rfl ⟨hb.le,fun h n hn=>by simp only[M4,bh]; exact hb.lt h n hn⟩ hn (fun _=>rfl) (fun _=>rfl) (.inl ⟨_,_,rfl⟩) rfl rfl rfl rfl rfl fun _ _ => .inl ⟨_,_,rfl,atK _ _ _⟩
 simp only[M1] at h;rw[show z7 bc s b=pr (fun x=>x.name==s) bc b by unfold z7 pr; cases bc[b]?<;>rfl]
 exact h
def atJ bc s b hb hn:=cP (asg bc s b hb hn)
def ri(l:List gN):Prop:=l.Pairwise fun a b=>strLt a.name b.name=true
def mq(l:List gN)(s:Bytes):Nat:=(l.takeWhile fun n=>strLt n.name s).length
def arJ(n:Node)(s:Bytes)(b:Nat)(hb:OT n.bc s b)(hn:n.bc.length<=100000):aq bX 199 [bL n,.str s] []=some (.tuple [aD b,.bool (z7 n.bc s b)],[]):=by
 refine aB ?_;have hk:=atJ n.bc s b hb hn;simp only[adv,apt,bL,aL,hk,EN,seval]
def Tx(a b c:Int)(d:Bytes)(e:List gN)(u:Int)(s:Bytes)(i:Nat)(hb:OT e s i)(hn:e.length<=100000)(M:aC):aR (aq bX) 199 [.agg [aD a,aD b,aD c,df d,ja e,aD u],.str s] M=some (.tuple [aD i,.bool (z7 e s i)],M) :=
 cO (arJ ⟨a,b,c,d,e,u⟩ s i hb hn) M
end
section
open Go.RowKit Go.Shelf
def Fw{α:Type}(b0:Nat)(F:Fence)(n:Nat)(P:Program)(g:Nat)(lb:Array Value)(encs:α->Array Value)(Kp:World->World->Prop)(S Sp:List α->Prop)(N:Nat)(w:World):Prop :=
 ∀(l:Nat)(J Jx:List α->World->Prop)(W:World),Below w.heap.size w W->AbidesFrom W.heap.size J->AbidesFrom W.heap.size Jx->(∀s A v,J s A->J s (A.setCell ⟨b0,0,none⟩ v)) ->
  (∀pre x W1,J pre W1->pre.length<N->YieldAt F (n-1) P l (encs x) W1 fun e W' =>
   (e = .returned (.bool true)/\J (pre++[x]) W'/\Kp W1 W')\/(e = .returned (.bool false)/\Jx (pre++[x]) W')) ->
  J [] W ->
  CallsIn F n P g (#[.func (.yield l) #[] #[]]++lb) W fun e W'=>(∃v,e = .returned v)/\((∃xs,S xs/\J xs W')\/(∃pre,Sp pre/\Jx pre W'))
def yA{F:Fence}{n:Nat}{P:Program}{b0:Nat}{α:Type}{g:Operand}{ps:Array Tmp}{assign body:Code}{Q:Exit->Act->World->Prop}{a:Act}{w:World}(hb0w:b0<w.heap.size)
  (hro:F.round=none) (h1:1<=n) {gf:Nat} {lb:Array Value} (hg:a.eval g = .func (.func gf) #[] lb) (hFg:F.fn gf) (eg:∀args w,(callFunc gf args).run P w = .ok (.enter gf args) w)
  {encs:α->Array Value} {Kp:World->World->Prop} {S Sp:List α->Prop} {N:Nat} {w0:World} (hseq:Fw b0 F (n-1) P gf lb encs Kp S Sp N w0)
  (hKt:∀ {A B C:World},Kp A B->Kp B C->Kp A C) (hKb:∀(W:World)(l:Nat)(o o':Obj),w.heap.size<=l->W.heap[l]?=some o->o.isCells=false->o.isWalk=false->Kp W (W.putObj l o')) (hb0:Below w0.heap.size w0 w) (hps:∀x,(encs x).size=ps.size)
  (I:List α->World->Prop) (Ix:Code->List α->World->Prop) (hI:OwnFrom w.heap.size I) (hIx:∀c,OwnFrom w.heap.size (Ix c)) (hIc:∀s A v,I s A->I s (A.setCell ⟨b0,0,none⟩ v)) (h0:I [] w) (a₁:α->Act)
  (hassign:∀(l:Nat)(x:α)(W:World)(K:Act->World->Prop),K (a₁ x) W ->
   assign.wpIn (F.inRound l) (n-1-1) P (Exit.then K (fun _ _ _=>False)) { tmps:=(ps.zip (encs x)).foldl (fun t (p,v)=>t.setIfInBounds p v) a.tmps,defers:=[] } W)
  (hbody:∀(l:Nat)(pre:List α)(x:α)(W:World),I pre W->pre.length<N->body.wpIn (F.inRound l) (n-1-1) P (ownPostK Kp I Ix (pre++[x]) W) (a₁ x) W)
  (hdone:∀(D:Nat)(xs:List α)(W:World),w.heap.size<=D->S xs->I xs W->W.heap[D]?=some (.deferred (some []))->Q .normal { a with defers:={ target := .collected D,args := #[] }::a.defers } W)
  (hstop:∀(D:Nat)(c:Code)(pre:List α)(W:World),w.heap.size<=D->Sp pre->Ix c pre W->W.heap[D]?=some (.deferred (some []))->c.wpIn F n P Q { a with defers:={ target := .collected D,args := #[] }::a.defers } W) :
  (Code.rangeFunc g ps assign body).wpIn F n P Q a w:=by
 refine wpIn_rangeFunc ?_;intro fn hfn;rw[hro];obtain⟨rec,hrec⟩:∃rec:LoopState->Option Code->Loop,rec=fun st pe=>{ state:=st,pending:=pe,fn,tmps:=a.tmps,params:=ps,assign,body,defers:=w.heap.size }:=⟨_,rfl⟩
 obtain⟨W1,hW1⟩:∃W1,(w.alloc (.deferred (some []))).alloc (.loop (rec .ready none))=W1:=⟨_,rfl⟩
 have hL1:W1.heap[w.heap.size+1]?=some (.loop (rec .ready none)):=by
  rw[<-hW1]; have:=World.alloc_heap_new (w.alloc (.deferred (some []))) (.loop (rec .ready none)); rwa[World.size_alloc] at this
 have hK1:W1.heap[w.heap.size]?=some (.deferred (some [])):=by
  rw[<-hW1]; exact(Below.heap_alloc _ _ _ dw).trans (World.alloc_heap_new w _)
 have hI1:I [] W1:=by rw[<-hW1]; exact hI.alloc _ (hI.alloc _ h0)
 have hb1:Below w0.heap.size w0 W1:=by
  rw[<-hW1]; exact hb0.trans ((((Below.refl _ w).alloc (av _) _).alloc dw _).mono hb0.size)
 refine⟨w.heap.size+1,[{ target := .collected w.heap.size,args := #[] }],W1,{ target := .fn (.func gf) lb,args := #[.func (.yield (w.heap.size+1)) #[] #[]] },W1,gf,
  #[.func (.yield (w.heap.size+1)) #[] #[]]++lb,W1,?_,?_,?_,?_,fun _=>h1,?_⟩
 ·rw[<-hW1,hrec]; exact run_enterLoop_outer _ _ _ _ _
 ·simp only[resolve,hg];simp[go_sem]
 ·intro f' hf'; simp[Target.leads] at hf'; subst hf'; exact hFg
 ·simp[invoke,go_sem,eg]
 ·have hnw:∀ {A B:World} {row:Option Nat},(∀r,row=some r->W1.heap.size<=r/\∃o:Obj,A.heap[r]?=some o/\o.isWalk=true)->(∀r,row=some r->w.heap.size<=r/\∃o:Obj,A.heap[r]?=some o/\o.isCells=false) :=
   fun hr r e=>by obtain⟨hB,o,ho,hw⟩:=hr r e; exact⟨by rw[<-hW1] at hB; simp at hB; omega,o,ho,Obj.not_cells_of_walk hw⟩
  refine(hseq (w.heap.size+1)
   (fun pre W=>I pre W/\W.heap[w.heap.size+1]?=some (.loop (rec .ready none))/\W.heap[w.heap.size]?=some (.deferred (some [])))
   (fun pre W=>∃c,Ix c pre W/\W.heap[w.heap.size+1]?=some (.loop (rec .done (some c)))/\W.heap[w.heap.size]?=some (.deferred (some [])))
   W1 hb1
   (fun s A B row hs hg' hr=>⟨hI s A B row hs.1 hg' (hnw (B:=B) hr),(grownBy_keeps hg' (fun r e=>(hr r e).2) hs.2.1 rfl).trans hs.2.1,(grownBy_keeps hg' (fun r e=>(hr r e).2) hs.2.2 rfl).trans hs.2.2⟩)
   (fun s A B row hs hg' hr=>by
    obtain⟨c,hc,hl,hk⟩:=hs;exact⟨c,hIx c s A B row hc hg' (hnw (B:=B) hr),(grownBy_keeps hg' (fun r e=>(hr r e).2) hl rfl).trans hl,(grownBy_keeps hg' (fun r e=>(hr r e).2) hk rfl).trans hk⟩)
   (fun s A v hs=>⟨hIc s A v hs.1,(Below.heap_setCell _ _ _ _ (by show _≠b0; omega)).trans hs.2.1,(Below.heap_setCell _ _ _ _ (by show _≠b0; omega)).trans hs.2.2⟩)
   ?_ ⟨hI1,hL1,hK1⟩).mono ?_
  ·rintro pre x W ⟨hi,hl,hk⟩ dN;have cQ:w.heap.size+1<W.heap.size:=(fJ.1 hl).1;have hy:=run_yield (P:=P) (args:=encs x) hl (by rw[hrec]; exact hps x)
   rw[hrec] at hy;refine⟨fn,_,assign,body,hy,roundIn_of_wpIn hfn (hassign _ x W _ ⟨_,run_beginRound hl (by rw[hrec]),?_⟩)⟩
   have hl2:(W.putObj (w.heap.size+1) (.loop { rec .ready none with state := .busy })).heap[w.heap.size+1]?=some (.loop { rec .ready none with state := .busy }):=World.putObj_heap_same cQ
   have hk2:(W.putObj (w.heap.size+1) (.loop { rec .ready none with state := .busy })).heap[w.heap.size]?=some (.deferred (some [])):=(World.putObj_heap_other aH).trans hk
   have hw2:Kp W (W.putObj (w.heap.size+1) (.loop { rec .ready none with state := .busy })):=hKb _ _ _ _ aH hl rfl rfl
   refine wpIn_mono (hbody _ pre x _ (hI.putObj _ hi aH hl rfl) dN) ?_
   have fin:∀(jump:Option Code)(W3:World),KeepsOthers (W.putObj (w.heap.size+1) (.loop { rec .ready none with state := .busy })) W3 ->
     (Instr.endRound (w.heap.size+1) jump).run P W3 = .ok (.bool jump.isNone) (W3.putObj (w.heap.size+1) (.loop (rec (if jump.isNone then .ready else .done) jump))) /\
     W3.heap[w.heap.size+1]?=some (.loop { rec .ready none with state := .busy }) /\
     (W3.putObj (w.heap.size+1) (.loop (rec (if jump.isNone then .ready else .done) jump))).heap[w.heap.size+1]?=some (.loop (rec (if jump.isNone then .ready else .done) jump)) /\
     (W3.putObj (w.heap.size+1) (.loop (rec (if jump.isNone then .ready else .done) jump))).heap[w.heap.size]?=some (.deferred (some [])):=fun jump W3 hk3=>by
    have hl3:=hk3.same _ _ hl2 rfl;have:=run_endRound (P:=P) jump hl3;rw[hrec] at this ⊢;exact⟨this,by rw[hrec] at hl3; exact hl3,World.putObj_heap_same (fJ.1 hl3).1,(World.putObj_heap_other aH).trans (hk3.same _ _ hk2 rfl)⟩
   rintro e a3 W3 hp;cases e with
   |normal =>
    obtain⟨hk3,hkp3,hi3⟩:=hp;obtain⟨hr,hl3,hl4,hk4⟩:=fin none W3 hk3;exact⟨_,_,hr,.inl ⟨rfl,⟨hI.putObj _ hi3 aH hl3 rfl,hl4,hk4⟩,hKt (hKt hw2 hkp3) (hKb _ _ _ _ aH hl3 rfl rfl)⟩⟩
   |ret =>
    obtain⟨hk3,hi3⟩:=hp;obtain⟨hr,hl3,hl4,hk4⟩:=fin (some .ret) W3 hk3;exact⟨_,_,hr,.inr ⟨rfl,.ret,(hIx _).putObj _ hi3 aH hl3 rfl,hl4,hk4⟩⟩
   |exit id =>
    obtain⟨hk3,hi3⟩:=hp;obtain⟨hr,hl3,hl4,hk4⟩:=fin (some (.exit id)) W3 hk3;exact⟨_,_,hr,.inr ⟨rfl,.exit id,(hIx _).putObj _ hi3 aH hl3 rfl,hl4,hk4⟩⟩
   |goto t =>
    obtain⟨hk3,hi3⟩:=hp;obtain⟨hr,hl3,hl4,hk4⟩:=fin (some (.goto t)) W3 hk3;exact⟨_,_,hr,.inr ⟨rfl,.goto t,(hIx _).putObj _ hi3 aH hl3 rfl,hl4,hk4⟩⟩
   |panic ch=>exact hp.elim
   |outgrown=>exact hp.elim
  ·rintro e W2 ⟨⟨v,rfl⟩,(⟨xs,hS,hi,hl,hk⟩|⟨pre,hSp,c,hi,hl,hk⟩)⟩
   ·exact⟨none,_,by have:=run_endLoop (P:=P) hl (by rw[hrec]; simp); rw[hrec] at this; exact this,hdone _ xs _ (av _) hS (hI.putObj _ hi aH hl rfl) ((World.putObj_heap_other aH).trans hk)⟩
   ·exact⟨some c,_,by have:=run_endLoop (P:=P) hl (by rw[hrec]; simp); rw[hrec] at this; exact this,hstop _ c pre _ (av _) hSp ((hIx c).putObj _ hi aH hl rfl) ((World.putObj_heap_other aH).trans hk)⟩
def ND:J:=⟨fun _=>none,fun _ _=>False⟩
def Xu(w:World):Rel ND [] w where
 inj:=fun _ _ _ h=>by cases h
 lt:=fun _ _ h=>by cases h
 fix:=fun _ _ h=>by cases h
 tick:=fun _ _ _ _ h=>by cases h
 arr:=fun _ _ _ _ h=>by cases h
 uM:=fun _ _ h=>by cases h
 zz:=fun _ _ h=>h.elim
@[reducible] def G0:kx:={ g:=fun _=>none }
def ahV:@oW G0 Tryz.prog (Fy [] f198) f198=some Jj:=ft
def ahW:@oW G0 Tryz.prog (Fy [] f275) f275=some Nu:=ft
def ahX:@oW G0 Tryz.prog (Fy [] f302) f302=some Nv:=ft
def ahY:@oW G0 Tryz.prog (Fy [] f325) f325=some Jk:=ft
def HD{α:Type}{x:α}{P:Prop}(h:(none:Option α)=some x):P:=by cases h
def amN(w:World):@sW G0 ND [] w:=@sW.mk G0 _ _ _ (fun b vs k v h=>HD (show(none:Option (List Value))=some vs from h)) (fun b vs h=>HD (show(none:Option (List Value))=some vs from h)) (fun b p h=>HD (show(none:Option (Value->Prop))=some p from h))
def acv:Nat->Option eE
 |198=>some Jj
 |275=>some Nu
 |302=>some Nv
 |325=>some Jk
 |_=>none
noncomputable def EZ:zA:=⟨acv,fun _=>none⟩
def abY:@uQ G0 Tryz.prog EZ:=by
 refine @uQ.mk G0 _ _ (fun f fn h=>?_) (fun f g h=>by cases h)
 simp only[EZ] at h;unfold acv at h;split at h
 ·cases h; exact⟨_,_,func198,ahV⟩
 ·cases h; exact⟨_,_,func275,ahW⟩
 ·cases h; exact⟨_,_,func302,ahX⟩
 ·cases h; exact⟨_,_,func325,ahY⟩
 ·cases h
def ait:@ny G0 Tryz.prog (aq EZ):=@qW G0 _ ft _ abY
section
attribute [local irreducible] eS fI lx gK dZ kr aq aR cu bJ
def Ws{s:Bytes}(hs:s.length<=100000)(ha:po s){k:List K}{R:Bool->Option (ag×aC)}
  (hx:∀e p,kr (aq EZ) [.tmp 2] 0 k ⟨.exit 0,e,[.nY s p]⟩=R true) (hr:∀p,kr (aq EZ) [.tmp 2] 0 k ⟨.ret,[(2,.bool false)],[.nY s p]⟩=R false) :
  ∀(q:Nat)(l pre:Bytes),l.length<=q->s=pre++l->eS (aq EZ) [.tmp 2] 0 k (.loop [21] NK) [(21,.ka 0)] [.nY s pre.length]=R (l.all td):=by
 intro q;induction q with
 |zero =>
  intro l pre hq h;have h0:l=[]:=dI aH;subst h0;rw[bI];have cQ:(pre.length<s.length)=False:=by rw[h]; simp
  simp only[wN,cQ,EN,seval];exact hx _ _
 |succ q ih =>
  intro l pre hq h;cases l with
  |nil =>
   rw[bI];have cQ:(pre.length<s.length)=False:=by rw[h]; simp
   simp only[wN,cQ,EN,seval];exact hx _ _
  |cons n r =>
   rw[bI];have cQ:(pre.length<s.length)=True:=by rw[h]; simp
   rcases M6 h with ⟨hn,hd⟩|⟨c,m,r',hm,hne,hb,hc,hc2,hd⟩
   ·have hi:=ih r (pre++[n]) (by simp at hq; omega) (by rw[h]; simp)
    simp only[aA,au,az,aI] at hi;simp only[wN,cQ,hd,EN,seval]
    repeat' ((first|apply bB|apply bW|apply dM)<;>intro hb<;>simp only[hb,wN,hd,EV,seval])
    all_goals first
     |(refine(hr _).trans ?_; congr 1; symm; clear hi ih hx hr hd h; simp_all [td]; done)
     |(refine hi.trans ?_; congr 1; symm; clear hi ih hx hr hd h; simp_all [td]; done)
   ·have hml:0<m.length:=gP.2 hne;have hl2:(n::r).length=m.length+r'.length:=by rw[hm]; simp
    have hi:=ih r' (pre++m) (by simp at hq hl2; omega) (by rw[h,hm]; simp)
    simp only[aA] at hi;have h32:decide ((c:Int)<32)=false:=gr;have h47:((c:Int)==47)=false:=by rw[jm]; omega
    rw[hm,oI,all_true hb,cW];simp only[wN,cQ,hd,h32,h47,EN,seval];exact hi
def alv(s:Bytes)(hs:s.length<=100000)(ha:po s):aq EZ 198 [.str s] []=some (.bool (fX s),[]):=by
 refine aB ?_;simp only[Jj,wN,EN,seval];have hl:=fun k hx hr=>Ws (k:=k) (R:=fun b=>some (ag.bool b,[])) hs ha hx hr s.length s [] (av _) rfl
 have he:(s==[])=decide ((s.length:Int)<1):=by cases s<;>simp; omega
 rw[he]
 repeat' ((first|apply bB|apply bW|apply dM)<;>intro hb<;>simp only[hb,EN,wN,seval])
 all_goals first
  |(clear hl he; simp_all [fX]; done)
  |(refine(hl _ (fun e p=>by simp only[wN,EN,seval]) (fun p=>by simp only[wN,EN,seval])).trans ?_; clear hl he; simp_all [fX]; done)
end
def EF{f:Nat}{args:List ag}{r:ag}(h:aq EZ f args []=some (r,[]))(hp:r.jr=false)(w:World)(vs:Array Value)(hl:args.length=vs.size)(hv:∀(i:Nat)(c:ag)(v:Value),args[i]?=some c->vs[i]?=some v->gk ND [] w c v) :
  Calls Tryz.prog f vs w fun e w'=>∃v j',e = .returned v/\w.grownBy w' none/\gk j' [] w' r v:=by
 refine((ait f args [] _ h).2 ND w vs (Xu w) (amN w) hl hv).mono ?_;intro e w' hce;obtain⟨v,rfl,j',_,hx,hr⟩:=hce.ret hp;exact⟨v,j',rfl,⟨hx.os,hx.tape,hx.output,hx.size,fun k hk _=>(hx.tV k hk fun i hi=>by cases hi).1⟩,hr⟩
def XC(s:Bytes)(hs:s.length<=100000)(ha:po s)(w:World):Calls Tryz.prog 198 #[.string (bs s)] w fun e w'=>e = .returned (.bool (fX s))/\w.grownBy w' none:=by
 refine(EF (alv s hs ha) rfl w #[.string (bs s)] rfl ?_).mono ?_
 ·intro i c v h1 h2
  match i with
  |0=>cases h1; cases h2; exact .plain (.str _)
  |i+1=>cases h1
 ·rintro e w' ⟨v,j',rfl,hg,hr⟩;rw[hr.jE];exact⟨rfl,hg⟩
set_option maxHeartbeats 1000000 in
set_option maxRecDepth 100000 in
def Tj(a:ByteArray)(c:Int)(w:World) :
  Calls Tryz.prog 303 #[.string a,.int .u8 c] w fun e w'=>e = .returned (.int .i64 (Lib.indexByte a.data.toList c.toNat.toUInt8))/\w'=w:=by
 go_enter func303,ntmps303
 go_wp2
 rw[run_callFunc_extern func326 ft ft ft (e:=Extern.BytealgIndexByte.indexByte) ft,Lib.run_indexByteString];simp only[Result.andThen];rw[Oper.upon_value]
 go_wp2
 go_ret
 exact⟨rfl,rfl⟩
set_option maxHeartbeats 1000000 in
set_option maxRecDepth 100000 in
def Ti(a:ByteArray)(c:Int)(w:World) :
  Calls Tryz.prog 276 #[.string a,.int .u8 c] w fun e w'=>e = .returned (.int .i64 (Lib.indexByte a.data.toList c.toNat.toUInt8))/\w'=w:=by
 go_enter func276,ntmps276
 go_wp2_with (go_at_call 303; refine(Tj _ _ _).mono ?_; rintro e w' ⟨rfl,rfl⟩)
 go_ret
 exact⟨rfl,rfl⟩
section ev
attribute [local irreducible] eS fI lx gK dZ kr aq aR cu bJ
def ud:Bytes->Bytes×Bool
 |b::r=>if b=47 then (r,true) else (b::r,false)
 | []=>([],false)
def PM:Bytes->Bool
 |b::_=>b==47
 | []=>false
def asE(s:Bytes):aq EZ 325 [.str s,.str [47]] []=some (.bool (PM s),[]):=by
 refine aB ?_;cases s with
 |nil =>
  have h0:decide (((1:Nat):Int)<=((0:Nat):Int))=false:=mw;simp only[Jk,YH,h0,EN,seval];simp only[PM,YH,h0,EN,seval]
 |cons b r =>
  have h1:(1:Int)<=(r.length:Int)+1:=aH;simp only[Jk,YH,EN,seval];simp[PM,h1,gA,YH,EN,seval]
  try (cases hb:(b==47)<;>simp_all)
def ant s:=cP (asE s)
def asD(s:Bytes):aq EZ 302 [.str s,.str [47]] []=some (.tuple [.str (ud s).1,.bool (ud s).2],[]):=by
 refine aB ?_;simp only[Nv,YG,ant,EN,seval];cases s with
 |nil=>simp only[PM,YG,ant,EN,seval]; rfl
 |cons b r =>
  by_cases hb:b=47
  ·have h1:(1:Int)<=(r.length:Int)+1:=aH;have h2:(0:Int)<=(r.length:Int)+1:=aH;simp[PM,hb,YG,ud,gA,h1,h2,EN,seval]
  ·have hb':(b==47)=false:=by simpa using hb
   simp only[PM,hb',YG,EN,seval];simp[ud,hb]
def at2 s:=cP (asD s)
def asy(s:Bytes):aq EZ 275 [.str s,.str [47]] []=some (.tuple [.str (ud s).1,.bool (ud s).2],[]):=by
 refine aB ?_;simp only[Nu,apU,at2,EN,seval]
end ev
def afE(s:Bytes)(w:World):Calls Tryz.prog 275 #[.string (bs s),.string ⟨#[47]⟩] w fun e w'=>e = .returned (.tuple #[.string (bs (ud s).1),.bool (ud s).2])/\w.grownBy w' none:=by
 refine(EF (asy s) rfl w #[.string (bs s),.string ⟨#[47]⟩] rfl ?_).mono ?_
 ·intro i c v h1 h2
  match i with
  |0=>cases h1; cases h2; exact .plain (.str _)
  |1=>cases h1; cases h2; exact .plain (.str [47])
  |i+2=>cases h1
 ·rintro e w' ⟨v,j',rfl,hg,hr⟩;obtain⟨vs,rfl,hl,hv⟩:=hr.tW;obtain⟨l⟩:=vs
  match l,hl with
  | [u1,u2],_ =>
   rw[(hv 0 _ u1 rfl rfl).kH,(hv 1 _ u2 rfl rfl).jE];exact⟨rfl,hg⟩
def I1(s:Bytes):Nat:=if Lib.indexByte s 47<0 then s.length else (Lib.indexByte s 47).toNat
def uv(s:Bytes):Bytes×Bool:=((ud s).1.take (I1 (ud s).1),(ud s).2)
def sO(s:Bytes):Bytes:=(ud s).1.drop (I1 (ud s).1)
def wu:Nat->Bytes->List (Bytes×Bool)
 |0,_=>[]
 |n+1,s=>match s with
  | []=>[]
  |b::r=>uv (b::r)::wu n (sO (b::r))
def index_le(l:Bytes)(c:UInt8):Lib.indexByte l c<=l.length:=by
 induction l with
 |nil=>simp[Lib.indexByte]
 |cons b r ih =>
  simp only[Lib.indexByte];split
  ·simp; omega
  ·split
   ·simp; omega
   ·simp; omega
def Sb(s:Bytes):(ud s).1.length<=s.length:=by
 cases s with
 |nil=>simp[ud]
 |cons b r=>simp only[ud]; split<;>simp
def EJ{s:Bytes}(h:s≠[]):(sO s).length<s.length:=by
 cases s with
 |nil=>exact absurd rfl h
 |cons b r =>
  unfold sO;rw[hU]
  by_cases hb:b=47
  ·have:ud (b::r)=(r,true):=by simp[ud,hb]
   rw[this]; simp; omega
  ·have e:ud (b::r)=(b::r,false):=by simp[ud,hb]
   rw[e]
   have:0<I1 (b::r):=by
    unfold I1;have hb':(b==47)=false:=by simpa using hb
    have hg:=Lib.indexByte_ge r 47;split
    ·simp
    ·rename_i hn;simp only[Lib.indexByte,hb',af,aE] at hn ⊢;split
     ·rename_i he; simp[he] at hn
     ·rename_i he;have:Lib.indexByte r 47 ≠ -1:=by simpa using he
      omega
   simp only[au];omega
def HH:∀(n m:Nat)(s:Bytes),s.length<=n->s.length<=m->wu n s=wu m s:=by
 intro n;induction n with
 |zero =>
  intro m s h _;have:s=[]:=by cases s with|nil=>rfl|cons b r=>simp at h
  subst this;cases m<;>rfl
 |succ n ih =>
  intro m s h h';cases s with
  |nil=>cases m<;>rfl
  |cons b r =>
   cases m with
   |zero=>simp at h'
   |succ m =>
    have:=EJ (s:=b::r) dw;simp only[wu];rw[ih m _ aH aH]
def nu(s:Bytes):List (Bytes×Bool):=wu s.length s
def Ak{s:Bytes}(h:s≠[]):nu s=uv s::nu (sO s):=by
 cases s with
 |nil=>exact absurd rfl h
 |cons b r =>
  have:=EJ (s:=b::r) dw;unfold nu;rw[show(b::r).length=r.length+1 from rfl,wu]
  rw[HH r.length (sO (b::r)).length _ (by simp at this; omega) aH]
def B2{s:Bytes}(h:po s):po (uv s).1:=trivial
def Dm{s:Bytes}(h:po s):po (sO s):=trivial
def QA(s:Bytes):(uv s).1.length<=s.length:=by
 have:=Sb s;unfold uv;rw[cf];omega
abbrev PA:={ x:Bytes×Bool // po x.1/\x.1.length<=100000 }
abbrev Zk(x:PA):Array Value := #[.string (bs x.1.1),.bool x.1.2]
def G8(b0:Nat)(w:World):Nat:=match w.cell? ⟨b0,0,none⟩ with
 |some (.string s)=>s.size
 |_=>0
section
attribute [local go_sem] Oper.semAt_some
set_option maxHeartbeats 1000000 in
def QB(n:Nat)(s:Bytes)(w:World) :
  CallsIn Fence.wide n Tryz.prog 231 #[.string (bs s)] w fun e w'=>e = .returned (.func (.func 274) #[] #[.pointer (some ⟨w.heap.size,0,none⟩)])/\w'=w.alloc (.cells #[.string (bs s)] 9):=by
 refine callsIn_of_wp func231 rfl trivial ?_ rfl;simp only[ntmps231,db,au,az,Nat.reduceAdd,Nat.reduceSub,jQ,jR,lj,kf,aP,aG]
 gi_wp2
 go_ret
 exact⟨rfl,rfl⟩
def MU(c:Bytes)(n:Nat):bs (c.drop n)=(bs c).extract n (bs c).size:=by
 rw[yY,show(bs c).size=c.length from rfl,bE]
def wg{b0:Nat}{w:World}{s:Bytes}(h:Boxed w b0 9 (.string (bs s))):G8 b0 w=s.length:=by
 unfold G8;rw[h.cell];rfl
set_option maxRecDepth 100000 in
set_option maxHeartbeats 1000000 in
def ZL(n:Nat)(hn:3<=n)(l b0 N:Nat)(s0:Bytes)(ha:po s0)(hs:s0.length<=100000)(hN:(nu s0).length<=N)(J Jx:List PA->World->Prop)(W:World)(hJ:AbidesFrom W.heap.size J)(hJc:∀s A v,J s A->J s (A.setCell ⟨b0,0,none⟩ v))
  (hY:∀pre x W1,J pre W1->pre.length<N->YieldAt Fence.wide (n-1) Tryz.prog l (Zk x) W1 fun e W' =>
   (e = .returned (.bool true)/\J (pre++[x]) W'/\W'.heap[b0]?=W1.heap[b0]?)\/(e = .returned (.bool false)/\Jx (pre++[x]) W'))
  (hB:Boxed W b0 9 (.string (bs s0))) (h0:J [] W) :
  CallsIn Fence.wide n Tryz.prog 274 #[.func (.yield l) #[] #[],.pointer (some ⟨b0,0,none⟩)] W fun e W'=>(∃v,e = .returned v) /\
   ((∃xs:List PA,xs.map (·.1)=nu s0/\J xs W')\/(∃pre:List PA,pre.map (·.1) <+: nu s0/\Jx pre W')):=by
 refine callsIn_of_wp func274 rfl trivial ?_ rfl;simp only[ntmps274,db,au,az,Nat.reduceAdd,Nat.reduceSub,jQ,jR,lj,kf,aP,aG]
 gi_wp2
 gi_loopw [3] (fun _ wr=>∃(pre:List PA) (rest:Bytes),Boxed wr b0 9 (.string (bs rest))/\po rest/\rest.length<=100000/\nu s0=pre.map (·.1)++nu rest/\J pre wr)
  (fun _ wr=>G8 b0 wr)
 case atStart =>
  exact⟨[],s0,hB,ha,hs,rfl,h0⟩
 case round =>
  obtain⟨pre,rest,hb,hra,hrl,hp,hJs⟩:=hrel;have hf:=hb.frozen;cases rest with
  |nil =>
   have hc:wr.cell? ⟨b0,0,none⟩=some (.string ⟨#[]⟩):=hb.cell
   gi_wp2
   go_end0
   exact⟨⟨_,rfl⟩,.inl ⟨pre,by rw[hp]; simp[nu,wu],hJs⟩⟩
  |cons x rest =>
   have hc:=hb.cell;have hne:(!(bs (x::rest)).toList.isEmpty)=true:=by simp[bs]
   gi_wp2
   refine⟨trivial,fun h=>(by cases h),(callsIn_wide.2 (afE _ _)).mono ?_⟩
   rintro e w1 ⟨rfl,hg⟩;have hb1:Boxed w1 b0 9 (.string (bs (x::rest))):=hb.kept hg dw;have hJ1:J pre w1:=hJ pre wr w1 none hJs hg (fun r e=>by cases e)
   have hbr:=hb;clear hb hc hf hJs;have hc1:=hb1.cell;have hf1:=hb1.frozen
   gi_wp2
   refine⟨trivial,fun h=>(by cases h),(callsIn_wide.2 (Ti _ _ _)).mono ?_⟩
   rintro e w2 ⟨rfl,rfl⟩
   have dN:pre.length<N:=by
    have:=congrArg List.length hp;rw[Ak (s:=x::rest) dw] at this;simp at this;omega
   have hpl:=QA (x::rest);have hrest:=EJ (s:=x::rest) dw;obtain⟨fn,tmps,assign,body,hy,hR⟩:=hY pre ⟨uv (x::rest),B2 hra,aH⟩ w2 hJ1 dN
   have hpn:nu s0=(pre++[⟨uv (x::rest),B2 hra,aH⟩]:List PA).map (·.1)++nu (sO (x::rest)):=by
    rw[hp,Ak dw]; simp
   obtain⟨c,hc⟩:∃c,(ud (x::rest)).1=c:=⟨_,rfl⟩;have hix:=index_le c 47
   by_cases hi:Lib.indexByte c 47<0
   ·have he:uv (x::rest)=(c,(ud (x::rest)).2):=by simp[uv,hc,I1,hi]
    have hre:sO (x::rest)=[]:=by simp[sO,hc,I1,hi]
    simp only[Zk,he] at hy;rw[hc];have hi':Lib.indexByte (bs c).data.toList 47<0:=hi
    gi_wp2
    refine⟨fun h=>(by cases h),hR.mono ?_⟩
    rintro e W3 (⟨rfl,hJ3,hk3⟩|⟨rfl,hJx3⟩)
    ·have hb3:Boxed W3 b0 9 (.string (bs (x::rest))):=hk3.trans hb1;have hc3:=hb3.cell;have hf3:=hb3.frozen
     gi_wp2
     go_roundw
     case rel =>
      exact⟨_,sO (x::rest),(by rw[hre]; exact(hb3.set _)),Dm hra,aH,hpn,hJc _ _ _ hJ3⟩
     case measure =>
      rw[wg (s:=sO (x::rest)) (by rw[hre]; exact(hb3.set _)),wg hbr]
      exact hrest
    ·gi_wp2
     refine bodyPost_ret (results_none rfl _ _ _) rfl ?_;exact⟨⟨_,rfl⟩,.inr ⟨_,⟨nu (sO (x::rest)),hpn.symm⟩,hJx3⟩⟩
   ·have hi0:0<=Lib.indexByte c 47:=aH;have he:uv (x::rest)=(c.take (Lib.indexByte c 47).toNat,(ud (x::rest)).2):=by simp[uv,hc,I1,hi]
    have hre:sO (x::rest)=c.drop (Lib.indexByte c 47).toNat:=by simp[sO,hc,I1,hi]
    simp only[Zk,he] at hy;rw[show bs (c.take (Lib.indexByte c 47).toNat)=(bs c).extract 0 (Lib.indexByte (bs c).data.toList 47).toNat by rw[yY]; rfl] at hy
    rw[hc];have hi':¬Lib.indexByte (bs c).data.toList 47<0:=hi;have hi2:Lib.indexByte (bs c).data.toList 47<=(bs c).size:=hix
    gi_wp2
    refine⟨fun h=>(by cases h),hR.mono ?_⟩
    rintro e W3 (⟨rfl,hJ3,hk3⟩|⟨rfl,hJx3⟩)
    ·have hb3:Boxed W3 b0 9 (.string (bs (x::rest))):=hk3.trans hb1;have hc3:=hb3.cell;have hf3:=hb3.frozen
     gi_wp2
     go_roundw
     case rel =>
      exact⟨_,sO (x::rest),(by rw[hre,MU]; exact(hb3.set _)),Dm hra,aH,hpn,hJc _ _ _ hJ3⟩
     case measure =>
      rw[wg (s:=sO (x::rest)) (by rw[hre,MU]; exact(hb3.set _)),wg hbr]
      exact hrest
    ·gi_wp2
     refine bodyPost_ret (results_none rfl _ _ _) rfl ?_;exact⟨⟨_,rfl⟩,.inr ⟨_,⟨nu (sO (x::rest)),hpn.symm⟩,hJx3⟩⟩
def Fe(x:Bytes×Bool)(n:Nat):Bool := !x.2 || !fX x.1||n==12
def qM:List (Bytes×Bool)->Nat->Option (List Bytes)
 | [],_=>some []
 |x::r,n=>if Fe x n then none else (qM r (n+1)).map (x.1 :: ·)
def BK:∀(a b:List (Bytes×Bool)) (n:Nat),qM (a++b) n=(qM a n).bind fun l=>(qM b (n+a.length)).map (l ++ ·):=by
 intro a;induction a with
 |nil=>intro b n; simp[qM]
 |cons x r ih =>
  intro b n;simp only[aG,qM];split
  ·rfl
  ·rw[ih,show n+1+r.length=n+(x::r).length by simp; omega]
   cases qM r (n+1) with
   |none=>rfl
   |some l=>simp; rfl
def gG(s:Bytes):List Bytes×Int:=if s=[47] then ([],0) else match qM (nu s) 0 with
 |none=>([],60)
 |some []=>([],60)
 |some l=>(l,0)
def Nx(pre:List PA):Prop:=qM (pre.map (·.1)) 0=some (pre.map (·.1.1))/\pre.length<=12
def LS{pre:List PA}{x:PA}(h:Nx pre)(hb:Fe x.1 pre.length=false):Nx (pre++[x]):=by
 refine⟨?_,?_⟩
 ·rw[aW,BK,h.1];simp[qM,hb]
 ·have:pre.length≠12:=by intro e; rw[e] at hb; simp[Fe] at hb
  have:=h.2;simp; omega
def AR{pre:List PA}{x:PA}(h:Nx pre)(hb:Fe x.1 pre.length=true):qM ((pre++[x]).map (·.1)) 0=none:=by
 rw[aW,BK,h.1];simp[qM,hb]
def QJ{a l:List (Bytes×Bool)}(h:a <+: l)(hn:qM a 0=none):qM l 0=none:=by
 obtain⟨b,rfl⟩:=h;rw[BK,hn]; rfl
def amU:(Tryz.prog.info? 9).map (fun i=>(i.zero,i.size,i.bytes))=some (some (.string ⟨#[]⟩),1,16):=ft
abbrev Hj(b:Bytes):Value := .string (bs b)
def appended{W w1:World}{n₀ B:Nat}{v v':Value}{k m:Nat}{xs ys:List Value}{tmp:Obj}
  (hv:Boxed W B 44 v) (hrow:W.ownsRow n₀ 9 1 v k xs) (hown':w1.ownsRow n₀ 9 1 v' m ys) (hgrow:(W.alloc tmp).grownBy w1 v.ownBlock) :
  Boxed w1 B 44 v/\Boxed (w1.setCell ⟨B,0,none⟩ v') B 44 v'/\(w1.setCell ⟨B,0,none⟩ v').ownsRow n₀ 9 1 v' m ys/\KeepsOthers W (w1.setCell ⟨B,0,none⟩ v') /\
  (w1.setCell ⟨B,0,none⟩ v').os=W.os/\(w1.setCell ⟨B,0,none⟩ v').tape=W.tape/\(w1.setCell ⟨B,0,none⟩ v').output=W.output/\W.heap.size<=(w1.setCell ⟨B,0,none⟩ v').heap.size /\
  ∀q,q<n₀->q<W.heap.size->q≠B->(w1.setCell ⟨B,0,none⟩ v').heap[q]?=W.heap[q]?:=by
 have hv1:Boxed w1 B 44 v:=(hv.alloc tmp).kept hgrow (hv.not_row mw hrow);have hs:=grownBy_setCell' w1 B v';refine⟨hv1,hv1.set v',hown'.kept hs (.inr (hv1.not_row mw hown').symm),?_,?_,?_,?_,?_,?_⟩
 ·refine((KeepsOthers.alloc W tmp).trans (KeepsOthers.of_grownBy hgrow fun j o ej hj=>?_)).trans (KeepsOthers.setCell _ _ _)
  rcases(hrow.alloc tmp).2 with ⟨rfl,_⟩|⟨g,cap,cur,rfl,_,hgb,_⟩
  ·simp[Value.ownBlock] at ej
  ·obtain rfl:g=j:=by simpa[Value.ownBlock] using ej
   rw[hgb] at hj; cases hj; rfl
 ·exact hs.os.trans hgrow.os
 ·exact hs.tape.trans hgrow.tape
 ·exact hs.output.trans hgrow.output
 ·have h1:=hgrow.size;have h2:=hs.size;simp at h1;omega
 ·intro q hq hqw hqB;have cQ:q<(W.alloc tmp).heap.size:=gr;rw[hs.block q (bw cQ hgrow.size) (fun e=>hqB (by cases e; rfl)),hgrow.block q cQ ?_]
  ·exact Below.heap_alloc _ _ _ hqw
  ·intro e;rcases hrow.2 with ⟨rfl,_⟩|⟨g,cap,cur,rfl,hb,_,_⟩
   ·simp[Value.ownBlock] at e
   ·obtain rfl:q=g:=by simpa[Value.ownBlock] using e
    omega
structure Fc(w:World)(pre:List PA)(W:World):Prop where
 Hn:Nx pre
 r0:Boxed W w.heap.size 44 (.slice none 0 0)
 r1:Boxed W (w.heap.size+1) 43 (.int .i64 0)
 row:∃v,Boxed W (w.heap.size+2) 44 v/\W.ownsRow (w.heap.size+4) 9 1 v pre.length (pre.map fun x=>Hj x.1.1)
 below:Below w.heap.size w W
 sz:w.heap.size+4<=W.heap.size
structure G5(w:World)(c:Code)(pre:List PA)(W:World):Prop where
 ret:c = .ret
 bad:qM (pre.map (·.1)) 0=none
 r0:Boxed W w.heap.size 44 (.slice none 0 0)
 r1:Boxed W (w.heap.size+1) 43 (.int .i64 60)
 below:Below w.heap.size w W
def ua{W W':World}{row:Option Nat}{B k:Nat}{t:TypeId}{v:Value}(h:Boxed W B t v)(hg:W.grownBy W' row)(hr:∀r,row=some r->k<=r/\∃o:Obj,W.heap[r]?=some o/\o.isCells=false):Boxed W' B t v :=
 h.kept hg fun e=>by obtain⟨_,o,ho,hc⟩:=hr B e.symm; rw[show W.heap[B]?=_ from h] at ho; cases ho; cases hc
def Fc.own{w:World}:OwnFrom (w.heap.size+4) (Fc w):=fun s A B row hs hg hr=>by
 obtain⟨v,hv,hrow⟩:=hs.row;exact⟨hs.Hn,ua hs.r0 hg hr,ua hs.r1 hg hr,⟨v,ua hv hg hr,((holdsRow_own (β:=Unit) (w.heap.size+4) (w.heap.size+2) 44 9 1 (fun _=>s.length) (fun _=>s.map fun x=>Hj x.1.1) (fun _ u=>u=v)) () A B row ⟨v,hv,hrow,rfl⟩ hg (fun r e=>(hr r e).2)).elim fun u hu=>hu.2.2▸hu.2.1⟩,ownFrom_below (β:=Unit) (av _) aH () A B row hs.below hg hr,aY hs.sz hg.size⟩
def G5.own{w:World}(c:Code):OwnFrom (w.heap.size+4) (G5 w c):=fun s A B row hs hg hr =>
 ⟨hs.ret,hs.bad,ua hs.r0 hg hr,ua hs.r1 hg hr,ownFrom_below (β:=Unit) (av _) aH () A B row hs.below hg hr⟩
def Fc.cell{w:World}(s:List PA)(A:World)(u:Value)(hs:Fc w s A):Fc w s (A.setCell ⟨w.heap.size+3,0,none⟩ u):=by
 obtain⟨v,hv,hrow⟩:=hs.row;have hg:=grownBy_setCell' A (w.heap.size+3) u;refine⟨hs.Hn,hs.r0.other aH _,hs.r1.other aH _,⟨v,hv.other aH _,hrow.kept hg ?_⟩,hs.below.setCell (p:=⟨w.heap.size+3,0,none⟩) dw _,aY hs.sz hg.size⟩;rcases hrow.2 with ⟨rfl,_⟩|⟨g,cap,cur,rfl,hb,_,_⟩
 ·exact .inl rfl
 ·refine .inr fun e=>?_
  have:g=w.heap.size+3:=by simpa[Value.ownBlock] using e
  omega
def G5.made{w W:World}{pre:List PA}(h0:Boxed W w.heap.size 44 (.slice none 0 0))(h1:Boxed W (w.heap.size+1) 43 (.int .i64 0))(hb:Below w.heap.size w W)(hbad:qM (pre.map (·.1)) 0=none) :
  KeepsOthers W ((W.setCell ⟨w.heap.size,0,none⟩ (.slice none 0 0)).setCell ⟨w.heap.size+1,0,none⟩ (.int .i64 60))/\G5 w .ret pre ((W.setCell ⟨w.heap.size,0,none⟩ (.slice none 0 0)).setCell ⟨w.heap.size+1,0,none⟩ (.int .i64 60)):=by
 refine⟨(KeepsOthers.setCell _ _ _).trans (KeepsOthers.setCell _ _ _),rfl,hbad,(h0.set _).other aH _,?_,(hb.setCell (p:=⟨w.heap.size,0,none⟩) (av _) _).setCell (p:=⟨w.heap.size+1,0,none⟩) dw _⟩;exact(h1.other aH _).set _
def BH{W:World}{n₀ k:Nat}{v:Value}{xs:List Value}(h:W.ownsRow n₀ 9 1 v k xs):∃p cap,v = .slice p k cap:=by
 rcases h.2 with ⟨rfl,rfl⟩|⟨g,cap,cur,rfl,_⟩
 ·exact⟨_,_,rfl⟩
 ·exact⟨_,_,rfl⟩
def abT{W:World}{n₀ n₁ k D:Nat}{v:Value}{xs:List Value}{x:Option (List Deferred)}{o:Obj}(h:W.ownsRow n₀ 9 1 v k xs)(hn:n₁<=n₀)(hD:W.heap[D]?=some (.deferred x)):(W.putObj D o).ownsRow n₁ 9 1 v k xs:=by
 refine⟨h.1,?_⟩;rcases h.2 with h0|⟨g,cap,cur,e,hb,hg,hr⟩
 ·exact .inl h0
 ·refine .inr ⟨g,cap,cur,e,aH,?_,hr⟩;exact(World.putObj_heap_other (fun e=>by subst e; rw[hD] at hg; cases hg)).trans hg
def Ke{W:World}{n₀ k B:Nat}{v:Value}{xs:List Value}(h:W.ownsRow n₀ 9 1 v k xs)(hB:B<n₀)(u:Value):(W.setCell ⟨B,0,none⟩ u).ownsRow n₀ 9 1 v k xs:=by
 refine⟨h.1,?_⟩;rcases h.2 with h0|⟨g,cap,cur,e,hb,hg,hr⟩
 ·exact .inl h0
 ·exact .inr ⟨g,cap,cur,e,hb,(Below.heap_setCell _ _ _ _ (by show _≠B; omega)).trans hg,hr⟩
def tK{W:World}{B D:Nat}{t:TypeId}{v:Value}{x:Option (List Deferred)}{o:Obj}(h:Boxed W B t v)(hD:W.heap[D]?=some (.deferred x)):Boxed (W.putObj D o) B t v :=
 (World.putObj_heap_other (fun e=>by subst e; rw[show W.heap[B]?=_ from h] at hD; cases hD)).trans h
def AV{w W:World}{D:Nat}{o:Obj}(h:Below w.heap.size w W)(hD:w.heap.size<=D):Below w.heap.size w (W.putObj D o) :=
 ⟨h.os,h.tape,h.output,by simpa[World.putObj] using h.size,fun k hk=>(World.putObj_heap_other aH).trans (h.block k hk)⟩
def yg{W:World}{B D:Nat}{o:Obj}{u:Value}(h:W.heap[D]?=some o)(hB:D≠B):(W.setCell ⟨B,0,none⟩ u).heap[D]?=some o:=(Below.heap_setCell _ _ _ _ (by show _≠B; omega)).trans h
def results165{W:World}{b:Nat}{v u:Value}{tmps:Array Value}(h2:tmps[2]?=some (.pointer (some ⟨b,0,none⟩)))(h3:tmps[3]?=some (.pointer (some ⟨b+1,0,none⟩)))(hv:Boxed W b 44 v)(hu:Boxed W (b+1) 43 u):(results f165 tmps).run Tryz.prog W = .ok (.tuple #[v,u]) W:=by
 have c0:=hv.cell;have c1:=hu.cell;simp[results,f165,go_sem,c0,c1,h2,h3]
def xn{F:Fence}{n:Nat}{P:Program}{fn:Func}{tmps:Array Value}{R:Ending->World->Prop}{D:Nat}{W W':World}{v:Value}(hD:(Instr.takeDeferred D).run P W = .ok [] W')(hv:(results fn tmps).run P W' = .ok v W')(hR:R (.returned v) W') :
  LeavesInM F n P fn tmps R [{ target := .collected D,args := #[] }] .returning W :=
 ⟨dw,.inl ⟨D,W',rfl,hD,⟨v,hv,hR⟩⟩⟩
set_option maxRecDepth 100000 in
set_option maxHeartbeats 2000000 in
def XW(n:Nat)(hn:6<=n)(s:Bytes)(ha:po s)(hs:s.length<=100000)(w:World) :
  CallsIn Fence.wide n Tryz.prog 165 #[.string (bs s)] w fun e W'=>∃v,e = .returned (.tuple #[v,.int .i64 (gG s).2])/\W'.ownsRow w.heap.size 9 1 v (gG s).1.length ((gG s).1.map Hj)/\Below w.heap.size w W':=by
 have h1:1<=n:=aH;obtain⟨i0,hi,hz0,hz1,hz2⟩:=info_parts amU;refine callsIn_of_wp_marks func165 rfl trivial ?_ rfl;simp only[ntmps165,db,au,az,Nat.reduceAdd,Nat.reduceSub,jQ,jR,lj,kf,aP,aG];have b0:=Boxed.new w 44 (.slice none 0 0);have b1:=Boxed.new (w.alloc (.cells #[.slice none 0 0] 44)) 43 (.int .i64 0);have b2:=Boxed.new ((w.alloc (.cells #[.slice none 0 0] 44)).alloc (.cells #[.int .i64 0] 43)) 44 (.slice none 0 0);have b3:=Boxed.new (((w.alloc (.cells #[.slice none 0 0] 44)).alloc (.cells #[.int .i64 0] 43)).alloc (.cells #[.slice none 0 0] 44)) 9 (.string (bs s));simp only[World.size_alloc] at b1 b2 b3;have hB2:Below w.heap.size w ((w.alloc (.cells #[.slice none 0 0] 44)).alloc (.cells #[.int .i64 0] 43)):=((Below.refl _ w).alloc (av _) _).alloc dw _;have hB4:=(hB2.alloc gr (.cells #[.slice none 0 0] 44)).alloc gr (.cells #[.string (bs s)] 9)
 by_cases hs47:s=[47]
 ·subst hs47;have ht:((bs [47]).toList==[47])=true:=by rw[vy]; rfl
  gi_wp2
  have c0:=(b0.alloc (.cells #[.int .i64 0] 43)).cell;have c1:=b1.cell;refine⟨.tuple #[.slice none 0 0,.int .i64 0],?_,_,rfl,World.ownsRow_nil _ _ _ _,hB2⟩;simp[results,f165,go_sem,c0,c1]
 have ht:((bs s).toList==[47])=false:=by rw[vy]; simpa using hs47
 gi_wp2
 refine⟨trivial,(QB _ s _).mono ?_⟩;rintro e w' ⟨rfl,rfl⟩
 gi_wp2
 obtain⟨W4,hW4⟩:∃W4,(((w.alloc (.cells #[.slice none 0 0] 44)).alloc (.cells #[.int .i64 0] 43)).alloc (.cells #[.slice none 0 0] 44)).alloc (.cells #[.string (bs s)] 9)=W4:=⟨_,rfl⟩;have hsz:W4.heap.size=w.heap.size+4:=by rw[<-hW4]; simp
 have e0:Boxed W4 w.heap.size 44 (.slice none 0 0):=by rw[<-hW4]; exact((b0.alloc _).alloc _).alloc _
 have e1:Boxed W4 (w.heap.size+1) 43 (.int .i64 0):=by rw[<-hW4]; exact(b1.alloc _).alloc _
 have e2:Boxed W4 (w.heap.size+2) 44 (.slice none 0 0):=by rw[<-hW4]; exact b2.alloc _
 rw[hW4] at b3 hB4 ⊢
 have hseq:Fw (w.heap.size+3) Fence.wide (n-1) Tryz.prog 274 #[.pointer (some ⟨w.heap.size+3,0,none⟩)] Zk (fun A B=>B.heap[w.heap.size+3]?=A.heap[w.heap.size+3]?) (fun xs=>xs.map (·.1)=nu s) (fun pre=>pre.map (·.1) <+: nu s) (nu s).length W4 :=
  fun l J Jx W hW hJ hJx hJc hY h0=>ZL (n-1) aH l _ _ s ha hs (av _) J Jx W hJ hJc hY ((hW.block _ aH).trans b3) h0
 refine yA (b0:=w.heap.size+3) aH rfl h1 (gf:=274) (lb := #[.pointer (some ⟨w.heap.size+3,0,none⟩)]) rfl trivial (enters_of func274 ft rfl) hseq
  (fun h k=>k.trans h) (fun W l o o' hl _ _ _=>World.putObj_heap_other aH) (Below.refl _ _) (fun _=>rfl)
  (Fc w) (G5 w) (by rw[hsz]; exact Fc.own) (fun c=>by rw[hsz]; exact G5.own c) Fc.cell
  ⟨⟨rfl,dw⟩,e0,e1,⟨_,e2,World.ownsRow_nil _ _ _ _⟩,hB4,aH⟩
  (fun x=>{ tmps := #[.string (bs s),undef,.pointer (some ⟨w.heap.size,0,none⟩),.pointer (some ⟨w.heap.size+1,0,none⟩),.pointer (some ⟨w.heap.size+1+1,0,none⟩),.string (bs x.1.1),.bool x.1.2,.string (bs s),.bool false,.string (bs s),.func (.func 274) #[] #[.pointer (some ⟨w.heap.size+1+1+1,0,none⟩)],.string (bs x.1.1),.bool x.1.2,
   undef,undef,undef,undef,undef,undef,undef,undef,undef,undef,undef,undef,undef,undef,undef,undef,undef,undef,undef,undef],defers:=[] }) ?assign ?body ?done ?stop
 case assign =>
  intro l x W K hK
  gi_wp2
  exact hK
 case body =>
  rintro l pre ⟨⟨nm,ok⟩,hxa,hxl⟩ W hInv cQ;obtain⟨v,hv,hrow⟩:=hInv.row;have hc0:=hInv.r0.cell;have hf0:=hInv.r0.frozen;have hc1:=hInv.r1.cell;have hf1:=hInv.r1.frozen;cases ok with
  |false =>
   gi_wp2
   refine⟨trivial,?_⟩
   gi_wp2
   exact G5.made hInv.r0 hInv.r1 hInv.below (AR hInv.Hn (by simp[Fe]))
  |true =>
   gi_wp2
   refine⟨trivial,fun h=>(by cases h),(CallsIn.inRound l (callsIn_wide.2 (XC nm hxl hxa W))).mono ?_⟩
   rintro e W5 ⟨rfl,hg5⟩;have hInv5:Fc w pre W5:=Fc.own pre W W5 none hInv hg5 (fun r e=>by cases e)
   have hK5:KeepsOthers W W5:=KeepsOthers.of_grownBy hg5 (fun j o e=>by cases e)
   clear hc0 hf0 hc1 hf1 hrow hv v;obtain⟨v,hv,hrow⟩:=hInv5.row;have hc0:=hInv5.r0.cell;have hf0:=hInv5.r0.frozen;have hc1:=hInv5.r1.cell;have hf1:=hInv5.r1.frozen;have hc2:W5.cell? ⟨w.heap.size+1+1,0,none⟩=some v:=hv.cell;have hf2:W5.frozen? ⟨w.heap.size+1+1,0,none⟩=false:=hv.frozen;cases hnm:fX nm with
   |false =>
    gi_wp2
    have:=G5.made hInv5.r0 hInv5.r1 hInv5.below (AR (x:=⟨(nm,true),hxa,hxl⟩) hInv5.Hn (by simp[Fe,hnm]))
    exact⟨hK5.trans this.1,this.2⟩
   |true =>
    obtain⟨p,cap,rfl⟩:=BH hrow
    by_cases hl:pre.length=12
    ·have hl':((pre.length:Int)==12)=true:=by simp[hl]
     gi_wp2
     have:=G5.made hInv5.r0 hInv5.r1 hInv5.below (AR (x:=⟨(nm,true),hxa,hxl⟩) hInv5.Hn (by simp[Fe,hnm,hl]))
     exact⟨hK5.trans this.1,this.2⟩
    ·have hl':((pre.length:Int)==12)=false:=gr
     gi_wp2_with (gi_at_builtin; generalize hX:wpListIn _ _ _ _ _ _ _ _=X)
     subst hX;refine wpListIn_append_own _ rfl _ _ 44 rfl (w.heap.size+4) 9 i0 (.string ⟨#[]⟩) 1 16 underlying44 hi hz0 hz1 hz2 rfl mw _ _ _ rfl (hrow.alloc _) ⟨W5.heap.size,0,none⟩ 1 1 [Hj nm] rfl rfl (cell_one_new _ _ _) (by simp[Value.oneCell']) (by have:=hInv5.Hn.2; simp[maxLen]; omega) (by have:=hInv5.Hn.2; omega) (by have:=hv.lt; simp; omega) ?_
     intro v' w1 hown' hgrow hiff;obtain⟨q0,q1,q2,q3,q4,q5,q6,q7,q8⟩:=appended hv hrow hown' hgrow;have hc2':w1.cell? ⟨w.heap.size+1+1,0,none⟩=some (.slice p pre.length cap):=q0.cell;have hf2':w1.frozen? ⟨w.heap.size+1+1,0,none⟩=false:=q0.frozen;obtain⟨p',cap',rfl⟩:=BH hown'
     gi_wp2
     refine⟨hK5.trans q3,(q8 _ aH (by have:=hInv5.sz; omega) aH).trans (hg5.block _ (by have:=hInv.sz; omega) dw),?_⟩
     refine⟨LS hInv5.Hn (by simp[Fe,hnm,hl]),(q8 _ aH hInv5.r0.lt aH).trans hInv5.r0,(q8 _ aH hInv5.r1.lt aH).trans hInv5.r1,⟨_,q1,by simpa using q2⟩,?_,aY hInv5.sz q7⟩
     exact hInv5.below.trans ⟨q4,q5,q6,q7,fun q hq=>q8 q aH (by have:=hInv5.below.size; omega) aH⟩
 case done =>
  rintro D ys W hD hys hInv hK;obtain⟨v,hv,hrow⟩:=hInv.row;have hc0:=hInv.r0.cell;have hf0:=hInv.r0.frozen;have hc1:=hInv.r1.cell;have hf1:=hInv.r1.frozen;have hc2:W.cell? ⟨w.heap.size+1+1,0,none⟩=some v:=hv.cell;have hf2:W.frozen? ⟨w.heap.size+1+1,0,none⟩=false:=hv.frozen;obtain⟨p,cap,rfl⟩:=BH hrow
  by_cases hl:ys.length=0
  ·have hl':((ys.length:Int)==0)=true:=by simp[hl]
   have hy:ys=[]:=dU.1 hl
   have hsp:gG s=([],60):=by
    rw[hy] at hys;simp[gG,hs47,<-hys,qM]
   gi_wp2
   have hm:=yg (u := .int .i64 60) (yg (u := .slice none 0 0) hK (B:=w.heap.size) aH) (B:=w.heap.size+1) aH;have k0:Boxed ((W.setCell ⟨w.heap.size,0,none⟩ (.slice none 0 0)).setCell ⟨w.heap.size+1,0,none⟩ (.int .i64 60)) w.heap.size 44 (.slice none 0 0):=(hInv.r0.set _).other aH _;have k1:Boxed ((W.setCell ⟨w.heap.size,0,none⟩ (.slice none 0 0)).setCell ⟨w.heap.size+1,0,none⟩ (.int .i64 60)) (w.heap.size+1) 43 (.int .i64 60):=(hInv.r1.other aH _).set _;refine xn (run_takeDeferred hm) (results165 rfl rfl (tK k0 hm) (tK k1 hm)) ⟨_,rfl,World.ownsRow_nil _ _ _ _,AV ((hInv.below.setCell (p:=⟨w.heap.size,0,none⟩) (av _) _).setCell (p:=⟨w.heap.size+1,0,none⟩) dw _) aH⟩
  ·have hl':((ys.length:Int)==0)=false:=by rw[jm]; omega
   have hsp:gG s=(ys.map (·.1.1),0):=by
    have h0:=hInv.Hn.1;rw[hys] at h0;cases ys with
    |nil=>simp at hl
    |cons y ys=>simp[gG,hs47,h0]
   gi_wp2
   have hm:=yg (u := .int .i64 0) (yg (u := .slice p ys.length cap) hK (B:=w.heap.size) aH) (B:=w.heap.size+1) aH;have k0:Boxed ((W.setCell ⟨w.heap.size,0,none⟩ (.slice p ys.length cap)).setCell ⟨w.heap.size+1,0,none⟩ (.int .i64 0)) w.heap.size 44 (.slice p ys.length cap):=(hInv.r0.set _).other aH _;have k1:Boxed ((W.setCell ⟨w.heap.size,0,none⟩ (.slice p ys.length cap)).setCell ⟨w.heap.size+1,0,none⟩ (.int .i64 0)) (w.heap.size+1) 43 (.int .i64 0):=(hInv.r1.other aH _).set _;refine xn (run_takeDeferred hm) (results165 rfl rfl (tK k0 hm) (tK k1 hm)) ⟨_,rfl,?_,AV ((hInv.below.setCell (p:=⟨w.heap.size,0,none⟩) (av _) _).setCell (p:=⟨w.heap.size+1,0,none⟩) dw _) aH⟩;have:=abT (Ke (Ke hrow (by omega:w.heap.size<_) (.slice p ys.length cap)) (by omega:w.heap.size+1<_) (.int .i64 0)) (by omega:w.heap.size<=_) hm (o := .deferred none)
   simpa[Function.comp_def] using this
 case stop =>
  rintro D c pre W hD hpre hOut hK;obtain rfl:=hOut.ret;have hsp:gG s=([],60):=by simp[gG,hs47,QJ hpre hOut.bad]
  gi_wp2
  refine xn (run_takeDeferred hK) (results165 rfl rfl (tK hOut.r0 hK) (tK hOut.r1 hK)) ⟨_,rfl,World.ownsRow_nil _ _ _ _,AV hOut.below aH⟩
def XV(s:Bytes)(ha:po s)(hs:s.length<=100000)(w:World) :
  Calls Tryz.prog 165 #[.string (bs s)] w fun e W'=>∃v,e = .returned (.tuple #[v,.int .i64 (gG s).2])/\W'.ownsRow w.heap.size 9 1 v (gG s).1.length ((gG s).1.map Hj)/\Below w.heap.size w W' :=
 callsIn_wide.1 (XW 6 aH s ha hs w)
end
end
instance (s:Bytes):Decidable (po s):=inferInstanceAs (Decidable True)
def Ez:List ag->aC->Option (ag×aC)
 | [.str s],M=>if po s/\s.length<=100000 then some (.tuple [.slice .sh ((gG s).1.map .str),.int .i64 (gG s).2],M) else none
 |_,_=>none
def QK{args:List ag}{M:aC}{x:ag×aC}(h:Ez args M=some x):dp Tryz.prog 165 args M x:=by
 unfold Ez at h;split at h
 ·rename_i s;split at h
  ·rename_i hs;cases h;refine nN.call ?_;intro j w vs hr hG hl hv;obtain⟨u,rfl⟩:=C7 hl;have h1:=(hv 0 _ u rfl rfl).kH;subst h1;refine(XV s hs.1 hs.2 w).mono ?_;rintro e w' ⟨v,rfl,⟨dN,hown⟩,hb⟩;refine⟨_,j,rfl,hr.grow hb.size hb.os hb.tape hb.output hb.block,Ext.grow hb.size hb.os hb.tape hb.output hb.block,.tuple rfl ?_⟩;intro i c v' hi hv'
   match i with
   |0 =>
    cases hi; cases hv';refine .plain ?_;rcases hown with ⟨rfl,h0⟩|⟨g,cap,cur,rfl,hg,hg',hn1,_,hcs,htk⟩
    ·rw[dU.1 h0];exact fP.nil _ _ _
    ·refine .slice _ _ _ _ g 0 1 (fun k=>Hj ((gG s).1.getD k [])) dw (by simpa using hn1) (fun _=>rfl) ?_ ?_ ?_
     ·intro x hx;obtain⟨b,_,rfl⟩:=eJ.1 hx;rfl
     ·intro i x k c hx hc;rw[aX] at hx;obtain⟨b,hb',rfl⟩:=aU.1 hx
      match k with
      |0 =>
       have hi:i<(gG s).1.length:=(aj.1 hb').1;refine⟨?_,?_,?_,?_⟩
       ·have h1:cur.toList[i]?=some (Hj b):=by
         have:(cur.toList.take ((gG s).1.length*1))[i]?=some (Hj b):=by rw[htk,aX,hb']; rfl
         rwa[bG aH] at this
        have h2:cur[i]?=some (Hj b):=by simpa using h1
        have h3:(gG s).1.getD i []=b:=by simp[List.getD,hb']
        simp only[pQ,dj,aI];rw[h3];simp[World.cell?,hg',h2]
       ·exact lt_of_block hg'
       ·intro id hid hji;have:=hr.lt id g hid hji; omega
       ·intro hx; have:=hr.zz g _ hx; omega
      |k+1=>cases hc
     ·intro i x k c hx hc;rw[aX] at hx;obtain⟨b,hb',rfl⟩:=aU.1 hx
      match k with
      |0 =>
       cases hc;have h3:(gG s).1.getD i []=b:=by simp[List.getD,hb']
       simp only[pQ,dj];rw[h3];exact .str _
      |k+1=>cases hc
   |1=>cases hi; cases hv'; exact .plain (.int _ _)
   |i+2=>cases hi
  ·cases h
 ·cases h
section
attribute [local irreducible] eS fI lx gK dZ kr aq aR cu bJ
def rM:∀a:Bytes,strLt a a=false
 | []=>rfl
 |a::x=>by simp[strLt,rM x,oT]
def xM:∀ {a b c:Bytes},strLt a b=true->strLt b c=true->strLt a c=true
 | [],b,[],_,h2=>by cases b<;>simp[strLt] at h2
 | [],_,_::_,_,_=>rfl
 |_::_,[],_,h1,_=>by simp[strLt] at h1
 |_::_,_::_,[],_,h2=>by simp[strLt] at h2
 |a::x,b::y,c::z,h1,h2=>by
  simp only[strLt,dh,bz,bh,eH] at h1 h2 ⊢;simp only[kY] at h1 h2 ⊢;rcases h1 with h1|⟨h1,h1'⟩
  ·rcases h2 with h2|⟨h2,_⟩
   ·left; omega
   ·left; rw[<-h2]; exact h1
  ·rcases h2 with h2|⟨h2,h2'⟩
   ·left; rw[h1]; exact h2
   ·right; exact⟨h1.trans h2,xM h1' h2'⟩
def su{l:List gN}(h:ri l)(s:Bytes):OT l s (mq l s):=by
 unfold mq;induction l with
 |nil=>exact⟨dw,fun h n hn=>by simp at hn⟩
 |cons a r ih =>
  obtain⟨h1,h2⟩:=du.1 h;obtain⟨i1,i2⟩:=ih h2
  by_cases ha:strLt a.name s=true
  ·rw[iu,aZ ha];refine⟨by simpa using i1,fun k n hn=>?_⟩
   cases k with
   |zero=>simp at hn; subst hn; simp[ha]
   |succ k=>rw[i2 k n (by simpa using hn)]; simp
  ·rw[iu,aQ ha];refine⟨dw,fun k n hn=>?_⟩
   simp only[az,jL,iff_false];cases k with
   |zero=>simp at hn; subst hn; exact ha
   |succ k=>exact fun hc=>ha (xM (h1 n (aJ (by simpa using hn))) hc)
def j6{l:List gN}{s:Bytes}{e:gN}(h:gw l s=some e):e∈l/\e.name=s:=by
 unfold gw at h;exact⟨iz h,by simpa using List.find?_some h⟩
def xa{l:List gN}(h:ri l)(s:Bytes):(z7 l s (mq l s)=true/\∃n,l[mq l s]?=some n/\gw l s=some n/\n.name=s)\/(z7 l s (mq l s)=false/\gw l s=none):=by
 obtain⟨l1,l2⟩:=su h s;cases hf:gw l s with
 |some n =>
  left;obtain⟨hm,he⟩:=j6 hf;obtain⟨k,hk⟩:=bV hm;have hkb:¬k<mq l s:=fun hc=>by have:=(l2 k n hk).2 hc; rw[he,rM] at this; cases this
  have hb:mq l s<l.length:=by have:=(aj.1 hk).1; omega
  have hx:=ai hb;have hnl:¬strLt l[mq l s].name s=true:=fun hc=>ia _ ((l2 _ _ hx).1 hc)
  have hke:k=mq l s:=by
   rcases bA (mq l s) k with cQ|hge
   ·have hkl:=(aj.1 hk).1;have h3:=cn.1 h _ _ hb hkl cQ;have h4:l[k]=n:=by rw[ai hkl] at hk; injection hk
    rw[h4,he] at h3;exact absurd h3 hnl
   ·omega
  subst hke;exact⟨by unfold z7; rw[hk]; simp[he],n,hk,rfl,he⟩
 |none =>
  right;refine⟨?_,rfl⟩;unfold z7;split
  ·rename_i n hn;have:=fy.1 hf n (aJ hn);simpa using this
  ·rfl
structure rU(t:Tree):Prop where
 ml:o6 t.ae
 bc:∀n,n∈t.ae->ri n.bc
def rU.dir{t:Tree}(h:rU t)(ar:Int):ri (gW t.ae ar).1.bc:=by
 unfold gW;split
 ·exact List.Pairwise.nil
 ·rename_i n hn;split
  ·exact h.bc n (cJ hn).1
  ·exact List.Pairwise.nil
def aq1(t:Tree)(ar:Int)(s:Bytes)(ht:Small t)(hr:rU t)(hs:s.length<=100000)(ha:po s):aq bX 151 [br t,aD ar,.str s] []=some (.tuple [aD (fg t.ae ar s).1,aD (fg t.ae ar s).2],[]):=by
 obtain⟨ae,next,ak⟩:=t
 have hn:ae.length<=100000:=ht.ae;have hd:(gW ae ar).1.bc.length<=100000:=tM ht ar;have hE:ri (gW ae ar).1.bc:=hr.dir ar;have hk:=fun b M=>ZQ ae next ak ar hr.ml hn 1 (b :: cF [ba ae,aD next,aD ak]::M) rfl
 refine aB ?_;simp only[ac5,KK,br,aM,hk,bL,aL,EN,seval];unfold fg;refine bB (fun hb=>?_) (fun hb=>?_)
 ·simp only[KK,EN,seval];clear hk;simp_all
 ·simp only[KK,agh,hs,ha,EN,seval];refine bB (fun hb'=>?_) (fun hb'=>?_)
  ·simp only[KK,EN,seval];clear hk;simp_all
  ·have hk2:=fun a b c d u M=>Tx a b c d (gW ae ar).1.bc u s _ (su hE s) hd M
   simp only[KK,hk2,EN,seval];rcases xa hE s with ⟨h1,e,h2,h3,_⟩|⟨h1,h2⟩
   ·simp only[KK,h1,h2,gj,EN,seval];clear hk hk2;simp_all
   ·simp only[KK,h1,EN,seval];clear hk hk2;simp_all
def ZO(ae:List Node)(next ak ar:Int)(s:Bytes)(ht:Small ⟨ae,next,ak⟩)(hr:rU ⟨ae,next,ak⟩)(hs:s.length<=100000)(ha:po s)(M:aC):aR (aq bX) 151 [.agg [ba ae,aD next,aD ak],aD ar,.str s] M =
  some (.tuple [aD (fg ae ar s).1,aD (fg ae ar s).2],M):=cO (aq1 ⟨ae,next,ak⟩ ar s ht hr hs ha) M
def arF(t:Tree)(ar:Int)(ht:Small t)(hr:rU t):aq bX 191 [br t,aD ar] []=some (.tuple [bL (bl t.ae ar),.bool (find t.ae ar).isSome],[]):=by
 obtain⟨ae,next,ak⟩:=t
 have hn:ae.length<=100000:=ht.ae;have hk:=fun b c M=>Fm ae next ak ar hr.ml hn 2 (b::c :: cF [ba ae,aD next,aD ak]::M) rfl
 refine aB ?_;simp only[adp,aps,br,aM,hk,bL,aL,EN,seval]
abbrev mS(n:Int):ag := .int .i64 n
def uG(l:List Int):wid (l.map mS) 1=True:=by
 simp only[fT,jx];intro x hx;obtain⟨n,_,rfl⟩:=eJ.1 hx;rfl
def uE(ae:List Node):Nat->Int->List Int->List Int
 |0,_,out=>out
 |m+1,ar,out=>if ar != 1 then (if !(find ae ar).isSome||(bl ae ar).kind != 2 then out else uE ae m (bl ae ar).up (out++[(bl ae ar).up])) else out
def uL(ae:List Node)(ar:Int):List Int:=uE ae ae.length ar [ar]
def aaZ{ae:List Node}{next ak:Int}(h:o6 ae)(hn:ae.length<=100000){k:List K}{R:List Int->Option (ag×aC)}
  (hx:∀(out:List Int) v q,kr (aq bX) [.tmp 4] 1 k ⟨.exit 0,[(0,cC 0),(1,v),(5,.slice (.own 1) (out.map mS)),(22,q)],[cF [ba ae,aD next,aD ak],.tick 1 out.length]⟩=R out)
  (hr:∀(out:List Int) b,kr (aq bX) [.tmp 4] 1 k ⟨.ret,[(4,.slice (.own 1) (out.map mS))],[cF [ba ae,aD next,aD ak],.tick 1 out.length,b]⟩=R out) :
  ∀(m:Nat)(ar:Int)(out:List Int),out.length+m=ae.length+1->eS (aq bX) [.tmp 4] 1 k (.loop [0,1,5] aay) [(0,cC 0),(1,aD ar),(5,.slice (.own 1) (out.map mS))] [cF [ba ae,aD next,aD ak],.tick 1 out.length]=R (uE ae m ar out):=by
 intro m;induction m with
 |zero =>
  intro ar out ho;rw[bI];have hd':((out.length:Int)<=(ae.length:Int))=False:=gr;simp only[CJ,EN,seval]
  repeat' ((first|apply bB|apply bW|apply dM)<;>intro hb<;>simp only[hb,EN,CJ,hd',seval])
  all_goals exact hx _ _ _
 |succ m ih =>
  intro ar out ho;rw[bI];have hd':((out.length:Int)<=(ae.length:Int))=True:=gr;have r1:cB (out.length+1) 8=True:=qV;have hk:=fun M=>Fm ae next ak ar h hn 0 (cF [ba ae,aD next,aD ak]::M) rfl
  have hi:=ih (bl ae ar).up (out++[(bl ae ar).up]) gr;simp only[aW,aK,aV,aA,au,az,aI] at hi;rw[uE];simp only[CJ,EN,seval];refine bW (fun hb=>?_) (fun hb=>?_)
  ·simp only[CJ,hb,hd',hk,bL,aL,EN,seval];refine bW (fun hb1=>?_) (fun hb1=>?_)
   ·simp only[CJ,hb1,EN,seval];refine bB (fun hb2=>?_) (fun hb2=>?_)
    ·simp only[CJ,hb2,hb1,eu,c8,EN,seval];exact hr _ _
    ·simp only[CJ,hb2,hb1,r1,uG,fF,af,EN,seval];exact hi
   ·simp only[CJ,hb1,dL,EN,seval];exact hr _ _
  ·simp only[CJ,hb,af,EN,seval];exact hx _ _ _
def arK(ae:List Node)(next ak ar:Int)(h:o6 ae)(hn:ae.length<=100000):aq bX 200 [cC 0,aD ar] [cF [ba ae,aD next,aD ak]] =
  some (gv ((uL ae ar).map mS),[cF [ba ae,aD next,aD ak]]):=by
 refine aB ?_;simp only[SU,CJ,EN,seval];exact aaZ (R:=fun out=>some (gv (out.map mS),[cF [ba ae,aD next,aD ak]])) h hn (fun out v q=>by simp only[CJ,EN,seval]) (fun out b=>by simp only[CJ,EN,seval]) ae.length ar [ar] gr
def agi ae next ak ar h hn p M hM:=cM (p:=p) (M:=M) hM (arK ae next ak ar h hn)
def yt(ae:List Node):∀(m:Nat)(ar:Int)(out:List Int),out.length<=(uE ae m ar out).length/\(uE ae m ar out).length<=out.length+m
 |0,_,out=>⟨av _,av _⟩
 |m+1,ar,out=>by
  rw[uE];split
  ·split
   ·exact⟨av _,aH⟩
   ·have:=yt ae m (bl ae ar).up (out++[(bl ae ar).up]);simp at this;omega
  ·exact⟨av _,aH⟩
def uF(ae:List Node)(ar:Int):1<=(uL ae ar).length/\(uL ae ar).length<=ae.length+1:=by
 have:=yt ae ae.length ar [ar];simp at this;unfold uL;omega
def asa(ae:List Node)(next ak ar:Int)(h:o6 ae)(hn:ae.length<=100000):aq bX 239 [cC 0,aD ar] [cF [ba ae,aD next,aD ak]] =
  some (aD (((uL ae ar).length-1:Nat):Int),[cF [ba ae,aD next,aD ak]]):=by
 refine aB ?_;have hk:=fun M=>agi ae next ak ar h hn 0 (cF [ba ae,aD next,aD ak]::M) rfl
 have hl:=uF ae ar;have hw:IntKind.i64.wrap (((uL ae ar).length:Int)-1)=(((uL ae ar).length-1:Nat):Int):=by rw[gx aH aH]; omega
 simp only[adS,apG,hk,hw,EN,seval]
def anp ae next ak ar h hn p M hM:=cM (p:=p) (M:=M) hM (asa ae next ak ar h hn)
def BW(n:Node)(rest:List Node):∀(pre out:List Node),(∀m,m∈pre->m.ar<n.ar)->oz n (pre++rest) out false=oz n rest (out++pre) false
 | [],out,_=>dw
 |m::r,out,h=>by
  have hm:=h m (bD ..);have h1:¬n.ar<=m.ar:=aH;have h2:¬m.ar=n.ar:=aH;rw[aG,oz];simp only[p8,h1,h2,decide_false,dR,fF,af,aE];rw[BW n rest r _ fun x hx=>h x (bu _ hx)]
  simp
def zy(n:Node):∀(rest out:List Node),(∀m,m∈rest->n.ar<m.ar)->oz n rest out true=(out++rest,true)
 | [],out,_=>by simp[oz]
 |m::r,out,h=>by
  have hm:=h m (bD ..);have h2:¬m.ar=n.ar:=aH;rw[oz];simp only[cv,cK,h2,dL,af,aE];rw[zy n r _ fun x hx=>h x (bu _ hx)]
  simp
def vV{ae:List Node}{ar:Int}{b:Nat}(h:YJ ae ar b):∀m,m∈ae.take b->m.ar<ar:=fun m hm=>by
 obtain⟨k,hk⟩:=bV hm;rw[fz] at hk;split at hk
 ·rename_i cQ; exact(h.lt k m hk).2 cQ
 ·cases hk
def FO{ae:List Node}{ar:Int}{b:Nat}(h:YJ ae ar b):∀m,m∈ae.drop b->ar<=m.ar:=fun m hm=>by
 obtain⟨k,hk⟩:=bV hm;rw[cS] at hk;have:=h.lt _ m hk;have hn:¬b+k<b:=aH;have:=fun hc=>hn (this.1 hc)
 omega
def yu{ae:List Node}(h:o6 ae){n:Node}(hf:find ae n.ar=none):eT ae n=ae.take (mh ae n.ar)++n::ae.drop (mh ae n.ar):=by
 have hl:=uZ h n.ar
 have hd:∀m,m∈ae.drop (mh ae n.ar)->n.ar<m.ar:=fun m hm=>by
  have h1:=FO hl m hm;have h2:=fy.1 hf m (dA hm);have:¬m.ar=n.ar:=by simpa using h2
  omega
 unfold eT;rw[show oz n ae [] false=oz n (ae.take (mh ae n.ar)++ae.drop (mh ae n.ar)) [] false by rw[cH]]
 rw[BW n _ _ _ (vV hl)];generalize ae.drop (mh ae n.ar)=rest at hd;cases rest with
 |nil=>simp[oz]
 |cons m r =>
  have hm:=hd m (bD ..);have h1:n.ar<=m.ar:=aH;have h2:¬m.ar=n.ar:=aH;rw[oz];simp only[p8,h1,h2,decide_true,dH,gd,eu,aF,aE];rw[zy n r _ fun x hx=>hd x (bu _ hx)]
  simp
def tX{ae:List Node}(h:o6 ae){n o:Node}(ho:ae[mh ae n.ar]?=some o)(he:o.ar=n.ar):eT ae n=ae.set (mh ae n.ar) n:=by
 have hl:=uZ h n.ar;have cQ:=(aj.1 ho).1
 have hdr:ae.drop (mh ae n.ar)=o::ae.drop (mh ae n.ar+1):=by
  rw[cL cQ];rw[ai cQ] at ho; injection ho with ho; rw[ho]
 have hd:∀m,m∈ae.drop (mh ae n.ar+1)->n.ar<m.ar:=fun m hm=>by
  obtain⟨k,hk⟩:=bV hm;rw[cS] at hk;have hkl:=(aj.1 hk).1;have h3:=cn.1 h _ _ cQ hkl aH;have h4:ae[mh ae n.ar+1+k]=m:=by rw[ai hkl] at hk; injection hk
  have h5:ae[mh ae n.ar]=o:=by rw[ai cQ] at ho; injection ho
  rw[h4,h5] at h3;omega
 unfold eT;rw[show oz n ae [] false=oz n (ae.take (mh ae n.ar)++ae.drop (mh ae n.ar)) [] false by rw[cH]]
 rw[BW n _ _ _ (vV hl),hdr,oz];simp only[p8,he,dS,decide_true,dH,gd,eu,aF,dz];rw[zy n _ _ hd,ju,aZ cQ];simp
def p85{ae:List Node}(h0:ae≠[])(hn:ae.length<=100000)(M:aC):aq bX 241 [ba ae] M=some (.cE M.length 0 6 0 ae.length,M++[.arr 6 0 (ae.map bL)]):=by
 refine eP (g:=mO 6 80) rfl ?_;obtain⟨a,r,rfl⟩:=fi h0;have hw:wid ((a::r).map bL) 6:=by have:=GP (a::r); simpa using this
 have hr:cB ((a::r).map bL).length 80:=by have:=tG (a:=(a::r).length) (b:=80) aH aH; simpa using this
 unfold mO;simp only[aK] at hw hr ⊢;rw[fh ⟨hw,hr⟩];simp
def p86{ae:List Node}{b:Nat}(hb:b<=ae.length)(hn:ae.length<=100000)(n:Node)(c0 c1:cV) :
  aq bX 242 [.cE 2 0 6 0 ae.length,aD b,gv [.agg (aL n)]] [c0,c1,.arr 6 0 (ae.map bL)]=some (.cE 2 1 6 0 (ae.length+1),[c0,c1,.arr 6 1 ((ae.take b++n::ae.drop b).map bL)]):=by
 refine eP (g:=lf 6 80) rfl ?_;have hr:cB ((ae.map bL).length+1) 80:=by have:=tG (a:=ae.length+1) (b:=80) aH aH; simpa using this
 unfold lf;simp only[nth];rw[fh ⟨trivial,trivial,trivial,dw,aH,by simpa using hb,rfl,hr⟩]
 simp[jo,bL]
def XK(ae:List Node)(b:Nat)(o n:Node)(h:ae[b]?=some o):(jo (ae.map bL) b (putCells (bL o) 0 (aL n)))=(ae.set b n).map bL:=by
 have:putCells (bL o) 0 (aL n)=bL n:=rfl;rw[this,fH,jg]
def ary(ae:List Node)(next ak:Int)(n:Node)(h:o6 ae)(h0:ae≠[])(hn:ae.length<=100000):aq bX 182 [cC 0,bL n] [cF [ba ae,aD next,aD ak]] =
  some (.tuple [],[cF [ba (eT ae n),aD next,aD ak]]):=by
 refine aB ?_;have hk:=fun M=>agk ae next ak n.ar h hn 0 (cF [ba ae,aD next,aD ak]::M) rfl
 have hp:=fun M=>p85 h0 hn M
 have hle:=(uZ h n.ar).le;simp only[SN,aeM,bL,aL,hk,hp,EN,seval];rcases tw h n.ar with ⟨h1,o,h2,h3,h4⟩|⟨h1,h2⟩
 ·have cQ:((mh ae n.ar:Int)<(ae.length:Int))=True:=by have:=(aj.1 h2).1; simp; omega
  simp only[aeM,h1,h2,cQ,bO,gm,da,EN,seval];have e:=XK ae _ o n h2;simp only[aL] at e;rw[e,tX h h2 h4,bt dw]
 ·have hi:=fun c0 c1=>p86 hle hn n c0 c1
  simp only[aL] at hi;simp only[aeM,h1,hi,gm,da,EN,seval];rw[yu h h2,bt gr]
def LZ(ae:List Node)(next ak a b c:Int)(d:Bytes)(e:List gN)(u:Int)(h:o6 ae)(h0:ae≠[])(hn:ae.length<=100000)(p:Nat)(M:aC)(hM:nth M p=some (cF [ba ae,aD next,aD ak])) :
  aR (aq bX) 182 [cC p,.agg [aD a,aD b,aD c,df d,ja e,aD u]] M=some (.tuple [],jo M p (cF [ba (eT ae ⟨a,b,c,d,e,u⟩),aD next,aD ak])) :=
 tx hM (ary ae next ak ⟨a,b,c,d,e,u⟩ h h0 hn) rfl rfl rfl rfl rfl rfl rfl rfl rfl rfl
def FZ:(∀M cs,ag.rz M (.agg cs) = .agg (cs.map (ag.oZ M)))/\(∀M i o,ag.rz M (.ptr i o) = .ptr i o)/\(∀M k n,ag.rz M (.int k n) = .int k n)/\(∀M s,ag.rz M (.str s) = .str s) /\
  (∀M k n,ag.oZ M (.int k n) = .int k n)/\(∀M s,ag.oZ M (.str s) = .str s)/\(∀M tk xs,ag.oZ M (.slice tk xs) = .slice tk xs)/\(∀M b,ag.oZ M (.bool b) = .bool b) /\
  (∀M id ver sz lo hi,ag.oZ M (.cE id ver sz lo hi)=match nth M id with
   |some (.arr _ v xs)=>if v=ver then gv ((xs.take hi).drop lo) else .any
   |_ => .any)/\(∀i a b c d,ag.nG (.cE i a b c d)=[i]):=by
 refine⟨?_,?_,?_,?_,?_,?_,?_,?_,?_,?_⟩<;>intros<;>rfl
def AI{ae:List Node}(h:o6 ae){ar:Int}{o:Node}(ho:ae[mh ae ar]?=some o)(he:o.ar=ar):fS ae ar=ae.take (mh ae ar)++ae.drop (mh ae ar+1):=by
 have hl:=uZ h ar;have cQ:=(aj.1 ho).1
 have hd:∀m,m∈ae.drop (mh ae ar+1)->ar<m.ar:=fun m hm=>by
  obtain⟨k,hk⟩:=bV hm;rw[cS] at hk;have hkl:=(aj.1 hk).1;have h3:=cn.1 h _ _ cQ hkl aH;have h4:ae[mh ae ar+1+k]=m:=by rw[ai hkl] at hk; injection hk
  have h5:ae[mh ae ar]=o:=by rw[ai cQ] at ho; injection ho
  rw[h4,h5] at h3;omega
 have hdr:ae.drop (mh ae ar)=o::ae.drop (mh ae ar+1):=by
  rw[cL cQ];rw[ai cQ] at ho; injection ho with ho; rw[ho]
 unfold fS;rw[show ae.filter (fun n=>n.ar != ar)=(ae.take (mh ae ar)++ae.drop (mh ae ar)).filter (fun n=>n.ar != ar) by rw[cH]]
 rw[kI,hdr,fq];simp only[he,aw,af,aE];rw[jj.2 fun m hm=>by have:=vV hl m hm; simp; omega,jj.2 fun m hm=>by have:=hd m hm; simp; omega]
def yP{ae:List Node}{ar:Int}(hf:find ae ar=none):fS ae ar=ae :=
 jj.2 fun m hm=>by simpa using fy.1 hf m hm
def auQ{ae:List Node}{b:Nat}(hb:b<ae.length)(hn:ae.length<=100000)(c0:cV) :
  aq bX 283 [.cE 1 0 6 0 ae.length,aD b,aD ((b+1:Nat):Int)] [c0,.arr 6 0 (ae.map bL)]=some (.cE 1 1 6 0 (ae.length-1),[c0,.arr 6 1 ((ae.take b++ae.drop (b+1)).map bL)]):=by
 refine eP (g:=lJ 6) rfl ?_;unfold lJ;simp only[nth];rw[fh ⟨trivial,trivial,trivial,dw,aH,by simpa using hb,aH,gr⟩]
 simp[jo]
def asd(ae:List Node)(next ak ar:Int)(h:o6 ae)(hn:ae.length<=100000):aq bX 244 [cC 0,aD ar] [cF [ba ae,aD next,aD ak]] =
  some (.tuple [],[cF [ba (fS ae ar),aD next,aD ak]]):=by
 refine aB ?_;have hk:=fun M=>agk ae next ak ar h hn 0 (cF [ba ae,aD next,aD ak]::M) rfl
 simp only[SZ,aeT,hk,EN,seval];rcases tw h ar with ⟨h1,o,h2,h3,h4⟩|⟨h1,h2⟩
 ·have cQ:=(aj.1 h2).1;have h0:ae≠[]:=by rintro rfl; simp at h2
  have hp:=fun M=>p85 h0 hn M
  have hd:=fun c0=>auQ cQ hn c0
  have hw:IntKind.i64.wrap ((mh ae ar:Int)+1)=((mh ae ar+1:Nat):Int):=by rw[gx aH aH]; rfl
  simp only[aeT,h1,hp,hd,hw,gm,da,EN,seval];rw[AI h h2 h4,bt gr]
 ·simp only[aeT,h1,EN,seval];rw[yP h2]
def anq(ae:List Node)(next ak ar:Int)(h:o6 ae)(hn:ae.length<=100000)(p:Nat)(M:aC)(hM:nth M p=some (cF [ba ae,aD next,aD ak])) :
  aR (aq bX) 244 [cC p,aD ar] M=some (.tuple [],jo M p (cF [ba (fS ae ar),aD next,aD ak])) :=
 tx hM (asd ae next ak ar h hn) rfl rfl rfl rfl rfl rfl rfl rfl rfl rfl
def MF{a b:Bytes}(h:strLt a b=true):strLt b a=false:=by
 cases hb:strLt b a with
 |false=>rfl
 |true=>have:=xM h hb; rw[rM] at this; cases this
def xL:∀(a b:Bytes),strLt a b=true\/a=b\/strLt b a=true
 | [],[] => .inr (.inl rfl)
 | [],_::_ => .inl rfl
 |_::_,[] => .inr (.inr rfl)
 |a::x,b::y=>by
  simp only[strLt,dh,bz,bh,eH,oJ,kY];rcases xL x y with h|h|h
  ·rcases ik a.toNat b.toNat with h1|h1|h1
   ·exact .inl (.inl h1)
   ·exact .inl (.inr ⟨kP.1 h1,h⟩)
   ·exact .inr (.inr (.inl h1))
  ·rcases ik a.toNat b.toNat with h1|h1|h1
   ·exact .inl (.inl h1)
   ·exact .inr (.inl ⟨kP.1 h1,h⟩)
   ·exact .inr (.inr (.inl h1))
  ·rcases ik a.toNat b.toNat with h1|h1|h1
   ·exact .inl (.inl h1)
   ·exact .inr (.inr (.inr ⟨(kP.1 h1).symm,h⟩))
   ·exact .inr (.inr (.inl h1))
def PJ{a b:Bytes}(h:strLt a b=true):gtB a b=false:=by simp[gtB,h]
def PI{a b:Bytes}(h:strLt b a=true):gtB a b=true:=by
 have h1:=MF h;have h2:¬a=b:=by rintro rfl; rw[rM] at h; cases h
 simp[gtB,h1,h2]
def Jw(e:gN)(rest:List gN):∀(pre out:List gN),(∀m,m∈pre->strLt m.name e.name=true)->vK e (pre++rest) out false=vK e rest (out++pre) false
 | [],out,_=>dw
 |m::r,out,h=>by
  rw[aG,vK,PJ (h m (bD ..))];simp only[dR,fF,af,aE];rw[Jw e rest r _ fun x hx=>h x (bu _ hx)]
  simp
def Gb(e:gN):∀(rest out:List gN),vK e rest out true=(out++rest,true)
 | [],out=>by simp[vK]
 |m::r,out=>by
  rw[vK];simp only[cv,cK,dL,af,aE];rw[Gb e r];simp
def BQ{l:List gN}{s:Bytes}{b:Nat}(h:OT l s b):∀m,m∈l.take b->strLt m.name s=true:=fun m hm=>by
 obtain⟨k,hk⟩:=bV hm;rw[fz] at hk;split at hk
 ·rename_i cQ; exact(h.lt k m hk).2 cQ
 ·cases hk
def DG{l:List gN}{s:Bytes}{b:Nat}(h:OT l s b):∀m,m∈l.drop b->strLt m.name s=false:=fun m hm=>by
 obtain⟨k,hk⟩:=bV hm;rw[cS] at hk;have:=h.lt _ m hk;have hn:¬b+k<b:=aH;cases hc:strLt m.name s with
 |false=>rfl
 |true=>exact absurd (this.1 hc) hn
def vJ{l:List gN}(h:ri l){e:gN}(hf:gw l e.name=none):zg l e=l.take (mq l e.name)++e::l.drop (mq l e.name):=by
 have hl:=su h e.name
 have hd:∀m,m∈l.drop (mq l e.name)->strLt e.name m.name=true:=fun m hm=>by
  have h1:=DG hl m hm;have h2:=fy.1 hf m (dA hm);have h3:¬m.name=e.name:=by simpa using h2
  rcases xL m.name e.name with h4|h4|h4
  ·rw[h1] at h4; cases h4
  ·exact absurd h4 h3
  ·exact h4
 unfold zg;rw[show vK e l [] false=vK e (l.take (mq l e.name)++l.drop (mq l e.name)) [] false by rw[cH]]
 rw[Jw e _ _ _ (BQ hl)];generalize l.drop (mq l e.name)=rest at hd;cases rest with
 |nil=>simp[vK]
 |cons m r =>
  rw[vK,PI (hd m (bD ..))];simp only[dH,gd,eu,aF];rw[Gb];simp
def FN{l:List gN}(h:ri l){s:Bytes}{o:gN}(ho:l[mq l s]?=some o)(he:o.name=s):kb l s=l.take (mq l s)++l.drop (mq l s+1):=by
 have hl:=su h s;have cQ:=(aj.1 ho).1
 have hdr:l.drop (mq l s)=o::l.drop (mq l s+1):=by
  rw[cL cQ];rw[ai cQ] at ho; injection ho with ho; rw[ho]
 have hd:∀m,m∈l.drop (mq l s+1)->strLt s m.name=true:=fun m hm=>by
  obtain⟨k,hk⟩:=bV hm;rw[cS] at hk;have hkl:=(aj.1 hk).1;have h3:=cn.1 h _ _ cQ hkl aH;have h4:l[mq l s+1+k]=m:=by rw[ai hkl] at hk; injection hk
  have h5:l[mq l s]=o:=by rw[ai cQ] at ho; injection ho
  rw[h4,h5,he] at h3;exact h3
 have ne:∀ {a b:Bytes},strLt a b=true->¬a=b:=fun {a b} h=>by rintro rfl; rw[rM] at h; cases h
 unfold kb;rw[show l.filter (fun n=>n.name != s)=(l.take (mq l s)++l.drop (mq l s)).filter (fun n=>n.name != s) by rw[cH]]
 rw[kI,hdr,fq];simp only[he,aw,af,aE];rw[jj.2 fun m hm=>by simpa using ne (BQ hl m hm),jj.2 fun m hm=>by simpa using fun hc=>ne (hd m hm) hc.symm]
def Ly{l:List gN}{s:Bytes}(hf:gw l s=none):kb l s=l :=
 jj.2 fun m hm=>by simpa using fy.1 hf m hm
def p58{l:List gN}(h0:l≠[])(hn:l.length<=100000)(M:aC):aq bX 205 [ja l] M=some (.cE M.length 0 3 0 l.length,M++[.arr 3 0 (l.map iG)]):=by
 refine eP (g:=mO 3 32) rfl ?_;obtain⟨a,r,rfl⟩:=fi h0;have hw:wid ((a::r).map iG) 3:=by have:=Ky (a::r); simpa using this
 have hr:cB ((a::r).map iG).length 32:=by have:=tG (a:=(a::r).length) (b:=32) aH aH; simpa using this
 unfold mO;simp only[aK] at hw hr ⊢;rw[fh ⟨hw,hr⟩];simp
def aol(M:aC):aq bX 205 [gv []] M=some (.slice .c0 [],M):=eP (g:=mO 3 32) rfl rfl
def p87{l:List gN}{b:Nat}(hb:b<=l.length)(hn:l.length<=100000)(e:gN)(c0 c1:cV) :
  aq bX 243 [.cE 2 0 3 0 l.length,aD b,gv [.agg (gj e)]] [c0,c1,.arr 3 0 (l.map iG)]=some (.cE 2 1 3 0 (l.length+1),[c0,c1,.arr 3 1 ((l.take b++e::l.drop b).map iG)]):=by
 refine eP (g:=lf 3 32) rfl ?_;have hr:cB ((l.map iG).length+1) 32:=by have:=tG (a:=l.length+1) (b:=32) aH aH; simpa using this
 unfold lf;simp only[nth];rw[fh ⟨trivial,trivial,trivial,dw,aH,by simpa using hb,rfl,hr⟩]
 simp[jo,iG]
def auS(e:gN)(M:aC):aq bX 243 [.slice .c0 [],aD 0,gv [.agg (gj e)]] M=some (.cE M.length 0 3 0 1,M++[.arr 3 0 [.agg (gj e)]]):=by
 refine eP (g:=lf 3 32) rfl ?_
 show cu ((0:Int)=0/\(ag.agg (gj e)).cells.length=3) _=_
 exact fh ⟨rfl,rfl⟩
def p84{l:List gN}{b:Nat}(hb:b<l.length)(hn:l.length<=100000)(c0 c1:cV) :
  aq bX 248 [.cE 2 0 3 0 l.length,aD b,aD ((b+1:Nat):Int)] [c0,c1,.arr 3 0 (l.map iG)]=some (.cE 2 1 3 0 (l.length-1),[c0,c1,.arr 3 1 ((l.take b++l.drop (b+1)).map iG)]):=by
 refine eP (g:=lJ 3) rfl ?_;unfold lJ;simp only[nth];rw[fh ⟨trivial,trivial,trivial,dw,aH,by simpa using hb,aH,gr⟩]
 simp[jo]
def MI{ae:List Node}(h:o6 ae){n:Node}(hf:find ae n.ar=some n):eT ae n=ae:=by
 rcases tw h n.ar with ⟨_,o,h2,h3,h4⟩|⟨_,h2⟩
 ·rw[hf] at h3; cases h3;rw[tX h h2 rfl];apply ct;intro i
  by_cases e:mh ae n.ar=i
  ·subst e; rw[fa (aj.1 h2).1,h2]
  ·rw[fc e]
 ·rw[hf] at h2; cases h2
def arz(ae:List Node)(next ak dir:Int)(s:Bytes)(ar:Int)(h:o6 ae)(hn:ae.length<=100000){n:Node}(hf:find ae dir=some n)(hE:ri n.bc)(hl:n.bc.length<=99999)(hs:gw n.bc s=none) :
  aq bX 183 [cC 0,aD dir,.str s,aD ar] [cF [ba ae,aD next,aD ak]]=some (.tuple [],[cF (aM (il ⟨ae,next,ak⟩ dir s ar))]):=by
 refine aB ?_;have h0:ae≠[]:=by rintro rfl; simp[find] at hf
 have hnn:bl ae dir=n:=by simp[bl,hf]
 have hk:=fun M=>Fm ae next ak dir h hn 0 (cF [ba ae,aD next,aD ak]::M) rfl
 have hk2:=fun a b c d u M=>Tx a b c d n.bc u s _ (su hE s) aH M
 have hle:=(su hE s).le
 have hres:il ⟨ae,next,ak⟩ dir s ar=⟨eT ae { n with bc:=n.bc.take (mq n.bc s)++⟨s,ar,ak⟩::n.bc.drop (mq n.bc s) },next,nw (ak+1)⟩:=by
  have:=vJ hE (e:=⟨s,ar,ak⟩) hs;simp only[il,hf,bC,this]
 rw[hres,aM];have hp:=fun a b c d e u M=>LZ ae next (nw (ak+1)) a b c d e u h h0 hn 0 (cF [ba ae,aD next,aD (nw (ak+1))]::M) rfl
 simp only[SO,Rj,hk,hnn,bL,aL,hk2,EN,seval]
 by_cases hne:n.bc=[]
 ·have hlow:mq n.bc s=0:=by rw[hne]; rfl
  have hi:=fun M=>auS ⟨s,ar,ak⟩ M
  simp only[gj] at hi;have hlow0:mq [] s=0:=rfl;have hc0:((0:Nat):Int)=0:=rfl;simp only[Rj,hne,hlow0,hc0,ja,aol,hi,FZ,qE,EN,seval];rw[show gv [ag.agg [.str s,aD ar,aD ak]]=ja [⟨s,ar,ak⟩] from rfl]
  simp only[Rj,hp,EN,seval]
 ·have hc:=fun M=>p58 hne (show n.bc.length<=100000 by omega) M
  have hi:=fun c0 c1=>p87 hle (show n.bc.length<=100000 by omega) ⟨s,ar,ak⟩ c0 c1
  simp only[gj] at hi;simp only[Rj,hc,hi,FZ,qE,EN,seval];have ht:List.take (n.bc.length+1) (List.map iG (List.take (mq n.bc s) n.bc++⟨s,ar,ak⟩::List.drop (mq n.bc s) n.bc))=List.map iG (List.take (mq n.bc s) n.bc++⟨s,ar,ak⟩::List.drop (mq n.bc s) n.bc):=bt gr;rw[ht];simp only[Rj,hp,EN,seval]
def ZP(ae:List Node)(next ak dir:Int)(s:Bytes)(ar:Int)(h:o6 ae)(hn:ae.length<=100000){n:Node}(hf:find ae dir=some n)(hE:ri n.bc)(hl:n.bc.length<=99999)(hs:gw n.bc s=none)(p:Nat)(M:aC)(hM:nth M p=some (cF [ba ae,aD next,aD ak])) :
  aR (aq bX) 183 [cC p,aD dir,.str s,aD ar] M=some (.tuple [],jo M p (cF (aM (il ⟨ae,next,ak⟩ dir s ar)))) :=
 tx hM (arz ae next ak dir s ar h hn hf hE hl hs) rfl rfl rfl rfl rfl rfl rfl rfl rfl rfl
def arH(ae:List Node)(next ak dir:Int)(s:Bytes)(h:o6 ae)(hn:ae.length<=100000){n:Node}(hf:find ae dir=some n)(hE:ri n.bc)(hl:n.bc.length<=99999) :
  aq bX 195 [cC 0,aD dir,.str s] [cF [ba ae,aD next,aD ak]]=some (.tuple [],[cF [ba (dE ae dir s),aD next,aD ak]]):=by
 refine aB ?_;have h0:ae≠[]:=by rintro rfl; simp[find] at hf
 have hnn:bl ae dir=n:=by simp[bl,hf]
 have hino:n.ar=dir:=(cJ hf).2;have hk:=fun M=>Fm ae next ak dir h hn 0 (cF [ba ae,aD next,aD ak]::M) rfl
 have hk2:=fun a b c d u M=>Tx a b c d n.bc u s _ (su hE s) aH M
 have hp:=fun a b c d e u M=>LZ ae next ak a b c d e u h h0 hn 0 (cF [ba ae,aD next,aD ak]::M) rfl
 have hres:dE ae dir s=eT ae { n with bc:=kb n.bc s }:=by simp only[dE,hf,bC]
 rw[hres];simp only[SS,YB,hk,hnn,bL,aL,hk2,EN,seval];rcases xa hE s with ⟨h1,o,h2,h3,h4⟩|⟨h1,h2⟩
 ·have cQ:=(aj.1 h2).1;have hne:n.bc≠[]:=by intro hc; rw[hc] at h2; simp at h2
  have hc:=fun M=>p58 hne (show n.bc.length<=100000 by omega) M
  have hd:=fun c0 c1=>p84 cQ (show n.bc.length<=100000 by omega) c0 c1
  have hw:IntKind.i64.wrap ((mq n.bc s:Int)+1)=((mq n.bc s+1:Nat):Int):=by rw[gx aH aH]; rfl
  simp only[YB,h1,hc,hd,hw,FZ,qE,EN,seval];have ht:List.take (n.bc.length-1) (List.map iG (List.take (mq n.bc s) n.bc++List.drop (mq n.bc s+1) n.bc))=List.map iG (List.take (mq n.bc s) n.bc++List.drop (mq n.bc s+1) n.bc):=bt gr;rw[ht];simp only[YB,hp,EN,seval];rw[FN hE h2 h4]
 ·simp only[YB,h1,EN,seval];rw[Ly h2];have:eT ae n=ae:=MI h (by rw[hino]; exact hf)
  rw[show({ n with bc:=n.bc }:Node)=n from rfl,this]
def agf(ae:List Node)(next ak dir:Int)(s:Bytes)(h:o6 ae)(hn:ae.length<=100000){n:Node}(hf:find ae dir=some n)(hE:ri n.bc)(hl:n.bc.length<=99999)(p:Nat)(M:aC)(hM:nth M p=some (cF [ba ae,aD next,aD ak])) :
  aR (aq bX) 195 [cC p,aD dir,.str s] M=some (.tuple [],jo M p (cF [ba (dE ae dir s),aD next,aD ak])) :=
 tx hM (arH ae next ak dir s h hn hf hE hl) rfl rfl rfl rfl rfl rfl rfl rfl rfl rfl
def kM(ae:List Node)(n:Node):List Node:=if n.kind==2 then fS ae n.ar else eT ae { n with eG:=nw (n.eG-1) }
def c196(ae:List Node)(next ak:Int)(n:Node)(h:o6 ae)(h0:ae≠[])(hn:ae.length<=100000) :
  aq bX 196 [cC 0,bL n] [cF [ba ae,aD next,aD ak]]=some (.tuple [],[cF [ba (kM ae n),aD next,aD ak]]):=by
 refine aB ?_;have hp:=fun a b c d e u M=>LZ ae next ak a b c d e u h h0 hn 0 (cF [ba ae,aD next,aD ak]::M) rfl
 have hd:=fun M=>anq ae next ak n.ar h hn 0 (cF [ba ae,aD next,aD ak]::M) rfl
 simp only[adt,aeO,bL,aL,EN,seval];unfold kM;refine bB (fun hb=>?_) (fun hb=>?_)
 ·simp only[aeO,hb,hd,EN,seval]
 ·simp only[aeO,hb,hp,af,EN,seval]
def anf(ae:List Node)(next ak a b c:Int)(d:Bytes)(e:List gN)(u:Int)(h:o6 ae)(h0:ae≠[])(hn:ae.length<=100000)(p:Nat)(M:aC)(hM:nth M p=some (cF [ba ae,aD next,aD ak])) :
  aR (aq bX) 196 [cC p,.agg [aD a,aD b,aD c,df d,ja e,aD u]] M=some (.tuple [],jo M p (cF [ba (kM ae ⟨a,b,c,d,e,u⟩),aD next,aD ak])) :=
 tx hM (c196 ae next ak ⟨a,b,c,d,e,u⟩ h h0 hn) rfl rfl rfl rfl rfl rfl rfl rfl rfl rfl
def sx(ae:List Node)(ar:Int):Nat:=(uL ae ar).length-1
def pn(t:Tree)(dir:Int)(s:Bytes):Int :=
 if (gW t.ae dir).2 != 0 then (gW t.ae dir).2 else if !fX s then 60 else if (gw (gW t.ae dir).1.bc s).isSome=true then 71 else
 if decide ((64:Int)<=(gW t.ae dir).1.bc.length)||(decide ((12:Int)<=sx t.ae dir)||decide ((1099511627776:Int)<=t.ak)) then 76 else 0
def arx(ae:List Node)(next ak dir:Int)(s:Bytes)(ht:Small ⟨ae,next,ak⟩)(hr:rU ⟨ae,next,ak⟩)(hs:s.length<=100000)(ha:po s) :
  aq bX 181 [cC 0,aD dir,.str s] [cF [ba ae,aD next,aD ak]]=some (aD (pn ⟨ae,next,ak⟩ dir s),[cF [ba ae,aD next,aD ak]]):=by
 have hn:ae.length<=100000:=ht.ae;have hd:(gW ae dir).1.bc.length<=100000:=tM ht dir;have hE:ri (gW ae dir).1.bc:=hr.dir dir;have hk:=fun M=>ZQ ae next ak dir hr.ml hn 0 (cF [ba ae,aD next,aD ak]::M) rfl
 have hk2:=fun a b c d u M=>Tx a b c d (gW ae dir).1.bc u s _ (su hE s) hd M
 have hk3:∀M,aR (aq bX) 239 [cC 0,aD dir] (cF [ba ae,aD next,aD ak]::M)=some (aD (sx ae dir),cF [ba ae,aD next,aD ak]::M):=fun M=>anp ae next ak dir hr.ml hn 0 (cF [ba ae,aD next,aD ak]::M) rfl
 refine aB ?_;simp only[adl,H7,hk,bL,aL,EN,seval];refine bB (fun hb=>?_) (fun hb=>?_)
 ·simp only[H7,hb,EN,seval];clear hk hk2 hk3;simp_all only[pn,qC,↓reduceIte,reduceCtorEq,aw]
 simp only[H7,hb,agh,hs,ha,EN,seval];refine bB (fun hb1=>?_) (fun hb1=>?_)
 ·simp only[H7,hb1,EN,seval];clear hk hk2 hk3;simp_all only[pn,qC,↓reduceIte,reduceCtorEq,aw]
 simp only[H7,hb1,hk2,EN,seval];rcases xa hE s with ⟨h1,o,h2,h3,h4⟩|⟨h1,h2⟩
 ·simp only[H7,h1,EN,seval];clear hk hk2 hk3;simp_all only[pn,bQ,qC,↓reduceIte,reduceCtorEq,aw]
 ·simp only[H7,h1,EN,seval]
  repeat' ((first|apply bB|apply bW|apply dM)<;>intro hb<;>simp only[hb,EN,H7,hk3,seval])
  all_goals (clear hk hk2 hk3; simp_all only[pn,cU,qC,↓reduceIte,reduceCtorEq,aw]; done)
def anb ae next ak dir s ht hr hs ha p M hM:=cM (p:=p) (M:=M) hM (arx ae next ak dir s ht hr hs ha)
def Ah(x y:Node):Int:=if x.kind==2&&y.kind != 2 then 73 else if x.kind != 2&&y.kind==2 then 72 else if decide ((0:Int)<y.bc.length) then 74 else 0
def arM(x y:Node):aq bX 202 [bL x,bL y] []=some (aD (Ah x y),[]):=by
 refine aB ?_;simp only[adx,ai9,bL,aL,EN,seval]
 repeat' ((first|apply bB|apply bW|apply dM)<;>intro hb<;>simp only[hb,EN,ai9,seval])
 all_goals (simp_all only[Ah,qC,↓reduceIte,reduceCtorEq,aw]; done)
def arC(t:Tree)(ar:Int)(ht:Small t)(hr:rU t):aq bX 187 [br t,aD ar] []=some (.tuple [br (kL t ar).1,aD (kL t ar).2],[]):=by
 obtain⟨ae,next,ak⟩:=t
 have hn:ae.length<=100000:=ht.ae;refine aB ?_;have hk:=fun b c M=>Fm ae next ak ar hr.ml hn 2 (b::c :: cF [ba ae,aD next,aD ak]::M) rfl
 have hd:=fun b c M=>anq ae next ak ar hr.ml hn 2 (b::c :: cF [ba ae,aD next,aD ak]::M) rfl
 simp only[adn,ai8,br,aM,hk,bL,aL,EN,seval]
 repeat' ((first|apply bB|apply bW|apply dM)<;>intro hb<;>simp only[hb,EN,ai8,hd,seval])
 all_goals (clear hk hd; simp_all only[kL,br,aM,qC,↓reduceIte,reduceCtorEq,aw]; done)
def atg(data:Bytes)(hd:data.length<=100000)(M:aC):aR (aq bX) 160 [df data] M=some (df data,M):=by
 refine cO (eP (g:=pCC 1 1) rfl ?_) M;have hw:wid (data.map qB) 1:=by have:=sk data; simpa using this
 have hr:cB (data.map qB).length 1:=by have:=tG (a:=data.length) (b:=1) aH aH; simpa using this
 exact fh ⟨hw,hr⟩
def ar0(t:Tree)(ar:Int)(data:Bytes)(ht:Small t)(hr:rU t)(hd:data.length<=100000):aq bX 225 [br t,aD ar,df data] []=some (.tuple [br (rT t ar data).1,aD (rT t ar data).2],[]):=by
 obtain⟨ae,next,ak⟩:=t
 have hn:ae.length<=100000:=ht.ae;refine aB ?_;have hk:=fun b c M=>Fm ae next ak ar hr.ml hn 2 (b::c :: cF [ba ae,aD next,aD ak]::M) rfl
 simp only[adN,YD,br,aM,hk,bL,aL,EN,seval];cases hf:find ae ar with
 |none =>
  simp only[YD,cU,EN,seval];clear hk;simp_all only[rT,br,aM,cU,qC,↓reduceIte,reduceCtorEq,aw]
 |some n =>
  have h0:ae≠[]:=by rintro rfl; simp[find] at hf
  have hp:=fun x y a b c d e u M=>LZ ae next ak a b c d e u hr.ml h0 hn 2 (x::y :: cF [ba ae,aD next,aD ak]::M) rfl
  have hc:=fun M=>atg data hd M
  simp only[YD,bQ,EN,seval]
  repeat' ((first|apply bB|apply bW|apply dM)<;>intro hb<;>simp only[hb,EN,YD,hp,hc,seval])
  all_goals (clear hk hp hc; simp_all only[rT,br,aM,bQ,qC,↓reduceIte,reduceCtorEq,aw]; done)
end
def KZ{ae:List Node}(h:o6 ae){a b:Node}(ha:a∈ae)(hb:b∈ae)(he:a.ar=b.ar):a=b:=by
 obtain⟨i,hi⟩:=bV ha;obtain⟨k,hk⟩:=bV hb;have hil:=(aj.1 hi).1;have hkl:=(aj.1 hk).1;have e1:ae[i]=a:=by rw[ai hil] at hi; injection hi
 have e2:ae[k]=b:=by rw[ai hkl] at hk; injection hk
 rcases ik i k with cQ|heq|hgt
 ·have:=cn.1 h _ _ hil hkl cQ;rw[e1,e2] at this; omega
 ·subst heq; rw[<-e1,<-e2]
 ·have:=cn.1 h _ _ hkl hil hgt;rw[e1,e2] at this; omega
def ic{ae:List Node}(h:o6 ae){i:Int}{m:Node}:find ae i=some m↔m∈ae/\m.ar=i:=by
 refine⟨cJ,fun⟨h1,h2⟩=>?_⟩
 cases hf:find ae i with
 |none =>
  have:=fy.1 hf m h1;simp[h2] at this
 |some k =>
  obtain⟨k1,k2⟩:=cJ hf;rw[KZ h h1 k1 aH]
def qL{ae:List Node}{i:Int}:find ae i=none↔∀m,m∈ae->m.ar≠i:=by
 unfold find;rw[fy];simp
def yn{ae:List Node}{b:Nat}{o n:Node}(ho:ae[b]?=some o):ae=ae.take b++o::ae.drop (b+1)/\ae.set b n=ae.take b++n::ae.drop (b+1):=by
 have cQ:=(aj.1 ho).1;constructor
 ·rw[ai cQ] at ho; injection ho with ho
  conv=>lhs; rw[<-cH b ae]
  rw[cL cQ,ho]
 ·rw[ju,aZ cQ]
def vL{ae:List Node}(h:o6 ae){n m:Node}:m∈eT ae n↔m=n\/(m∈ae/\m.ar≠n.ar):=by
 rcases tw h n.ar with ⟨_,o,h2,h3,h4⟩|⟨_,h2⟩
 ·rw[tX h h2 h4];obtain⟨s1,s2⟩:=yn (n:=n) h2;have hon:o∈ae:=(cJ h3).1;constructor
  ·intro hm;rw[s2] at hm;rcases bo.1 hm with hm|hm
   ·have hmn:=dB hm;have:=vV (uZ h n.ar) m hm;exact .inr ⟨hmn,aH⟩
   ·rcases bH.1 hm with rfl|hm
    ·exact .inl rfl
    ·refine .inr ⟨dA hm,fun he=>?_⟩
     have hp:=h;unfold o6 at hp;rw[s1,fx] at hp;have:=(du.1 hp.2.1).1 m hm;omega
  ·rintro(rfl|⟨hm,hne⟩)
   ·rw[s2]; simp
   ·rw[s1] at hm;rw[s2];rcases bo.1 hm with hm|hm
    ·exact fu _ hm
    ·rcases bH.1 hm with rfl|hm
     ·exact absurd h4 hne
     ·exact iE _ (bu _ hm)
 ·rw[yu h h2];rw[qL] at h2;constructor
  ·intro hm;rcases bo.1 hm with hm|hm
   ·have:=dB hm;exact .inr ⟨this,h2 m this⟩
   ·rcases bH.1 hm with rfl|hm
    ·exact .inl rfl
    ·have:=dA hm;exact .inr ⟨this,h2 m this⟩
  ·rintro(rfl|⟨hm,_⟩)
   ·simp
   ·rw[<-cH (mh ae n.ar) ae] at hm;rcases bo.1 hm with hm|hm
    ·exact fu _ hm
    ·exact iE _ (bu _ hm)
def lM{ae:List Node}(h:o6 ae)(n:Node):o6 (eT ae n):=by
 have hl:=uZ h n.ar;rcases tw h n.ar with ⟨_,o,h2,h3,h4⟩|⟨_,h2⟩
 ·rw[tX h h2 h4];obtain⟨s1,s2⟩:=yn (n:=n) h2;have hp:=h;unfold o6 at hp ⊢;rw[s1,fx] at hp;obtain⟨p1,p2,p3⟩:=hp;obtain⟨p4,p5⟩:=du.1 p2;rw[s2,fx];refine⟨p1,du.2 ⟨fun m hm=>by have:=p4 m hm; omega,p5⟩,fun a ha c hc=>?_⟩
  rcases bH.1 hc with rfl|hc
  ·exact vV hl a ha
  ·exact p3 a ha c (bu _ hc)
 ·rw[yu h h2];have hp:=h;unfold o6 at hp ⊢;rw[<-cH (mh ae n.ar) ae,fx] at hp;obtain⟨p1,p2,p3⟩:=hp;rw[qL] at h2;rw[fx];refine⟨p1,du.2 ⟨fun m hm=>?_,p2⟩,fun a ha c hc=>?_⟩
  ·have k1:=FO hl m hm;have k2:=h2 m (dA hm);omega
  ·rcases bH.1 hc with rfl|hc
   ·exact vV hl a ha
   ·exact p3 a ha c hc
def gq{ae:List Node}(h:o6 ae)(n:Node)(i:Int):find (eT ae n) i=if i=n.ar then some n else find ae i:=by
 split
 ·rename_i he;exact(ic (lM h n)).2 ⟨(vL h).2 (.inl rfl),he.symm⟩
 ·rename_i hne;cases hf:find ae i with
  |none =>
   rw[qL] at hf ⊢;intro m hm;rcases(vL h).1 hm with rfl|⟨hm,_⟩
   ·exact fun he=>hne he.symm
   ·exact hf m hm
  |some m =>
   obtain⟨h1,h2⟩:=cJ hf;exact(ic (lM h n)).2 ⟨(vL h).2 (.inr ⟨h1,aH⟩),h2⟩
def rO{ae:List Node}(h:o6 ae)(i:Int):o6 (fS ae i):=jU _ h
def mi{ae:List Node}(h:o6 ae)(k i:Int):find (fS ae k) i=if i=k then none else find ae i:=by
 split
 ·rename_i he;rw[qL];intro m hm;have:=(dP.1 hm).2;simp at this;omega
 ·rename_i hne;cases hf:find ae i with
  |none =>
   rw[qL] at hf ⊢;exact fun m hm=>hf m (dP.1 hm).1
  |some m =>
   obtain⟨h1,h2⟩:=cJ hf;exact(ic (rO h k)).2 ⟨dP.2 ⟨h1,gr⟩,h2⟩
def Tl{l:List gN}(h:ri l){e:gN}(hf:gw l e.name=none):ri (zg l e):=by
 rw[vJ h hf];have hl:=su h e.name;have hp:=h;unfold ri at hp ⊢;rw[<-cH (mq l e.name) l,fx] at hp;obtain⟨p1,p2,p3⟩:=hp;rw[fx];refine⟨p1,du.2 ⟨fun m hm=>?_,p2⟩,fun a ha c hc=>?_⟩
 ·have k1:=DG hl m hm;have k2:¬m.name=e.name:=by simpa using fy.1 hf m (dA hm)
  rcases xL m.name e.name with h4|h4|h4
  ·rw[k1] at h4; cases h4
  ·exact absurd h4 k2
  ·exact h4
 ·rcases bH.1 hc with rfl|hc
  ·exact BQ hl a ha
  ·exact p3 a ha c hc
def AZ{l:List gN}(h:ri l)(s:Bytes):ri (kb l s):=jU _ h
def rU.with{t:Tree}(h:rU t){n:Node}(hn:ri n.bc)(next ak:Int):rU ⟨eT t.ae n,next,ak⟩ :=
 ⟨lM h.ml n,fun m hm=>by
  rcases(vL h.ml).1 hm with rfl|⟨hm,_⟩
  ·exact hn
  ·exact h.bc m hm⟩
def rU.ve{t:Tree}(h:rU t)(i next ak:Int):rU ⟨fS t.ae i,next,ak⟩ :=
 ⟨rO h.ml i,fun m hm=>h.bc m (dP.1 hm).1⟩
def rU.node{t:Tree}(h:rU t)(i:Int):ri (bl t.ae i).bc:=by
 cases hf:find t.ae i with
 |none=>simp[bl,hf,Node.zero]; exact List.Pairwise.nil
 |some n=>simp[bl,hf]; exact h.bc n (cJ hf).1
def rU.left{t:Tree}(h:rU t)(i:Int)(s:Bytes)(next ak:Int):rU ⟨dE t.ae i s,next,ak⟩ :=
 h.with (n:={ bl t.ae i with bc:=kb (bl t.ae i).bc s }) (AZ (h.node i) s) next ak
def rU.nL{t:Tree}(h:rU t)(i:Int)(s:Bytes)(of:Int)(hf:gw (bl t.ae i).bc s=none):rU (il t i s of) :=
 h.with (n:={ bl t.ae i with bc:=zg (bl t.ae i).bc ⟨s,of,t.ak⟩ }) (Tl (h.node i) hf) t.next (nw (t.ak+1))
section
attribute [local irreducible] eS fI lx gK dZ kr aq aR cu bJ
def zb{ae:List Node}{dir:Int}(h:(gW ae dir).2=0):∃d,find ae dir=some d/\d.kind=2/\gW ae dir=(d,0):=by
 unfold gW at h ⊢;split at h
 ·cases h
 ·rename_i d hd;split at h
  ·rename_i hk; exact⟨d,hd,hk,by simp[hd,hk]⟩
  ·cases h
def WB{t:Tree}{dir:Int}{s:Bytes}(h:(pn t dir s != 0)=false):∃d,find t.ae dir=some d/\d.kind=2/\fX s=true/\gw d.bc s=none/\d.bc.length<64/\sx t.ae dir<12/\t.ak<1099511627776:=by
 have h:pn t dir s=0:=by simpa using h
 unfold pn at h;split at h
 ·rename_i hc;rw[h] at hc; cases hc
 ·rename_i hc;obtain⟨d,h1,h2,h3⟩:=zb (by simpa using hc)
  rw[h3] at h;split at h
  ·cases h
  ·rename_i hk;split at h
   ·cases h
   ·rename_i hf;split at h
    ·cases h
    ·rename_i hm;simp at hk hf hm;exact⟨d,h1,h2,hk,hf,aH,aH,aH⟩
def KU(t:Tree)(ar:Int)(s:Bytes)(kind:Int):Tree×Int×Int :=
 if kind != 1&&kind != 2 then (t,0,1) else if pn t ar s != 0 then (t,0,pn t ar s) else
 if decide ((200:Int)<=t.ae.length)||decide ((1099511627776:Int)<=t.next) then (t,0,76) else
 (il ⟨eT t.ae ⟨t.next,kind,1,[],[],if kind==2 then ar else 0⟩,nw (t.next+1),t.ak⟩ ar s t.next,t.next,0)
def aqX(t:Tree)(dir:Int)(s:Bytes)(kind:Int)(hz:Sz 1000 t)(hr:rU t)(hs:s.length<=100000)(ha:po s)(jq:∀m,m∈t.ae->m.ar<t.next) :
  aq bX 147 [br t,aD dir,.str s,aD kind] []=some (.tuple [br (KU t dir s kind).1,aD (KU t dir s kind).2.1,aD (KU t dir s kind).2.2],[]):=by
 obtain⟨ae,next,ak⟩:=t
 have ht:Small ⟨ae,next,ak⟩:=hz.small aH
 have hn:ae.length<=100000:=ht.ae;have hk:=fun b c M=>anb ae next ak dir s ht hr hs ha 2 (b::c :: cF [ba ae,aD next,aD ak]::M) rfl
 have last:(pn ⟨ae,next,ak⟩ dir s != 0)=false->∀u,ae≠[]/\∀b c M,aR (aq bX) 183 [cC 2,aD dir,.str s,aD next] (b::c :: cF [ba (eT ae ⟨next,kind,1,[],[],u⟩),aD (nw (next+1)),aD ak]::M) =
   some (.tuple [],b::c :: cF (aM (il ⟨eT ae ⟨next,kind,1,[],[],u⟩,nw (next+1),ak⟩ dir s next))::M):=fun hm u=>by
  obtain⟨d,d1,d2,d3,d4,d5,d6,d7⟩:=WB hm;have dm:=cJ d1;have cQ:=jq d dm.1;simp only at cQ;refine⟨by rintro rfl; simp[find] at d1,fun b c M=>?_⟩
  have hz1:Sz 1001 ⟨eT ae ⟨next,kind,1,[],[],u⟩,nw (next+1),ak⟩:=hz.with (n:=⟨next,kind,1,[],[],u⟩) dw dw (nw (next+1)) ak
  have hf:find (eT ae ⟨next,kind,1,[],[],u⟩) dir=some d:=by rw[gq hr.ml,aQ gr]; exact d1
  exact ZP (eT ae ⟨next,kind,1,[],[],u⟩) (nw (next+1)) ak dir s next (lM hr.ml _) (hz1.small aH).ae hf (hr.bc d dm.1) aH d4 2 (b::c :: cF [ba (eT ae ⟨next,kind,1,[],[],u⟩),aD (nw (next+1)),aD ak]::M) rfl
 refine aB ?_;simp only[ac2,aeF,br,aM,hk,EN,seval]
 repeat' ((first|apply bB|apply bW|apply dM)<;>intro hb<;>simp only[hb,EN,aeF,hk,seval])
 all_goals try (clear hk last; simp_all only[KU,br,aM,qC,↓reduceIte,reduceCtorEq,aw]; done)
 all_goals
  have hm:(pn ⟨ae,next,ak⟩ dir s != 0)=false:=by assumption
  have h0:=(last hm 0).1
  have hp:∀u b c M,aR (aq bX) 182 [cC 2,.agg [aD next,aD kind,aD 1,gv [],gv [],aD u]] (b::c :: cF [ba ae,aD (nw (next+1)),aD ak]::M) =
    some (.tuple [],b::c :: cF [ba (eT ae ⟨next,kind,1,[],[],u⟩),aD (nw (next+1)),aD ak]::M):=fun u b c M=>LZ ae (nw (next+1)) ak next kind 1 [] [] u hr.ml h0 hn 2 (b::c :: cF [ba ae,aD (nw (next+1)),aD ak]::M) rfl
  have hl:=fun u=>(last hm u).2
  simp only[aeF,hp,hl,aM,EN,seval];clear hk last hp hl;simp_all only[KU,br,aM,qC,↓reduceIte,reduceCtorEq,aw]
def lnW(t:Tree)(ar to:Int)(s:Bytes):Tree×Int :=
 if !(find t.ae ar).isSome||((bl t.ae ar).kind==1&&(bl t.ae ar).eG==0) then (t,70) else if (bl t.ae ar).kind==2 then (t,72) else
 if pn t to s != 0 then (t,pn t to s) else
 (il ⟨eT t.ae { bl t.ae ar with eG:=nw ((bl t.ae ar).eG+1) },t.next,t.ak⟩ to s ar,0)
def aqZ(t:Tree)(ar dir:Int)(s:Bytes)(hz:Sz 1000 t)(hr:rU t)(hs:s.length<=100000)(ha:po s) :
  aq bX 149 [br t,aD ar,aD dir,.str s] []=some (.tuple [br (lnW t ar dir s).1,aD (lnW t ar dir s).2],[]):=by
 obtain⟨ae,next,ak⟩:=t
 have ht:Small ⟨ae,next,ak⟩:=hz.small aH
 have hn:ae.length<=100000:=ht.ae;have hg:=fun b c M=>Fm ae next ak ar hr.ml hn 2 (b::c :: cF [ba ae,aD next,aD ak]::M) rfl
 have hk:=fun b c M=>anb ae next ak dir s ht hr hs ha 2 (b::c :: cF [ba ae,aD next,aD ak]::M) rfl
 have last:(pn ⟨ae,next,ak⟩ dir s != 0)=false->(find ae ar).isSome=true->((bl ae ar).kind==2)=false->∀l,ae≠[]/\∀b c M,aR (aq bX) 183 [cC 2,aD dir,.str s,aD ar] (b::c :: cF [ba (eT ae { bl ae ar with eG:=l }),aD next,aD ak]::M) =
   some (.tuple [],b::c :: cF (aM (il ⟨eT ae { bl ae ar with eG:=l },next,ak⟩ dir s ar))::M):=fun hm hi hkd l=>by
  obtain⟨d,d1,d2,d3,d4,d5,d6,d7⟩:=WB hm;have dm:=cJ d1;refine⟨by rintro rfl; simp[find] at d1,fun b c M=>?_⟩
  have hfd:=hz.find ar;have hz1:Sz 1001 ⟨eT ae { bl ae ar with eG:=l },next,ak⟩:=hz.with (n:={ bl ae ar with eG:=l }) (iZ hfd.1) hfd.2 next ak
  obtain⟨n,hfn⟩:=fA.1 hi;have hnn:bl ae ar=n:=by simp[bl,hfn]
  have hne:¬dir=(bl ae ar).ar:=fun he=>by
   rw[hnn] at he hkd;have h1:=(cJ hfn).2;rw[he,h1,hfn] at d1;injection d1 with d1
   subst d1;simp[d2] at hkd
  have hf:find (eT ae { bl ae ar with eG:=l }) dir=some d:=by rw[gq hr.ml,aQ hne]; exact d1
  exact ZP (eT ae { bl ae ar with eG:=l }) next ak dir s ar (lM hr.ml _) (hz1.small aH).ae hf (hr.bc d dm.1) aH d4 2 (b::c :: cF [ba (eT ae { bl ae ar with eG:=l }),aD next,aD ak]::M) rfl
 refine aB ?_;simp only[ac3,aeG,br,aM,hg,bL,aL,EN,seval]
 repeat' ((first|apply bB|apply bW|apply dM)<;>intro hb<;>simp only[hb,EN,aeG,hk,seval])
 all_goals try (clear hk hg last; simp_all only[lnW,br,aM,qC,↓reduceIte,reduceCtorEq,aw]; done)
 all_goals
  have hm:(pn ⟨ae,next,ak⟩ dir s != 0)=false:=by assumption
  have h2:((bl ae ar).kind==2)=false:=by assumption
  have h3:(!(find ae ar).isSome)=false:=by assumption
  have h3:(find ae ar).isSome=true:=by simpa using h3
  have h0:=(last hm h3 h2 0).1;have hp:=fun a b c d e u x y M=>LZ ae next ak a b c d e u hr.ml h0 hn 2 (x::y :: cF [ba ae,aD next,aD ak]::M) rfl
  have hl:=fun l=>(last hm h3 h2 l).2
  simp only[aeG,hp,hl,aM,EN,seval];clear hk hg last hp hl;simp_all only[lnW,br,aM,qC,↓reduceIte,reduceCtorEq,aw]
def look_ok{ae:List Node}{dir:Int}{s:Bytes}(h:((fg ae dir s).2 != 0)=false):∃d e,find ae dir=some d/\d.kind=2/\fX s=true/\gw d.bc s=some e/\fg ae dir s=(e.ar,0):=by
 have h:(fg ae dir s).2=0:=by simpa using h
 have h':=h;unfold fg at h;split at h
 ·rename_i hc; exact absurd h hc
 ·rename_i hc;obtain⟨d,h1,h2,h3⟩:=zb (by simpa using hc)
  rw[h3] at h;split at h
  ·cases h
  ·rename_i hk;split at h
   ·cases h
   ·rename_i e he;have hk:fX s=true:=by simpa using hk
    refine⟨d,e,h1,h2,hk,he,?_⟩;unfold fg;rw[h3];simp[hk,he]
def unW(t:Tree)(dir:Int)(s:Bytes):Tree×Int×Int :=
 if (fg t.ae dir s).2 != 0 then (t,0,(fg t.ae dir s).2) else if decide ((0:Int)<(bl t.ae (fg t.ae dir s).1).bc.length) then (t,0,74) else
 (⟨kM (dE t.ae dir s) (bl t.ae (fg t.ae dir s).1),t.next,t.ak⟩,(fg t.ae dir s).1,0)
def JJ{ae:List Node}(h:o6 ae){dir:Int}{s:Bytes}{d:Node}(hf:find ae dir=some d):dE ae dir s≠[]:=by
 intro hc
 have:({ d with bc:=kb d.bc s }:Node)∈dE ae dir s:=by
  unfold dE;rw[hf];exact(vL h).2 (.inl rfl)
 rw[hc] at this;cases this
def aq0(t:Tree)(dir:Int)(s:Bytes)(hz:Sz 1000 t)(hr:rU t)(hs:s.length<=100000)(ha:po s) :
  aq bX 150 [br t,aD dir,.str s] []=some (.tuple [br (unW t dir s).1,aD (unW t dir s).2.1,aD (unW t dir s).2.2],[]):=by
 obtain⟨ae,next,ak⟩:=t
 have ht:Small ⟨ae,next,ak⟩:=hz.small aH
 have hn:ae.length<=100000:=ht.ae;have hg:=fun b c M=>Fm ae next ak (fg ae dir s).1 hr.ml hn 2 (b::c :: cF [ba ae,aD next,aD ak]::M) rfl
 have hl:=fun M=>ZO ae next ak dir s ht hr hs ha M
 refine aB ?_;simp only[ac4,Rh,br,aM,hl,EN,seval];refine bB (fun hb=>?_) (fun hb=>?_)
 ·simp only[Rh,hb,EN,seval];clear hg hl;simp_all only[unW,br,aM,qC,↓reduceIte,reduceCtorEq,aw]
 obtain⟨d,e,d1,d2,d3,d4,d5⟩:=look_ok hb;have dm:=cJ d1;have hde:d.bc.length<=1000:=hz.bc d dm.1;have hsz:Sz 1001 ⟨dE ae dir s,next,ak⟩:=hz.left dir s next ak
 have hv:=fun x y M=>agf ae next ak dir s hr.ml hn d1 (hr.bc d dm.1) aH 2 (x::y :: cF [ba ae,aD next,aD ak]::M) rfl
 have hu:=fun a b c d' e' u x y M=>anf (dE ae dir s) next ak a b c d' e' u (hr.left dir s next ak).ml (JJ hr.ml d1) (hsz.small aH).ae 2 (x::y :: cF [ba (dE ae dir s),aD next,aD ak]::M) rfl
 simp only[Rh,hb,hg,bL,aL,EN,seval];refine bB (fun hb1=>?_) (fun hb1=>?_)
 ·simp only[Rh,hb1,EN,seval];clear hg hl hv hu;simp_all only[unW,br,aM,qC,↓reduceIte,reduceCtorEq,aw]
 ·simp only[Rh,hb1,hv,hu,EN,seval];clear hg hl hv hu d5;simp_all only[unW,br,aM,qC,↓reduceIte,reduceCtorEq,aw]
def LU(x:Int):List Int->Nat->Int
 | [],_ => -1
 |n::r,i=>if x==n then i else LU x r (i+1)
def Nz(x:Int):∀(l:List Int)(i:Nat),decide ((0:Int)<=LU x l i)=l.contains x
 | [],i=>by simp[LU]
 |n::r,i=>by
  unfold LU
  by_cases h:x=n
  ·simp[h]
  ·simp only[eH,h,aE,Nz x r (i+1),List.contains_cons];simp[h]
def aa4{l0:List Int}{x:Int}(hl:l0.length<=100000){k:List K}{R:Int->Option (ag×aC)}
  (hx:∀e,kr (aq bX) [.tmp 4] 0 k ⟨.exit 0,e,[]⟩=R (-1)) (hr:∀(i:Nat),kr (aq bX) [.tmp 4] 0 k ⟨.ret,[(4,aD i)],[]⟩=R i) :
  ∀(l pre:List Int),l0=pre++l->eS (aq bX) [.tmp 4] 0 k (.loop [0,1,7,8] aaF) [(0,gv (l0.map mS)),(1,aD x),(7,aD l0.length),(8,aD pre.length)] []=R (LU x l pre.length):=by
 intro l;induction l with
 |nil =>
  intro pre h;rw[bI];simp only[KM,jP h,EN,seval];exact hx _
 |cons n r ih =>
  intro pre h;rw[bI];have dN:pre.length+1<=100000:=by rw[h] at hl; simp at hl; omega
  have hw:=zB pre n;have hi:=ih (pre++[n]) (by rw[h]; simp)
  simp only[aA,au,az,aI] at hi;rw[LU];simp only[KM,iP h,gQ h,EN,seval];refine bB (fun hb=>?_) (fun hb=>?_)
  ·simp only[KM,hb,EN,seval];exact hr _
  ·simp only[KM,hb,hw,af,EN,seval];exact hi
def asj(l:List Int)(x:Int)(hl:l.length<=100000):aq bX 252 [gv (l.map mS),aD x] []=some (aD (LU x l 0),[]):=by
 refine aB ?_;simp only[adZ,KM,EN,seval];exact aa4 (R:=fun z=>some (aD z,[])) hl (fun e=>by simp only[KM,EN,seval]) (fun i=>by simp only[KM,EN,seval]) l [] rfl
def atM l x hl:=cP (asj l x hl)
def arL(l:List Int)(x:Int)(hl:l.length<=100000):aq bX 201 [gv (l.map mS),aD x] []=some (.bool (l.contains x),[]):=by
 refine aB ?_;simp only[adw,apu,atM,hl,Nz,EN,seval]
def ang l x hl:=cP (arL l x hl)
def vi(ae:List Node)(at' own ar:Int)(n:Node):Bool :=
 n.kind==2&&((uL ae n.ar).contains ar&&(decide ((12:Int)<nw (nw (nw (at'+(uL ae n.ar).length)-1)-own))||(nw (nw (nw (at'+(uL ae n.ar).length)-1)-own)==12&&decide ((0:Int)<n.bc.length))))
abbrev tj(ae:List Node)(next ak at' own ar:Int):aC:=[.cells [.ptr 4 0],.cells [.int .i64 at'],.cells [.int .i64 own],.cells [.int .i64 ar],.cells [ba ae,.int .i64 next,.int .i64 ak]]
def asm(ae:List Node)(next ak at' own ar:Int)(n:Node)(h:o6 ae)(hn:ae.length<=99999) :
  aq bX 254 [bL n,cC 0,cC 1,cC 2,cC 3] (tj ae next ak at' own ar)=some (.bool (vi ae at' own ar n),tj ae next ak at' own ar):=by
 refine aB ?_;have hk:=fun a b c d M=>agi ae next ak n.ar h aH 4 (a::b::c::d :: cF [ba ae,aD next,aD ak]::M) rfl
 have hl:=uF ae n.ar;have hc:=fun M=>ang (uL ae n.ar) ar aH M
 simp only[ad1,ajf,tj,bL,aL,EN,seval]
 repeat' ((first|apply bB|apply bW|apply dM)<;>intro hb<;>simp only[hb,EN,ajf,hk,hc,seval])
 all_goals (clear hk hc; simp_all only[vi,nw,bne,ij,Bool.not_eq_false',qC,↓reduceIte,reduceCtorEq,aw]; done)
end
def aeq(ae:List Node)(next ak at' own ar:Int):j7 (tj ae next ak at' own ar) (iw [0,1,2,3,4]) [0,1,2,3,4]=some (tj ae next ak at' own ar):=rfl
def aoo(ae:List Node)(next ak at' own ar:Int):j7 [cF [ba ae,aD next,aD ak],cF [cC 0],cF [aD ar],cF [aD at'],cF [aD own]] (iw [1,3,4,2,0]) [1,3,4,2,0]=some (tj ae next ak at' own ar):=rfl
section
attribute [local irreducible] eS fI lx gK dZ kr aq aR cu bJ
def atP(ae:List Node)(next ak at' own ar:Int)(n:Node)(h:o6 ae)(hn:ae.length<=99999) :
  aR (aq bX) 254 [.agg (aL n),cC 0,cC 1,cC 2,cC 3] (tj ae next ak at' own ar)=some (.bool (vi ae at' own ar n),tj ae next ak at' own ar) :=
 lk (ids:=[0,1,2,3,4]) rfl rfl (aeq ..) rfl rfl (asm ae next ak at' own ar n h hn) rfl rfl rfl rfl rfl
def asC(ae:List Node)(next ak at' own ar:Int)(h:o6 ae)(hn:ae.length<=99999):aq bX 287 [ba ae,.func 254 [cC 0,cC 1,cC 2,cC 3]] (tj ae next ak at' own ar) =
  some (aD (qF (vi ae at' own ar) ae 0),tj ae next ak at' own ar) :=
 DT (N:=100000) (sz:=6) (e:=aL) ft rfl aH (fun _=>rfl) (fun _=>rfl) rfl rfl fun x _ => .inl ⟨_,_,rfl,atP ae next ak at' own ar x h hn⟩
def atZ(ae:List Node)(next ak at' own ar:Int)(h:o6 ae)(hn:ae.length<=99999):aR (aq bX) 287 [ba ae,.func 254 [cC 0,cC 1,cC 2,cC 3]] (tj ae next ak at' own ar) =
  some (aD (qF (vi ae at' own ar) ae 0),tj ae next ak at' own ar) :=
 lk (ids:=[0,1,2,3,4]) rfl rfl (aeq ..) rfl rfl (asC ae next ak at' own ar h hn) rfl rfl rfl rfl rfl
def asl(ae:List Node)(next ak at' own ar:Int)(h:o6 ae)(hn:ae.length<=99999):aq bX 253 [ba ae,.func 254 [cC 0,cC 1,cC 2,cC 3]] (tj ae next ak at' own ar) =
  some (.bool (ae.any (vi ae at' own ar)),tj ae next ak at' own ar):=by
 refine aB ?_;have hk:=atZ ae next ak at' own ar h hn
 simp only[tj] at hk;simp only[ad0,apM,tj,hk,xl,EN,seval]
def atO(ae:List Node)(next ak at' own ar:Int)(h:o6 ae)(hn:ae.length<=99999) :
  aR (aq bX) 253 [ba ae,.func 254 [cC 1,cC 3,cC 4,cC 2]] [cF [ba ae,aD next,aD ak],cF [cC 0],cF [aD ar],cF [aD at'],cF [aD own]] =
  some (.bool (ae.any (vi ae at' own ar)),[cF [ba ae,aD next,aD ak],cF [cC 0],cF [aD ar],cF [aD at'],cF [aD own]]) :=
 lk (ids:=[1,3,4,2,0]) rfl rfl (aoo ..) rfl rfl (asl ae next ak at' own ar h hn) rfl rfl rfl rfl rfl
def IW(ae:List Node)(ar at':Int):Bool:=ae.any (vi ae at' (sx ae ar) ar)
def arN(ae:List Node)(next ak ar at':Int)(h:o6 ae)(hn:ae.length<=99999):aq bX 203 [cC 0,aD ar,aD at'] [cF [ba ae,aD next,aD ak]] =
  some (.bool (IW ae ar at'),[cF [ba ae,aD next,aD ak]]):=by
 refine aB ?_;have hk:∀M,aR (aq bX) 239 [cC 0,aD ar] (cF [ba ae,aD next,aD ak]::M)=some (aD (sx ae ar),cF [ba ae,aD next,aD ak]::M):=fun M=>anp ae next ak ar h aH 0 (cF [ba ae,aD next,aD ak]::M) rfl
 have hd:=atO ae next ak at' (sx ae ar) ar h hn
 unfold IW;simp only[ady,apv,hk,hd,EN,seval]
def atw ae next ak ar at' h hn p M hM:=cM (p:=p) (M:=M) hM (arN ae next ak ar at' h hn)
def Cf(l:List gN)(s:Bytes):gw (kb l s) s=none:=by
 unfold gw kb;rw[fy];intro e he;have:=(dP.1 he).2;simpa using this
def vG{l:List gN}{s r:Bytes}(h:gw l r=none):gw (kb l s) r=none:=by
 unfold gw kb at *;rw[fy] at *;exact fun e he=>h e (dP.1 he).1
def kQ{ae:List Node}(h:o6 ae){dir:Int}{s:Bytes}{d:Node}(hf:find ae dir=some d)(i:Int):find (dE ae dir s) i=if i=dir then some { d with bc:=kb d.bc s } else find ae i:=by
 have hd:=(cJ hf).2;unfold dE;rw[hf];simp only[bC];rw[gq h,show({ d with bc:=kb d.bc s }:Node).ar=dir from hd]
def HY{ae:List Node}(h:o6 ae)(n:Node):o6 (kM ae n):=by
 unfold kM;split
 ·exact rO h _
 ·exact lM h _
def Fh{ae:List Node}(h:o6 ae)(n:Node){i:Int}(hi:i≠n.ar):find (kM ae n) i=find ae i:=by
 unfold kM;split
 ·rw[mi h,aQ hi]
 ·rw[gq h,aQ hi]
def Sz.kM{b:Nat}{t:Tree}(h:Sz b t){n:Node}(h1:n.bc.length<=b+1)(h2:n.data.length<=100000)(next ak:Int):Sz (b+1) ⟨kM t.ae n,next,ak⟩:=by
 unfold Go.Proofs.YteoamaffclmdbaaGreatDoor.kM;split
 ·exact(h.ve _ next ak).up aH
 ·exact h.with (n:={ n with eG:=nw (n.eG-1) }) h1 h2 next ak
def yI(t:Tree)(dir:Int)(s:Bytes)(to:Int)(nm:Bytes)(ar:Int)(x y:Node)(there:Bool):Tree :=
 il ⟨if x.kind==2 then eT (if there then kM (dE (dE t.ae dir s) to nm) y else dE t.ae dir s) { x with up:=to }
  else if there then kM (dE (dE t.ae dir s) to nm) y else dE t.ae dir s,t.next,t.ak⟩ to nm ar
set_option maxHeartbeats 1000000 in
def aiz(ae:List Node)(next ak dir:Int)(s:Bytes)(to:Int)(nm:Bytes)(ar:Int)(x y:Node)(there:Bool)(v5 v140:ag)(B0 Bd:cV)(yr:List ag)(hyr:there=true->aD y.ar::yr=aL y)(hz:Sz 1000 ⟨ae,next,ak⟩)(hr:rU ⟨ae,next,ak⟩){dd dt:Node}(hdir:find ae dir=some dd)(hto:find ae to=some dt)
  (hth:there=false->gw dt.bc nm=none) (hx:(x.kind==2)=true->x.ar≠to) (hy:there=true->y.ar≠to) (hx1:x.bc.length<=1000) (hx2:x.data.length<=100000) (hy1:y.bc.length<=1000) (hy2:y.data.length<=100000) :
  eS (aq bX) [.dQ 10 3,.tmp 11,.tmp 12] 0 [] N7 [(1,aD dir),(2,.str s),(3,aD to),(4,.str nm),(5,v5),(10,cC 1),(13,aD ar),(15,cC 2),(17,cC 4),(19,cC 5),(21,.bool there),(140,v140)]
   [B0,.cells zT,cF [ba ae,aD next,aD ak],Bd,cF (aL x),cF (aD y.ar::yr)]=some (.tuple [br (yI ⟨ae,next,ak⟩ dir s to nm ar x y there),aD y.ar,aD 0],[]):=by
 have hasc:o6 ae:=hr.ml;have n1:=hz.left dir s next ak
 have a1:o6 (dE ae dir s):=(hr.left dir s next ak).ml
 have e1:ri dd.bc:=hr.bc dd (cJ hdir).1;have e2:ri dt.bc:=hr.bc dt (cJ hto).1;have l1:dd.bc.length<=1000:=hz.bc dd (cJ hdir).1;have l2:dt.bc.length<=1000:=hz.bc dt (cJ hto).1
 obtain⟨d1,f1,g1,m1,q1⟩:∃d1,find (dE ae dir s) to=some d1/\ri d1.bc/\d1.bc.length<=1000/\(gw dt.bc nm=none->gw d1.bc nm=none):=by
  rw[kQ hasc hdir];split
  ·rename_i he;subst he;rw[hdir] at hto; cases hto;exact⟨_,rfl,AZ e1 s,aY (A3 _ _) l1,vG⟩
  ·exact⟨dt,hto,e2,l2,id⟩
 have hv1:=fun a b M=>agf ae next ak dir s hasc (hz.small aH).ae hdir e1 aH 2 (a::b :: cF [ba ae,aD next,aD ak]::M) rfl
 have fin:∀(n3:List Node)(d3:Node),o6 n3->Sz 1003 ⟨n3,next,ak⟩->find n3 to=some d3->ri d3.bc->d3.bc.length<=1000->gw d3.bc nm=none ->
   (∀a b M,aR (aq bX) 183 [cC 2,aD to,.str nm,aD ar] (a::b :: cF [ba n3,aD next,aD ak]::M)=some (.tuple [],a::b :: cF (aM (il ⟨n3,next,ak⟩ to nm ar))::M)) /\
   ((x.kind==2)=true->(∀a b M,aR (aq bX) 182 [cC 2,.agg [aD x.ar,aD x.kind,aD x.eG,df x.data,ja x.bc,aD to]] (a::b :: cF [ba n3,aD next,aD ak]::M) =
     some (.tuple [],a::b :: cF [ba (eT n3 { x with up:=to }),aD next,aD ak]::M)) /\
    ∀a b M,aR (aq bX) 183 [cC 2,aD to,.str nm,aD ar] (a::b :: cF [ba (eT n3 { x with up:=to }),aD next,aD ak]::M)=some (.tuple [],a::b :: cF (aM (il ⟨eT n3 { x with up:=to },next,ak⟩ to nm ar))::M)):=by
  intro n3 d3 b1 b2 b3 b4 b5 b6;have h0:n3≠[]:=by rintro rfl; simp[find] at b3
  refine⟨fun a b M=>ZP n3 next ak to nm ar b1 (b2.small aH).ae b3 b4 aH b6 2 (a::b :: cF [ba n3,aD next,aD ak]::M) rfl,fun hk=>⟨fun a b M=>LZ n3 next ak x.ar x.kind x.eG x.data x.bc to b1 h0 (b2.small aH).ae 2 (a::b :: cF [ba n3,aD next,aD ak]::M) rfl,fun a b M=>?_⟩⟩
  have b7:Sz 1004 ⟨eT n3 { x with up:=to },next,ak⟩:=b2.with (n:={ x with up:=to }) (aY hx1 aH) hx2 next ak
  have b8:find (eT n3 { x with up:=to }) to=some d3:=by rw[gq b1,aQ (fun he=>hx hk he.symm)]; exact b3
  exact ZP (eT n3 { x with up:=to }) next ak to nm ar (lM b1 _) (b7.small aH).ae b8 b4 aH b6 2 (a::b :: cF [ba (eT n3 { x with up:=to }),aD next,aD ak]::M) rfl
 cases hth':there with
 |false =>
  obtain⟨w1,w2⟩:=fin (dE ae dir s) d1 a1 (n1.up aH) f1 g1 m1 (q1 (hth hth'));cases hkx:(x.kind==2) with
  |false =>
   simp only[yR,hv1,zT,aL,hkx,w1,aM,EN,seval];simp only[yI,hkx,br,aM,qC,↓reduceIte,reduceCtorEq,aw]
  |true =>
   obtain⟨w3,w4⟩:=w2 hkx;simp only[yR,hv1,zT,aL,hkx,w3,w4,aM,EN,seval];simp only[yI,hkx,br,aM,qC,↓reduceIte,reduceCtorEq,aw]
 |true =>
  have hyr':yr=[aD y.kind,aD y.eG,df y.data,ja y.bc,aD y.up]:=by have:=hyr hth'; simpa[aL] using this
  subst hyr';have a2:o6 (dE (dE ae dir s) to nm):=(rU.left (t:=⟨dE ae dir s,next,ak⟩) (hr.left dir s next ak) to nm next ak).ml
  have n2:=n1.left to nm next ak
  have f2:find (dE (dE ae dir s) to nm) to=some { d1 with bc:=kb d1.bc nm }:=by rw[kQ a1 f1,aZ rfl]
  have hv2:=fun a b M=>agf (dE ae dir s) next ak to nm a1 (n1.small aH).ae f1 g1 aH 2 (a::b :: cF [ba (dE ae dir s),aD next,aD ak]::M) rfl
  have hu:=fun a b M=>anf (dE (dE ae dir s) to nm) next ak y.ar y.kind y.eG y.data y.bc y.up a2 (JJ a1 f1) (n2.small aH).ae 2 (a::b :: cF [ba (dE (dE ae dir s) to nm),aD next,aD ak]::M) rfl
  have f3:find (kM (dE (dE ae dir s) to nm) y) to=some { d1 with bc:=kb d1.bc nm }:=by rw[Fh a2 y (fun he=>hy hth' he.symm)]; exact f2
  obtain⟨w1,w2⟩:=fin (kM (dE (dE ae dir s) to nm) y) { d1 with bc:=kb d1.bc nm } (HY a2 y) (n2.kM (aY hy1 aH) hy2 next ak) f3 (AZ g1 nm) (aY (A3 _ _) m1) (Cf _ _)
  cases hkx:(x.kind==2) with
  |false =>
   simp only[yR,hv1,hv2,hu,zT,aL,hkx,w1,aM,EN,seval];simp only[yI,hkx,br,aM,qC,↓reduceIte,reduceCtorEq,aw]
  |true =>
   obtain⟨w3,w4⟩:=w2 hkx;simp only[yR,hv1,hv2,hu,zT,aL,hkx,w3,w4,aM,EN,seval];simp only[yI,hkx,br,aM,qC,↓reduceIte,reduceCtorEq,aw]
def mr(ae:List Node)(l:List gN)(s:Bytes):Node:=match gw l s with
 |none=>Node.zero
 |some e=>bl ae e.ar
def Eh(t:Tree)(dir to:Int)(bc:List gN)(there:Bool)(kind ar:Int):Bool :=
 ((!there&&to != dir)&&decide ((64:Int)<=bc.length))||(decide ((12:Int)<(uL t.ae to).length)||((kind==2&&IW t.ae ar (uL t.ae to).length)||decide ((1099511627776:Int)<=t.ak)))
def NW(t:Tree)(dir:Int)(s:Bytes)(to:Int)(nm:Bytes):Tree×Int×Int :=
 if (fg t.ae dir s).2 != 0 then (t,0,(fg t.ae dir s).2) else
 if (gW t.ae to).2 != 0 then (t,0,(gW t.ae to).2) else
 if !fX nm then (t,0,60) else
 if (mr t.ae (gW t.ae to).1.bc nm).ar==(fg t.ae dir s).1 then (t,0,0) else
 if (bl t.ae (fg t.ae dir s).1).kind==2&&(uL t.ae to).contains (fg t.ae dir s).1 then (t,0,75) else
 if (gw (gW t.ae to).1.bc nm).isSome&&Ah (bl t.ae (fg t.ae dir s).1) (mr t.ae (gW t.ae to).1.bc nm) != 0 then (t,0,Ah (bl t.ae (fg t.ae dir s).1) (mr t.ae (gW t.ae to).1.bc nm)) else
 if Eh t dir to (gW t.ae to).1.bc (gw (gW t.ae to).1.bc nm).isSome (bl t.ae (fg t.ae dir s).1).kind (fg t.ae dir s).1 then (t,0,76) else
 (yI t dir s to nm (fg t.ae dir s).1 (bl t.ae (fg t.ae dir s).1) (mr t.ae (gW t.ae to).1.bc nm) (gw (gW t.ae to).1.bc nm).isSome,(mr t.ae (gW t.ae to).1.bc nm).ar,0)
def anh(a b c:Int)(d:Bytes)(e:List gN)(u:Int)(a' b' c':Int)(d':Bytes)(e':List gN)(u':Int)(M:aC):aR (aq bX) 202 [.agg [aD a,aD b,aD c,df d,ja e,aD u],.agg [aD a',aD b',aD c',df d',ja e',aD u']] M=some (aD (Ah ⟨a,b,c,d,e,u⟩ ⟨a',b',c',d',e',u'⟩),M) :=
 cO (arM ⟨a,b,c,d,e,u⟩ ⟨a',b',c',d',e',u'⟩) M
def Yc(ae:List Node)(to:Int):(uL ae to).contains to=true:=by
 have key:∀(m:Nat)(ar:Int)(out:List Int),out.contains to=true->(uE ae m ar out).contains to=true:=by
  intro m;induction m with
  |zero=>intro ar out h; exact h
  |succ m ih =>
   intro ar out h;rw[uE];split
   ·split
    ·exact h
    ·exact ih _ _ (by simp at h ⊢; exact .inl h)
   ·exact h
 exact key _ _ _ dw
def WH{ae:List Node}{i:Int}(h:(bl ae i).kind=2):(bl ae i).ar=i:=by
 cases hf:find ae i with
 |none=>simp[bl,hf,Node.zero] at h
 |some n=>simp[bl,hf]; exact(cJ hf).2
set_option maxHeartbeats 4000000 in
def aq2(t:Tree)(dir:Int)(s:Bytes)(to:Int)(nm:Bytes)(hz:Sz 1000 t)(hr:rU t)(hs:s.length<=100000)(ha:po s)(hs':nm.length<=100000)(ha':po nm)
  (Yk:∀e,gw (gW t.ae to).1.bc nm=some e->(bl t.ae e.ar).ar≠to) :
  aq bX 152 [br t,aD dir,.str s,aD to,.str nm] []=some (.tuple [br (NW t dir s to nm).1,aD (NW t dir s to nm).2.1,aD (NW t dir s to nm).2.2],[]):=by
 obtain⟨Q,hQ⟩:∃Q,N7=Q:=⟨_,rfl⟩;obtain⟨ae,next,ak⟩:=t
 have ht:Small ⟨ae,next,ak⟩:=hz.small aH
 have hn:ae.length<=100000:=ht.ae;have hasc:o6 ae:=hr.ml;have hl:=fun M=>ZO ae next ak dir s ht hr hs ha M
 have hg:=fun i b c M=>Fm ae next ak i hasc hn 2 (b::c :: cF [ba ae,aD next,aD ak]::M) rfl
 have hd:=fun b c M=>ZQ ae next ak to hasc hn 2 (b::c :: cF [ba ae,aD next,aD ak]::M) rfl
 have hup:=fun b c M=>agi ae next ak to hasc hn 2 (b::c :: cF [ba ae,aD next,aD ak]::M) rfl
 have hul:=uF ae to;have hn1:ae.length<=1000:=hz.ae;have hc:=fun x M=>ang (uL ae to) x aH M
 have hdp:=fun i a b c M=>atw ae next ak i a hasc aH 2 (b::c :: cF [ba ae,aD next,aD ak]::M) rfl
 have hE:ri (gW ae to).1.bc:=hr.dir to;have hde:(gW ae to).1.bc.length<=100000:=tM ht to;have hen:=fun a b c d u M=>Tx a b c d (gW ae to).1.bc u nm _ (su hE nm) hde M
 refine aB ?_;simp only[ac6,yR,hQ,br,aM,hl,EN,seval];refine bB (fun hb0=>?_) (fun hb0=>?_)
 ·simp only[yR,hQ,hb0,EN,seval];clear hl hg hd hup hc hdp hen Yk;simp_all only[NW,br,aM,qC,↓reduceIte,reduceCtorEq,aw]
 simp only[yR,hQ,hb0,hd,bL,aL,EN,seval];refine bB (fun hb1=>?_) (fun hb1=>?_)
 ·simp only[yR,hQ,hb1,EN,seval];clear hl hg hd hup hc hdp hen Yk;simp_all only[NW,br,aM,qC,↓reduceIte,reduceCtorEq,aw]
 simp only[yR,hQ,hb1,agh,hs',ha',EN,seval];refine bB (fun hb2=>?_) (fun hb2=>?_)
 ·simp only[yR,hQ,hb2,EN,seval];clear hl hg hd hup hc hdp hen Yk;simp_all only[NW,br,aM,qC,↓reduceIte,reduceCtorEq,aw]
 simp only[yR,hQ,hb2,hg,hen,bL,aL,EN,seval];obtain⟨dd,de,e1,e2,e3,e4,e5⟩:=look_ok hb0;obtain⟨dt,g1,g2,g3⟩:=zb (show(gW ae to).2=0 by simpa using hb1)
 have hx0:=hz.find (fg ae dir s).1;have tail:=fun there y yr hyr hth hy hy1 hy2 v5 v140 B0 Bd hxx=>aiz ae next ak dir s to nm (fg ae dir s).1 (bl ae (fg ae dir s).1) y there v5 v140 B0 Bd yr hyr hz hr e1 g1 hth hxx hy hx0.1 hx0.2 hy1 hy2
 have hxne:((bl ae (fg ae dir s).1).kind==2)=true->(uL ae to).contains (fg ae dir s).1=false->(bl ae (fg ae dir s).1).ar≠to:=fun h1 h2 h3=>by
  rw[WH (by simpa using h1)] at h3
  rw[h3,Yc] at h2; cases h2
 have hdte:dt.bc=(gW ae to).1.bc:=by rw[g3]
 rcases xa hE nm with ⟨h1,o,h2,h3,h4⟩|⟨h1,h2⟩
 ·have hnu:mr ae (gW ae to).1.bc nm=bl ae o.ar:=by simp[mr,h3]
  have hy0:=hz.find o.ar;have tl:=tail true (bl ae o.ar) _ (fun _=>rfl) dw (fun _=>Yk o h3) hy0.1 hy0.2
  simp only[aL,zT] at tl;simp only[yR,hQ,h1,h2,hg,bL,aL,gj,EN,seval]
  repeat' ((first|apply bB|apply bW|apply dM)<;>intro hb<;>simp only[hb,EN,yR,hQ,hup,hc,hdp,anh,seval])
  all_goals try (clear hl hg hd hup hc hdp hen Yk tail tl hxne e5 g3; simp_all only[NW,Eh,br,aM,bQ,qC,↓reduceIte,reduceCtorEq,aw]; done)
  all_goals
   subst hQ;refine(tl _ _ _ _ (fun hk=>by first|exact hxne hk (by assumption)|(exfalso; simp_all; done))).trans ?_
   have hmv:NW ⟨ae,next,ak⟩ dir s to nm=(yI ⟨ae,next,ak⟩ dir s to nm (fg ae dir s).1 (bl ae (fg ae dir s).1) (bl ae o.ar) true,(bl ae o.ar).ar,0):=by
    clear hl hg hd hup hc hdp hen Yk tail tl hxne e5 g3;simp_all only[NW,Eh,bQ,qC,↓reduceIte,reduceCtorEq,aw]
   rw[hmv];rfl
 ·have hnu:mr ae (gW ae to).1.bc nm=Node.zero:=by simp[mr,h2]
  have tl:=tail false Node.zero [aD 0,aD 0,.slice .c0 [],.slice .c0 [],aD 0] dw (fun _=>by rw[hdte]; exact h2) dw (by simp[Node.zero]) (by simp[Node.zero])
  have hz0:Node.zero.ar=0:=rfl;simp only[aL,zT,hz0] at tl;simp only[yR,hQ,h1,EN,seval]
  repeat' ((first|apply bB|apply bW|apply dM)<;>intro hb<;>simp only[hb,EN,yR,hQ,hup,hc,hdp,anh,seval])
  all_goals try (clear hl hg hd hup hc hdp hen Yk tail tl hxne e5 g3; simp_all only[NW,Eh,br,aM,cU,qC,↓reduceIte,reduceCtorEq,aw]; done)
  all_goals
   subst hQ;refine(tl _ _ _ _ (fun hk=>by first|exact hxne hk (by assumption)|(exfalso; simp_all; done))).trans ?_
   have hmv:NW ⟨ae,next,ak⟩ dir s to nm=(yI ⟨ae,next,ak⟩ dir s to nm (fg ae dir s).1 (bl ae (fg ae dir s).1) Node.zero false,0,0):=by
    clear hl hg hd hup hc hdp hen Yk tail tl hxne e5 g3;simp_all only[NW,Eh,cU,qC,↓reduceIte,reduceCtorEq,aw]
   rw[hmv];rfl
end
def rq(l:List gN)(i:Int):Nat:=l.countP fun e=>e.ar==i
def uS(ns:List Node)(i:Int):Nat:=(ns.map fun n=>rq n.bc i).sum
def zO(i:Int):rq [] i=0:=rfl
def zN(a b:List gN)(i:Int):rq (a++b) i=rq a i+rq b i:=List.countP_append
def FL(e:gN)(l:List gN)(i:Int):rq (e::l) i=rq l i+(if e.ar=i then 1 else 0):=by simp[rq,lX]
def x7(a b:List Node)(i:Int):uS (a++b) i=uS a i+uS b i:=by simp[uS]
def vC(n:Node)(l:List Node)(i:Int):uS (n::l) i=rq n.bc i+uS l i:=by simp[uS]
def vD{ns:List Node}(h:o6 ns)(n:Node)(i:Int):uS (eT ns n) i+rq (bl ns n.ar).bc i=uS ns i+rq n.bc i:=by
 rcases tw h n.ar with ⟨_,o,h2,h3,h4⟩|⟨_,h2⟩
 ·rw[tX h h2 h4];obtain⟨s1,s2⟩:=yn (n:=n) h2
  have e1:uS ns i=uS (ns.take (mh ns n.ar)) i+(rq o.bc i+uS (ns.drop (mh ns n.ar+1)) i):=by
   rw[<-vC,<-x7,<-s1]
  rw[s2,x7,vC,e1];simp only[bl,h3,bC];omega
 ·rw[yu h h2]
  have e1:uS ns i=uS (ns.take (mh ns n.ar)) i+uS (ns.drop (mh ns n.ar)) i:=by
   rw[<-x7,cH]
  rw[x7,vC,e1];simp only[bl,h2,iK,Node.zero,zO];omega
def Hb{ns:List Node}(h:o6 ns)(k i:Int):uS (fS ns k) i+rq (bl ns k).bc i=uS ns i:=by
 rcases tw h k with ⟨_,o,h2,h3,h4⟩|⟨_,h2⟩
 ·rw[AI h h2 h4];obtain⟨s1,_⟩:=yn (n:=o) h2
  have e1:uS ns i=uS (ns.take (mh ns k)) i+(rq o.bc i+uS (ns.drop (mh ns k+1)) i):=by
   rw[<-vC,<-x7,<-s1]
  rw[x7,e1];simp only[bl,h3,bC];omega
 ·rw[yP h2];simp only[bl,h2,iK,Node.zero,zO];omega
def IQ{l:List gN}{i:Int}:0<rq l i↔∃e,e∈l/\e.ar=i:=by simp[rq,List.countP_pos_iff]
theorem wh{i:Int}:∀ {ns:List Node},0<uS ns i↔∃n e,n∈ns/\e∈n.bc/\e.ar=i
 | []=>by simp[uS]
 |n::ns=>by
  rw[vC];constructor
  ·intro h;rcases gY (rq n.bc i) with h0|h0
   ·obtain⟨m,e,h1,h2,h3⟩:=(wh (i:=i) (ns:=ns)).1 aH;exact⟨m,e,bu _ h1,h2,h3⟩
   ·obtain⟨e,h1,h2⟩:=IQ.1 h0;exact⟨n,e,bD,h1,h2⟩
  ·rintro⟨m,e,h1,h2,h3⟩;rcases bH.1 h1 with rfl|h1
   ·have:=IQ.2 ⟨e,h2,h3⟩; omega
   ·have:=(wh (i:=i) (ns:=ns)).2 ⟨m,e,h1,h2,h3⟩; omega
def WC{l:List gN}(h:ri l){e:gN}(hf:gw l e.name=none){x:gN}:x∈zg l e↔x=e\/x∈l:=by
 rw[vJ h hf];have:x∈l↔x∈l.take (mq l e.name)\/x∈l.drop (mq l e.name):=by rw[<-bo,cH]
 rw[this,bo,bH];constructor
 ·rintro(h|h|h)
  ·exact .inr (.inl h)
  ·exact .inl h
  ·exact .inr (.inr h)
 ·rintro(h|h|h)
  ·exact .inr (.inl h)
  ·exact .inl h
  ·exact .inr (.inr h)
def Pk{l:List gN}(h:ri l){e:gN}(hf:gw l e.name=none)(i:Int):rq (zg l e) i=rq l i+(if e.ar=i then 1 else 0):=by
 rw[vJ h hf,zN,FL];have:rq l i=rq (l.take (mq l e.name)) i+rq (l.drop (mq l e.name)) i:=by rw[<-zN,cH]
 omega
def Qb{l:List gN}{s:Bytes}{x:gN}:x∈kb l s↔x∈l/\x.name≠s:=by simp[kb,dP]
def Mw{l:List gN}{b:Nat}{o:gN}(ho:l[b]?=some o):l=l.take b++o::l.drop (b+1):=by
 have cQ:=(aj.1 ho).1;rw[ai cQ] at ho; injection ho with ho
 conv=>lhs; rw[<-cH b l]
 rw[cL cQ,ho]
def Ln{l:List gN}(h:ri l){s:Bytes}{o:gN}(hf:gw l s=some o)(i:Int):rq (kb l s) i+(if o.ar=i then 1 else 0)=rq l i:=by
 rcases xa h s with ⟨_,o',h2,h3,h4⟩|⟨_,h2⟩
 ·rw[hf] at h3; cases h3;rw[FN h h2 h4]
  have e1:rq l i=rq (l.take (mq l s)) i+(rq (l.drop (mq l s+1)) i+(if o.ar=i then 1 else 0)):=by
   rw[<-FL,<-zN,<-Mw h2]
  rw[zN,e1];omega
 ·rw[hf] at h2; cases h2
def ye{ns:List Node}(h:o6 ns){n o:Node}(hf:find ns n.ar=some o):(eT ns n).length=ns.length:=by
 rcases tw h n.ar with ⟨_,o,h2,h3,h4⟩|⟨_,h2⟩
 ·rw[tX h h2 h4,cA]
 ·rw[hf] at h2; cases h2
def Nm(s:Bytes):Prop:=fX s=true
structure dY(t:Tree)(dJ:Int->Nat)(x:Int):Prop where
 lL:rU t
 root:∃r,find t.ae 1=some r/\r.kind=2/\r.up=1
 num:∀i n,find t.ae i=some n->1<=i/\i<t.next
 kind:∀i n,find t.ae i=some n->n.kind=1\/n.kind=2
 file:∀i n,find t.ae i=some n->n.kind=1->n.bc=[]/\n.up=0/\n.data.length<=4096
 dir:∀i n,find t.ae i=some n->n.kind=2->n.data=[]
 CO:∀i n e,find t.ae i=some n->e∈n.bc->1<=e.ak/\e.ak<t.ak/\e.ar≠1/\Nm e.name/\∃m,find t.ae e.ar=some m/\(m.kind=2->m.up=i)
 yv:∀i n,find t.ae i=some n->(n.bc.Pairwise fun a b=>a.ak≠b.ak)/\n.bc.length<=64
 eG:∀i n,find t.ae i=some n->n.eG=(uS t.ae i:Int)+(if i=x then 1 else 0)
 one:∀i n,find t.ae i=some n->n.kind=2->i≠1->n.eG=1
 CN:dJ 1=0
 qK:∀i n,find t.ae i=some n->n.kind=2->i≠1->dJ i=dJ n.up+1/\∃p,find t.ae n.up=some p/\p.kind=2
 deep:∀i n,find t.ae i=some n->n.kind=2->dJ i<=12/\(dJ i=12->n.bc=[])
 ae:t.ae.length<=200
 next:t.next<=1099511627776
 ak:1<=t.ak/\t.ak<=1099511627776
def dY.ar{t:Tree}{dJ:Int->Nat}{x:Int}(_:dY t dJ x){i:Int}{n:Node}(hf:find t.ae i=some n):n.ar=i:=(cJ hf).2
theorem dY.gH{t t':Tree}{dJ:Int->Nat}{x x' d:Int}{n n':Node}(h:dY t dJ x)(hs:rU t')(hd:find t.ae d=some n)
  (hf:∀i,find t'.ae i=if i=d then some n' else find t.ae i) (hk:n'.kind=n.kind) (hu:n'.up=n.up)
  (hfile:n.kind=1->n'.bc=[]/\n'.data.length<=4096) (hdir:n.kind=2->n'.data=[])
  (hent:∀e,e∈n'.bc->1<=e.ak/\e.ak<t'.ak/\e.ar≠1/\Nm e.name/\∃m,find t.ae e.ar=some m/\(m.kind=2->m.up=d))
  (hcook:(n'.bc.Pairwise fun a b=>a.ak≠b.ak)/\n'.bc.length<=64)
  (hc:∀i,1<=i->(uS t'.ae i:Int)+(if i=x' then 1 else 0)=uS t.ae i+(if i=x then 1 else 0)+(if i=d then n'.eG-n.eG else 0))
  (h1:n.kind=2->n'.eG=n.eG) (hdeep:dJ d=12->n'.bc=[]) (hn:t'.ae.length<=200) (hnx:t'.next=t.next) (hck:t.ak<=t'.ak) (hck':t'.ak<=1099511627776):dY t' dJ x':=by
 have rn:∀j m,find t.ae j=some m->∃m',find t'.ae j=some m'/\m'.kind=m.kind/\m'.up=m.up:=by
  grind
 have back:∀j m',find t'.ae j=some m'->(j=d/\m'=n')\/(j≠d/\find t.ae j=some m'):=by
  grind
 refine⟨hs,?_,?_,?_,?_,?_,?_,?_,?_,?_,h.CN,?_,?_,hn,by rw[hnx]; exact h.next,⟨by have:=h.ak.1; omega,hck'⟩⟩
 ·obtain⟨r,h1,h2,h3⟩:=h.root
  grind
 ·intro i m hm;rw[hnx];rcases back i m hm with ⟨rfl,rfl⟩|⟨_,hm⟩
  ·exact h.num _ _ hd
  ·exact h.num _ _ hm
 ·intro i m hm;rcases back i m hm with ⟨rfl,rfl⟩|⟨_,hm⟩
  ·rw[hk]; exact h.kind _ _ hd
  ·exact h.kind _ _ hm
 ·intro i m hm hk1;rcases back i m hm with ⟨rfl,rfl⟩|⟨_,hm⟩
  ·rw[hk] at hk1;exact⟨(hfile hk1).1,by rw[hu]; exact(h.file _ _ hd hk1).2.1,(hfile hk1).2⟩
  ·exact h.file _ _ hm hk1
 ·intro i m hm hk1;rcases back i m hm with ⟨rfl,rfl⟩|⟨_,hm⟩
  ·rw[hk] at hk1;exact hdir hk1
  ·exact h.dir _ _ hm hk1
 ·intro i m e hm he
  have key:∀m,find t.ae e.ar=some m/\(m.kind=2->m.up=i)->∃m,find t'.ae e.ar=some m/\(m.kind=2->m.up=i):=by
   grind
  rcases back i m hm with ⟨rfl,rfl⟩|⟨_,hm⟩
  ·obtain⟨a1,a2,a3,a4,k,a5⟩:=hent e he;exact⟨a1,a2,a3,a4,key k a5⟩
  ·obtain⟨a1,a2,a3,a4,k,a5⟩:=h.CO _ _ e hm he;exact⟨a1,aH,a3,a4,key k a5⟩
 ·intro i m hm;rcases back i m hm with ⟨rfl,rfl⟩|⟨_,hm⟩
  ·exact hcook
  ·exact h.yv _ _ hm
 ·intro i m hm;rcases back i m hm with ⟨rfl,rfl⟩|⟨hne,hm⟩
  ·have:=hc i (h.num _ _ hd).1;have:=h.eG _ _ hd;simp only[↓reduceIte] at *;omega
  ·have:=hc i (h.num _ _ hm).1;have:=h.eG _ _ hm;omega
 ·intro i m hm hk1 hi;rcases back i m hm with ⟨rfl,rfl⟩|⟨_,hm⟩
  ·rw[hk] at hk1;rw[h1 hk1]; exact h.one _ _ hd hk1 hi
  ·exact h.one _ _ hm hk1 hi
 ·intro i m hm hk1 hi;rcases back i m hm with ⟨rfl,rfl⟩|⟨_,hm⟩
  ·rw[hk] at hk1;obtain⟨a,p,b,c⟩:=h.qK _ _ hd hk1 hi
   grind
  ·obtain⟨a,p,b,c⟩:=h.qK _ _ hm hk1 hi;obtain⟨p',k1,k2,_⟩:=rn _ _ b;exact⟨a,p',k1,aH⟩
 ·intro i m hm hk1;rcases back i m hm with ⟨rfl,rfl⟩|⟨_,hm⟩
  ·rw[hk] at hk1;exact⟨(h.deep _ _ hd hk1).1,hdeep⟩
  ·exact h.deep _ _ hm hk1
theorem dY.left{t:Tree}{dJ:Int->Nat}{d:Int}{n:Node}{s:Bytes}{e:gN}(h:dY t dJ 0)(hd:find t.ae d=some n)(he:gw n.bc s=some e):dY ⟨dE t.ae d s,t.next,t.ak⟩ dJ e.ar:=by
 have hE:ri n.bc:=h.lL.bc n (cJ hd).1;have hi:n.ar=d:=h.ar hd;have hem:=j6 he;have hw:dE t.ae d s=eT t.ae { n with bc:=kb n.bc s }:=by grind [dE]
 have hc:∀i,uS (dE t.ae d s) i+(if e.ar=i then 1 else 0)=uS t.ae i:=by
  intro i;have h1:=vD h.lL.ml { n with bc:=kb n.bc s } i
  have h2:=Ln hE he i;rw[hw]
  grind
 refine h.gH (h.lL.left d s t.next t.ak) hd (kQ h.lL.ml hd) rfl rfl ?_ ?_ ?_ ?_ ?_ (fun _=>rfl) ?_ ?_ rfl (dS _) h.ak.2
 ·intro hk;obtain⟨h1,_,h3⟩:=h.file _ _ hd hk
  grind
 ·exact h.dir _ _ hd
 ·intro x hx;exact h.CO _ _ x hd (Qb.1 hx).1
 ·exact⟨jU _ (h.yv _ _ hd).1,aY (bU _ _) (h.yv _ _ hd).2⟩
 ·grind
 ·intro h12;have:=(h.deep _ _ hd ?_).2 h12
  ·grind
  ·rcases h.kind _ _ hd with hk|hk
   ·have:=(h.file _ _ hd hk).1;rw[this] at hem; grind
   omega
 ·rw[hw,ye h.lL.ml (o:=n) jO];exact h.ae
theorem dY.nL{t:Tree}{dJ:Int->Nat}{x d:Int}{n m:Node}{s:Bytes}(h:dY t dJ x)(hd:find t.ae d=some n)(hk:n.kind=2)(he:gw n.bc s=none)(h64:n.bc.length<64)(hnm:Nm s)
  (hx:find t.ae x=some m) (hx1:x≠1) (hup:m.kind=2->m.up=d) (hdp:dJ d<12) (hck:t.ak<1099511627776):dY (il t d s x) dJ 0:=by
 have hE:ri n.bc:=h.lL.bc n (cJ hd).1;have hi:n.ar=d:=h.ar hd;have hcw:nw (t.ak+1)=t.ak+1:=gx (by have:=h.ak; omega) aH
 have hw:il t d s x=⟨eT t.ae { n with bc:=zg n.bc ⟨s,x,t.ak⟩ },t.next,t.ak+1⟩:=by grind [il]
 have hfn:gw n.bc (gN.mk s x t.ak).name=none:=he
 have hc:∀i,uS (il t d s x).ae i=uS t.ae i+(if x=i then 1 else 0):=by
  intro i;have h1:=vD h.lL.ml { n with bc:=zg n.bc ⟨s,x,t.ak⟩ } i
  have h2:=Pk hE hfn i;rw[hw]
  grind
 have hff:∀i,find (il t d s x).ae i=if i=d then some { n with bc:=zg n.bc ⟨s,x,t.ak⟩ } else find t.ae i:=by
  intro i;rw[hw];have:=gq h.lL.ml { n with bc:=zg n.bc ⟨s,x,t.ak⟩ } i
  rw[this]
  grind
 refine h.gH (h.lL.nL d s x jO) hd hff rfl rfl ?_ ?_ ?_ ?_ ?_ (fun _=>rfl) ?_ ?_ ?_ ?_ ?_
 ·omega
 ·exact h.dir _ _ hd
 ·intro e hem;rw[hw];rcases(WC hE hfn).1 hem with rfl|hem
  ·exact⟨h.ak.1,jO,hx1,hnm,m,hx,hup⟩
  ·obtain⟨a1,a2,a3,a4,a5⟩:=h.CO _ _ e hd hem
   grind
 ·refine⟨?_,by simp only[vJ hE hfn,aA,au,cf,hU]; omega⟩
  rw[vJ hE hfn];have hp:=(h.yv _ _ hd).1;rw[<-cH (mq n.bc s) n.bc,fx] at hp;obtain⟨p1,p2,p3⟩:=hp;rw[fx];refine⟨p1,du.2 ⟨fun a ha=>?_,p2⟩,fun a ha c hc=>?_⟩
  ·have:=(h.CO _ _ a hd (dA ha)).2.1
   grind
  ·rcases bH.1 hc with rfl|hc
   ·have:=(h.CO _ _ a hd (dB ha)).2.1
    grind
   grind
 ·grind
 ·omega
 ·rw[hw];simp only;rw[ye h.lL.ml (o:=n) jO];exact h.ae
 ·rw[hw]
 ·rw[hw]; grind
 grind
theorem dY.Ss{t:Tree}{dJ:Int->Nat}{x x' d:Int}{n n':Node}(h:dY t dJ x)(hd:find t.ae d=some n)(hk:n.kind=1)(hi':n'.ar=d)(hk':n'.kind=1)(hu:n'.up=n.up)(he:n'.bc=n.bc)(hda:n'.data.length<=4096)
  (hx:∀i:Int,1<=i->(if i=x' then 1 else 0:Int)=(if i=x then 1 else 0)+(if i=d then n'.eG-n.eG else 0)):dY ⟨eT t.ae n',t.next,t.ak⟩ dJ x':=by
 have hE:ri n'.bc:=by rw[he]; exact h.lL.bc n (cJ hd).1
 have hff:∀i,find (eT t.ae n') i=if i=d then some n' else find t.ae i:=by
  intro i;rw[gq h.lL.ml n' i,hi']
 obtain⟨f1,f2,f3⟩:=h.file _ _ hd hk;refine h.gH (h.lL.with hE t.next t.ak) hd hff aH hu ?_ ?_ ?_ ?_ ?_ ?_ ?_ ?_ rfl (dS _) h.ak.2
 ·grind
 ·omega
 ·grind
 ·rw[he,f1]; simp
 ·intro i h0;have h1:=vD h.lL.ml n' i
  grind
 ·omega
 ·grind
 ·simp only;rw[ye h.lL.ml (o:=n) jO];exact h.ae
theorem dY.named{t:Tree}{dJ:Int->Nat}{x:Int}(h:dY t dJ x){i:Int}{n:Node}(hi:find t.ae i=some n)(hk:n.kind=2)(h1:i≠1)(hx:i≠x):∃p e,find t.ae n.up=some p/\p.kind=2/\e∈p.bc/\e.ar=i:=by
 have a:=h.eG _ _ hi;have b:=h.one _ _ hi hk h1;obtain⟨m,e,e1,e2,e3⟩:=wh.1 (show 0<uS t.ae i by omega)
 have hm  := (ic h.lL.ml).2 ⟨e1,rfl⟩;obtain⟨_,_,_,_,k,k1,k2⟩:=h.CO _ _ e hm e2;rw[e3,hi] at k1; cases k1;obtain⟨_,p,p1,p2⟩:=h.qK _ _ hi hk h1;rw[k2 hk] at p1 ⊢
 grind
theorem dY.drop{t:Tree}{dJ:Int->Nat}{x k:Int}{n:Node}(h:dY t dJ x)(hx:x=k\/x=0)(hk:find t.ae k=some n)(he:n.bc=[])(h1:k≠1)(hc:uS t.ae k=0):dY ⟨fS t.ae k,t.next,t.ak⟩ dJ 0:=by
 have hff:∀i m,find (fS t.ae k) i=some m↔i≠k/\find t.ae i=some m:=by
  intro i m;rw[mi h.lL.ml];split<;>simp_all
 have hcn:∀i,uS (fS t.ae k) i=uS t.ae i:=by
  intro i;have:=Hb h.lL.ml k i;simp_all [bl,bC,zO]
 have hno:∀i m e,find t.ae i=some m->e∈m.bc->e.ar≠k:=by
  grind [wh,cJ]
 refine⟨h.lL.ve k t.next t.ak,?_,?_,?_,?_,?_,?_,?_,?_,?_,h.CN,?_,?_,?_,h.next,h.ak⟩
 ·obtain⟨r,r1,r2⟩:=h.root
  grind
 ·intro i m hm; exact h.num _ _ ((hff _ _).1 hm).2
 ·intro i m hm; exact h.kind _ _ ((hff _ _).1 hm).2
 ·intro i m hm; exact h.file _ _ ((hff _ _).1 hm).2
 ·intro i m hm; exact h.dir _ _ ((hff _ _).1 hm).2
 ·intro i m e hm hem;have hm':=((hff _ _).1 hm).2;obtain⟨a1,a2,a3,a4,q,a5,a6⟩:=h.CO _ _ e hm' hem
  grind
 ·intro i m hm; exact h.yv _ _ ((hff _ _).1 hm).2
 ·intro i m hm;obtain⟨m1,m2⟩:=(hff _ _).1 hm;have:=h.eG _ _ m2;have h0:=(h.num _ _ m2).1;rw[aQ (show i≠0 by omega)]
  grind
 ·intro i m hm; exact h.one _ _ ((hff _ _).1 hm).2
 ·intro i m hm hk2 hi1;obtain⟨m1,m2⟩:=(hff _ _).1 hm;obtain⟨a,p,b,c⟩:=h.qK _ _ m2 hk2 hi1;refine⟨a,p,(hff _ _).2 ⟨fun hh=>?_,b⟩,c⟩
  have h0:=(h.num _ _ m2).1;obtain⟨q,e,q1,_,q3,_⟩:=h.named m2 hk2 hi1 (by rcases hx with rfl|rfl<;>omega)
  rw[hh,hk] at q1; grind
 ·intro i m hm; exact h.deep _ _ ((hff _ _).1 hm).2
 ·exact aY (bU _ _) h.ae
theorem dY.aoK{t:Tree}{dJ dep':Int->Nat}{x to:Int}{n p:Node}(h:dY t dJ x)(hx:find t.ae x=some n)(hk:n.kind=2)(hx1:x≠1)(hp:find t.ae to=some p)(hpk:p.kind=2)
  (h1:dep' 1=0) (hds:∀i m,find t.ae i=some m->m.kind=2->i≠1->i≠x->dep' i=dep' m.up+1) (hdx:dep' x=dep' to+1)
  (hdeep:∀i m,find t.ae i=some m->m.kind=2->dep' i<=12/\(dep' i=12->m.bc=[])):dY ⟨eT t.ae { n with up:=to },t.next,t.ak⟩ dep' x:=by
 have hi:n.ar=x:=h.ar hx
 have hff:∀i,find (eT t.ae { n with up:=to }) i=if i=x then some { n with up:=to } else find t.ae i:=by
  intro i;rw[gq h.lL.ml { n with up:=to } i]
  simp only[hi]
 have rn:∀j m,find t.ae j=some m->∃m',find (eT t.ae { n with up:=to }) j=some m'/\m'.kind=m.kind/\(j≠x->m'.up=m.up):=by
  grind
 have back:∀j m',find (eT t.ae { n with up:=to }) j=some m'->(j=x/\m'={ n with up:=to })\/(j≠x/\find t.ae j=some m'):=by
  grind
 have hcn:∀i,uS (eT t.ae { n with up:=to }) i=uS t.ae i:=by
  intro i;have:=vD h.lL.ml { n with up:=to } i
  grind
 have hc0:uS t.ae x=0:=by
  have a:=h.eG _ n hx;have b:=h.one _ n hx hk hx1;simp only[↓reduceIte] at a;omega
 have hno:∀i m e,find t.ae i=some m->e∈m.bc->e.ar≠x:=by
  intro i m e hm hem hh;have:=wh.2 ⟨m,e,(cJ hm).1,hem,hh⟩;omega
 have hent:∀i m e,find t.ae i=some m->e∈m.bc->1<=e.ak/\e.ak<t.ak/\e.ar≠1/\Nm e.name/\∃m,find (eT t.ae { n with up:=to }) e.ar=some m/\(m.kind=2->m.up=i):=by
  intro i m e hm hem;obtain⟨a1,a2,a3,a4,q,a5,a6⟩:=h.CO _ _ e hm hem
  grind
 refine⟨h.lL.with (n:={ n with up:=to }) (h.lL.bc n (cJ hx).1) t.next t.ak,?_,?_,?_,?_,?_,?_,?_,?_,?_,h1,?_,?_,?_,h.next,h.ak⟩
 ·obtain⟨r,r1,r2,r3⟩:=h.root
  grind
 ·intro i m hm;rcases back i m hm with ⟨rfl,rfl⟩|⟨_,hm⟩
  ·exact h.num _ n hx
  ·exact h.num _ _ hm
 ·intro i m hm;rcases back i m hm with ⟨rfl,rfl⟩|⟨_,hm⟩
  ·exact h.kind _ n hx
  ·exact h.kind _ _ hm
 ·intro i m hm hk1;rcases back i m hm with ⟨rfl,rfl⟩|⟨_,hm⟩
  ·simp only at hk1; omega
  ·exact h.file _ _ hm hk1
 ·intro i m hm hk1;rcases back i m hm with ⟨rfl,rfl⟩|⟨_,hm⟩
  ·exact h.dir _ n hx hk
  ·exact h.dir _ _ hm hk1
 ·intro i m e hm hem;rcases back i m hm with ⟨rfl,rfl⟩|⟨_,hm⟩
  ·exact hent _ n e hx hem
  ·exact hent _ _ e hm hem
 ·intro i m hm;rcases back i m hm with ⟨rfl,rfl⟩|⟨_,hm⟩
  ·exact h.yv _ n hx
  ·exact h.yv _ _ hm
 ·intro i m hm;simp only[hcn];rcases back i m hm with ⟨rfl,rfl⟩|⟨_,hm⟩
  ·exact h.eG _ n hx
  ·exact h.eG _ _ hm
 ·intro i m hm hk1 hi1;rcases back i m hm with ⟨rfl,rfl⟩|⟨_,hm⟩
  ·exact h.one _ n hx hk hi1
  ·exact h.one _ _ hm hk1 hi1
 ·intro i m hm hk1 hi1;rcases back i m hm with ⟨rfl,rfl⟩|⟨hne,hm⟩
  ·obtain⟨p',k1,k2,_⟩:=rn _ _ hp;exact⟨hdx,p',k1,aH⟩
  ·obtain⟨_,q,b,c⟩:=h.qK _ _ hm hk1 hi1;obtain⟨q',k1,k2,_⟩:=rn _ _ b;exact⟨hds _ _ hm hk1 hi1 hne,q',k1,aH⟩
 ·intro i m hm hk1;rcases back i m hm with ⟨rfl,rfl⟩|⟨_,hm⟩
  ·exact hdeep _ n hx hk
  ·exact hdeep _ _ hm hk1
 ·simp only;rw[ye h.lL.ml (o:=n) (by simp only[hi]; exact hx)]
  exact h.ae
def dY.made{t:Tree}{dJ:Int->Nat}{d kind:Int}{p:Node}(h:dY t dJ 0)(hp:find t.ae d=some p)(hpk:p.kind=2)(hk:kind=1\/kind=2)(hdp:dJ d<12)(hl:t.ae.length<200)(hn:t.next<1099511627776) :
  dY ⟨eT t.ae ⟨t.next,kind,1,[],[],if kind==2 then d else 0⟩,t.next+1,t.ak⟩ (fun i=>if i=t.next then dJ d+1 else dJ i) t.next:=by
 have jq:find t.ae t.next=none:=by
  cases hz:find t.ae t.next with
  |none=>rfl
  |some m=>have:=h.num _ _ hz; omega
 have hnx:2<=t.next:=by
  obtain⟨r,r1,_⟩:=h.root;have:=(h.num _ _ r1).2; omega
 generalize hn':Node.mk t.next kind 1 [] [] (if kind==2 then d else 0)=n'
 have i1:n'.ar=t.next:=by rw[<-hn']
 have i2:n'.kind=kind:=by rw[<-hn']
 have i3:n'.eG=1:=by rw[<-hn']
 have i4:n'.data=[]:=by rw[<-hn']
 have i5:n'.bc=[]:=by rw[<-hn']
 have i6:n'.up=if kind==2 then d else 0:=by rw[<-hn']
 have hff:∀i,find (eT t.ae n') i=if i=t.next then some n' else find t.ae i:=by
  intro i;rw[gq h.lL.ml n' i,i1]
 have rn:∀j m,find t.ae j=some m->find (eT t.ae n') j=some m/\j≠t.next:=by
  intro j m hm;have:=(h.num _ _ hm).2;rw[hff,aQ aH];exact⟨hm,aH⟩
 have back:∀j m',find (eT t.ae n') j=some m'->(j=t.next/\m'=n')\/(j≠t.next/\find t.ae j=some m'):=by
  intro j m' hm;rw[hff] at hm;split at hm
  ·rename_i he; injection hm with hm; exact .inl ⟨he,hm.symm⟩
  ·rename_i he; exact .inr ⟨he,hm⟩
 have hcn:∀i,uS (eT t.ae n') i=uS t.ae i:=by
  intro i;have:=vD h.lL.ml n' i;simp only[bl,i1,jq,iK,Node.zero,i5,zO] at this;omega
 have hc0:uS t.ae t.next=0:=by
  rcases gY (uS t.ae t.next) with h0|h0
  ·exact h0
  ·obtain⟨m,e,e1,e2,e3⟩:=wh.1 h0;obtain⟨_,_,_,_,k,k1,_⟩:=h.CO _ _ e ((ic h.lL.ml).2 ⟨e1,rfl⟩) e2;rw[e3,jq] at k1; cases k1
 refine⟨h.lL.with (n:=n') (by rw[i5]; exact List.Pairwise.nil) _ _,?_,?_,?_,?_,?_,?_,?_,?_,?_,?_,?_,?_,?_,?_,h.ak⟩
 ·obtain⟨r,r1,r2⟩:=h.root;exact⟨r,(rn _ _ r1).1,r2⟩
 ·intro i m hm;simp only;rcases back i m hm with ⟨rfl,rfl⟩|⟨_,hm⟩
  ·omega
  ·have:=h.num _ _ hm; omega
 ·intro i m hm;rcases back i m hm with ⟨rfl,rfl⟩|⟨_,hm⟩
  ·rw[i2]; exact hk
  ·exact h.kind _ _ hm
 ·intro i m hm hk1;rcases back i m hm with ⟨rfl,rfl⟩|⟨_,hm⟩
  ·rw[i2] at hk1;exact⟨i5,by rw[i6,hk1]; rfl,by rw[i4]; simp⟩
  ·exact h.file _ _ hm hk1
 ·intro i m hm hk1;rcases back i m hm with ⟨rfl,rfl⟩|⟨_,hm⟩
  ·exact i4
  ·exact h.dir _ _ hm hk1
 ·intro i m e hm hem;rcases back i m hm with ⟨rfl,rfl⟩|⟨_,hm⟩
  ·rw[i5] at hem; cases hem
  ·obtain⟨a1,a2,a3,a4,q,a5,a6⟩:=h.CO _ _ e hm hem;exact⟨a1,a2,a3,a4,q,(rn _ _ a5).1,a6⟩
 ·intro i m hm;rcases back i m hm with ⟨rfl,rfl⟩|⟨_,hm⟩
  ·rw[i5]; exact⟨List.Pairwise.nil,dw⟩
  ·exact h.yv _ _ hm
 ·intro i m hm;simp only[hcn];rcases back i m hm with ⟨rfl,rfl⟩|⟨hne,hm⟩
  ·rw[hc0,i3]; simp
  ·rw[aQ hne];have:=h.eG _ _ hm;rw[aQ (by have:=(h.num _ _ hm).1; omega)] at this
   exact this
 ·intro i m hm hk1 hi1;rcases back i m hm with ⟨rfl,rfl⟩|⟨_,hm⟩
  ·exact i3
  ·exact h.one _ _ hm hk1 hi1
 ·show(if (1:Int)=t.next then dJ d+1 else dJ 1)=0
  rw[aQ aH]; exact h.CN
 ·intro i m hm hk1 hi1
  show(if i=t.next then dJ d+1 else dJ i)=(if m.up=t.next then dJ d+1 else dJ m.up)+1/\_
  rcases back i m hm with ⟨rfl,rfl⟩|⟨hne,hm⟩
  ·rw[i2] at hk1;have hu:m.up=d:=by rw[i6,hk1]; rfl
   rw[hu,aZ rfl,aQ (rn _ _ hp).2];exact⟨rfl,p,(rn _ _ hp).1,hpk⟩
  ·obtain⟨a,q,b,c⟩:=h.qK _ _ hm hk1 hi1;rw[aQ hne,aQ (rn _ _ b).2];exact⟨a,q,(rn _ _ b).1,c⟩
 ·intro i m hm hk1
  show(if i=t.next then dJ d+1 else dJ i)<=12/\((if i=t.next then dJ d+1 else dJ i)=12->_)
  rcases back i m hm with ⟨rfl,rfl⟩|⟨hne,hm⟩
  ·rw[aZ rfl]; exact⟨aH,fun _=>i5⟩
  ·rw[aQ hne]; exact h.deep _ _ hm hk1
 ·have:=GS t.ae n';simp only; omega
 ·simp only; omega
def cover:∀(k:Nat)(l:List Nat),(∀j,j<k->j∈l)->k<=l.length
 |0,_,_=>cI _
 |k+1,l,h=>by
  have hk:=h k aH;have:=cover k (l.erase k) (fun j hj=>(List.mem_erase_of_ne aH).2 (h j aH))
  rw[List.length_erase_of_mem hk] at this;have:=List.length_pos_of_mem hk;omega
def dY.aoP{t:Tree}{dJ:Int->Nat}{x:Int}(h:dY t dJ x):∀(m:Nat)(i:Int)(n:Node),find t.ae i=some n->n.kind=2->dJ i=m->∀k,k<=m->∃j p,find t.ae j=some p/\dJ j=k:=by
 intro m;induction m with
 |zero=>intro i n hi _ hm k hk; exact⟨i,n,hi,aH⟩
 |succ m ih =>
  intro i n hi hk2 hm k hk;rcases Nat.eq_or_lt_of_le hk with rfl|cQ
  ·exact⟨i,n,hi,hm⟩
  ·have h1:i≠1:=fun hh=>by subst hh; have:=h.CN; omega
   obtain⟨a,p,b,c⟩:=h.qK _ _ hi hk2 h1;exact ih _ p b c aH k aH
def dY.DE{t:Tree}{dJ:Int->Nat}{x:Int}(h:dY t dJ x){i:Int}{n:Node}(hi:find t.ae i=some n)(hk:n.kind=2):dJ i<t.ae.length:=by
 have:=cover (dJ i+1) (t.ae.map fun n=>dJ n.ar) (fun j hj=>by
  obtain⟨a,p,h1,h2⟩:=h.aoP _ _ _ hi hk rfl j aH;rw[eJ];exact⟨p,(cJ h1).1,by rw[(cJ h1).2,h2]⟩)
 rw[cz] at this;omega
def dY.Lu{t:Tree}{dJ:Int->Nat}{x:Int}(h:dY t dJ x):∀(m:Nat)(i:Int)(d:Nat)(n:Node),find t.ae i=some n->n.kind=2->dJ i<=m->wj t.ae m i d=d+dJ i:=by
 intro m;induction m with
 |zero=>intro i d n _ _ hd; simp only[wj]; omega
 |succ m ih =>
  intro i d n hi hk hd;simp only[wj];split
  ·rename_i h1; subst h1; have:=h.CN; omega
  ·rename_i h1;obtain⟨a,p,b,c⟩:=h.qK _ _ hi hk h1;have hu:QQ t.ae i=n.up:=by simp[QQ,hi]
   rw[hu,ih _ _ p b c aH];omega
def dY.qe{t:Tree}{dJ:Int->Nat}{x:Int}(h:dY t dJ x){i:Int}{n:Node}(hi:find t.ae i=some n)(hk:n.kind=2):pR t.ae i=dJ i:=by
 have:=h.Lu 201 i 0 n hi hk (by have:=(h.deep _ _ hi hk).1; omega)
 simp only[pR,this]; omega
def dY.yt{t:Tree}{dJ:Int->Nat}{x:Int}(h:dY t dJ x):∀(m:Nat)(i:Int)(out:List Int)(n:Node),find t.ae i=some n->n.kind=2->dJ i<=m->(uE t.ae m i out).length=out.length+dJ i:=by
 intro m;induction m with
 |zero=>intro i out n _ _ hd; simp only[uE]; omega
 |succ m ih =>
  intro i out n hi hk hd;simp only[uE]
  by_cases h1:i=1
  ·subst h1; have:=h.CN; simp; omega
  ·obtain⟨a,p,b,c⟩:=h.qK _ _ hi hk h1;simp only[pf,ne_eq,h1,not_false_eq_true,↓reduceIte,bl,hi,bQ,cv,bC,hk,aw,fG,af];rw[ih _ _ p b c aH];simp only[aA,au,az];omega
def dY.uF{t:Tree}{dJ:Int->Nat}{x:Int}(h:dY t dJ x){i:Int}{n:Node}(hi:find t.ae i=some n)(hk:n.kind=2):(uL t.ae i).length=dJ i+1:=by
 have:=h.yt t.ae.length i [i] n hi hk (by have:=h.DE hi hk; omega)
 simp only[uL,this,au,az]; omega
def dY.Yb{t:Tree}{dJ:Int->Nat}{x:Int}(_:dY t dJ x){i:Int}{n:Node}(hi:find t.ae i=some n):QQ t.ae i=n.up:=by simp[QQ,hi]
def dY.Du{t:Tree}{dJ:Int->Nat}{x:Int}(h:dY t dJ x)(of:Int):∀(m:Nat)(i:Int)(n:Node),find t.ae i=some n->n.kind=2->dJ i<m->ni t.ae of m i=ni t.ae of (dJ i+1) i:=by
 intro m;induction m with
 |zero=>intro i n _ _ hd; omega
 |succ m ih =>
  intro i n hi hk hd
  by_cases h1:i=1
  ·subst h1; simp only[ni]; split<;>rfl
  ·obtain⟨a,p,b,c⟩:=h.qK _ _ hi hk h1;simp only[ni,h1,↓reduceIte,h.Yb hi];rw[ih _ p b c aH,a]
theorem dY.oU{t:Tree}(i:Int):iM t.ae i i=true:=by simp[iM,ni]
theorem dY.qP{t:Tree}{of:Int}(h1:of≠1):iM t.ae 1 of=false:=by
 simp only[iM,ni];rw[aQ (fun hh=>h1 hh.symm)]
 rfl
def dY.sy{t:Tree}{dJ:Int->Nat}{x:Int}(h:dY t dJ x){of i:Int}{n:Node}(hi:find t.ae i=some n)(hk:n.kind=2)(h1:i≠1)(ho:i≠of):iM t.ae i of=iM t.ae n.up of:=by
 obtain⟨a,p,b,c⟩:=h.qK _ _ hi hk h1;have d1:=h.DE b c;have d2:=h.DE hi hk;simp only[iM];rw[h.Du of _ _ p b c aH];rw[h.Du of _ _ n hi hk aH]
 conv=>lhs; rw[ni]
 simp only[ho,h1,↓reduceIte,h.Yb hi];rw[a]
def dY.AU{t:Tree}{dJ:Int->Nat}{x:Int}(h:dY t dJ x){of:Int}:∀(m:Nat)(i:Int)(n:Node),find t.ae i=some n->n.kind=2->dJ i=m->iM t.ae i of=true->dJ of<=dJ i:=by
 intro m;induction m with
 |zero =>
  intro i n hi hk hm hb
  by_cases h1:i=1
  ·by_cases h2:of=1
   ·subst h1; subst h2; exact av _
   ·subst h1; rw[dY.qP h2] at hb; cases hb
  ·obtain⟨a,_⟩:=h.qK _ _ hi hk h1;omega
 |succ m ih =>
  intro i n hi hk hm hb;have h1:i≠1:=fun hh=>by subst hh; have:=h.CN; omega
  obtain⟨a,p,b,c⟩:=h.qK _ _ hi hk h1
  by_cases ho:i=of
  ·subst ho; exact av _
  ·rw[h.sy hi hk h1 ho] at hb;have:=ih _ p b c aH hb;omega
def JV{α:Type}[DecidableEq α]:∀(l k:List α),l.Nodup->(∀x,x∈l->x∈k)->l.length<=k.length
 | [],_,_,_=>cI _
 |a::l,k,h,hs=>by
  have ha:=hs a bD;obtain⟨h1,h2⟩:=oN.1 h;have:=JV l (k.erase a) h2 (fun x hx=>(List.mem_erase_of_ne (by rintro rfl; exact h1 hx)).2 (hs x (bu _ hx)))
  rw[List.length_erase_of_mem ha] at this;have:=List.length_pos_of_mem ha;simp only[au];omega
def dY.Sr{t:Tree}{dJ:Int->Nat}{x:Int}(h:dY t dJ x){i:Int}{n:Node}(hi:find t.ae i=some n):n.bc.length<=64:=(h.yv _ _ hi).2
def R3(i:Int):∀(ns:List Node),(∀n,n∈ns->n.bc.length<=64)->uS ns i<=64*ns.length
 | [],_=>cI _
 |n::ns,h=>by
  have h1:=R3 i ns (fun m hm=>h m (bu _ hm))
  have h2:rq n.bc i<=n.bc.length:=nz;have h3:=h n bD;rw[vC,au];omega
def dY.R4{t:Tree}{dJ:Int->Nat}{x:Int}(h:dY t dJ x)(i:Int):uS t.ae i<=12800:=by
 have:=R3 i t.ae (fun n hn=>h.Sr ((ic h.lL.ml).2 ⟨hn,rfl⟩))
 have:=h.ae;omega
def dY.xj{t:Tree}{dJ:Int->Nat}{x:Int}(h:dY t dJ x){i:Int}{n:Node}(hi:find t.ae i=some n){e:gN}(he:e∈n.bc):e.ar≠i:=by
 intro hh;obtain⟨_,_,h1,_,m,hm,hu⟩:=h.CO _ _ e hi he;rw[hh,hi] at hm; cases hm
 have hk:n.kind=2:=by
  rcases h.kind _ _ hi with hk|hk
  ·rw[(h.file _ _ hi hk).1] at he; cases he
  ·exact hk
 have:=(h.qK _ _ hi hk aH).1;rw[hu hk] at this;omega
def I2{t:Tree}{ar:Int}{s:Bytes}(h:(o8 t ar s != 0)=false):∃d,find t.ae ar=some d/\d.kind=2/\fX s=true/\gw d.bc s=none/\d.bc.length<64/\pR t.ae ar<12/\t.ak<1099511627776:=by
 have h0:o8 t ar s=0:=by simpa using h
 unfold o8 at h0;split at h0
 ·rename_i h1; exact absurd h0 h1
 ·rename_i h1;obtain⟨d,d1,d2,d3⟩:=zb (show(gW t.ae ar).2=0 by omega)
  rw[d3] at h0;split at h0
  ·cases h0
  ·rename_i h2;split at h0
   ·cases h0
   ·rename_i h3;split at h0
    ·cases h0
    ·rename_i h4;simp only[DQ,(cJ d1).2,dh,bh,pg] at h4;refine⟨d,d1,d2,by simpa using h2,by simpa using h3,aH,aH,aH⟩
def dY.cw{t:Tree}{dJ:Int->Nat}{x:Int}(h:dY t dJ x)(hn:t.next<1099511627776):nw (t.next+1)=t.next+1:=gx (by
 obtain⟨r,r1,_⟩:=h.root;have:=h.num _ _ r1; omega) aH
def Rx{t:Tree}{dJ:Int->Nat}(h:dY t dJ 0)(ar:Int)(s:Bytes)(kind:Int)(hs:fX s=true->Nm s):∃dep',dY (rX t ar s kind).1 dep' 0:=by
 unfold rX;split
 ·exact⟨dJ,h⟩
 ·rename_i hk;split
  ·exact⟨dJ,h⟩
  ·rename_i he;split
   ·exact⟨dJ,h⟩
   ·rename_i hb;obtain⟨d,d1,d2,d3,d4,d5,d6,d7⟩:=I2 (by simpa using he)
    simp only[dh,bh,pg] at hb;have hn:t.next<1099511627776:=aH
    rw[h.qe d1 d2] at d6
    have hk':kind=1\/kind=2:=by
     simp only[bz,pf,ne_eq,not_and,Decidable.not_not] at hk
     by_cases h1:kind=1
     ·exact .inl h1
     ·exact .inr (hk h1)
    have hm:=h.made d1 d2 hk' d6 aH hn;rw[h.cw hn];have cQ:=(h.num _ _ d1).2;have hne:ar≠t.next:=aH
    refine⟨_,hm.nL (d:=ar) (n:=d) (m:=⟨t.next,kind,1,[],[],if kind==2 then ar else 0⟩) ?_ d2 d4 (by simpa using d5) (hs d3) ?_ ?_ ?_ ?_ d7⟩
    ·simp only; rw[gq h.lL.ml]; simp only[hne,↓reduceIte]; exact d1
    ·simp only; rw[gq h.lL.ml]; simp only[↓reduceIte]
    ·have:=(h.num _ _ d1).1; omega
    ·intro h2;simp only at h2;simp[h2]
    ·simp only[hne,↓reduceIte]; exact d6
def aaI{t:Tree}{dJ:Int->Nat}(h:dY t dJ 0)(ar to:Int)(s:Bytes)(hs:fX s=true->Nm s):dY (CS t ar to s).1 dJ 0:=by
 unfold CS;split
 ·exact h
 ·rename_i hf;split
  ·exact h
  ·rename_i hk;split
   ·exact h
   ·rename_i he;obtain⟨d,d1,d2,d3,d4,d5,d6,d7⟩:=I2 (by simpa using he)
    rw[h.qe d1 d2] at d6;cases hi:find t.ae ar with
    |none=>simp[hi] at hf
    |some n =>
     simp only[bl,hi,bC] at hk ⊢
     have hk1:n.kind=1:=by
      rcases h.kind _ _ hi with h1|h1
      ·exact h1
      ·simp[h1] at hk
     have hlk:=h.eG _ _ hi;rw[aQ (by have:=(h.num _ _ hi).1; omega)] at hlk
     have hcl:=h.R4 ar;have hw:nw (n.eG+1)=n.eG+1:=gx aH aH;rw[hw];obtain⟨f1,f2,f3⟩:=h.file _ _ hi hk1
     have hg:=h.Ss (n':={ n with eG:=n.eG+1 }) (x':=ar) hi hk1 (cJ hi).2 hk1 rfl rfl f3 (fun i h0=>by
      simp only;rw[aQ (show i≠0 by omega)]
      split<;>omega)
     have hne:to≠ar:=fun hh=>by subst hh; rw[hi] at d1; cases d1; omega
     refine hg.nL (d:=to) (n:=d) (m:={ n with eG:=n.eG+1 }) ?_ d2 d4 (by simpa using d5) (hs d3) ?_ ?_ ?_ d6 d7
     ·simp only; rw[gq h.lL.ml]; simp only[h.ar hi,hne,↓reduceIte]; exact d1
     ·simp only; rw[gq h.lL.ml]; simp only[h.ar hi,↓reduceIte]
     ·intro hh; subst hh;obtain⟨r,r1,r2,_⟩:=h.root;rw[hi] at r1; cases r1; omega
     ·intro h2; simp only at h2; omega
def dY.unnamed{t:Tree}{dJ:Int->Nat}{k:Int}{n:Node}(h:dY t dJ k)(hk:find t.ae k=some n)(he:n.bc=[])(h1:k≠1):dY ⟨fm t.ae k,t.next,t.ak⟩ dJ 0:=by
 unfold fm;simp only[bl,hk,bC];have hl:=h.eG _ _ hk;simp only[↓reduceIte] at hl;split
 ·rename_i h2;have:=h.one _ _ hk (by simpa using h2) h1
  exact h.drop (.inl rfl) hk he h1 aH
 ·rename_i h2
  have hk1:n.kind=1:=by
   rcases h.kind _ _ hk with h1|h1
   ·exact h1
   ·simp[h1] at h2
  have hcl:=h.R4 k;have hw:nw (n.eG-1)=n.eG-1:=gx aH aH;rw[hw];obtain⟨f1,f2,f3⟩:=h.file _ _ hk hk1
  exact h.Ss (n':={ n with eG:=n.eG-1 }) (x':=0) hk hk1 (cJ hk).2 hk1 rfl rfl f3 (fun i h0=>by
   simp only;rw[aQ (show i≠0 by omega)]
   split<;>omega)
def dY.un{t:Tree}{dJ:Int->Nat}(h:dY t dJ 0){d:Int}{n m:Node}{s:Bytes}{e:gN}(hd:find t.ae d=some n)(he:gw n.bc s=some e)(hm:find t.ae e.ar=some m)(hm0:m.bc=[]):dY ⟨fm (dE t.ae d s) e.ar,t.next,t.ak⟩ dJ 0:=by
 have hem:=(j6 he).1;have hl:=h.left hd he;refine hl.unnamed (n:=m) ?_ hm0 (h.CO _ _ e hd hem).2.2.1;simp only;rw[kQ h.lL.ml hd,aQ (h.xj hd hem)];exact hm
def ab9{t:Tree}{dJ:Int->Nat}(h:dY t dJ 0)(ar:Int)(s:Bytes):dY (BT t ar s).1 dJ 0:=by
 unfold BT;split
 ·exact h
 ·rename_i hl;obtain⟨d,e,d1,d2,d3,d4,d5⟩:=look_ok (by simpa using hl)
  rw[d5];split
  ·exact h
  ·rename_i h0;obtain⟨_,_,_,_,m,hm,_⟩:=h.CO _ _ e d1 (j6 d4).1;simp only[bl,hm,bC,bh] at h0;exact h.un d1 d4 hm (dU.1 aH)
def Xm{t:Tree}{dJ:Int->Nat}(h:dY t dJ 0)(ar:Int)(data:Bytes):dY (rT t ar data).1 dJ 0:=by
 unfold rT;split
 ·exact h
 ·rename_i hf;split
  ·exact h
  ·rename_i hk;split
   ·exact h
   ·rename_i hd;cases hi:find t.ae ar with
    |none=>simp[hi] at hf
    |some n =>
     simp only[bl,hi,bC] at hk ⊢
     have hk1:n.kind=1:=by
      rcases h.kind _ _ hi with h1|h1
      ·exact h1
      ·simp[h1] at hk
     simp only[bh] at hd
     exact h.Ss (n':={ n with data:=data }) (x':=0) hi hk1 (cJ hi).2 hk1 rfl rfl (by simp only; omega) (fun i h0=>by
      simp only;rw[aQ (show i≠0 by omega)]
      split<;>omega)
def FT{t:Tree}{dJ:Int->Nat}(h:dY t dJ 0)(ar:Int):dY (kL t ar).1 dJ 0:=by
 unfold kL;split
 ·exact h
 ·rename_i hf;split
  ·exact h
  ·rename_i hk;split
   ·exact h
   ·rename_i hd;cases hi:find t.ae ar with
    |none=>simp[hi] at hf
    |some n =>
     simp only[bl,hi,bC] at hk hd
     have hk1:n.kind=1:=by
      rcases h.kind _ _ hi with h1|h1
      ·exact h1
      ·simp[h1] at hk
     simp only[bh] at hd;have hl:=h.eG _ _ hi;rw[aQ (by have:=(h.num _ _ hi).1; omega)] at hl
     refine h.drop (.inr rfl) hi (h.file _ _ hi hk1).1 ?_ aH;intro hh; subst hh;obtain⟨r,r1,r2,_⟩:=h.root;rw[hi] at r1; cases r1; omega
def MR:∀ {a b:List Node},o6 a->o6 b->(∀m,m∈a↔m∈b)->a=b
 | [],[],_,_,_=>rfl
 | [],y::b,_,_,h=>by have:=(h y).2 bD; cases this
 |x::a,[],_,_,h=>by have:=(h x).1 bD; cases this
 |x::a,y::b,ha,hb,h=>by
  obtain⟨a1,a2⟩:=du.1 ha;obtain⟨b1,b2⟩:=du.1 hb
  have hxy:x=y:=by
   rcases bH.1 ((h x).1 bD) with h1|h1
   ·exact h1
   ·rcases bH.1 ((h y).2 bD) with h2|h2
    ·exact h2.symm
    ·have:=b1 x h1; have:=a1 y h2; omega
  subst hxy;rw[MR a2 b2 (fun m=>?_)]
  constructor
  ·intro hm;rcases bH.1 ((h m).1 (bu _ hm)) with h1|h1
   ·subst h1; have:=a1 m hm; omega
   ·exact h1
  ·intro hm;rcases bH.1 ((h m).2 (bu _ hm)) with h1|h1
   ·subst h1; have:=b1 m hm; omega
   ·exact h1
def Sv{a b:List Node}(ha:o6 a)(hb:o6 b)(h:∀i,find a i=find b i):a=b :=
 MR ha hb fun m=>by
  constructor
  ·intro hm;have:=(ic ha).2 ⟨hm,rfl⟩;rw[h] at this;exact(cJ this).1
  ·intro hm;have:=(ic hb).2 ⟨hm,rfl⟩;rw[<-h] at this;exact(cJ this).1
def AF{ae:List Node}(h:o6 ae)(k:Int):o6 (fm ae k):=by
 unfold fm;split
 ·exact rO h _
 ·exact lM h _
def se{ae:List Node}(h:o6 ae)(k:Int)(s:Bytes):o6 (dE ae k s):=lM h _
def NL(n:Node):Option Node:=if n.kind==2 then none else some { n with eG:=nw (n.eG-1) }
def vj{ae:List Node}(h:o6 ae){k:Int}{n:Node}(hk:find ae k=some n)(i:Int):find (fm ae k) i=if i=k then NL n else find ae i:=by
 unfold fm NL;simp only[bl,hk,bC];split
 ·rw[mi h]
 ·rw[gq h];simp only[(cJ hk).2]
def Lx(l:List gN)(a b:Bytes):kb (kb l a) b=kb (kb l b) a:=by
 simp only[kb,List.filter_filter];congr 1;funext e;rw[Bool.and_comm]
def X8{ae:List Node}(h:o6 ae){f to y:Int}{s nm:Bytes}{dF dT m:Node}(hF:find ae f=some dF)(hT:find ae to=some dT)(hy:find ae y=some m)(h1:y≠f)(h2:y≠to) :
  fm (dE (dE ae f s) to nm) y=dE (fm (dE ae to nm) y) f s:=by
 have a1:=se h f s;have a2:=se h to nm;have a3:=se a1 to nm;have a4:=AF a2 y;have f1:=kQ h hF (s:=s);have f2:=kQ h hT (s:=nm);have hy1:find (dE ae to nm) y=some m:=by rw[f2,aQ h2]; exact hy
 have f4:=vj a2 hy1;obtain⟨dT',hT'⟩:∃dT',find (dE ae f s) to=some dT':=by rw[f1]; split<;>simp_all
 have f3:=kQ a1 hT' (s:=nm);have hy3:find (dE (dE ae f s) to nm) y=some m:=by rw[f3,aQ h2,f1,aQ h1]; exact hy
 have f5:=vj a3 hy3;obtain⟨dF',hF'⟩:∃dF',find (fm (dE ae to nm) y) f=some dF':=by rw[f4,aQ (fun hh=>h1 hh.symm),f2]; split<;>simp_all
 have f6:=kQ a4 hF' (s:=s);refine Sv (AF a3 y) (se a4 f s) (fun i=>?_)
 rw[f5,f6,f4,f3];rw[f1] at hT';rw[f4,aQ (fun hh=>h1 hh.symm),f2] at hF'
 by_cases i1:i=y
 ·subst i1; simp[h1]
 ·simp only[i1,↓reduceIte]
  by_cases i2:i=to
  ·subst i2;simp only[↓reduceIte]
   by_cases i3:i=f
   ·subst i3;simp only[↓reduceIte] at hT' hF' ⊢;injection hT' with hT'; injection hF' with hF'
    rw[<-hT',<-hF'];rw[hF] at hT; cases hT;simp only[Lx]
   ·simp only[i3,↓reduceIte] at hT' ⊢;rw[f2]; simp only[↓reduceIte];rw[hT] at hT'; injection hT' with hT'; rw[hT']
  ·simp only[i2,↓reduceIte];rw[f1,f2]
   by_cases i3:i=f
   ·subst i3;simp only[↓reduceIte,i2] at hF' ⊢;rw[hF] at hF'; injection hF' with hF'; rw[hF']
   ·simp only[i3,i2,↓reduceIte]
def IZ{l:List gN}{s:Bytes}{e:gN}(h:gw l s=some e):(kb l s).length<l.length:=by
 obtain⟨h1,h2⟩:=j6 h;refine Nat.lt_of_le_of_ne (bU _ _) fun hh=>?_
 have:=List.length_filter_eq_length_iff.1 hh e h1;simp[h2] at this
def dY.aek{t:Tree}{dJ dep':Int->Nat}{f to:Int}{s nm:Bytes}{dF dT m:Node}{e:gN}(h:dY t dJ 0)(hF:find t.ae f=some dF)(he:gw dF.bc s=some e)(hT:find t.ae to=some dT)(hTk:dT.kind=2)(hfree:gw dT.bc nm=none)(hroom:to≠f->dT.bc.length<64)(hnm:Nm nm)
  (hm:find t.ae e.ar=some m) (hne:e.ar≠to) (hd12:dep' to<12) (hck:t.ak<1099511627776)
  (hcase:(m.kind=1/\dep'=dJ)\/(m.kind=2/\dep' 1=0/\(∀i n,find t.ae i=some n->n.kind=2->i≠1->i≠e.ar->dep' i=dep' n.up+1)/\dep' e.ar=dep' to+1 /\
   ∀i n,find t.ae i=some n->n.kind=2->dep' i<=12/\(dep' i=12->n.bc=[]))):dY (tn t f s to nm e.ar 0) dep' 0:=by
 have hem:=(j6 he).1;have hnf:e.ar≠f:=h.xj hF hem;have h1:e.ar≠1:=(h.CO _ _ e hF hem).2.2.1;have hl:=h.left hF he;have fl:=kQ h.lL.ml hF (s:=s);have hmx:find (dE t.ae f s) e.ar=some m:=by rw[fl,aQ hnf]; exact hm
 obtain⟨d1,g1,g2,g3,g4⟩:∃d1,find (dE t.ae f s) to=some d1/\d1.kind=2/\gw d1.bc nm=none/\d1.bc.length<64:=by
  rw[fl];split
  ·rename_i hh;subst hh;rw[hF] at hT; cases hT;exact⟨_,rfl,hTk,vG hfree,bw (IZ he) (h.Sr hF)⟩
  ·rename_i hh;exact⟨dT,hT,hTk,hfree,hroom hh⟩
 have hnode:bl t.ae e.ar=m:=by simp[bl,hm]
 unfold tn;simp only[hnode,aw,af,↓reduceIte];rcases hcase with ⟨hk,rfl⟩|⟨hk,c1,c2,c3,c4⟩
 ·rw[aQ (by simp[hk])]
  exact hl.nL g1 g2 g3 g4 hnm hmx h1 (fun h2=>aH) hd12 hck
 ·rw[aZ (by simp[hk])]
  have hs:=hl.aoK (dep':=dep') hmx hk h1 g1 g2 c1 (fun i n hi hk2 hi1 hie=>by
    simp only[fl] at hi;split at hi
    ·rename_i hh; subst hh;cases hi;exact c2 i dF hF hk2 hi1 hie
    ·exact c2 _ _ hi hk2 hi1 hie) c3 (fun i n hi hk2=>by
    simp only[fl] at hi;split at hi
    ·rename_i hh; subst hh;cases hi;obtain⟨q1,q2⟩:=c4 i dF hF hk2;exact⟨q1,fun h12=>by simp[q2 h12,kb]⟩
    ·exact c4 _ _ hi hk2)
  have hmi:m.ar=e.ar:=(cJ hm).2;have fw:=gq (se h.lL.ml f s) { m with up:=to }
  refine hs.nL (n:=d1) (m:={ m with up:=to }) ?_ g2 g3 g4 hnm ?_ h1 (fun _=>rfl) hd12 hck
  ·simp only;rw[fw];rw[aQ (show ¬to=m.ar from fun hh=>hne aH)]
   exact g1
  ·simp only;rw[fw];simp only[hmi,↓reduceIte]
def vk(ae:List Node)(at' d:Int)(n:Node):Int :=
 if decide ((0:Int)<n.bc.length) then nw (nw (nw (at'+pR ae n.ar)-d)+1) else nw (nw (at'+pR ae n.ar)-d)
def Jt(ae:List Node)(ar at' d:Int)(n:Node)(fR:Int):fR<=sG ae ar at' d n fR/\((n.kind==2&&iM ae n.ar ar)=true->vk ae at' d n<=sG ae ar at' d n fR):=by
 have e:sG ae ar at' d n fR=if n.kind==2&&iM ae n.ar ar then (if vk ae at' d n>fR then vk ae at' d n else fR) else fR:=rfl
 rw[e];split
 ·split
  ·exact⟨aH,fun _=>dS _⟩
  ·exact⟨dS _,fun _=>aH⟩
 ·rename_i h; exact⟨dS _,fun hh=>absurd hh h⟩
def Bh(ae:List Node)(ar at' d:Int):∀(l:List Node)(fR:Int),fR<=wo ae ar at' d l fR/\∀n,n∈l->(n.kind==2&&iM ae n.ar ar)=true->vk ae at' d n<=wo ae ar at' d l fR
 | [],fR=>⟨dS _,fun n hn=>by cases hn⟩
 |m::l,fR=>by
  obtain⟨h1,h2⟩:=Bh ae ar at' d l (sG ae ar at' d m fR);obtain⟨h3,h4⟩:=Jt ae ar at' d m fR;rw[wo];refine⟨aH,fun n hn hb=>?_⟩
  rcases bH.1 hn with rfl|hn
  ·have:=h4 hb; omega
  ·exact h2 n hn hb
def rI(ae:List Node)(dJ:Int->Nat)(x to:Int):Int->Nat:=fun i=>if iM ae i x then dJ i+(dJ to+1)-dJ x else dJ i
def dY.F2{t:Tree}{dJ:Int->Nat}(h:dY t dJ 0){x to i:Int}{m n:Node}(hx:find t.ae x=some m)(hk:m.kind=2)(hd:dJ to<12)(hi:find t.ae i=some n)(hk2:n.kind=2)(hb:iM t.ae i x=true) :
  vk t.ae (((dJ to+1:Nat):Int)) (dJ x) n=((rI t.ae dJ x to i+(if 0<n.bc.length then 1 else 0):Nat):Int):=by
 have d1:=(h.deep _ _ hi hk2).1;have d2:=(h.deep _ _ hx hk).1;have d3:=h.AU _ i n hi hk2 rfl hb;have hdn:pR t.ae n.ar=dJ i:=by rw[h.ar hi]; exact h.qe hi hk2
 have w1:nw ((((dJ to+1:Nat):Int))+(dJ i:Nat))=(((dJ to+1:Nat):Int))+(dJ i:Nat):=gx aH aH;have w2:nw ((((dJ to+1:Nat):Int))+(dJ i:Nat)-(dJ x:Nat))=(((dJ to+1:Nat):Int))+(dJ i:Nat)-(dJ x:Nat):=gx aH aH;have w3:nw ((((dJ to+1:Nat):Int))+(dJ i:Nat)-(dJ x:Nat)+1)=(((dJ to+1:Nat):Int))+(dJ i:Nat)-(dJ x:Nat)+1:=gx aH aH;unfold vk rI;rw[aZ hb,hdn,w1,w2,w3]
 by_cases hl:0<n.bc.length
 ·rw[aZ (by simpa using hl),aZ hl]; omega
 ·rw[aQ (by simpa using hl),aQ hl]; omega
def dY.ail{t:Tree}{dJ:Int->Nat}(h:dY t dJ 0){x to:Int}{m dT:Node}(hx:find t.ae x=some m)(hk:m.kind=2)(hx1:x≠1)(hT:find t.ae to=some dT)(hTk:dT.kind=2)(hnb:iM t.ae to x=false)(hd:dJ to<12)
  (hh:Ci t.ae x (((dJ to+1:Nat):Int))<=12) :
  rI t.ae dJ x to 1=0/\(∀i n,find t.ae i=some n->n.kind=2->i≠1->i≠x->rI t.ae dJ x to i=rI t.ae dJ x to n.up+1)/\rI t.ae dJ x to x=rI t.ae dJ x to to+1 /\
   (∀i n,find t.ae i=some n->n.kind=2->rI t.ae dJ x to i<=12/\(rI t.ae dJ x to i=12->n.bc=[]))/\rI t.ae dJ x to to=dJ to:=by
 have hto:rI t.ae dJ x to to=dJ to:=by unfold rI; rw[aQ (by simp[hnb])]
 refine⟨?_,?_,?_,?_,hto⟩
 ·unfold rI;rw[aQ (by simp[dY.qP hx1])]
  exact h.CN
 ·intro i n hi hk2 hi1 hix;obtain⟨a,p,b,c⟩:=h.qK _ _ hi hk2 hi1;have hb:=h.sy hi hk2 hi1 hix;unfold rI;rw[hb];split
  ·rename_i hb2;have:=h.AU _ _ p b c rfl hb2;omega
  ·exact a
 ·rw[hto];unfold rI;rw[aZ (dY.oU x)];omega
 ·intro i n hi hk2
  by_cases hb:iM t.ae i x=true
  ·have h1:=(Bh t.ae x (((dJ to+1:Nat):Int)) (pR t.ae x) t.ae 0).2 n (cJ hi).1 (by rw[hk2,h.ar hi,hb]; rfl)
   rw[h.qe hx hk,h.F2 hx hk hd hi hk2 hb] at h1;unfold Ci at hh;rw[h.qe hx hk] at hh;have h2:=Int.le_trans h1 hh;split at h2
   ·rename_i hl;exact⟨aH,fun h12=>aH⟩
   ·rename_i hl;exact⟨aH,fun _=>dU.1 aH⟩
  ·have:rI t.ae dJ x to i=dJ i:=by unfold rI; rw[aQ hb]
   rw[this];exact h.deep _ _ hi hk2
def DN{l:List gN}{s r:Bytes}(h:r≠s):gw (kb l s) r=gw l r:=by
 unfold gw kb;rw[List.find?_filter];congr 1;funext e
 by_cases he:e.name=r
 ·have hn:e.name≠s:=he▸h;simp[he,h]
 ·simp[he]
structure ajl(t:Tree)(dJ:Int->Nat)(f:Int)(s:Bytes)(to:Int)(nm:Bytes)(dF dT m:Node)(e:gN):Prop where
 hF:find t.ae f=some dF
 kF:dF.kind=2
 he:gw dF.bc s=some e
 hT:find t.ae to=some dT
 kT:dT.kind=2
 hn:fX nm=true
 hm:find t.ae e.ar=some m
 ne:e.ar≠to
 nf:e.ar≠f
 loop:m.kind=2->iM t.ae to e.ar=false
 deep:dJ to<12
 high:m.kind=2->Ci t.ae e.ar (((dJ to+1:Nat):Int))<=12
 ak:t.ak<1099511627776
 room:gw dT.bc nm=none->to≠f->dT.bc.length<64
 auN:∀e2,gw dT.bc nm=some e2->e2.ar≠e.ar/\∃y,find t.ae e2.ar=some y/\y.bc=[]/\(m.kind=2↔y.kind=2)/\e2.ar≠f/\e2.ar≠to
def dY.mv{t:Tree}{dJ:Int->Nat}(h:dY t dJ 0){f:Int}{s:Bytes}{to:Int}{nm:Bytes}{dF dT m:Node}{e:gN}(hs:fX nm=true->Nm nm)(k:ajl t dJ f s to nm dF dT m e):∃dep',dY (tn t f s to nm e.ar (jf dT.bc nm)) dep' 0:=by
 have hem:=(j6 k.he).1;have hx1:=(h.CO _ _ e k.hF hem).2.2.1
 have hcase:∃dep':Int->Nat,dep' to<12/\((m.kind=1/\dep'=dJ)\/(m.kind=2/\dep' 1=0/\(∀i n,find t.ae i=some n->n.kind=2->i≠1->i≠e.ar->dep' i=dep' n.up+1)/\dep' e.ar=dep' to+1 /\
   ∀i n,find t.ae i=some n->n.kind=2->dep' i<=12/\(dep' i=12->n.bc=[]))):=by
  rcases h.kind _ _ k.hm with hk|hk
  ·exact⟨dJ,k.deep,.inl ⟨hk,rfl⟩⟩
  ·obtain⟨c1,c2,c3,c4,c5⟩:=h.ail k.hm hk hx1 k.hT k.kT (k.loop hk) k.deep (k.high hk);exact⟨rI t.ae dJ e.ar to,by rw[c5]; exact k.deep,.inr ⟨hk,c1,c2,c3,c4⟩⟩
 obtain⟨dep',hd12,hcase⟩:=hcase;refine⟨dep',?_⟩;cases hfr:gw dT.bc nm with
 |none =>
  have hu:jf dT.bc nm=0:=by simp[jf,hfr]
  rw[hu];exact h.aek k.hF k.he k.hT k.kT hfr (k.room hfr) (hs k.hn) k.hm k.ne hd12 k.ak hcase
 |some e2 =>
  have hu:jf dT.bc nm=e2.ar:=by simp[jf,hfr]
  rw[hu];obtain⟨q1,y,q2,q3,q4,q5,q6⟩:=k.auN e2 hfr;have h1:=h.un k.hT hfr q2 q3;have a2:=se h.lL.ml to nm;have f2:=kQ h.lL.ml k.hT (s:=nm);have hy1:find (dE t.ae to nm) e2.ar=some y:=by rw[f2,aQ q6]; exact q2
  have f4:∀i,find (fm (dE t.ae to nm) e2.ar) i=if i=e2.ar then NL y else if i=to then some { dT with bc:=kb dT.bc nm } else find t.ae i:=by
   intro i;rw[vj a2 hy1,f2]
  have hnn:bl (fm (dE t.ae to nm) e2.ar) e.ar=bl t.ae e.ar:=by
   simp only[bl];rw[f4,aQ (fun hh=>q1 hh.symm),aQ k.ne]
  have hy0:=(h.num _ _ q2).1
  have hmv:tn t f s to nm e.ar e2.ar=tn ⟨fm (dE t.ae to nm) e2.ar,t.next,t.ak⟩ f s to nm e.ar 0:=by
   unfold tn;simp only[hnn];rw[X8 h.lL.ml k.hF k.hT q2 q5 q6];have e1:(e2.ar != 0)=true:=gr;simp only[e1,aw,af,↓reduceIte]
  rw[hmv]
  have hsn:to=f->s≠nm:=fun hh hsn=>by
   subst hh; subst hsn;have:=k.hF; rw[k.hT] at this; cases this;have:=k.he; rw[hfr] at this; cases this;exact q1 rfl
  obtain⟨dF',g1,g2⟩:∃dF',find (fm (dE t.ae to nm) e2.ar) f=some dF'/\gw dF'.bc s=some e:=by
   rw[f4,aQ (fun hh=>q5 hh.symm)]
   split
   ·rename_i hh;refine⟨_,rfl,?_⟩;rw[DN (hsn hh.symm)];subst hh;have:=k.hF; rw[k.hT] at this; cases this;exact k.he
   ·exact⟨dF,k.hF,k.he⟩
  have back:∀i n,find (fm (dE t.ae to nm) e2.ar) i=some n->n.kind=2->∃n0,find t.ae i=some n0/\n0.kind=2/\n0.up=n.up/\(n0.bc=[]->n.bc=[]):=by
   intro i n hi hk;rw[f4] at hi;split at hi
   ·unfold NL at hi;split at hi
    ·cases hi
    ·rename_i hh;cases hi;simp only at hk;simp[hk] at hh
   ·split at hi
    ·rename_i hh; subst hh;cases hi;exact⟨dT,k.hT,hk,rfl,fun h0=>by simp[h0,kb]⟩
    ·exact⟨n,hi,hk,rfl,fun h0=>h0⟩
  refine h1.aek (dep':=dep') g1 g2 (dT:={ dT with bc:=kb dT.bc nm }) ?_ k.kT (Cf _ _) (fun _=>bw (IZ hfr) (h.Sr k.hT)) (hs k.hn) (m:=m) ?_ k.ne hd12 k.ak ?_
  ·simp only; rw[f4,aQ (fun hh=>q6 hh.symm),aZ rfl]
  ·simp only; rw[f4,aQ (fun hh=>q1 hh.symm),aQ k.ne]; exact k.hm
  ·rcases hcase with hc|⟨hk,c1,c2,c3,c4⟩
   ·exact .inl hc
   ·refine .inr ⟨hk,c1,?_,c3,?_⟩
    ·intro i n hi hk2 hi1 hie;obtain⟨n0,b1,b2,b3,_⟩:=back i n hi hk2;rw[<-b3]; exact c2 i n0 b1 b2 hi1 hie
    ·intro i n hi hk2;obtain⟨n0,b1,b2,_,b4⟩:=back i n hi hk2;exact⟨(c4 i n0 b1 b2).1,fun h12=>b4 ((c4 i n0 b1 b2).2 h12)⟩
def dY.zero{t:Tree}{dJ:Int->Nat}{x:Int}(h:dY t dJ x):find t.ae 0=none:=by
 cases hz:find t.ae 0 with
 |none=>rfl
 |some m=>have:=h.num _ _ hz; omega
def Qe{t:Tree}{dJ:Int->Nat}(h:dY t dJ 0)(f:Int)(s:Bytes)(to:Int)(nm:Bytes) :
  ((wT t f s to nm).1=t/\(wT t f s to nm).2.1=0/\(wT t f s to nm).2.2≠0) \/
  (wT t f s to nm=(t,0,0)/\∃dF dT e e2,find t.ae f=some dF/\dF.kind=2/\fX s=true/\gw dF.bc s=some e/\fg t.ae f s=(e.ar,0)/\find t.ae to=some dT/\dT.kind=2/\fX nm=true/\gw dT.bc nm=some e2/\e2.ar=e.ar) \/
  ∃dF dT m e,ajl t dJ f s to nm dF dT m e/\fX s=true/\fg t.ae f s=(e.ar,0)/\wT t f s to nm=(tn t f s to nm e.ar (jf dT.bc nm),jf dT.bc nm,0):=by
 unfold wT;split
 ·rename_i c1; exact .inl ⟨rfl,rfl,by simpa using c1⟩
 rename_i c1;split
 ·rename_i c2; exact .inl ⟨rfl,rfl,by simpa using c2⟩
 rename_i c2;split
 ·exact .inl ⟨rfl,rfl,dw⟩
 rename_i c3;obtain⟨dF,e,e1,e2,e3,e4,e5⟩:=look_ok (by simpa using c1)
 obtain⟨dT,g1,g2,g3⟩:=zb (show(gW t.ae to).2=0 by simpa using c2)
 have hem:=(j6 e4).1;obtain⟨_,_,x1,_,m,hm,hup⟩:=h.CO _ _ e e1 hem;have hnode:bl t.ae e.ar=m:=by simp[bl,hm]
 simp only[e5,g3,hnode];split
 ·rename_i c4;right; left;refine⟨rfl,dF,dT,e,?_⟩;have c4':jf dT.bc nm=e.ar:=by simpa using c4
  cases hfr:gw dT.bc nm with
  |none=>simp only[jf,hfr] at c4'; have:=(h.num _ _ hm).1; omega
  |some e2'=>simp only[jf,hfr] at c4'; exact⟨e2',e1,e2,e3,e4,rfl,g1,g2,by simpa using c3,rfl,c4'⟩
 rename_i c4;split
 ·exact .inl ⟨rfl,rfl,dw⟩
 rename_i c5;split
 ·rename_i c6; exact .inl ⟨rfl,rfl,by simpa using c6⟩
 rename_i c6;split
 ·exact .inl ⟨rfl,rfl,dw⟩
 rename_i c7;right; right;have hdt:=h.qe g1 g2;simp only[manyN,hdt,dh,bz,eH,bh,pg,not_and,pf] at c7;obtain⟨r1,r2,r3,r4⟩:=c7
 have hw:nw (((dJ to:Nat):Int)+1)=((dJ to+1:Nat):Int):=by
  have:=(h.deep _ _ g1 g2).1;rw[show(((dJ to:Nat):Int)+1)=((dJ to+1:Nat):Int) by omega]
  exact gx aH aH
 rw[hw] at r3;have hnf:=h.xj e1 hem
 have hne:e.ar≠to:=fun hh=>by
  rw[hh,g1] at hm; cases hm;simp only[g2,lZ,cW] at c5;rw[hh,dY.oU] at c5;exact c5 rfl
 refine⟨dF,dT,m,e,⟨e1,e2,e4,g1,g2,by simpa using c3,hm,hne,hnf,?_,aH,?_,aH,?_,?_⟩,e3,rfl,rfl⟩
 ·intro hk;simpa[hk] using c5
 ·intro hk;have:=r3 hk; omega
 ·intro hfr hne;have hu:jf dT.bc nm=0:=by simp[jf,hfr]
  have:=r1 ⟨hu,hne⟩;omega
 ·intro e2' hfr;have hu:jf dT.bc nm=e2'.ar:=by simp[jf,hfr]
  rw[hu] at c4 c6;obtain⟨_,_,_,_,y,hy,_⟩:=h.CO _ _ e2' g1 (j6 hfr).1;have hny:bl t.ae e2'.ar=y:=by simp[bl,hy]
  have hto:=h.xj g1 (j6 hfr).1;simp only[vh,hy,bQ,cv,af,↓reduceIte,hny,pf,ne_eq,Decidable.not_not] at c6;split at c6
  ·cases c6
  ·rename_i k1;split at c6
   ·cases c6
   ·rename_i k2;split at c6
    ·cases c6
    ·rename_i k3;have hy0:y.bc=[]:=dU.1 (by simpa using k3)
     refine⟨by simpa using c4,y,hy,hy0,?_,?_,hto⟩
     ·simp at k1 k2;constructor
      ·exact k1
      ·intro hy2;rcases h.kind _ _ hm with hk|hk
       ·exact absurd hy2 (k2 aH)
       ·exact hk
     ·intro hh;rw[hh,e1] at hy; cases hy;rw[hy0] at hem; cases hem
def abm{t:Tree}{dJ:Int->Nat}(h:dY t dJ 0)(f:Int)(s:Bytes)(to:Int)(nm:Bytes)(hs:fX nm=true->Nm nm):∃dep',dY (wT t f s to nm).1 dep' 0:=by
 rcases Qe h f s to nm with ⟨h1,_⟩|⟨h1,_⟩|⟨dF,dT,m,e,k,_,_,hk⟩
 ·rw[h1]; exact⟨dJ,h⟩
 ·rw[h1]; exact⟨dJ,h⟩
 ·rw[hk]; exact h.mv hs k
def WG:dY wR (fun _=>0) 0:=by
 have hf:∀i n,find wR.ae i=some n->i=1/\n=⟨1,2,0,[],[],1⟩:=by
  intro i n hi;obtain⟨h1,h2⟩:=cJ hi;simp[wR] at h1;subst h1;exact⟨h2.symm,rfl⟩
 refine⟨⟨?_,?_⟩,⟨_,rfl,rfl,rfl⟩,?_,?_,?_,?_,?_,?_,?_,?_,rfl,?_,?_,by simp[wR],by simp[wR],by simp[wR]⟩
 ·simp[wR,o6]
 ·intro n hn; simp[wR] at hn; subst hn; exact List.Pairwise.nil
 ·intro i n hi; obtain⟨rfl,rfl⟩:=hf i n hi; simp[wR]
 ·intro i n hi; obtain⟨rfl,rfl⟩:=hf i n hi; simp
 ·intro i n hi; obtain⟨rfl,rfl⟩:=hf i n hi; simp
 ·intro i n hi; obtain⟨rfl,rfl⟩:=hf i n hi; simp
 ·intro i n e hi he; obtain⟨rfl,rfl⟩:=hf i n hi; cases he
 ·intro i n hi; obtain⟨rfl,rfl⟩:=hf i n hi; exact⟨List.Pairwise.nil,dw⟩
 ·intro i n hi; obtain⟨rfl,rfl⟩:=hf i n hi; simp[wR,uS,rq]
 ·intro i n hi _ h1; exact absurd (hf i n hi).1 h1
 ·intro i n hi _ h1; exact absurd (hf i n hi).1 h1
 ·intro i n hi; obtain⟨rfl,rfl⟩:=hf i n hi; simp
section
attribute [local irreducible] eS fI lx gK dZ kr aq aR cu bJ
def vz:∀(d:Bytes),bytesOf (d.map qB)=some d
 | []=>rfl
 |b::d=>by
  rw[aK]
  show bJ (bytesOf (d.map qB)) (fun l=>some (UInt8.ofNat ((b.toNat:Int)).toNat::l))=some (b::d)
  rw[vz d,bN];simp
def aqx(a b:Bytes):aq bX 112 [df a,df b] []=some (.bool (a==b),[]):=by
 refine aB ?_;simp only[acK,apg,vz,EN,seval]
def as3 a b:=cP (aqx a b)
def asH(x y:gN):decide (x=y)=(x.name==y.name&&(x.ar==y.ar&&(x.ak==y.ak&&true))):=by
 cases x; cases y;simp only[gN.mk.injEq,gd];rw[cr];simp
def Si(x y:gN):kZ [.s,.i,.i] (gj x) (gj y)=some (decide (x=y)):=by
 rw[asH];simp only[gj,kZ,kC,bN,↓reduceIte]
def ajp(x:gN):(gj x).all ag.je=true:=rfl
def alm(a b:List gN)(ha:a.length<=100000):aq bX 113 [ja a,ja b] []=some (.bool (decide (a=b)),[]) :=
 DS (sz:=3) (e:=iG) (ld := .mM 3) (ne := .Q6 [.s,.i,.i] true) ft rfl ha (fun _=>rfl) (fun _=>rfl) (fun _=>rfl) (fun _ _ _ _ h=>by simp only[eo,fY.ev,h]; rfl) (fun _ _ _ _ _ _ h h'=>by simp only[eo,fY.ev,h,h',iG,Si,bN])
def as4 a b ha:=cP (alm a b ha)
def ael(x y:Node):decide (x=y)=(x.ar==y.ar&&(x.kind==y.kind&&(x.eG==y.eG&&(x.up==y.up&&(x.data==y.data&&decide (x.bc=y.bc)))))):=by
 cases x; cases y;simp only[Node.mk.injEq];rw[cr];simp only[bh,bz,eH];constructor
 ·rintro⟨h1,h2,h3,h4,h5,h6⟩; exact⟨h1,h2,h3,h6,h4,h5⟩
 ·rintro⟨h1,h2,h3,h6,h4,h5⟩; exact⟨h1,h2,h3,h4,h5,h6⟩
def aqw(x y:Node)(hx:x.bc.length<=100000):aq bX 111 [.agg (aL x),.agg (aL y)] []=some (.bool (decide (x=y)),[]):=by
 rw[ael];refine aB ?_;simp only[acJ,aiZ,bL,aL,EN,seval]
 repeat' ((first|apply bB|apply bW|apply dM)<;>intro hb<;>simp only[hb,EN,aiZ,as3,as4,hx,seval])
 all_goals simp_all only[qC,↓reduceIte,reduceCtorEq,aw]
def as2 x y hx:=cP (aqw x y hx)
def aqy(a b:List Node)(ha:a.length<=100000)(he:∀n,n∈a->n.bc.length<=100000):aq bX 114 [ba a,ba b,.func 111 []] []=some (.bool (decide (a=b)),[]) :=
 aee (sz:=6) (e:=aL) (z:=[aD 0,aD 0,aD 0,.slice .c0 [],.slice .c0 [],aD 0]) ft rfl ha (fun _=>rfl) rfl (fun _=>rfl) (fun _=>rfl) fun x y M h=>as2 x y (he x h) M
def as5 a b ha he:=cP (aqy a b ha he)
def aoO(x y:Tree):decide (x=y)=(x.next==y.next&&(x.ak==y.ak&&decide (x.ae=y.ae))):=by
 cases x; cases y;simp only[Tree.mk.injEq];rw[cr];simp only[bh,bz,eH];constructor
 ·rintro⟨h1,h2,h3⟩; exact⟨h2,h3,h1⟩
 ·rintro⟨h2,h3,h1⟩; exact⟨h1,h2,h3⟩
def c56(a b:Tree)(ha:Small a):aq bX 56 [br a,br b] []=some (.bool (decide (a=b)),[]):=by
 rw[aoO];have h1:=ha.ae;have h2:=ha.bc;refine aB ?_;simp only[amt,E56,br,aM,EN,seval]
 repeat' ((first|apply bB|apply bW|apply dM)<;>intro hb<;>simp only[hb,EN,E56,as5 _ _ h1 h2,seval])
 all_goals simp_all only[qC,↓reduceIte,reduceCtorEq,aw]
def dY.jq{t:Tree}{dJ:Int->Nat}{x:Int}(h:dY t dJ x):∀m,m∈t.ae->m.ar<t.next:=fun m hm=>(h.num _ _ ((ic h.lL.ml).2 ⟨hm,rfl⟩)).2
end
def dY.E4{t:Tree}{dJ:Int->Nat}{x:Int}(h:dY t dJ x){i:Int}{n:Node}(hi:find t.ae i=some n)(hk:n.kind=2):sx t.ae i=dJ i:=by
 simp only[sx,h.uF hi hk]; omega
def dY.QR{t:Tree}{dJ:Int->Nat}{x:Int}(h:dY t dJ x)(of:Int):∀(m:Nat)(i:Int)(out:List Int)(n:Node),find t.ae i=some n->n.kind=2->dJ i<=m->out.contains i=true->(uE t.ae m i out).contains of=(out.contains of||ni t.ae of (m+1) i):=by
 intro m;induction m with
 |zero =>
  intro i out n hi hk hd ho;simp only[uE,ni]
  by_cases h1:i=of
  ·subst h1; rw[ho]; rfl
  ·simp[h1]
 |succ m ih =>
  intro i out n hi hk hd ho;simp only[uE];rw[ni]
  by_cases h1:i=1
  ·by_cases h2:i=of
   ·subst h2; simp[h1] at ho ⊢; exact ho
   ·simp[h1,h2];intro h3; exact absurd (h1.trans h3) h2
  ·obtain⟨a,p,b,c⟩:=h.qK _ _ hi hk h1;simp only[pf,ne_eq,h1,not_false_eq_true,↓reduceIte,bl,hi,bQ,cv,bC,hk,aw,fG,af];rw[ih _ _ p b c aH dw,h.Yb hi]
   by_cases h2:i=of
   ·subst h2;have:(out++[n.up]).contains i=true:=by simp at ho ⊢; exact .inl ho
    rw[this,ho]; simp
   ·rw[aQ h2]
    by_cases h3:n.up=of
    ·have:ni t.ae of (m+1) n.up=true:=by simp[ni,h3]
     rw[this]; simp
    ·have:(out++[n.up]).contains of=out.contains of:=by
      simp;intro hh; exact absurd hh.symm h3
     rw[this]
def dY.yL{t:Tree}{dJ:Int->Nat}{x:Int}(h:dY t dJ x)(of:Int){i:Int}{n:Node}(hi:find t.ae i=some n)(hk:n.kind=2):(uL t.ae i).contains of=iM t.ae i of:=by
 have:=h.QR of t.ae.length i [i] n hi hk (by have:=h.DE hi hk; omega) dw
 simp only[uL,this,iM]
 by_cases h2:i=of
 ·subst h2; simp[ni]
 ·have:([i]:List Int).contains of=false:=by simp; exact fun hh=>h2 hh.symm
  rw[this]; rfl
def dY.under{t:Tree}{dJ:Int->Nat}(h:dY t dJ 0){to:Int}{nm:Bytes}{dT:Node}(hT:find t.ae to=some dT):(mr t.ae dT.bc nm).ar=jf dT.bc nm:=by
 unfold mr jf;cases he:gw dT.bc nm with
 |none=>rfl
 |some e =>
  obtain⟨_,_,_,_,m,hm,_⟩:=h.CO _ _ e hT (j6 he).1;simp[bl,hm,(cJ hm).2]
def WA{t:Tree}{dJ:Int->Nat}(h:dY t dJ 0)(dir:Int)(s:Bytes):pn t dir s=o8 t dir s:=by
 unfold pn o8
 by_cases h0:(gW t.ae dir).2=0
 ·obtain⟨d,d1,d2,d3⟩:=zb h0
  have hf:DQ t d=(decide ((64:Int)<=d.bc.length)||(decide ((12:Int)<=sx t.ae dir)||decide ((1099511627776:Int)<=t.ak))):=by
   unfold DQ;rw[(cJ d1).2,h.qe d1 d2,h.E4 d1 d2]
  simp only[d3,hf,aw,af,↓reduceIte,ne_eq,nc];cases fX s<;>simp
 ·rw[aZ (by simpa using h0),aZ h0]
def YL{t:Tree}{dJ:Int->Nat}(h:dY t dJ 0)(dir:Int)(s:Bytes)(kind:Int):KU t dir s kind=rX t dir s kind:=by
 unfold KU rX;rw[WA h]
def ahJ{t:Tree}{dJ:Int->Nat}(h:dY t dJ 0)(ar dir:Int)(s:Bytes):lnW t ar dir s=CS t ar dir s:=by
 unfold lnW CS;rw[WA h]
def CG{ae:List Node}{x:Int}{m:Node}(hx:find ae x=some m):kM ae m=fm ae x:=by
 unfold kM fm;simp only[bl,hx,bC,(cJ hx).2]
def aiH{t:Tree}{dJ:Int->Nat}(h:dY t dJ 0)(dir:Int)(s:Bytes):unW t dir s=BT t dir s:=by
 unfold unW BT;split
 ·rfl
 ·rename_i hl;obtain⟨d,e,d1,d2,d3,d4,d5⟩:=look_ok (by simpa using hl)
  simp only[d5];obtain⟨_,_,_,_,m,hm,_⟩:=h.CO _ _ e d1 (j6 d4).1
  have hm':find (dE t.ae dir s) e.ar=some m:=by
   rw[kQ h.lL.ml d1,aQ (h.xj d1 (j6 d4).1)]; exact hm
  have hn:bl t.ae e.ar=m:=by simp[bl,hm]
  rw[hn,CG hm']
def F3(ae:List Node)(ar at' d:Int)(b:Int):∀(l:List Node)(fR:Int),b<wo ae ar at' d l fR->b<fR\/∃n,n∈l/\(n.kind==2&&iM ae n.ar ar)=true/\b<vk ae at' d n
 | [],fR,h => .inl h
 |m::l,fR,h=>by
  rw[wo] at h;rcases F3 ae ar at' d b l _ h with h1|⟨n,h1,h2,h3⟩
  ·have e:sG ae ar at' d m fR=if m.kind==2&&iM ae m.ar ar then (if vk ae at' d m>fR then vk ae at' d m else fR) else fR:=rfl
   rw[e] at h1;split at h1
   ·rename_i hb;split at h1
    ·exact .inr ⟨m,bD,hb,h1⟩
    ·exact .inl h1
   ·exact .inl h1
  ·exact .inr ⟨n,bu _ h1,h2,h3⟩
def dY.Zd{t:Tree}{dJ:Int->Nat}(h:dY t dJ 0){x to:Int}{m:Node}(hx:find t.ae x=some m)(hk:m.kind=2)(hd:dJ to<12) :
  IW t.ae x (((dJ to+1:Nat):Int))=decide ((12:Int)<Ci t.ae x (((dJ to+1:Nat):Int))):=by
 have key:∀n,n∈t.ae->vi t.ae (((dJ to+1:Nat):Int)) ((dJ x:Nat):Int) x n=((n.kind==2&&iM t.ae n.ar x)&&decide ((12:Int)<vk t.ae (((dJ to+1:Nat):Int)) ((dJ x:Nat):Int) n)):=by
  intro n hn;have hi:find t.ae n.ar=some n:=(ic h.lL.ml).2 ⟨hn,rfl⟩;unfold vi
  by_cases hk2:n.kind=2
  ·rw[h.yL x hi hk2,h.uF hi hk2]
   by_cases hb:iM t.ae n.ar x=true
   ·rw[h.F2 hx hk hd hi hk2 hb];have d1:=(h.deep _ _ hi hk2).1;have d2:=(h.deep _ _ hx hk).1;have d3:=h.AU _ _ n hi hk2 rfl hb;have w1:nw ((((dJ to+1:Nat):Int))+((dJ n.ar+1:Nat):Int))=(((dJ to+1:Nat):Int))+((dJ n.ar+1:Nat):Int):=gx aH aH;have w2:nw ((((dJ to+1:Nat):Int))+((dJ n.ar+1:Nat):Int)-1)=(((dJ to+1:Nat):Int))+((dJ n.ar+1:Nat):Int)-1:=gx aH aH;have w3:nw ((((dJ to+1:Nat):Int))+((dJ n.ar+1:Nat):Int)-1-(dJ x:Nat))=(((dJ to+1:Nat):Int))+((dJ n.ar+1:Nat):Int)-1-(dJ x:Nat):=gx aH aH;rw[w1,w2,w3];unfold rI;rw[aZ hb,hb];simp only[hk2,lZ,cW];rw[cr];simp only[dh,bz,bh,eH];split<;>omega
   ·have:iM t.ae n.ar x=false:=by simpa using hb
    simp[this]
  ·have:(n.kind==2)=false:=by simpa using hk2
   simp[this]
 have hdx:(sx t.ae x:Int)=((dJ x:Nat):Int):=by rw[h.E4 hx hk]
 unfold IW Ci;rw[h.qe hx hk,hdx];rw[cr];simp only[km,bh];constructor
 ·rintro⟨n,hn,hp⟩;rw[key n hn] at hp;simp only[bz,bh] at hp;have:=(Bh t.ae x (((dJ to+1:Nat):Int)) ((dJ x:Nat):Int) t.ae 0).2 n hn (by simp[hp.1.1,hp.1.2])
  omega
 ·intro hh;rcases F3 t.ae x _ _ 12 t.ae 0 hh with h1|⟨n,h1,h2,h3⟩
  ·omega
  ·exact⟨n,h1,by rw[key n h1,h2]; simpa using h3⟩
def ahQ{t:Tree}{dJ:Int->Nat}(h:dY t dJ 0)(f:Int)(s:Bytes)(to:Int)(nm:Bytes):NW t f s to nm=wT t f s to nm:=by
 unfold NW wT;split
 ·rfl
 rename_i c1;split
 ·rfl
 rename_i c2;split
 ·rfl
 obtain⟨dF,e,e1,e2,e3,e4,e5⟩:=look_ok (by simpa using c1)
 obtain⟨dT,g1,g2,g3⟩:=zb (show(gW t.ae to).2=0 by simpa using c2)
 have hem:=(j6 e4).1;obtain⟨_,_,x1,_,m,hm,hup⟩:=h.CO _ _ e e1 hem;have hnode:bl t.ae e.ar=m:=by simp[bl,hm]
 simp only[e5,g3,hnode,h.under g1,h.yL e.ar g1 g2];split
 ·rfl
 rename_i c4;split
 ·rfl
 rename_i c5;have hup':jf dT.bc nm≠e.ar:=by simpa using c4
 have hnf:=h.xj e1 hem
 have hne:e.ar≠to:=fun hh=>by
  rw[hh,g1] at hm; cases hm;simp only[g2,lZ,cW] at c5;rw[hh,dY.oU] at c5;exact c5 rfl
 have hmany:∀there:Bool,(jf dT.bc nm==0) = !there->Eh t f to dT.bc there m.kind e.ar=manyN t f to dT.bc m.kind (jf dT.bc nm) e.ar:=by
  intro there hth;unfold Eh manyN;rw[hth,h.uF g1 g2,h.qe g1 g2]
  by_cases hd:dJ to<12
  ·have hw:nw (((dJ to:Nat):Int)+1)=((dJ to+1:Nat):Int):=by
    rw[show(((dJ to:Nat):Int)+1)=((dJ to+1:Nat):Int) by omega]
    exact gx aH aH
   rw[hw]
   have hdd:decide ((12:Int)<((dJ to+1:Nat):Int))=decide ((12:Int)<=((dJ to:Nat):Int)):=by
    rw[decide_eq_decide]; omega
   rw[hdd];rcases h.kind _ _ hm with hk|hk
   ·simp[hk]
   ·rw[h.Zd hm hk hd]
  ·have h1:decide ((12:Int)<((dJ to+1:Nat):Int))=true:=by rw[bh]; omega
   have h2:decide ((12:Int)<=((dJ to:Nat):Int))=true:=by rw[bh]; omega
   rw[h1,h2]; simp
 cases hfr:gw dT.bc nm with
 |none =>
  have hu:jf dT.bc nm=0:=by simp[jf,hfr]
  have hm1:=hmany false (by rw[hu]; rfl)
  rw[hu] at hm1 ⊢;have hcl:vh t.ae m.kind 0=0:=by simp[vh,h.zero]
  simp only[cU,cK,af,↓reduceIte,hcl,aw,hm1];split
  ·rfl
  ·unfold yI tn;simp only[hnode,af,↓reduceIte,aw]
 |some e2 =>
  have hu:jf dT.bc nm=e2.ar:=by simp[jf,hfr]
  obtain⟨_,_,_,_,y,hy,_⟩:=h.CO _ _ e2 g1 (j6 hfr).1;have hny:bl t.ae e2.ar=y:=by simp[bl,hy]
  have hto:=h.xj g1 (j6 hfr).1;have hy0:=(h.num _ _ hy).1;have hm1:=hmany true (by rw[hu]; simp; omega)
  have hnu:mr t.ae dT.bc nm=y:=by simp[mr,hfr,hny]
  rw[hu] at hm1 ⊢
  have hcl:vh t.ae m.kind e2.ar=Ah m y:=by
   unfold vh Ah;simp only[hy,bQ,cv,af,↓reduceIte,hny]
  rw[hnu,hcl];simp only[bQ,cW,hm1];split
  ·rfl
  rename_i c6;split
  ·rfl
  have hy00:y.bc=[]:=by
   have:Ah m y=0:=by simpa using c6
   unfold Ah at this;split at this
   ·cases this
   split at this
   ·cases this
   split at this
   ·cases this
   ·rename_i k3; exact dU.1 (by simpa using k3)
  have hnf2:e2.ar≠f:=fun hh=>by
   rw[hh,e1] at hy; cases hy;rw[hy00] at hem; cases hem
  have hyl:find (dE (dE t.ae f s) to nm) e2.ar=some y:=by
   have f1:=kQ h.lL.ml e1 (s:=s);obtain⟨dT',hT'⟩:∃dT',find (dE t.ae f s) to=some dT':=by rw[f1]; split<;>simp_all
   rw[kQ (se h.lL.ml f s) hT',aQ hto,f1,aQ hnf2];exact hy
  have hb:(e2.ar != 0)=true:=gr;unfold yI tn;simp only[hnode,↓reduceIte,hb,CG hyl]
section
attribute [local irreducible] eS fI lx gK dZ kr aq aR cu bJ
def arO(e:gN)(z:Int):aq bX 206 [iG e,cC 0] [cF [aD z]]=some (.bool (decide (e.ak<z)),[cF [aD z]]):=by
 refine aB ?_;simp only[adA,apx,iG,gj,EN,seval]
def aty(e:gN)(z:Int)(p:Nat)(M:aC)(hM:nth M p=some (cF [aD z])):aR (aq bX) 206 [.agg (gj e),cC p] M=some (.bool (decide (e.ak<z)),M) :=
 uR (p:=p) (vs:=[.agg (gj e)]) hM (arO e z) rfl rfl rfl rfl rfl rfl rfl rfl rfl
def ra(z:Int)(l:List gN):List gN:=l.filter fun e => !decide (e.ak<z)
def MJ:gN:=⟨[],0,0⟩
abbrev Xy(m:Nat):ag:=DC 3 m
def alw(xs:List gN)(z:Int)(hn:xs.length<=100000)(h0:xs≠[]):aq bX 204 [.cE 0 0 3 0 xs.length,.func 206 [cC 1]] [.arr 3 0 (xs.map iG),cF [aD z]] =
  some (Xy (ra z xs).length,[.arr 3 0 ((ra z xs++List.replicate (xs.length-(ra z xs).length) MJ).map iG),cF [aD z]]) :=
 aed (sz:=3) (z:=[.str [],aD 0,aD 0]) (zc:=[.str [],aD 0,aD 0]) (gi:=166) (e:=gj) (zx:=MJ) (p:=fun e=>decide (e.ak<z)) ft rfl ft rfl rfl hn (fun _=>rfl) rfl mw (fun _=>rfl) (fun _=>rfl) (fun _=>rfl) ⟨fun _ _=>rfl,rfl,fun _=>rfl,rfl⟩ (fun e _ _=>aty e z 1 _ rfl) h0
end
structure fD where
 bF:Int
 handle:Int
 ar:Int
 deriving DecidableEq,Inhabited
structure dV where
 ar:Int
 ae:Int
 bytes:Int
 deriving DecidableEq,Inhabited
structure py where
 ku:Int
 BR:Int
 node:Node
 deriving DecidableEq,Inhabited
structure mR where
 id:Int
 ar:Int
 at':Int
 deriving DecidableEq,Inhabited
structure iQ where
 now:Tree
 tick:Int
 since:List Int
 eR:List py
 dW:List mR
 next:Int
 deriving DecidableEq,Inhabited
structure aa where
 s:iQ
 holds:List fD
 dX:List dV
 deriving DecidableEq,Inhabited
structure jz where
 kind:Int
 bF:Int
 dK:Bytes
 u9:Bytes
 n:Int
 m:Int
 handle:Int
 data:Bytes
 deriving DecidableEq,Inhabited
structure sR where
 err:Int
 ar:Int
 kind:Int
 n:Int
 m:Int
 names:List Bytes
 data:Bytes
 deriving DecidableEq,Inhabited
structure KQ where
 bF:Int
 seq:Int
 lQ:sR
 deriving DecidableEq,Inhabited
def jb(h:fD):List ag:=[.int .i64 h.bF,.int .i64 h.handle,.int .i64 h.ar]
def ib(h:fD):ag := .agg (jb h)
abbrev fN(l:List fD):ag := .slice .sh (l.map ib)
def iW(q:dV):List ag:=[.int .i64 q.ar,.int .i64 q.ae,.int .i64 q.bytes]
def gF(q:dV):ag := .agg (iW q)
abbrev cY(l:List dV):ag := .slice .sh (l.map gF)
def mJ(p:py):List ag := .int .i64 p.ku :: .int .i64 p.BR::aL p.node
def ma(p:py):ag := .agg (mJ p)
abbrev sX(l:List py):ag := .slice .sh (l.map ma)
def iC(s:mR):List ag:=[.int .i64 s.id,.int .i64 s.ar,.int .i64 s.at']
def kU(s:mR):ag := .agg (iC s)
abbrev kB(l:List mR):ag := .slice .sh (l.map kU)
abbrev uU(l:List Int):ag := .slice .sh (l.map mS)
abbrev dr(l:List Bytes):ag := .slice .sh (l.map ag.str)
def bM(s:iQ):List ag:=[ba s.now.ae,.int .i64 s.now.next,.int .i64 s.now.ak,.int .i64 s.tick,uU s.since,sX s.eR,kB s.dW,.int .i64 s.next]
def qS(s:iQ):ag := .agg (bM s)
def cg(f:aa):List ag:=[ba f.s.now.ae,.int .i64 f.s.now.next,.int .i64 f.s.now.ak,.int .i64 f.s.tick,uU f.s.since,sX f.s.eR,kB f.s.dW,.int .i64 f.s.next,fN f.holds,cY f.dX]
def Ps(f:aa):ag := .agg (cg f)
def eW(o:jz):List ag:=[.int .i64 o.kind,.int .i64 o.bF,.str o.dK,.str o.u9,.int .i64 o.n,.int .i64 o.m,.int .i64 o.handle,df o.data]
def eOp(o:jz):ag := .agg (eW o)
def cN(a:sR):List ag:=[.int .i64 a.err,.int .i64 a.ar,.int .i64 a.kind,.int .i64 a.n,.int .i64 a.m,dr a.names,df a.data]
def Zf(a:sR):ag := .agg (cN a)
def zd(s:KQ):List ag := .int .i64 s.bF :: .int .i64 s.seq::cN s.lQ
def Sg(s:KQ):ag := .agg (zd s)
def IJ(n:fD):(ib n).cells=jb n:=rfl
def G9(n:dV):(gF n).cells=iW n:=rfl
def IL(n:py):(ma n).cells=mJ n:=rfl
def IP(n:mR):(kU n).cells=iC n:=rfl
def IM(n:KQ):(Sg n).cells=zd n:=rfl
def L4(n:fD):(jb n).length=3:=rfl
def JM(n:dV):(iW n).length=3:=rfl
def L6(n:py):(mJ n).length=8:=rfl
def L8(n:mR):(iC n).length=3:=rfl
def L7(n:KQ):(zd n).length=9:=rfl
def pw{α:Type}(f:α->ag)(k:Nat)(h:∀a,(f a).cells.length=k)(l:List α):wid (l.map f) k=True:=by
 simp only[fT,jx];intro x hx;obtain⟨n,_,rfl⟩:=eJ.1 hx;exact h n
def QW(l:List fD):wid (l.map ib) 3=True:=pw ib _ (fun _=>rfl) l
def MH(l:List dV):wid (l.map gF) 3=True:=pw gF _ (fun _=>rfl) l
def QX(l:List py):wid (l.map ma) 8=True:=pw ma _ (fun _=>rfl) l
def QZ(l:List mR):wid (l.map kU) 3=True:=pw kU _ (fun _=>rfl) l
def QY(l:List KQ):wid (l.map Sg) 9=True:=pw Sg _ (fun _=>rfl) l
def Ye(l:List Bytes):wid (l.map ag.str) 1=True:=pw ag.str _ (fun _=>rfl) l
def tkH(n:fD):List.take 3 (jb n)=jb n:=rfl
def shH(n:fD):List.map ag.shut (jb n)=jb n:=rfl
def tkQ(n:dV):List.take 3 (iW n)=iW n:=rfl
def shQ(n:dV):List.map ag.shut (iW n)=iW n:=rfl
def tkP(n:py):List.take 8 (mJ n)=mJ n:=rfl
def shP(n:py):List.map ag.shut (mJ n)=mJ n:=rfl
def tkS(n:mR):List.take 3 (iC n)=iC n:=rfl
def shS(n:mR):List.map ag.shut (iC n)=iC n:=rfl
def tkU(n:KQ):List.take 9 (zd n)=zd n:=rfl
def shU(n:KQ):List.map ag.shut (zd n)=zd n:=rfl
def alJ:((2:Nat):Int)=2:=rfl
def aiC:Int.toNat 0=0:=rfl
def aiD:Int.toNat 1=1:=rfl
def asI(a b c d:Int):kZ [FK.i,FK.i] [aD a,aD b] [aD c,aD d]=some (a==c&&b==d):=by
 simp[kZ,kC]
def Zm(a b c a' b' c':Int):kZ [FK.i,FK.i,FK.i] [aD a,aD b,aD c] [aD a',aD b',aD c']=some (a==a'&&(b==b'&&c==c')):=by
 simp[kZ,kC]
def EVF:=u8w @asI @Zm @gm.{0} @da.{0} @alJ @aiC @aiD @jG (u8w @fM @IJ @G9 @IL @IP @IM @L4 @JM (u8w @L6 @L8 @L7 @QW @MH @QX @QZ @QY (u8w @Ye @tkH @shH @tkQ @shQ @tkP @shP @tkS (bR @shS (bR @tkU (bR @shU (bR @tkN (bR @shN (bR @tkE @shE)))))))))
def EW:=And.intro EVF EN
section
attribute [local irreducible] eS fI lx gK dZ kr aq aR cu bJ
def aso(h:fD):aq bX 258 [.agg (jb h)] []=some (.agg [aD h.bF,aD h.handle],[]):=by
 refine aB ?_;simp only[ad3,apO,ib,jb,EW,seval]
def anr h:=cP (aso h)
def gS(n:Node):Bool:=n.kind==1&&n.eG==0
def arT(n:Node):aq bX 213 [.agg (aL n)] []=some (.bool (gS n),[]):=by
 refine aB ?_;simp only[adG,ajc,bL,aL,EW,seval]
 repeat' ((first|apply bB|apply bW|apply dM)<;>intro hb<;>simp only[hb,EW,ajc,seval])
 all_goals (simp_all only[gS,qC,↓reduceIte,reduceCtorEq,aw]; done)
def agj n:=cP (arT n)
def z8(c h:Int):Bool:=decide (0<=c)&&decide (c<16)&&decide (0<=h)&&decide (h<100)
def arQ(c h:Int):aq bX 210 [.agg [aD c,aD h]] []=some (.bool (z8 c h),[]):=by
 refine aB ?_;simp only[adC,ajb,EW,seval]
 repeat' ((first|apply bB|apply bW|apply dM)<;>intro hb<;>simp only[hb,EW,ajb,seval])
 all_goals (simp_all only[z8,qC,↓reduceIte,reduceCtorEq,aw]; done)
def atA c h:=cP (arQ c h)
def orI(a b:Int):Int:=if a != 0 then a else b
def auO(a b:Int)(ha:(a != 0)=false):orI a b=b:=by simp[orI,ha]
def asq(a b:Int):aq bX 259 [gv [aD a,aD b]] []=some (aD (orI a b),[]):=by
 refine aB ?_;simp only[S0,H9,EW,seval];rw[bI];simp only[S0,H9,EW,seval];refine bB (fun hb=>?_) (fun hb=>?_)
 ·simp only[H9,hb,orI,EW,seval]
 ·have w1:IntKind.i64.wrap 1=1:=gx mw mw;have w2:IntKind.i64.wrap 2=2:=gx mw mw;simp only[H9,hb,auO a b hb,w1,EW,seval];rw[bI];simp only[H9,EW,seval];refine bB (fun hc=>?_) (fun hc=>?_)
  ·simp only[H9,hc,EW,seval]
  ·simp only[H9,hc,w2,EW,seval];rw[bI];simp only[H9,EW,seval];have:b=0:=by simpa using hc
   rw[this]
def atS a b:=cP (asq a b)
def ig(x:fD)(c h:Int):Int:=orI (qR x.bF c) (qR x.handle h)
def arS(c h a b:Int)(x:fD):aq bX 212 [.agg [aD c,aD h],.agg (jb x),.agg [aD a,aD b]] []=some (aD (ig x c h),[]):=by
 refine aB ?_;simp only[adF,apy,ib,anr,ZR,atS,ig,EW,seval]
def ank c h a b x:=cP (arS c h a b x)
def sZ(c h:Int)(x:fD):Bool:=x.bF==c&&x.handle==h
def arU(c h:Int)(x:fD):aq bX 217 [.agg [aD c,aD h],.agg (jb x)] []=some (.bool (sZ c h x),[]):=by
 refine aB ?_;simp only[adH,apz,ib,anr,sZ,EW,seval]
def atC c h x:=cP (arU c h x)
end
section
theorem yb{α:Type}(p:α->Bool):∀(l:List α)(i:Nat),(qF p l i = -1/\l.find? p=none)\/∃(m:Nat) (x:α),qF p l i=((i+m:Nat):Int)/\l[m]?=some x/\l.find? p=some x/\l.eraseIdx m=l.eraseP p
 | [],i => .inl ⟨rfl,rfl⟩
 |x::r,i=>by
  rw[qF]
  by_cases h:p x=true
  ·grind
  ·rcases yb p r (i+1) with ⟨h1,h2⟩|⟨m,y,h1,h2,h3,h4⟩
   ·exact .inl ⟨by simp[h,h1],by simp[h,h2]⟩
   ·grind
def mj{α:Type}(lt:α->Bool)(l:List α):Nat:=(l.takeWhile lt).length
theorem HA{α:Type}{lt:α->Bool}:∀ {l:List α},l.Pairwise (fun a b=>lt b=true->lt a=true)->Yh lt l (mj lt l)
 | [],_=>⟨av _,fun h n hn=>by simp_all⟩
 |a::r,h=>by
  obtain⟨h1,h2⟩:=du.1 h;obtain⟨i1,i2⟩:=HA h2;unfold mj at i1 i2 ⊢
  by_cases ha:lt a=true
  ·rw[iu,aZ ha];refine⟨jO,fun k n hn=>?_⟩
   grind
  ·rw[iu,aQ ha];refine⟨dw,fun k n hn=>?_⟩
   grind
def Xi(z:Int):j7 [cF [aD z]] (iw [0]) [0]=some [cF [aD z]]:=rfl
def Mr(u v:Int):j7 [cF [aD u],cF [aD v]] (iw [0,1]) [0,1]=some [cF [aD u],cF [aD v]]:=rfl
attribute [local irreducible] eS fI lx gK dZ kr aq aR cu bJ
def asr(x:fD)(z:Int):aq bX 262 [ib x,cC 0] [cF [aD z]]=some (.bool (x.ar==z),[cF [aD z]]):=by
 refine aB ?_;simp[ad4,apP,ib,jb,EW]
def arB(x:fD)(z:Int):aq bX 186 [ib x,cC 0] [cF [aD z]]=some (.bool (x.ar==z),[cF [aD z]]):=by
 refine aB ?_;simp[adm,apo,ib,jb,EW]
def asw(q:dV)(ar:Int):aq bX 268 [gF q,aD ar] []=some (aD (qR q.ar ar),[]):=by
 refine aB ?_;simp[ad8,apT,gF,iW,ZR,EW]
def atV(n:dV)(ar:Int)(M:aC):aR (aq bX) 268 [.agg (iW n),aD ar] M=some (aD (qR n.ar ar),M):=cO (asw n _) M
def ast(n:Node)(ar:Int):aq bX 264 [bL n,aD ar] []=some (aD (qR n.ar ar),[]):=by
 refine aB ?_;simp[ad5,apQ,bL,aL,ZR,EW]
def atU(n:Node)(ar:Int)(M:aC):aR (aq bX) 264 [.agg (aL n),aD ar] M=some (aD (qR n.ar ar),M):=cO (ast n _) M
def zq(ku BR:Int)(x:mR):Bool:=decide (ku<=x.at')&&decide (x.at'<BR)
def asu(x:mR)(a b:Int):aq bX 266 [kU x,cC 0,cC 1] [cF [aD a],cF [aD b]]=some (.bool (zq a b x),[cF [aD a],cF [aD b]]):=by
 refine aB ?_;simp only[ad7,apS,kU,iC,EW,seval]
 repeat' ((first|refine bB _ _|refine bW (fun hb=>?_) (fun hb=>?_)|refine dM _ _)<;>simp only[hb,EW,seval])
 all_goals (simp_all only[zq,qC]; done)
def alA(xs:List fD)(c g:Int)(hn:xs.length<=100000):aq bX 216 [gv (xs.map ib),.rb 217 [.agg [aD c,aD g]]] []=some (aD (qF (sZ c g) xs 0),[]) :=
 DT (sz:=3) (e:=jb) ft rfl hn (fun _=>rfl) (fun _=>rfl) rfl rfl fun x _ => .inr ⟨_,_,rfl,atC c g x []⟩
def aei(xs:List fD)(c g:Int)(hn:xs.length<=100000)(M:aC):aR (aq bX) 216 [gv (xs.map ib),.rb 217 [.agg [aD c,aD g]]] M=some (aD (qF (sZ c g) xs 0),M):=cO (alA _ c g hn) M
def aly(xs:List fD)(z:Int)(hn:xs.length<=100000):aq bX 216 [gv (xs.map ib),.func 262 [cC 0]] [cF [aD z]]=some (aD (qF (fun x:fD=>x.ar==z) xs 0),[cF [aD z]]) :=
 DT (sz:=3) (e:=jb) ft rfl hn (fun _=>rfl) (fun _=>rfl) rfl rfl fun x _ => .inl ⟨_,_,rfl,uR (p:=0) (vs:=[.agg (jb x)]) rfl (asr x z) rfl rfl rfl rfl rfl rfl rfl rfl rfl⟩
def alr(xs:List fD)(z:Int)(hn:xs.length<=100000):aq bX 185 [gv (xs.map ib),.func 262 [cC 0]] [cF [aD z]]=some (.bool (xs.any (fun x:fD=>x.ar==z)),[cF [aD z]]):=by
 refine aB ?_;have hk:aR (aq bX) 216 [gv (xs.map ib),.func 262 [cC 0]] _=some (aD _,[cF [aD z]]):=lk (ids:=[0]) rfl rfl (Xi z) rfl rfl (aly xs z hn) rfl rfl rfl rfl rfl;simp only[SQ,ai7,hk,xl,EW,seval]
def alz(xs:List fD)(z:Int)(hn:xs.length<=100000):aq bX 216 [gv (xs.map ib),.func 186 [cC 0]] [cF [aD z]]=some (aD (qF (fun x:fD=>x.ar==z) xs 0),[cF [aD z]]) :=
 DT (sz:=3) (e:=jb) ft rfl hn (fun _=>rfl) (fun _=>rfl) rfl rfl fun x _ => .inl ⟨_,_,rfl,uR (p:=0) (vs:=[.agg (jb x)]) rfl (arB x z) rfl rfl rfl rfl rfl rfl rfl rfl rfl⟩
def als(xs:List fD)(z:Int)(hn:xs.length<=100000):aq bX 185 [gv (xs.map ib),.func 186 [cC 0]] [cF [aD z]]=some (.bool (xs.any (fun x:fD=>x.ar==z)),[cF [aD z]]):=by
 refine aB ?_;have hk:aR (aq bX) 216 [gv (xs.map ib),.func 186 [cC 0]] _=some (aD _,[cF [aD z]]):=lk (ids:=[0]) rfl rfl (Xi z) rfl rfl (alz xs z hn) rfl rfl rfl rfl rfl;simp only[SQ,ai7,hk,xl,EW,seval]
def alG(xs:List mR)(u v:Int)(hn:xs.length<=100000):aq bX 299 [gv (xs.map kU),.func 266 [cC 0,cC 1]] [cF [aD u],cF [aD v]]=some (aD (qF (zq u v) xs 0),[cF [aD u],cF [aD v]]) :=
 DT (sz:=3) (e:=iC) ft rfl hn (fun _=>rfl) (fun _=>rfl) rfl rfl fun x _ => .inl ⟨_,_,rfl,lk (ids:=[0,1]) rfl rfl (Mr u v) rfl rfl (asu x u v) rfl rfl rfl rfl rfl⟩
def alF(xs:List mR)(u v:Int)(hn:xs.length<=100000):aq bX 265 [gv (xs.map kU),.func 266 [cC 0,cC 1]] [cF [aD u],cF [aD v]]=some (.bool (xs.any (zq u v)),[cF [aD u],cF [aD v]]):=by
 refine aB ?_;have hk:aR (aq bX) 299 [gv (xs.map kU),.func 266 [cC 0,cC 1]] _=some (aD _,[cF [aD u],cF [aD v]]):=lk (ids:=[0,1]) rfl rfl (Mr u v) rfl rfl (alG xs u v hn) rfl rfl rfl rfl rfl;simp only[ad6,apR,hk,xl,EW,seval]
def asv(xs:List dV)(ar:Int)(b:Nat)(hb:Yh (fun x=>decide (qR x.ar ar<0)) xs b)(hn:xs.length<=100000):aq bX 267 [gv (xs.map gF),aD ar,.func 268 []] []=some (.tuple [aD b,.bool (pr (fun x=>qR x.ar ar==0) xs b)],[]) :=
 ZI (sz:=3) (e:=iW) ft rfl hb hn (fun _=>rfl) (fun _=>rfl) (.inl ⟨_,_,rfl⟩) rfl rfl rfl rfl rfl (fun _ _ => .inl ⟨_,_,rfl,atV _ _ _⟩)
def alD(xs:List Node)(ar:Int)(b:Nat)(hb:Yh (fun x=>decide (qR x.ar ar<0)) xs b)(hn:xs.length<=100000):aq bX 263 [gv (xs.map bL),aD ar,.func 264 []] []=some (.tuple [aD b,.bool (pr (fun x=>qR x.ar ar==0) xs b)],[]) :=
 ZI (sz:=6) (e:=aL) ft rfl hb hn (fun _=>rfl) (fun _=>rfl) (.inl ⟨_,_,rfl⟩) rfl rfl rfl rfl rfl (fun _ _ => .inl ⟨_,_,rfl,atU _ _ _⟩)
def aa0{xs:List fD}{c g:Int}{b:Nat}(hb:Yh (fun x=>decide (ig x c g<0)) xs b)(hn:xs.length<=100000){k:List K}{r:Option (ag×aC)}
  (hx:∀v q,kr (aq bX) [.tmp 6,.tmp 7] 0 k ⟨.exit 0,[(0,gv (xs.map ib)),(2,.rb 212 [.agg [aD c,aD g]]),(4,cC 0),(8,aD xs.length),(9,aD b),(10,v),(17,q)],[cF [aD c,aD g]]⟩=r) :
  ∀(f i j:Nat),j-i<=f->i<=b->b<=j->j<=xs.length->eS (aq bX) [.tmp 6,.tmp 7] 0 k (.loop [0,2,4,8,9,10] aaz) [(0,gv (xs.map ib)),(2,.rb 212 [.agg [aD c,aD g]]),(4,cC 0),(8,aD xs.length),(9,aD i),(10,aD j)] [cF [aD c,aD g]]=r:=by
 intro f;induction f with
 |zero =>
  intro i j h1 h2 h3 h4;obtain rfl:i=b:=aH;rw[bI];have cQ:((i:Int)<(j:Int))=False:=gr;simp only[H8,cQ,EW,seval];exact hx _ _
 |succ f ih =>
  intro i j h1 h2 h3 h4;rw[bI]
  by_cases hij:i<j
  ·have cQ:((i:Int)<(j:Int))=True:=gr;obtain⟨m1,m2,m3,m4,m5⟩:=WE i j aH aH;have hmid:(i+j) / 2<xs.length:=aH;have hx:=ai hmid;have hl:=hb.lt _ _ hx;have hk:=fun x:fD=>ank c g c g x [cF [aD c,aD g]]
   simp only[H8,cQ,m1,m2,m3,m4,hx,hk,EW,seval];refine bB (fun hq=>?_) (fun hq=>?_)
   ·simp only[H8,m5,EW,seval];exact ih ((i+j) / 2+1) j aH (hl.1 hq) h3 h4
   ·simp only[H8,EW,seval];exact ih i ((i+j) / 2) aH h2 (Nat.not_lt.1 fun h=>by rw[hl.2 h] at hq; cases hq) aH
  ·obtain rfl:i=b:=aH;have cQ:((i:Int)<(j:Int))=False:=gr;simp only[H8,cQ,EW,seval];exact hx _ _
def arR(xs:List fD)(c g:Int)(b:Nat)(hb:Yh (fun x=>decide (ig x c g<0)) xs b)(hn:xs.length<=100000):aq bX 211 [gv (xs.map ib),.agg [aD c,aD g],.rb 212 [.agg [aD c,aD g]]] []=some (.tuple [aD b,.bool (pr (fun x=>ig x c g==0) xs b)],[]):=by
 refine aB ?_;simp only[adE,H8,EW,seval];refine aa0 hb hn (fun v q=>?_) xs.length 0 xs.length aH aH hb.le aH
 have hk:=fun x:fD=>ank c g c g x [cF [aD c,aD g]]
 unfold pr
 by_cases cQ:b<xs.length
 ·have hx:=ai cQ;have h1:((b:Int)<(xs.length:Int))=True:=gr;simp only[H8,hx,h1,hk,EW,seval]
 ·have hx:xs[b]?=none:=fj aH;have h1:((b:Int)<(xs.length:Int))=False:=gr;simp only[H8,hx,h1,EW,seval]
end
section
section
variable {α:Type} (enc:α->ag) {f sz bytes:Nat}
def CZ(hp:bX.o4 f=some (mO sz bytes))(hw:∀a,(enc a).cells.length=sz)(hb:bytes<=1000){l:List α}(h0:l≠[])(hn:l.length<=100000)(M:aC) :
  aq bX f [gv (l.map enc)] M=some (.cE M.length 0 sz 0 l.length,M++[.arr sz 0 (l.map enc)]):=by
 refine eP (g:=mO sz bytes) hp ?_;obtain⟨a,r,rfl⟩:=fi h0;have hw:wid ((a::r).map enc) sz:=by have:=pw enc sz hw (a::r); simpa using this
 have hr:cB ((a::r).map enc).length bytes:=by have:=tG (a:=(a::r).length) (b:=bytes) aH aH; simpa using this
 unfold mO;simp only[aK] at hw hr ⊢;rw[fh ⟨hw,hr⟩];simp
def DR(hp:bX.o4 f=some (mO sz bytes)){l:List α}(h0:l=[])(M:aC):aq bX f [gv (l.map enc)] M=some (.slice .c0 [],M):=by
 subst h0; exact eP (g:=mO sz bytes) hp rfl
def Jp(hp:bX.o4 f=some (lf sz bytes))(hb:bytes<=1000){l:List α}{b id v:Nat}(h:b<=l.length)(hn:l.length<=100000)(x:ag)(hx:x.cells.length=sz)(M:aC)(hM:nth M id=some (.arr sz v (l.map enc))) :
  aq bX f [.cE id v sz 0 l.length,aD b,gv [x]] M=some (.cE id (v+1) sz 0 (l.length+1),jo M id (.arr sz (v+1) ((l.map enc).take b++x::(l.map enc).drop b))):=by
 refine eP (g:=lf sz bytes) hp ?_;have hr:cB ((l.map enc).length+1) bytes:=by have:=tG (a:=l.length+1) (b:=bytes) aH aH; simpa using this
 unfold lf;simp only[hM];rw[fh ⟨trivial,trivial,trivial,dw,aH,by simpa using h,hx,hr⟩]
 simp
def FW(hp:bX.o4 f=some (lf sz bytes)){b:Nat}(h0:b=0)(x:ag)(hx:x.cells.length=sz)(M:aC) :
  aq bX f [.slice .c0 [],aD (b:Int),gv [x]] M=some (.cE M.length 0 sz 0 1,M++[.arr sz 0 [x]]):=by
 subst h0;refine eP (g:=lf sz bytes) hp ?_;unfold lf;simp only[];rw[fh ⟨rfl,hx⟩]
def amL(hp:bX.o4 f=some (lJ sz)){l:List α}{b id v:Nat}(h:b<l.length)(hn:l.length<=100000)(M:aC)(hM:nth M id=some (.arr sz v (l.map enc))) :
  aq bX f [.cE id v sz 0 l.length,aD b,aD ((b+1:Nat):Int)] M=some (.cE id (v+1) sz 0 (l.length-1),jo M id (.arr sz (v+1) ((l.map enc).take b++(l.map enc).drop (b+1)))):=by
 refine eP (g:=lJ sz) hp ?_;unfold lJ;simp only[hM];rw[fh ⟨trivial,trivial,trivial,dw,aH,by simpa using h,aH,gr⟩]
 simp
def QG{M:aC}(i:Nat)(a b:cV):jo (jo M i a) i b=jo M i b:=by
 induction M generalizing i with
 |nil=>rfl
 |cons x r ih =>
  cases i with
  |zero=>rfl
  |succ i=>simp only[jo,ih]
def Ze{l:List α}{b:Nat}(h:b<l.length):List.take (l.length-1) ((l.map enc).take b++(l.map enc).drop (b+1))=(l.eraseIdx b).map enc:=by
 rw[bt gr,List.eraseIdx_eq_take_drop_succ];simp
def FV(hp:bX.o4 f=some (sM sz)){l:List α}{b id v:Nat}(h:b<l.length)(hn:l.length<=100000)(M:aC)(hM:nth M id=some (.arr sz v (l.map enc))) :
  aq bX f [.cE id v sz 0 l.length,aD b,aD ((b+1:Nat):Int)] M=some (gv ((l.eraseIdx b).map enc),jo M id (.tick sz (l.length-1))):=by
 refine eP (g:=sM sz) hp ?_;unfold sM lJ;simp only[hM];rw[fh ⟨trivial,trivial,trivial,dw,aH,by simpa using h,aH,gr⟩]
 simp only[bN,ag.rz,ag.oZ,HP hM,ag.ids,ag.nG,ag.iH,qE,QG,aF,ly,eN,cz];rw[Ze enc h];have:(List.take b (l.map enc)++List.drop (b+1) (l.map enc)).length=l.length-1:=gr;rw[this]
def NC{l:List α}{b:Nat}(h:b<=l.length)(x:α):List.take (l.length+1) ((l.map enc).take b++enc x::(l.map enc).drop b)=(l.take b++x::l.drop b).map enc:=by
 rw[bt gr];simp
end
attribute [local irreducible] eS fI lx gK dZ kr aq aR cu bJ
def Fl(t:Tree)(ar:Int)(ht:Small t)(hr:rU t)(M:aC):aR (aq bX) 191 [.agg [ba t.ae,aD t.next,aD t.ak],aD ar] M=some (.tuple [.agg (aL (bl t.ae ar)),.bool (find t.ae ar).isSome],M) :=
 cO (arF t ar ht hr) M
def anc(t:Tree)(ar:Int)(ht:Small t)(hr:rU t)(M:aC):aR (aq bX) 187 [.agg [ba t.ae,aD t.next,aD t.ak],aD ar] M=some (.tuple [.agg (aM (kL t ar).1),aD (kL t ar).2],M) :=
 cO (arC t ar ht hr) M
end
end
end Go.Proofs.YteoamaffclmdbaaGreatDoor
